/- Texts of this claim, what it reaches -/
import Derived.Test.YtchaegfdcdlfaaaA2
import Derived.Lib.AppendZeros
import Derived.Deep.Strs
import Derived.Lib.SmallJoins
import Derived.Lib.SlBytesConst
import Derived.Deep.MidRow
import Derived.Laws.Cover3
import Derived.Deep.DrawnRows
import Derived.ScopeJumps
set_option linter.unusedVariables false
set_option linter.unusedSimpArgs false
set_option maxRecDepth 100000
namespace Go.Proofs.Ytchaegfdcdlfaaa.X
section
open Go.Proofs.Ytchaegfdcdlfaaa.Y (IsGet Bytes RdB four wraps_u64 four_call get_call' rdb_drop rdb_below rdb_cut rdb_drewN wraps_u32)
open Go.RowKit Go.Proofs.YtchaegfdcdlfaaaW.PrintWords Go.Proofs.YtchaegfdcdlfaaaW.PrintLast Go.Proofs.YtchaegfdcdlfaaaW.PrintMore
theorem w64s (n : Int) (h0 : -9223372036854775808 ≤ n) (h1 : n ≤ 9223372036854775807) : wrap64 n = n := by unfold wrap64; omega
theorem rdb_midC (A : Option Addr) (c : Nat) (l : List Int) (a b : Nat) (hab : a ≤ b) (hb : b ≤ l.length) (hc : l.length ≤ c) :
  ∃ A' : Option Addr, (∀ W : World, (Instr.slice 40 (.slice A l.length c) (some (.int .i64 (a : Int))) (some (.int .i64 (b : Int))) none).run Try.prog W = .ok (.slice A' (b - a) (c - a)) W) ∧ (∀ w : World, RdB w A l.length l → RdB w A' (b - a) ((l.take b).drop a)) ∧ b - a ≤ c - a := by
 obtain ⟨i0, hi0, _, hsz0, _⟩ := info_parts info5
 obtain ⟨A', hcut, hA, hC⟩ := print_mid_of (P := Try.prog) (Value.int .u8) 0 40 5 .i64 .i64 Try.underlying40 hi0 hsz0 A c l (a : Int) (b : Int) (by omega) (by omega) (by omega) hc
 have hlen : ((l.take b).drop a).length = b - a := by rw [List.length_drop, List.length_take]; omega
 simp only [Int.toNat_natCast] at hcut hA hC
 rw [hlen] at hcut hA hC
 exact ⟨A', hcut, fun w h => Kd.C_of_reads (h1 := fun _ => rfl) (hA w (Kd.reads_of_C h)), hC⟩
def openR (l : List Int) (g : Int × Int × Bool) : Int × List Int × Int × Int :=
 if l.length = 0 ∨ 10 ≤ rd l 0 then (0, [], 0, 2)
 else if g.2.2 = false ∨ 100000 < g.1 ∨ (l.length : Int) < 1 + g.2.1 + g.1 + 4 then (0, [], 0, 2)
 else if (four ((l.take (1 + g.2.1.toNat + g.1.toNat + 4)).drop (1 + g.2.1.toNat + g.1.toNat)) : Int) ≠ sumL (l.take (1 + g.2.1.toNat + g.1.toNat)) then (0, [], 0, 3)
 else (rd l 0, (l.take (1 + g.2.1.toNat + g.1.toNat)).drop (1 + g.2.1.toNat), (1 + g.2.1.toNat + g.1.toNat + 4 : Nat), 0)
theorem clone_call2 (A : Option Addr) (c : Nat) (l : List Int) (n : Nat) (hn : l.length = n) (w : World) (hr : RdB w A n l) (hc : n ≤ c) (hl : n ≤ 1000000000) :
  Calls Try.prog 90 #[.slice A n c] w fun e w' => ∃ v0_ : Value, e = .returned (v0_) ∧ Kd.R (Kd.int .u8) 5 w' w.heap.size (fun _ => True) v0_ l ∧ Below w.heap.size w w' := by
 subst hn
 exact bytes_Clone.calls A c l l w hr hc (Clone_eq hl)
abbrev OpenQ (w : World) (r : Int × List Int × Int × Int) (e : Ending) (w' : World) : Prop := ∃ v1_ : Value, e = .returned (.tuple #[.int .i64 r.1, v1_, .int .i64 r.2.2.1, .int .i64 r.2.2.2]) ∧ Kd.R (Kd.int .u8) 5 w' w.heap.size (fun _ => True) v1_ r.2.1 ∧ Below w.heap.size w w'
theorem openQ_none (w w' : World) (k : Int) (hb : Below w.heap.size w w') : OpenQ w (0, [], 0, k) (.returned (.tuple #[.int .i64 0, .slice none 0 0, .int .i64 0, .int .i64 k])) w' := ⟨_, rfl, Kd.R_nil _ _ _ _ _, hb⟩
theorem first_cell {w : World} {A : Option Addr} {l : List Int} (h : RdB w A l.length l) (h0 : 0 < l.length) : ∃ ad, A = some ad ∧ w.cell? ad = some (.int .u8 (rd l 0)) := by
 obtain ⟨ad, e, x⟩ := Kd.at_int h 0 (by omega) (by omega)
 exact ⟨ad, e, by simpa [Addr.add] using x⟩
set_option maxHeartbeats 1000000 in
theorem sopen_empty (A0 : Option Addr) (c0 : Nat) (l : List Int) (w : World) (hr0 : RdB w A0 l.length l) (hc0 : l.length ≤ c0) (hb : Bytes l) (hl : l.length ≤ 1000000000) (h0 : l.length = 0) :
  Calls Try.prog 44 #[.slice A0 l.length c0] w fun e w' => OpenQ w (0, [], 0, 2) e w' := by
 have HR := am hr0
 have HC := am hc0
 have HLL := am hl
 have HBY := am hb
 have e1 : ((l.length : Int) == 0) = true := by simp [h0]
 have e2 : ((l.length : Int) = 0) = True := by simp [h0]
 clear hr0 hc0 hb hl
 go_enter Try.func44, Try.ntmps44
 go_wp2_with fail
 (try simp only [Exit.inBlock, Exit.then])
 refine bodyPost_ret (results_list (rs := [.tmp 2, .tmp 3, .tmp 4, .tmp 5]) rfl (by simp) (.tmp (.tmp (.tmp (.tmp .nil))))) rfl ?_
 exact openQ_none _ _ _ (Below.refl _ _)
set_option maxHeartbeats 1000000 in
theorem sopen_kind (A0 : Option Addr) (c0 : Nat) (l : List Int) (w : World) (hr0 : RdB w A0 l.length l) (hc0 : l.length ≤ c0) (hb : Bytes l) (hl : l.length ≤ 1000000000) (h0 : 0 < l.length) (h10 : 10 ≤ rd l 0) :
  Calls Try.prog 44 #[.slice A0 l.length c0] w fun e w' => OpenQ w (0, [], 0, 2) e w' := by
 have HR := am hr0
 have HC := am hc0
 have HLL := am hl
 have HBY := am hb
 have e1 : ((l.length : Int) == 0) = false := beq_false_of_ne (by omega)
 have e2 : ((l.length : Int) = 0) = False := eq_false (by omega)
 obtain ⟨ad, rfl, x0⟩ := first_cell hr0 h0
 have qi : (0 < l.length) = True := eq_true h0
 have qj : ((0 : Int) < (l.length : Int)) = True := eq_true (by omega)
 have d1 : decide (rd l 0 ≥ 10) = true := decide_eq_true h10
 clear hr0 hc0 hb hl
 go_enter Try.func44, Try.ntmps44
 go_wp2_with fail
 (try simp only [Exit.inBlock, Exit.then])
 refine bodyPost_ret (results_list (rs := [.tmp 2, .tmp 3, .tmp 4, .tmp 5]) rfl (by simp) (.tmp (.tmp (.tmp (.tmp .nil))))) rfl ?_
 exact openQ_none _ _ _ (Below.refl _ _)
set_option maxHeartbeats 1000000 in
theorem sopen_not (A0 : Option Addr) (c0 : Nat) (l : List Int) (w : World) (hr0 : RdB w A0 l.length l) (hc0 : l.length ≤ c0) (hb : Bytes l) (hl : l.length ≤ 1000000000) (h0 : 0 < l.length) (h10 : ¬ 10 ≤ rd l 0) (n u : Nat) (hg : IsGet (l.drop 1) ((n : Int), (u : Int), false)) (hu : u + 1 ≤ l.length) :
  Calls Try.prog 44 #[.slice A0 l.length c0] w fun e w' => OpenQ w (0, [], 0, 2) e w' := by
 have HR := am hr0
 have HC := am hc0
 have HLL := am hl
 have HBY := am hb
 have e1 : ((l.length : Int) == 0) = false := beq_false_of_ne (by omega)
 have e2 : ((l.length : Int) = 0) = False := eq_false (by omega)
 obtain ⟨ad, rfl, x0⟩ := first_cell hr0 h0
 have qi : (0 < l.length) = True := eq_true h0
 have qj : ((0 : Int) < (l.length : Int)) = True := eq_true (by omega)
 have d1 : decide (rd l 0 ≥ 10) = false := decide_eq_false (by omega)
 obtain ⟨A', hcut, hA, hC⟩ := rdb_drop (some ad) c0 l 1 (by omega) hc0
 have HA := am (hA w hr0)
 have HG := am hg
 have HB1 : Aside0 (Bytes (l.drop 1)) := ⟨fun x hx => hb x (List.mem_of_mem_drop hx)⟩
 have hcut1 : ∀ W : World, (Instr.slice 40 (.slice (some ad) l.length c0) (some (.int .i64 1)) none none).run Try.prog W = .ok (.slice A' (l.length - 1) (c0 - 1)) W := hcut
 obtain ⟨f, hf⟩ : ∃ f : Nat, f = 1 + u := ⟨_, rfl⟩
 have w1_ : IntKind.i64.wrap (1 + (u : Int)) = (f : Int) := by rw [i64_w, w64s _ (by omega) (by omega)]; omega
 clear hA hcut hg
 clear hr0 hb hf hu
 go_enter Try.func44, Try.ntmps44
 go_wp2_with fail
 refine (get_call' HG.out HB1.out (by rw [List.length_drop]; omega) _ (by rw [List.length_drop]) A' _ _ HA.out hC).mono ?_
 rintro e w1 ⟨rfl, q, rfl⟩
 go_wp2_with fail
 (try simp only [Exit.inBlock, Exit.then])
 refine bodyPost_ret (results_list (rs := [.tmp 2, .tmp 3, .tmp 4, .tmp 5]) rfl (by simp) (.tmp (.tmp (.tmp (.tmp .nil))))) rfl ?_
 exact openQ_none _ _ _ (pw_below_drewN (Below.refl _ _) _)
set_option maxHeartbeats 1000000 in
theorem sopen_big (A0 : Option Addr) (c0 : Nat) (l : List Int) (w : World) (hr0 : RdB w A0 l.length l) (hc0 : l.length ≤ c0) (hb : Bytes l) (hl : l.length ≤ 1000000000) (h0 : 0 < l.length) (h10 : ¬ 10 ≤ rd l 0) (n u : Nat) (hg : IsGet (l.drop 1) ((n : Int), (u : Int), true)) (hu : u + 1 ≤ l.length) (hn : 100000 < n) :
  Calls Try.prog 44 #[.slice A0 l.length c0] w fun e w' => OpenQ w (0, [], 0, 2) e w' := by
 have HR := am hr0
 have HC := am hc0
 have HLL := am hl
 have HBY := am hb
 have e1 : ((l.length : Int) == 0) = false := beq_false_of_ne (by omega)
 have e2 : ((l.length : Int) = 0) = False := eq_false (by omega)
 obtain ⟨ad, rfl, x0⟩ := first_cell hr0 h0
 have qi : (0 < l.length) = True := eq_true h0
 have qj : ((0 : Int) < (l.length : Int)) = True := eq_true (by omega)
 have d1 : decide (rd l 0 ≥ 10) = false := decide_eq_false (by omega)
 obtain ⟨A', hcut, hA, hC⟩ := rdb_drop (some ad) c0 l 1 (by omega) hc0
 have HA := am (hA w hr0)
 have HG := am hg
 have HB1 : Aside0 (Bytes (l.drop 1)) := ⟨fun x hx => hb x (List.mem_of_mem_drop hx)⟩
 have hcut1 : ∀ W : World, (Instr.slice 40 (.slice (some ad) l.length c0) (some (.int .i64 1)) none none).run Try.prog W = .ok (.slice A' (l.length - 1) (c0 - 1)) W := hcut
 obtain ⟨f, hf⟩ : ∃ f : Nat, f = 1 + u := ⟨_, rfl⟩
 have w1_ : IntKind.i64.wrap (1 + (u : Int)) = (f : Int) := by rw [i64_w, w64s _ (by omega) (by omega)]; omega
 have d2 : decide ((n : Int) > 100000) = true := decide_eq_true (by omega)
 have d2' : decide (n > 100000) = true := decide_eq_true (by omega)
 clear hA hcut hg
 clear hr0 hb hf hu hn
 go_enter Try.func44, Try.ntmps44
 go_wp2_with fail
 refine (get_call' HG.out HB1.out (by rw [List.length_drop]; omega) _ (by rw [List.length_drop]) A' _ _ HA.out hC).mono ?_
 rintro e w1 ⟨rfl, q, rfl⟩
 go_wp2_with fail
 (try simp only [Exit.inBlock, Exit.then])
 refine bodyPost_ret (results_list (rs := [.tmp 2, .tmp 3, .tmp 4, .tmp 5]) rfl (by simp) (.tmp (.tmp (.tmp (.tmp .nil))))) rfl ?_
 exact openQ_none _ _ _ (pw_below_drewN (Below.refl _ _) _)
set_option maxHeartbeats 1000000 in
theorem sopen_short (A0 : Option Addr) (c0 : Nat) (l : List Int) (w : World) (hr0 : RdB w A0 l.length l) (hc0 : l.length ≤ c0) (hb : Bytes l) (hl : l.length ≤ 1000000000) (h0 : 0 < l.length) (h10 : ¬ 10 ≤ rd l 0) (n u : Nat) (hg : IsGet (l.drop 1) ((n : Int), (u : Int), true)) (hu : u + 1 ≤ l.length) (hn : n ≤ 100000) (hs : l.length < 1 + u + n + 4) :
  Calls Try.prog 44 #[.slice A0 l.length c0] w fun e w' => OpenQ w (0, [], 0, 2) e w' := by
 have HR := am hr0
 have HC := am hc0
 have HLL := am hl
 have HBY := am hb
 have e1 : ((l.length : Int) == 0) = false := beq_false_of_ne (by omega)
 have e2 : ((l.length : Int) = 0) = False := eq_false (by omega)
 obtain ⟨ad, rfl, x0⟩ := first_cell hr0 h0
 have qi : (0 < l.length) = True := eq_true h0
 have qj : ((0 : Int) < (l.length : Int)) = True := eq_true (by omega)
 have d1 : decide (rd l 0 ≥ 10) = false := decide_eq_false (by omega)
 obtain ⟨A', hcut, hA, hC⟩ := rdb_drop (some ad) c0 l 1 (by omega) hc0
 have HA := am (hA w hr0)
 have HG := am hg
 have HB1 : Aside0 (Bytes (l.drop 1)) := ⟨fun x hx => hb x (List.mem_of_mem_drop hx)⟩
 have hcut1 : ∀ W : World, (Instr.slice 40 (.slice (some ad) l.length c0) (some (.int .i64 1)) none none).run Try.prog W = .ok (.slice A' (l.length - 1) (c0 - 1)) W := hcut
 obtain ⟨f, hf⟩ : ∃ f : Nat, f = 1 + u := ⟨_, rfl⟩
 have w1_ : IntKind.i64.wrap (1 + (u : Int)) = (f : Int) := by rw [i64_w, w64s _ (by omega) (by omega)]; omega
 have d2 : decide ((n : Int) > 100000) = false := decide_eq_false (by omega)
 have d2' : decide (n > 100000) = false := decide_eq_false (by omega)
 have wn : IntKind.i64.wrap (n : Int) = (n : Int) := by rw [i64_w, w64s _ (by omega) (by omega)]
 obtain ⟨z, hz⟩ : ∃ z : Nat, z = l.length - f := ⟨_, rfl⟩
 have w2_ : IntKind.i64.wrap ((l.length : Int) - (f : Int)) = (z : Int) := by rw [i64_w, w64s _ (by omega) (by omega)]; omega
 obtain ⟨y, hy⟩ : ∃ y : Int, y = (z : Int) - 4 := ⟨_, rfl⟩
 have w3_ : IntKind.i64.wrap ((z : Int) - 4) = y := by rw [i64_w, w64s _ (by omega) (by omega)]; omega
 have d3 : decide ((n : Int) > y) = true := decide_eq_true (by omega)
 have d3' : decide (y < (n : Int)) = true := decide_eq_true (by omega)
 clear hA hcut hg
 clear hr0 hb hf hz hy hu hn hs
 go_enter Try.func44, Try.ntmps44
 go_wp2_with fail
 refine (get_call' HG.out HB1.out (by rw [List.length_drop]; omega) _ (by rw [List.length_drop]) A' _ _ HA.out hC).mono ?_
 rintro e w1 ⟨rfl, q, rfl⟩
 go_wp2_with fail
 (try simp only [Exit.inBlock, Exit.then])
 refine bodyPost_ret (results_list (rs := [.tmp 2, .tmp 3, .tmp 4, .tmp 5]) rfl (by simp) (.tmp (.tmp (.tmp (.tmp .nil))))) rfl ?_
 exact openQ_none _ _ _ (pw_below_drewN (Below.refl _ _) _)
set_option maxHeartbeats 1000000 in
theorem sopen_bad (A0 : Option Addr) (c0 : Nat) (l : List Int) (w : World) (hr0 : RdB w A0 l.length l) (hc0 : l.length ≤ c0) (hb : Bytes l) (hl : l.length ≤ 1000000000) (h0 : 0 < l.length) (h10 : ¬ 10 ≤ rd l 0) (n u : Nat) (hg : IsGet (l.drop 1) ((n : Int), (u : Int), true)) (hu : u + 1 ≤ l.length) (hn : n ≤ 100000) (hs : 1 + u + n + 4 ≤ l.length) (hq : (four ((l.take (1 + u + n + 4)).drop (1 + u + n)) : Int) ≠ sumL (l.take (1 + u + n))) :
  Calls Try.prog 44 #[.slice A0 l.length c0] w fun e w' => OpenQ w (0, [], 0, 3) e w' := by
 have HR := am hr0
 have HC := am hc0
 have HLL := am hl
 have HBY := am hb
 have e1 : ((l.length : Int) == 0) = false := beq_false_of_ne (by omega)
 have e2 : ((l.length : Int) = 0) = False := eq_false (by omega)
 obtain ⟨ad, rfl, x0⟩ := first_cell hr0 h0
 have qi : (0 < l.length) = True := eq_true h0
 have qj : ((0 : Int) < (l.length : Int)) = True := eq_true (by omega)
 have d1 : decide (rd l 0 ≥ 10) = false := decide_eq_false (by omega)
 obtain ⟨A', hcut, hA, hC⟩ := rdb_drop (some ad) c0 l 1 (by omega) hc0
 have HA := am (hA w hr0)
 have HG := am hg
 have HB1 : Aside0 (Bytes (l.drop 1)) := ⟨fun x hx => hb x (List.mem_of_mem_drop hx)⟩
 have hcut1 : ∀ W : World, (Instr.slice 40 (.slice (some ad) l.length c0) (some (.int .i64 1)) none none).run Try.prog W = .ok (.slice A' (l.length - 1) (c0 - 1)) W := hcut
 obtain ⟨f, hf⟩ : ∃ f : Nat, f = 1 + u := ⟨_, rfl⟩
 have w1_ : IntKind.i64.wrap (1 + (u : Int)) = (f : Int) := by rw [i64_w, w64s _ (by omega) (by omega)]; omega
 have d2 : decide ((n : Int) > 100000) = false := decide_eq_false (by omega)
 have d2' : decide (n > 100000) = false := decide_eq_false (by omega)
 have wn : IntKind.i64.wrap (n : Int) = (n : Int) := by rw [i64_w, w64s _ (by omega) (by omega)]
 obtain ⟨z, hz⟩ : ∃ z : Nat, z = l.length - f := ⟨_, rfl⟩
 have w2_ : IntKind.i64.wrap ((l.length : Int) - (f : Int)) = (z : Int) := by rw [i64_w, w64s _ (by omega) (by omega)]; omega
 obtain ⟨y, hy⟩ : ∃ y : Int, y = (z : Int) - 4 := ⟨_, rfl⟩
 have w3_ : IntKind.i64.wrap ((z : Int) - 4) = y := by rw [i64_w, w64s _ (by omega) (by omega)]; omega
 have d3 : decide ((n : Int) > y) = false := decide_eq_false (by omega)
 have d3' : decide (y < (n : Int)) = false := decide_eq_false (by omega)
 obtain ⟨e_, he⟩ : ∃ e_ : Nat, e_ = 1 + u + n := ⟨_, rfl⟩
 obtain ⟨t, ht⟩ : ∃ t : Nat, t = 1 + u + n + 4 := ⟨_, rfl⟩
 have w4_ : IntKind.i64.wrap ((f : Int) + (n : Int)) = (e_ : Int) := by rw [i64_w, w64s _ (by omega) (by omega)]; omega
 have w5_ : IntKind.i64.wrap ((e_ : Int) + 4) = (t : Int) := by rw [i64_w, w64s _ (by omega) (by omega)]; omega
 obtain ⟨A2, hcut2, hA2, hC2⟩ := rdb_midC (some ad) c0 l e_ t (by omega) (by omega) hc0
 have hcut3 := rdb_cut (some ad) c0 l e_ (by omega) hc0
 obtain ⟨A3, hcut4, hA3, hC3⟩ := rdb_midC (some ad) c0 l f e_ (by omega) (by omega) hc0
 have ht4 : t - e_ = 4 := by omega
 rw [ht4] at hcut2 hA2 hC2
 obtain ⟨p, hp⟩ : ∃ p, p = (l.take t).drop e_ := ⟨_, rfl⟩
 obtain ⟨b, hbd⟩ : ∃ b, b = l.take e_ := ⟨_, rfl⟩
 have HP4 : Aside0 (p.length = 4) := ⟨by rw [hp, List.length_drop, List.length_take]; omega⟩
 have HPB : Aside0 (Bytes p) := ⟨fun x hx => hb x (by rw [hp] at hx; exact List.mem_of_mem_take (List.mem_of_mem_drop hx))⟩
 have HBL : Aside0 (b.length = e_) := ⟨by rw [hbd, List.length_take]; omega⟩
 have HBB : Aside0 (Byt b) := ⟨fun x hx => hb x (by rw [hbd] at hx; exact List.mem_of_mem_take hx)⟩
 rw [← hp] at hA2
 have HA2 := am (hA2 w hr0)
 have HA3 := am (hA3 w hr0)
 have HRB : Aside0 (RdB w (some ad) e_ b) := ⟨by rw [hbd]; exact Y.rdb_take hr0 e_ (by omega)⟩
 clear hA2 hA3
 rw [← ht, ← he, ← hp, ← hbd] at hq
 have d4 : ((four p : Int) != sumL b) = true := by simp [hq]
 have d4' : ((four p : Int) = sumL b) = False := eq_false hq
 have HT := am ht
 have HE := am he
 have HFF := am hf
 have HSS := am hs
 have HNN := am hn
 clear hp hbd hq
 clear hA hcut hg
 clear hr0 hb hf hz hy he ht ht4 hu hn hs
 go_enter Try.func44, Try.ntmps44
 go_wp2_with fail
 refine (get_call' HG.out HB1.out (by rw [List.length_drop]; omega) _ (by rw [List.length_drop]) A' _ _ HA.out hC).mono ?_
 rintro e w1 ⟨rfl, q, rfl⟩
 go_wp2_with fail
 refine (four_call p HP4.out HPB.out A2 _ _ (rdb_drewN HA2.out q) hC2).mono ?_
 rintro e w1 ⟨rfl, q2, rfl⟩
 go_wp2_with fail
 have hsum := sum2_call (some ad) c0 b (w.drewN (q + q2)) (by rw [HBL.out]; exact rdb_drewN HRB.out _) HBB.out (by rw [HBL.out]; have := HLL.out; have := HE.out; have := HSS.out; have := HT.out; omega)
 rw [HBL.out] at hsum
 refine hsum.mono ?_
 rintro e w1 ⟨rfl, hb1⟩
 have HB := am (below_step (pw_below_drewN (Below.refl _ _) (q + q2)) hb1)
 clear hb1 hsum
 go_wp2_with fail
 (try simp only [Exit.inBlock, Exit.then])
 refine bodyPost_ret (results_list (rs := [.tmp 2, .tmp 3, .tmp 4, .tmp 5]) rfl (by simp) (.tmp (.tmp (.tmp (.tmp .nil))))) rfl ?_
 exact openQ_none _ _ _ HB.out
set_option maxHeartbeats 1000000 in
theorem sopen_ok (A0 : Option Addr) (c0 : Nat) (l : List Int) (w : World) (hr0 : RdB w A0 l.length l) (hc0 : l.length ≤ c0) (hb : Bytes l) (hl : l.length ≤ 1000000000) (h0 : 0 < l.length) (h10 : ¬ 10 ≤ rd l 0) (n u : Nat) (hg : IsGet (l.drop 1) ((n : Int), (u : Int), true)) (hu : u + 1 ≤ l.length) (hn : n ≤ 100000) (hs : 1 + u + n + 4 ≤ l.length) (hq : (four ((l.take (1 + u + n + 4)).drop (1 + u + n)) : Int) = sumL (l.take (1 + u + n))) :
  Calls Try.prog 44 #[.slice A0 l.length c0] w fun e w' => OpenQ w (rd l 0, (l.take (1 + u + n)).drop (1 + u), (1 + u + n + 4 : Nat), 0) e w' := by
 have HR := am hr0
 have HC := am hc0
 have HLL := am hl
 have HBY := am hb
 have e1 : ((l.length : Int) == 0) = false := beq_false_of_ne (by omega)
 have e2 : ((l.length : Int) = 0) = False := eq_false (by omega)
 obtain ⟨ad, rfl, x0⟩ := first_cell hr0 h0
 have qi : (0 < l.length) = True := eq_true h0
 have qj : ((0 : Int) < (l.length : Int)) = True := eq_true (by omega)
 have d1 : decide (rd l 0 ≥ 10) = false := decide_eq_false (by omega)
 obtain ⟨A', hcut, hA, hC⟩ := rdb_drop (some ad) c0 l 1 (by omega) hc0
 have HA := am (hA w hr0)
 have HG := am hg
 have HB1 : Aside0 (Bytes (l.drop 1)) := ⟨fun x hx => hb x (List.mem_of_mem_drop hx)⟩
 have hcut1 : ∀ W : World, (Instr.slice 40 (.slice (some ad) l.length c0) (some (.int .i64 1)) none none).run Try.prog W = .ok (.slice A' (l.length - 1) (c0 - 1)) W := hcut
 obtain ⟨f, hf⟩ : ∃ f : Nat, f = 1 + u := ⟨_, rfl⟩
 have w1_ : IntKind.i64.wrap (1 + (u : Int)) = (f : Int) := by rw [i64_w, w64s _ (by omega) (by omega)]; omega
 have d2 : decide ((n : Int) > 100000) = false := decide_eq_false (by omega)
 have d2' : decide (n > 100000) = false := decide_eq_false (by omega)
 have wn : IntKind.i64.wrap (n : Int) = (n : Int) := by rw [i64_w, w64s _ (by omega) (by omega)]
 obtain ⟨z, hz⟩ : ∃ z : Nat, z = l.length - f := ⟨_, rfl⟩
 have w2_ : IntKind.i64.wrap ((l.length : Int) - (f : Int)) = (z : Int) := by rw [i64_w, w64s _ (by omega) (by omega)]; omega
 obtain ⟨y, hy⟩ : ∃ y : Int, y = (z : Int) - 4 := ⟨_, rfl⟩
 have w3_ : IntKind.i64.wrap ((z : Int) - 4) = y := by rw [i64_w, w64s _ (by omega) (by omega)]; omega
 have d3 : decide ((n : Int) > y) = false := decide_eq_false (by omega)
 have d3' : decide (y < (n : Int)) = false := decide_eq_false (by omega)
 obtain ⟨e_, he⟩ : ∃ e_ : Nat, e_ = 1 + u + n := ⟨_, rfl⟩
 obtain ⟨t, ht⟩ : ∃ t : Nat, t = 1 + u + n + 4 := ⟨_, rfl⟩
 have w4_ : IntKind.i64.wrap ((f : Int) + (n : Int)) = (e_ : Int) := by rw [i64_w, w64s _ (by omega) (by omega)]; omega
 have w5_ : IntKind.i64.wrap ((e_ : Int) + 4) = (t : Int) := by rw [i64_w, w64s _ (by omega) (by omega)]; omega
 obtain ⟨A2, hcut2, hA2, hC2⟩ := rdb_midC (some ad) c0 l e_ t (by omega) (by omega) hc0
 have hcut3 := rdb_cut (some ad) c0 l e_ (by omega) hc0
 obtain ⟨A3, hcut4, hA3, hC3⟩ := rdb_midC (some ad) c0 l f e_ (by omega) (by omega) hc0
 have ht4 : t - e_ = 4 := by omega
 rw [ht4] at hcut2 hA2 hC2
 obtain ⟨p, hp⟩ : ∃ p, p = (l.take t).drop e_ := ⟨_, rfl⟩
 obtain ⟨b, hbd⟩ : ∃ b, b = l.take e_ := ⟨_, rfl⟩
 have HP4 : Aside0 (p.length = 4) := ⟨by rw [hp, List.length_drop, List.length_take]; omega⟩
 have HPB : Aside0 (Bytes p) := ⟨fun x hx => hb x (by rw [hp] at hx; exact List.mem_of_mem_take (List.mem_of_mem_drop hx))⟩
 have HBL : Aside0 (b.length = e_) := ⟨by rw [hbd, List.length_take]; omega⟩
 have HBB : Aside0 (Byt b) := ⟨fun x hx => hb x (by rw [hbd] at hx; exact List.mem_of_mem_take hx)⟩
 rw [← hp] at hA2
 have HA2 := am (hA2 w hr0)
 have HA3 := am (hA3 w hr0)
 have HRB : Aside0 (RdB w (some ad) e_ b) := ⟨by rw [hbd]; exact Y.rdb_take hr0 e_ (by omega)⟩
 clear hA2 hA3
 rw [← ht, ← he, ← hp, ← hbd] at hq
 rw [← ht, ← he, ← hf]
 rw [← hbd] at HA3 ⊢
 have d4 : ((four p : Int) != sumL b) = false := by simp [hq]
 have d4' : ((four p : Int) = sumL b) = True := eq_true hq
 have hrd := hb (rd l 0) (by
  show l.getD 0 0 ∈ l
  rw [List.getD_eq_getElem?_getD, List.getElem?_eq_getElem h0, Option.getD_some]
  exact List.getElem_mem h0)
 have w6_ : IntKind.i64.wrap (rd l 0) = rd l 0 := by rw [i64_w, w64s _ (by omega) (by omega)]
 have HML : Aside0 ((b.drop f).length = e_ - f) := ⟨by rw [List.length_drop, HBL.out]⟩
 have X0 := am x0
 have HT := am ht
 have HE := am he
 have HFF := am hf
 have HSS := am hs
 have HNN := am hn
 clear hp hbd hq
 clear hA hcut hg
 clear hr0 hb hf hz hy he ht ht4 hu hn hs
 go_enter Try.func44, Try.ntmps44
 go_wp2_with fail
 refine (get_call' HG.out HB1.out (by rw [List.length_drop]; omega) _ (by rw [List.length_drop]) A' _ _ HA.out hC).mono ?_
 rintro e w1 ⟨rfl, q, rfl⟩
 go_wp2_with fail
 refine (four_call p HP4.out HPB.out A2 _ _ (rdb_drewN HA2.out q) hC2).mono ?_
 rintro e w1 ⟨rfl, q2, rfl⟩
 go_wp2_with fail
 have hsum := sum2_call (some ad) c0 b (w.drewN (q + q2)) (by rw [HBL.out]; exact rdb_drewN HRB.out _) HBB.out (by rw [HBL.out]; have := HLL.out; have := HE.out; have := HSS.out; have := HT.out; omega)
 rw [HBL.out] at hsum
 refine hsum.mono ?_
 rintro e w1 ⟨rfl, hb1⟩
 have HB := am (below_step (pw_below_drewN (Below.refl _ _) (q + q2)) hb1)
 clear hb1 hsum
 go_wp2_with fail
 have HB2 : Aside0 (Below w.heap.size w w1.drew) := ⟨below_drew HB.out⟩
 refine wp_region_held_drew (S := (fun W => W.cell? ad = some (.int .u8 (rd l 0)) ∧ RdB W A3 (e_ - f) (b.drop f))) (by kernel_rfl) ((And.intro ((HB2.out.cell (World.block_lt_of_cell? w _ X0.out)).trans X0.out) (rdb_below HA3.out HB2.out))) (fun hHeld => ?_)
 refine wpAnyH_take (i := 0) (v := ?_) (by simp only [List.getElem?_toArray, List.getElem?_cons_succ, List.getElem?_cons_zero]; rfl) (by kernel_rfl) (by kernel_rfl) (by kernel_rfl) (by intro _ _ _ h; exact h) (Or.inl ⟨by rfl, ?hy⟩) (by assumption) ?_
 case hy => (intro W_ hW_; go_simp; first | done | with_reducible rfl)
 try simp only [sp]
 refine wpAnyH_take (i := 1) (v := ?_) (by simp only [List.getElem?_toArray, List.getElem?_cons_succ, List.getElem?_cons_zero]; rfl) (by kernel_rfl) (by kernel_rfl) (by kernel_rfl) (by intro _ _ _ h; exact h) (Or.inl ⟨by rfl, ?hy⟩) (by assumption) ?_
 case hy => (intro W_ hW_; go_simp; first | done | with_reducible rfl)
 try simp only [sp]
 refine wpAnyH_take (i := 2) (v := ?_) (by simp only [List.getElem?_toArray, List.getElem?_cons_succ, List.getElem?_cons_zero]; rfl) (by kernel_rfl) (by kernel_rfl) (by kernel_rfl) (by intro _ _ _ h; exact h) (Or.inl ⟨by rfl, ?hy⟩) (by assumption) ?_
 case hy => (intro W_ hW_; have f_ := hW_.1; go_simp; first | done | with_reducible rfl)
 try simp only [sp]
 refine wpAnyH_take (i := 3) (v := ?_) (by simp only [List.getElem?_toArray, List.getElem?_cons_succ, List.getElem?_cons_zero]; rfl) (by kernel_rfl) (by kernel_rfl) (by kernel_rfl) (by intro _ _ _ h; exact h) (Or.inl ⟨by rfl, ?hy⟩) (by assumption) ?_
 case hy => (intro W_ hW_; go_simp; first | done | with_reducible rfl)
 try simp only [sp]
 refine wpAnyH_take (i := 4) (v := ?_) (by simp only [List.getElem?_toArray, List.getElem?_cons_succ, List.getElem?_cons_zero]; rfl) (by kernel_rfl) (by kernel_rfl) (by kernel_rfl) (by intro _ _ _ h; exact h) (Or.inl ⟨by rfl, ?hy⟩) (by assumption) ?_
 case hy => (intro W_ hW_; go_simp; first | done | with_reducible rfl)
 try simp only [sp]
 refine wpAnyH_take (i := 5) (v := ?_) (by simp only [List.getElem?_toArray, List.getElem?_cons_succ, List.getElem?_cons_zero]; rfl) (by kernel_rfl) (by kernel_rfl) (by kernel_rfl) (by intro _ _ _ h; exact h) (Or.inl ⟨by rfl, ?hy⟩) (by assumption) ?_
 case hy => (intro W_ hW_; go_simp; first | done | with_reducible rfl)
 try simp only [sp]
 refine wpAnyH_take (i := 6) (v := ?_) (by simp only [List.getElem?_toArray, List.getElem?_cons_succ, List.getElem?_cons_zero]; rfl) (by kernel_rfl) (by kernel_rfl) (by kernel_rfl) (by intro _ _ _ h; exact h) (Or.inl ⟨by rfl, ?hy⟩) (by assumption) ?_
 case hy => (intro W_ hW_; go_simp; first | done | with_reducible rfl)
 try simp only [sp]
 refine wpAnyH_take (i := 7) (v := ?_) (by simp only [List.getElem?_toArray, List.getElem?_cons_succ, List.getElem?_cons_zero]; rfl) (by kernel_rfl) (by kernel_rfl) (by kernel_rfl) (by intro _ _ _ h; exact h) (Or.inl ⟨by rfl, ?hy⟩) (by assumption) ?_
 case hy => (intro W_ hW_; go_simp; first | done | with_reducible rfl)
 try simp only [sp]
 refine wpAnyH_take (i := 9) (v := ?_) (by simp only [List.getElem?_toArray, List.getElem?_cons_succ, List.getElem?_cons_zero]; rfl) (by kernel_rfl) (by kernel_rfl) (by kernel_rfl) (by intro _ _ _ h; exact h) (Or.inl ⟨by rfl, ?hy⟩) (by assumption) ?_
 case hy => (intro W_ hW_; go_simp; first | done | with_reducible rfl)
 try simp only [sp]
 refine wpAnyH_take (i := 10) (v := ?_) (by simp only [List.getElem?_toArray, List.getElem?_cons_succ, List.getElem?_cons_zero]; rfl) (by kernel_rfl) (by kernel_rfl) (by kernel_rfl) (by intro _ _ _ h; exact h) (Or.inl ⟨by rfl, ?hy⟩) (by assumption) ?_
 case hy => (intro W_ hW_; go_simp; first | done | with_reducible rfl)
 try simp only [sp]
 refine tr (i := 8) (fun K hK => ?_)
 go_wp2_with fail
 refine (clone_call2 A3 (c0 - f) (b.drop f) _ HML.out _ hHeld.2 hC3 (by have := HE.out; have := HFF.out; have := HNN.out; omega)).mono ?_
 rintro e w4 ⟨v4, rfl, hR4, hb4⟩
 refine hK.out _ _ (And.intro ((hb4.cell (World.block_lt_of_cell? _ _ hHeld.1)).trans hHeld.1) (rdb_below hHeld.2 hb4)) ?_
 clear hK K hHeld
 intro hHeld
 try simp only [sp]
 refine wpAnyH_take (i := 11) (v := ?_) (by simp only [List.getElem?_toArray, List.getElem?_cons_succ, List.getElem?_cons_zero]; rfl) (by kernel_rfl) (by kernel_rfl) (by kernel_rfl) (by intro _ _ _ h; exact h) (Or.inl ⟨by rfl, ?hy⟩) (by assumption) ?_
 case hy => (intro W_ hW_; go_simp; first | done | with_reducible rfl)
 try simp only [sp]
 refine wpAnyH_take (i := 12) (v := ?_) (by simp only [List.getElem?_toArray, List.getElem?_cons_succ, List.getElem?_cons_zero]; rfl) (by kernel_rfl) (by kernel_rfl) (by kernel_rfl) (by intro _ _ _ h; exact h) (Or.inl ⟨by rfl, ?hy⟩) (by assumption) ?_
 case hy => (intro W_ hW_; go_simp; first | done | with_reducible rfl)
 try simp only [sp]
 refine wpAnyH_take (i := 13) (v := ?_) (by simp only [List.getElem?_toArray, List.getElem?_cons_succ, List.getElem?_cons_zero]; rfl) (by kernel_rfl) (by kernel_rfl) (by kernel_rfl) (by intro _ _ _ h; exact h) (Or.inl ⟨by rfl, ?hy⟩) (by assumption) ?_
 case hy => (intro W_ hW_; go_simp; first | done | with_reducible rfl)
 try simp only [sp]
 refine wpAnyH_take (i := 14) (v := ?_) (by simp only [List.getElem?_toArray, List.getElem?_cons_succ, List.getElem?_cons_zero]; rfl) (by kernel_rfl) (by kernel_rfl) (by kernel_rfl) (by intro _ _ _ h; exact h) (Or.inl ⟨by rfl, ?hy⟩) (by assumption) ?_
 case hy => (intro W_ hW_; go_simp; first | done | with_reducible rfl)
 try simp only [sp]
 refine td ?_
 go_wp2_with fail
 (try simp only [Exit.inBlock, Exit.then])
 refine bodyPost_ret (results_list (rs := [.tmp 2, .tmp 3, .tmp 4, .tmp 5]) rfl (by simp) (.tmp (.tmp (.tmp (.tmp .nil))))) rfl ?_
 exact ⟨v4, rfl, Kd.R_lower hR4 HB2.out.size, below_step HB2.out hb4⟩
def getL (l : List Int) : Int × Int × Bool := (wire_Get.f (2 * l.length + 3) l).getD (0, 0, false)
theorem getL_is {l : List Int} (hb : Bytes l) (hl : l.length ≤ 1000000000) : IsGet l (getL l) := by
 obtain ⟨r, h, hr⟩ := Y.Get_is l hb (by omega) (2 * l.length + 3) (by omega)
 unfold getL
 rw [h]
 exact hr
theorem getL_eq {l : List Int} (hb : Bytes l) (hl : l.length ≤ 1000000000) {r : Int × Int × Bool} (h : IsGet l r) : getL l = r := (getL_is hb hl).unique h
def openL (l : List Int) : Int × List Int × Int × Int := openR l (getL (l.drop 1))
theorem drop_bytes {l : List Int} (hb : Bytes l) (k : Nat) : Bytes (l.drop k) := fun x hx => hb x (List.mem_of_mem_drop hx)
theorem used_lt {l : List Int} {r : Int × Int × Bool} (h0 : 0 < l.length) (h : IsGet (l.drop 1) r) : ∃ n u : Nat, r = ((n : Int), (u : Int), r.2.2) ∧ u + 1 ≤ l.length := by
 have hu := Y.IsGet.used h
 rw [List.length_drop] at hu
 refine ⟨r.1.toNat, r.2.1.toNat, ?_, by omega⟩
 obtain ⟨a, b, c⟩ := r
 simp only at hu ⊢
 rw [Int.toNat_of_nonneg hu.2.2.1, Int.toNat_of_nonneg hu.1]
theorem OpenQ.of {w w' : World} {e : Ending} {r r' : Int × List Int × Int × Int} (h : OpenQ w r e w') (he : r = r') : OpenQ w r' e w' := he ▸ h
theorem sopen_call (A0 : Option Addr) (c0 : Nat) (l : List Int) (w : World) (hr0 : RdB w A0 l.length l) (hc0 : l.length ≤ c0) (hb : Bytes l) (hl : l.length ≤ 1000000000) :
  Calls Try.prog 44 #[.slice A0 l.length c0] w fun e w' => OpenQ w (openL l) e w' := by
 have hg := getL_is (drop_bytes hb 1) (by rw [List.length_drop]; omega)
 unfold openL
 generalize getL (l.drop 1) = g at hg
 by_cases h0 : l.length = 0
 ·refine (sopen_empty A0 c0 l w hr0 hc0 hb hl h0).mono fun e w' h => h.of ?_
  unfold openR
  rw [if_pos (Or.inl h0)]
 ·by_cases h10 : 10 ≤ rd l 0
  ·refine (sopen_kind A0 c0 l w hr0 hc0 hb hl (by omega) h10).mono fun e w' h => h.of ?_
   unfold openR
   rw [if_pos (Or.inr h10)]
  ·obtain ⟨n, u, hgg, hu⟩ := used_lt (by omega) hg
   obtain ⟨b, hbb⟩ : ∃ b, b = g.2.2 := ⟨_, rfl⟩
   rw [← hbb] at hgg
   subst hgg
   cases b with
   | false =>
    refine (sopen_not A0 c0 l w hr0 hc0 hb hl (by omega) h10 n u hg hu).mono fun e w' h => h.of ?_
    unfold openR
    rw [if_neg (by omega), if_pos (Or.inl rfl)]
   | true =>
    by_cases hn : 100000 < n
    ·refine (sopen_big A0 c0 l w hr0 hc0 hb hl (by omega) h10 n u hg hu hn).mono fun e w' h => h.of ?_
     unfold openR
     rw [if_neg (by omega), if_pos (Or.inr (Or.inl (show (100000 : Int) < (n : Int) by omega)))]
    ·by_cases hs : l.length < 1 + u + n + 4
     ·refine (sopen_short A0 c0 l w hr0 hc0 hb hl (by omega) h10 n u hg hu (by omega) hs).mono fun e w' h => h.of ?_
      unfold openR
      rw [if_neg (by omega), if_pos (Or.inr (Or.inr (show (l.length : Int) < 1 + (u : Int) + (n : Int) + 4 by omega)))]
     ·have hcond : ¬ ((true = false) ∨ (100000 : Int) < (n : Int) ∨ (l.length : Int) < 1 + (u : Int) + (n : Int) + 4) := by
       rintro (h | h | h)
       ·cases h
       ·omega
       ·omega
      by_cases hq : (four ((l.take (1 + u + n + 4)).drop (1 + u + n)) : Int) = sumL (l.take (1 + u + n))
      ·refine (sopen_ok A0 c0 l w hr0 hc0 hb hl (by omega) h10 n u hg hu (by omega) (by omega) hq).mono fun e w' h => h.of ?_
       unfold openR
       rw [if_neg (by omega), if_neg hcond]
       simp only [Int.toNat_natCast]
       rw [if_neg (fun h => h hq)]
      ·refine (sopen_bad A0 c0 l w hr0 hc0 hb hl (by omega) h10 n u hg hu (by omega) (by omega) hq).mono fun e w' h => h.of ?_
       unfold openR
       rw [if_neg (by omega), if_neg hcond]
       simp only [Int.toNat_natCast]
       rw [if_pos hq]
def section_Open.f (k : Nat) (l0 : List Int) : Option (Int × List Int × Int × Int) := if l0.all (fun x => decide (0 ≤ x ∧ x ≤ 255)) = true ∧ l0.length ≤ 1000000000 then some (openL l0) else none
theorem section_Open.calls (k : Nat) (A0 : Option Addr) (c0 : Nat) (l0 : List Int) (r1 : Int) (r2 : List Int) (r3 : Int) (r4 : Int) (w : World) (hr0 : Kd.C (Kd.int .u8) w A0 l0.length l0) (hc0 : l0.length ≤ c0) (h : section_Open.f k l0 = some (r1, r2, r3, r4)) :
  Calls Try.prog 44 #[.slice A0 l0.length c0] w fun e w' => ∃ v1_ : Value, e = .returned (.tuple #[.int .i64 r1, v1_, .int .i64 r3, .int .i64 r4]) ∧ Kd.R (Kd.int .u8) 5 w' w.heap.size (fun _ => True) v1_ r2 ∧ Below w.heap.size w w' := by
 unfold section_Open.f at h
 split at h
 ·rename_i hh
  injection h with h
  refine (sopen_call A0 c0 l0 w hr0 hc0 (fun x hx => by simpa using List.all_eq_true.1 hh.1 x hx) hh.2).mono fun e w' hq => ?_
  exact hq.of h
 ·cases h
theorem Open_eq (k : Nat) {l : List Int} (hb : Bytes l) (hl : l.length ≤ 1000000000) : section_Open.f k l = some (openL l) := by
 unfold section_Open.f
 rw [if_pos ⟨List.all_eq_true.2 fun x hx => decide_eq_true (hb x hx), hl⟩]
end
section
open Go.RowKit Go.Proofs.YtchaegfdcdlfaaaW.PrintWords Go.Proofs.YtchaegfdcdlfaaaW.PrintLast Go.Proofs.YtchaegfdcdlfaaaW.PrintMore
set_option maxHeartbeats 1000000 in
theorem grow_call (n : Nat) (hn : n ≤ 1000000000) (w : World) :
  Calls Try.prog 140 #[.slice none 0 0, .int .i64 n] w fun e w' => ∃ v, e = .returned v ∧ Kd.R (Kd.int .u8) 5 w' w.heap.size (fun _ => True) v [] ∧ Below w.heap.size w w' := by
 have e1 : decide ((n : Int) < 0) = false := decide_eq_false (by omega)
 by_cases h0 : 0 < n
 ·obtain ⟨i0, hi0, hz0, hs0, hb0⟩ := info_parts info5
  have e2 : decide ((n : Int) > 0) = true := decide_eq_true (by omega)
  have e3 : IntKind.i64.wrap ((n : Int) - 0) = (n : Int) := by rw [i64_w]; unfold wrap64; omega
  have hrun := Go.Lib.run_append_nil_zeros (P := Try.prog) w 40 3 40 5 i0 _ .i64 .i64 Try.underlying40 Try.underlying3 hi0 hz0 n h0 (by omega) (by omega) (by rw [hb0]; omega)
  obtain ⟨cp, hcp⟩ : ∃ cp, cp = grownCap w n 0 5 := ⟨_, rfl⟩
  rw [← hcp] at hrun
  go_enter Try.func140, Try.ntmps140
  go_wp2_with (first
   | ((with_reducible refine gate_builtin (b := .append) (xs := #[.tmp 20, .tmp 21]) rfl ?_); at_builtin; refine Go.Lib.wpList_append_run _ rfl _ _ _ _ rfl _ _ rfl rfl _ _ hrun ?_)
   | fail)
  go_ret
  refine ⟨_, rfl, Kd.R_of_own (ok := fun _ => True) ⟨rfl, .inr ⟨w.heap.size, grownCap w n 0 5, _, rfl, Nat.le_refl _, heap_alloc_new _ _, Nat.zero_le _, grownCap_le_maxLen w n 0 5 (by unfold maxLen; omega), ?_, by simp [encs]⟩⟩ (fun _ _ => trivial), below_drew (below_alloc (Below.refl _ _) _)⟩
  have := grownCap_ge w n 0 5
  simp [size_zeroCells]
  omega
 ·obtain rfl : n = 0 := by omega
  have e2 : decide (((0 : Nat) : Int) > 0) = false := by decide
  have e3 : IntKind.i64.wrap ((0 : Int) - 0) = 0 := by decide
  go_enter Try.func140, Try.ntmps140
  go_wp2_with fail
  go_ret
  exact ⟨_, rfl, Kd.R_nil _ _ _ _ _, Below.refl _ _⟩
def lens (l : List (List Int)) (i : Nat) : Nat := (l.take i).flatten.length
theorem lens_succ {l : List (List Int)} {i : Nat} (hi : i < l.length) : (l.take (i + 1)).flatten = (l.take i).flatten ++ rd_L2 l i := by
 have : l.take (i + 1) = l.take i ++ [rd_L2 l i] := by
  unfold rd_L2
  rw [Int.toNat_natCast, List.getD_eq_getElem?_getD, List.getElem?_eq_getElem hi, Option.getD_some, List.take_succ_eq_append_getElem hi]
 rw [this, List.flatten_append]
 simp
theorem lens_le (l : List (List Int)) (i : Nat) : lens l i ≤ l.flatten.length := by
 have : l.flatten = (l.take i).flatten ++ (l.drop i).flatten := by rw [← List.flatten_append, List.take_append_drop]
 unfold lens
 rw [this, List.length_append]
 omega
set_option maxHeartbeats 1000000 in
theorem cat_call (A : Option Addr) (c : Nat) (l : List (List Int)) (w : World) (hr : Kd.C (Kd.slice 5 (Kd.int .u8)) w A l.length l) (hl : l.flatten.length ≤ 1000000000) (hn : l.length ≤ 1000000000) :
  Calls Try.prog 83 #[.slice A l.length c] w fun e w' => ∃ v, e = .returned v ∧ Kd.R (Kd.int .u8) 5 w' w.heap.size (fun _ => True) v l.flatten ∧ Below w.heap.size w w' := by
 have HR := am hr
 have HL := am hl
 have HN := am hn
 clear hr hl
 go_enter Try.func83, Try.ntmps83
 go_wp2_with fail
 go_loopg [3, 11] l.length (fun k v3 v11 w' => ∃ i : Nat, v3 = .int .i64 (lens l i : Int) ∧ v11 = .int .i64 i ∧ Aside0 (k = l.length - i ∧ i ≤ l.length) ∧ Aside0 (Below w.heap.size w w'))
 case atStart => exact ⟨0, by simp [lens], rfl, ⟨by omega, by omega⟩, ⟨Below.refl _ _⟩⟩
 case round =>
  obtain ⟨i, rfl, rfl, HI, HB⟩ := hrel
  by_cases hi : i < l.length
  ·have d1 : decide (i < l.length) = true := decide_eq_true hi
   have d2 : decide ((i : Int) < (l.length : Int)) = true := decide_eq_true (by omega)
   have pi : ((i : Int) < (l.length : Int)) = True := eq_true (by omega)
   have qi : (0 ≤ (i : Int)) = True := eq_true (by omega)
   have hwi : IntKind.i64.wrap ((i : Int) + 1) = ((i + 1 : Nat) : Int) := by rw [i64_w]; unfold wrap64; omega
   obtain ⟨ad0, A0, c0, e0, x0, hc0, _⟩ := at_L2 (Kd.C_below HR.out HB.out) (i : Int) (by omega) (by omega)
   subst e0
   simp only [Int.toNat_natCast] at x0
   have HE := lens_succ hi
   have hs : lens l (i + 1) = lens l i + (rd_L2 l i).length := by unfold lens; rw [HE, List.length_append]
   have hle := lens_le l (i + 1)
   have hll := HL.out
   have hw2 : IntKind.i64.wrap ((lens l i : Int) + ((rd_L2 l i).length : Int)) = (lens l (i + 1) : Int) := by rw [i64_w]; unfold wrap64; omega
   have d3 : decide ((lens l (i + 1) : Int) < 0) = false := decide_eq_false (by omega)
   clear HE hs hle hll
   go_wp2_with fail
   go_roundg (l.length - (i + 1))
   case measure => have := HI.out; omega
   case rel => exact ⟨i + 1, rfl, by simp, ⟨rfl, by omega⟩, HB⟩
  ·have d1 : decide (i < l.length) = false := decide_eq_false hi
   have d2 : decide ((i : Int) < (l.length : Int)) = false := decide_eq_false (by omega)
   obtain rfl : i = l.length := by have := HI.out; omega
   have hle := lens_le l l.length
   have hll := HL.out
   clear hi
   go_wp2_with fail
   refine (grow_call (lens l l.length) (by omega) _).mono ?_
   rintro e w1 ⟨v, rfl, ho1, hb1⟩
   have HO := am (Kd.R_lower ho1 HB.out.size)
   have HB1 := am (below_step HB.out hb1)
   clear ho1 hb1 hle hll HB
   go_wp2_with fail
   go_loopg [6, 27] l.length (fun k v6 v27 w' => ∃ i : Nat, v27 = .int .i64 i ∧ Aside0 (k = l.length - i ∧ i ≤ l.length) ∧ Aside0 (Kd.R (Kd.int .u8) 5 w' w.heap.size (fun _ => True) v6 (l.take i).flatten) ∧ Aside0 (Below w.heap.size w w'))
   case atStart => exact ⟨0, rfl, ⟨by omega, by omega⟩, ⟨by simpa using HO.out⟩, HB1⟩
   case round =>
    clear HO HB1 HI
    obtain ⟨i, rfl, HI, HO, HB⟩ := hrel
    by_cases hi : i < l.length
    ·have d1 : decide (i < l.length) = true := decide_eq_true hi
     have d2 : decide ((i : Int) < (l.length : Int)) = true := decide_eq_true (by omega)
     have pi : ((i : Int) < (l.length : Int)) = True := eq_true (by omega)
     have qi : (0 ≤ (i : Int)) = True := eq_true (by omega)
     have hwi : IntKind.i64.wrap ((i : Int) + 1) = ((i + 1 : Nat) : Int) := by rw [i64_w]; unfold wrap64; omega
     obtain ⟨ad0, A0, c0, e0, x0, hc0, hi0⟩ := at_L2 (Kd.C_below HR.out HB.out) (i : Int) (by omega) (by omega)
     subst e0
     simp only [Int.toNat_natCast] at x0
     have HI0 := am hi0
     have HE := am (lens_succ hi)
     have hs : lens l (i + 1) = lens l i + (rd_L2 l i).length := by unfold lens; rw [HE.out, List.length_append]
     have hle := lens_le l (i + 1)
     have HLE : Aside0 (((l.take i).flatten.length + (rd_L2 l i).length) * 1 ≤ 140737488355328) := ⟨by have := HL.out; have := hs; unfold lens at this hle; omega⟩
     clear hi0 hs hle
     go_wp2_with (first | ((with_reducible refine gate_builtin (b := .append) (xs := #[.tmp 31, .tmp 32]) rfl ?_); at_builtin; refine Kd.R_append_rows (Kd.int .u8) (w0 := w) w.heap.size rfl (.tmp 31) (.tmp 32) 40 5 (.int .u8 0) 1 rfl Try.underlying40 info5 rfl (by decide) (by omega) u6 (l.take i).flatten (rd_L2 l i) _ _ _ (fun _ => True) (fun _ => False) rfl rfl HO.out HI0.out (fun _ _ h => h) (fun _ h => h.elim) (fun _ _ => trivial) HB.out HB.out.size (by have := HLE.out; omega) ?_; intro v1 w1 ho hb hg hat; have HO1 := am ho; have HB1 := am hb; clear ho hb hg hat) | fail)
     go_roundg (l.length - (i + 1))
     case measure => have := HI.out; omega
     case rel => exact ⟨i + 1, by simp, ⟨rfl, by omega⟩, ⟨by rw [HE.out]; exact HO1.out⟩, HB1⟩
    ·have d1 : decide (i < l.length) = false := decide_eq_false hi
     have d2 : decide ((i : Int) < (l.length : Int)) = false := decide_eq_false (by omega)
     have hil : i = l.length := by have := HI.out; omega
     have HX : Aside0 ((l.take i).flatten = l.flatten) := ⟨by rw [hil, List.take_length]⟩
     clear hi hil
     go_wp2_with fail
     go_ret
     exact ⟨_, rfl, by rw [← HX.out]; exact HO.out, HB.out⟩
def slices_Concat_byte_byte.f (k : Nat) (l0 : List (List Int)) : Option (List Int) := if l0.flatten.length ≤ 1000000000 ∧ l0.length ≤ 1000000000 then some l0.flatten else none
theorem slices_Concat_byte_byte.calls (k : Nat) (A0 : Option Addr) (c0 : Nat) (l0 : List (List Int)) (r : List Int) (w : World) (hr0 : Kd.C (Kd.slice 5 (Kd.int .u8)) w A0 l0.length l0) (hc0 : l0.length ≤ c0) (h : slices_Concat_byte_byte.f k l0 = some r) :
  Calls Try.prog 83 #[.slice A0 l0.length c0] w fun e w' => ∃ v0_ : Value, e = .returned (v0_) ∧ Kd.R (Kd.int .u8) 5 w' w.heap.size (fun _ => True) v0_ r ∧ Below w.heap.size w w' := by
 unfold slices_Concat_byte_byte.f at h
 split at h
 ·rename_i hh
  injection h with h
  subst h
  exact cat_call A0 c0 l0 w hr0 hh.1 hh.2
 ·cases h
theorem Cat_eq (k : Nat) {l0 : List (List Int)} (h1 : l0.flatten.length ≤ 1000000000) (h2 : l0.length ≤ 1000000000) : slices_Concat_byte_byte.f k l0 = some l0.flatten := by
 unfold slices_Concat_byte_byte.f
 rw [if_pos ⟨h1, h2⟩]
end
section
open Go.RowKit Go.Proofs.YtchaegfdcdlfaaaW.PrintWords Go.Proofs.YtchaegfdcdlfaaaW.PrintLast Go.Proofs.YtchaegfdcdlfaaaW.PrintMore
attribute [local go_sem] max2_int min2_int max_two min_two max_three min_three max_four min_four
def section_Pack.j0 : Nat → Int → List Int → Bool → Option (List Int × Bool)
 | 0, _, _, _ => none
 | k + 1, x0, x1, x17 => if x17 = true then (some (([] : List Int), false)) else ((wire_Put.f k (IntKind.u64.wrap ((x1.length : Int)))).bind fun t162 => ((slices_Concat_byte_byte.f k (([(([(x0) % 256] : List Int)), t162, x1] : List (List Int)))).bind fun t168 => ((section_Sum.f k t168).bind fun t171 => ((wire_Word.f k t171).bind fun t172 => (if t168.length + t172.length < 140737488355328 then (some ((t168 ++ t172), true)) else (none))))))
def section_Pack.f (k : Nat) (a0 : Int) (l1 : List Int) : Option (List Int × Bool) := if a0 < 0 then (section_Pack.j0 k a0 l1 true) else (if a0 ≥ 10 then (section_Pack.j0 k a0 l1 true) else (section_Pack.j0 k a0 l1 (decide ((l1.length : Int) > 100000))))
set_option maxHeartbeats 8000000 in
theorem section_Pack.calls (k : Nat) (a0 : Int) (P1_ : Nat → Prop) (A1 : Option Addr) (c1 : Nat) (l1 : List Int) (r1 : List Int) (r2 : Bool) (w : World) (hs1 : Kd.V (Kd.int .u8) 5 w w.heap.size (fun k_ => P1_ k_) (.slice A1 l1.length c1) l1) (h : section_Pack.f k a0 l1 = some (r1, r2)) :
  Calls Try.prog 42 #[.int .i64 a0, .slice A1 l1.length c1] w fun e w' => ∃ v0_ : Value, e = .returned (.tuple #[v0_, .bool r2]) ∧ Kd.R (Kd.int .u8) 5 w' w.heap.size (fun k_ => (w.heap.size ≤ k_)) v0_ r1 ∧ Below w.heap.size w w' := by
 have HO1 := am (show Kd.V (Kd.int .u8) 5 w w.heap.size (fun k_ => (P1_ k_ ∨ w.heap.size ≤ k_)) (.slice A1 l1.length c1) l1 from Kd.V_mono hs1 (fun k_ hk => .inl hk))
 have HB := am (Below.refl w.heap.size w)
 have H : (if a0 < 0 then (section_Pack.j0 k a0 l1 true) else (if a0 ≥ 10 then (section_Pack.j0 k a0 l1 true) else (section_Pack.j0 k a0 l1 (decide ((l1.length : Int) > 100000))))) = some (r1, r2) := h
 clear h
 have HC3 := am H
 clear H
 go_enter Try.func42, Try.ntmps42
 go_upto_region 1 with (fail)
 go_cut [17] (fun v17 wc => ∃ (kq : Nat) (x17_2 : Bool), v17 = .bool x17_2 ∧ Aside0 (section_Pack.j0 kq a0 l1 x17_2 = some (r1, r2)) ∧ Aside0 (kq ≤ k) ∧ Aside0 (Kd.V (Kd.int .u8) 5 wc w.heap.size (fun k_ => (P1_ k_ ∨ w.heap.size ≤ k_)) (.slice A1 l1.length c1) l1) ∧ Aside0 (Below w.heap.size w wc))
 case first =>
  have H := HC3.out
  clear HC3
  by_cases c4 : a0 < 0
  ·rw [if_pos c4] at H
   have c4b0 : decide (a0 < 0) = true := decide_eq_true c4
   clear c4
   (first | rw [c4b0] | (simp only [i64_w, i32_w]; rw [c4b0]) | skip)
   have H' := am H
   clear H
   go_wp2
   go_meet
   case rel => exact ⟨_, (true), (by first | rfl | (simp; done) | (simp [*]; done)), H', ⟨by first | omega | exact Nat.le_refl _⟩, ⟨by (with_reducible repeat (first | apply Kd.V_alloc | apply Kd.V_drewN | apply Kd.V_drew)); exact HO1.out⟩, ⟨bw HB.out⟩⟩
  ·rw [if_neg c4] at H
   have c4b0 : decide (a0 < 0) = false := decide_eq_false c4
   clear c4
   (first | rw [c4b0] | (simp only [i64_w, i32_w]; rw [c4b0]) | skip)
   by_cases c5 : a0 ≥ 10
   ·rw [if_pos c5] at H
    have c5b0 : decide (10 ≤ a0) = true := decide_eq_true c5
    clear c5
    have H' := am H
    clear H
    go_wp2
    go_meet
    case rel => exact ⟨_, (true), (by first | rfl | (simp; done) | (simp [*]; done)), H', ⟨by first | omega | exact Nat.le_refl _⟩, ⟨by (with_reducible repeat (first | apply Kd.V_alloc | apply Kd.V_drewN | apply Kd.V_drew)); exact HO1.out⟩, ⟨bw HB.out⟩⟩
   ·rw [if_neg c5] at H
    have c5b0 : decide (10 ≤ a0) = false := decide_eq_false c5
    clear c5
    have H' := am H
    clear H
    go_wp2
    go_meet
    case rel => exact ⟨_, (decide ((l1.length : Int) > 100000)), (by first | rfl | (simp; done) | (simp [*]; done)), H', ⟨by first | omega | exact Nat.le_refl _⟩, ⟨by (with_reducible repeat (first | apply Kd.V_alloc | apply Kd.V_drewN | apply Kd.V_drew)); exact HO1.out⟩, ⟨bw HB.out⟩⟩
 case rest =>
  clear HC3
  try clear c1
  try clear p2
  try clear c4
  try clear c4b0
  try clear c5
  try clear c5b0
  obtain ⟨kq, x17_2, rfl, HA, HJ2, HO_1, HB⟩ := hcut
  cases kq with
  | zero => exact absurd HA.out (by simp [section_Pack.j0])
  | succ kj2 =>
   have H := HA.out
   clear HA
   simp only [section_Pack.j0] at H
   by_cases c6 : x17_2 = true
   ·subst c6
    have H1 : (some (([] : List Int), false)) = some (r1, r2) := by rw [if_pos rfl] at H; exact H
    clear H
    have H := H1
    clear H1
    simp only [Option.some.injEq, Prod.mk.injEq] at H
    obtain ⟨rfl, rfl⟩ := H
    go_wp2
    go_ret2
    exact ⟨_, by first | rfl | (simp [errW_none, errW_some] <;> rfl) | (simp [*, errW_none, errW_some] <;> rfl), by first | exact Kd.R_nil _ _ _ _ _ | exact Kd.N_nil _ _ _ _ _ | exact Kd.V_nil _ _ _ _ _ | exact Kd.Q_nil _ _ _ _ _ | exact Kd.S_nil _ _ _ _ _, bw HB.out⟩
   ·replace c6 := Bool.eq_false_iff.mpr c6
    subst c6
    have H1 : ((wire_Put.f kj2 (IntKind.u64.wrap ((l1.length : Int)))).bind fun t162 => ((slices_Concat_byte_byte.f kj2 (([(([(a0) % 256] : List Int)), t162, l1] : List (List Int)))).bind fun t168 => ((section_Sum.f kj2 t168).bind fun t171 => ((wire_Word.f kj2 t171).bind fun t172 => (if t168.length + t172.length < 140737488355328 then (some ((t168 ++ t172), true)) else (none)))))) = some (r1, r2) := by rw [if_neg (show ¬ (false = true) by decide)] at H; exact H
    clear H
    have H := H1
    clear H1
    obtain ⟨y159, hy159⟩ : ∃ y_ : List Int, y_ = (([(a0) % 256] : List Int)) := ⟨_, rfl⟩
    replace H : ((wire_Put.f kj2 (IntKind.u64.wrap ((l1.length : Int)))).bind fun t162 => ((slices_Concat_byte_byte.f kj2 (([y159, t162, l1] : List (List Int)))).bind fun t168 => ((section_Sum.f kj2 t168).bind fun t171 => ((wire_Word.f kj2 t171).bind fun t172 => (if t168.length + t172.length < 140737488355328 then (some ((t168 ++ t172), true)) else (none)))))) = some (r1, r2) := by first | (rw [hy159]; with_reducible exact H) | (have H2_ := (Option.bind_some _ _).symm.trans H; rw [hy159]; with_reducible exact H2_) | (have H2_ := (Option.bind_some _ _).symm.trans H; with_reducible exact H2_) | with_reducible exact H | (rw [hy159]; exact H) | exact H
    have Ny159 := am hy159
    clear hy159
    replace H := Option.bind_eq_some_iff.mp H
    obtain ⟨t162, A70, H⟩ := H
    replace H : ((slices_Concat_byte_byte.f kj2 (([y159, t162, l1] : List (List Int)))).bind fun t168 => ((section_Sum.f kj2 t168).bind fun t171 => ((wire_Word.f kj2 t171).bind fun t172 => (if t168.length + t172.length < 140737488355328 then (some ((t168 ++ t172), true)) else (none))))) = some (r1, r2) := H
    have A7 := am A70
    clear A70
    obtain ⟨y165, hy165⟩ : ∃ y_ : List (List Int), y_ = (([y159, t162, l1] : List (List Int))) := ⟨_, rfl⟩
    replace H : ((slices_Concat_byte_byte.f kj2 y165).bind fun t168 => ((section_Sum.f kj2 t168).bind fun t171 => ((wire_Word.f kj2 t171).bind fun t172 => (if t168.length + t172.length < 140737488355328 then (some ((t168 ++ t172), true)) else (none))))) = some (r1, r2) := by first | (rw [hy165]; with_reducible exact H) | (have H2_ := (Option.bind_some _ _).symm.trans H; rw [hy165]; with_reducible exact H2_) | (have H2_ := (Option.bind_some _ _).symm.trans H; with_reducible exact H2_) | with_reducible exact H | (rw [hy165]; exact H) | exact H
    have Ny165 := am hy165
    clear hy165
    replace H := Option.bind_eq_some_iff.mp H
    obtain ⟨t168, A80, H⟩ := H
    replace H : ((section_Sum.f kj2 t168).bind fun t171 => ((wire_Word.f kj2 t171).bind fun t172 => (if t168.length + t172.length < 140737488355328 then (some ((t168 ++ t172), true)) else (none)))) = some (r1, r2) := H
    have A8 := am A80
    clear A80
    replace H := Option.bind_eq_some_iff.mp H
    obtain ⟨t171, A90, H⟩ := H
    replace H : ((wire_Word.f kj2 t171).bind fun t172 => (if t168.length + t172.length < 140737488355328 then (some ((t168 ++ t172), true)) else (none))) = some (r1, r2) := H
    have A9 := am A90
    clear A90
    replace H := Option.bind_eq_some_iff.mp H
    obtain ⟨t172, A100, H⟩ := H
    replace H : (if t168.length + t172.length < 140737488355328 then (some ((t168 ++ t172), true)) else (none)) = some (r1, r2) := H
    have A10 := am A100
    clear A100
    by_cases c11 : t168.length + t172.length < 140737488355328
    ·rw [if_pos c11] at H
     have LMc11 := am c11
     clear c11
     obtain ⟨y175, hy175⟩ : ∃ y_ : List Int, y_ = (t168 ++ t172) := ⟨_, rfl⟩
     replace H : (some (y175, true)) = some (r1, r2) := by first | (rw [hy175]; with_reducible exact H) | (have H2_ := (Option.bind_some _ _).symm.trans H; rw [hy175]; with_reducible exact H2_) | (have H2_ := (Option.bind_some _ _).symm.trans H; with_reducible exact H2_) | with_reducible exact H | (rw [hy175]; exact H) | exact H
     have Ny175 := am hy175
     clear hy175
     simp only [Option.some.injEq, Prod.mk.injEq] at H
     obtain ⟨rfl, rfl⟩ := H
     go_wp2_with (first | ((with_reducible refine gate_dst (N := 20) rfl ?_); (try (refine gate_guard (by rfl) ?_; dsimp only)); refine Kd.R_lit (Kd.int .u8) _ 5 ?hg (N := 20) ?hd (xs := ([(a0) % 256] : List Int)) (inner := [.int .u8 ((a0) % 256)]) (ok := fun _ => True) (okp := fun _ => True) ?hr ?hp (fun _ hk => hk) trivial (Below.refl _ _) (Nat.le_refl _) (by simp) ?_; (case hd => rfl); (case hg => rfl); (case hr => first | (go_simp; done) | (go_simp; rfl)); (case hp => exact (Reps.one (show Kd.M (Kd.int .u8) _ _ _ ((a0) % 256) [.int .u8 ((a0) % 256)] from rfl) (Reps.none _ _))); intro v160 w12 ho13 hb hg_ hnew_; clear hg_ hnew_; (first | rw [← Ny159.out] at ho13 | (simp only [Int.reduceToNat] at ho13; rw [← Ny159.out] at ho13)); have n0_ := am (Kd.V_elder' (by (with_reducible repeat (first | apply Kd.V_alloc | apply Kd.V_drewN | apply Kd.V_drew)); exact HO_1.out) (Kd.R_base ho13) hb); have n1_ := am (Kd.R_lower (Kd.R_newM (M := fun k_ => (w.heap.size ≤ k_)) ho13 (below_size (bw HB.out)) (fun k_ h_ => h_)) (below_size (bw HB.out))); have n2_ := am (below_step (bw HB.out) hb); clear HO_1; clear HB; have HO_1 := n0_; have HO161 := n1_; have HB := n2_; clear n0_ n1_ n2_; clear hb ho13) | ((with_reducible refine gate_callee (f := 84) rfl ?_); refine goesL_ (some 24) rfl rfl Try.func84 (by kernel_rfl) rfl #[.int .u64 (IntKind.u64.wrap ((l1.length : Int)))] rfl (by (try simp only [List.map_toArray, List.map_cons, List.map_nil]); first | done | rfl | (simp only [List.length_drop, List.length_take]; rfl)) ?_; (with_reducible refine (wire_Put.calls kj2 (IntKind.u64.wrap ((l1.length : Int))) t162 _ A7.out).mono ?_); rintro e w14 ⟨v163, rfl, ho0, hb⟩; refine ⟨_, rfl, ?_⟩; have n0_ := am (Kd.V_elder' (by (with_reducible repeat (first | apply Kd.V_alloc | apply Kd.V_drewN | apply Kd.V_drew)); exact HO_1.out) (Kd.R_base ho0) hb); have n1_ := am (Kd.R_elder' (rr HO161.out) (Kd.R_base ho0) hb); have n2_ := am (Kd.R_lower (Kd.R_new' (Kd.R_newM (M := fun k_ => (w.heap.size ≤ k_)) ho0 (below_size (bw HB.out)) (fun k_ h_ => h_)) (Kd.R_lt (rr HO161.out))) (below_size (bw HB.out))); have n3_ := am (below_step (bw HB.out) hb); clear HO_1; clear HO161; clear HB; have HO_1 := n0_; have HO161 := n1_; have HO164 := n2_; have HB := n3_; clear n0_ n1_ n2_ n3_; (try clear hb); (try clear hb2); (try clear hk); (try clear hi); (try clear ho0); obtain ⟨Ao15, co15, eo15⟩ := Kd.R_slice HO161.out; subst eo15; obtain ⟨Ao16, co16, eo16⟩ := Kd.R_slice HO164.out; subst eo16) | ((with_reducible refine gate_dst (N := 26) rfl ?_); (try (refine gate_guard (by rfl) ?_; dsimp only)); refine Kd.N_lit (Kd.slice 5 (Kd.int .u8)) _ 40 ?hg (N' := 26) ?hd (xs := ([y159, t162, l1] : List (List Int))) (inner := [.slice Ao15 y159.length co15, .slice Ao16 t162.length co16, .slice A1 l1.length c1]) (ok := (fun k_ => (P1_ k_ ∨ w.heap.size ≤ k_))) (okp := (fun k_ => (P1_ k_ ∨ w.heap.size ≤ k_))) ?hr ?hp (fun _ hk => hk) ((show ∀ k_, w14.heap.size ≤ k_ → (fun k_ => (P1_ k_ ∨ w.heap.size ≤ k_)) k_ from fun k_ hk => (.inr (Nat.le_trans (below_size (bw HB.out)) hk))) _ (Nat.le_refl _)) (Below.refl _ _) (Nat.le_refl _) (by simp) ?_; (case hd => rfl); (case hg => rfl); (case hr => first | (go_simp; done) | (go_simp; rfl)); (case hp => exact (Reps.one (show Kd.FK (Kd.slice 5 (Kd.int .u8)) _ _ y159 [.slice Ao15 y159.length co15] from (Kd.FK_slice_mk (Kd.R_reads' (Kd.R_mono (ok' := (fun k_ => (P1_ k_ ∨ w.heap.size ≤ k_))) (HO161.out) (fun k_ hk => (.inr (hk.1.1))))).2.1 (Kd.R_F (Kd.R_mono (ok' := (fun k_ => (P1_ k_ ∨ w.heap.size ≤ k_))) (HO161.out) (fun k_ hk => (.inr (hk.1.1))))))) (Reps.one (show Kd.FK (Kd.slice 5 (Kd.int .u8)) _ _ t162 [.slice Ao16 t162.length co16] from (Kd.FK_slice_mk (Kd.R_reads' (Kd.R_mono (ok' := (fun k_ => (P1_ k_ ∨ w.heap.size ≤ k_))) (HO164.out) (fun k_ hk => (.inr (hk.1.1))))).2.1 (Kd.R_F (Kd.R_mono (ok' := (fun k_ => (P1_ k_ ∨ w.heap.size ≤ k_))) (HO164.out) (fun k_ hk => (.inr (hk.1.1))))))) (Reps.one (show Kd.FK (Kd.slice 5 (Kd.int .u8)) _ _ l1 [.slice A1 l1.length c1] from (Kd.FK_slice_mk (Kd.V_reads' (Kd.V_mono (ok' := (fun k_ => (P1_ k_ ∨ w.heap.size ≤ k_))) (HO_1.out) (fun k_ hk => hk.1.1))).2.1 (Kd.V_F (Kd.V_mono (ok' := (fun k_ => (P1_ k_ ∨ w.heap.size ≤ k_))) (HO_1.out) (fun k_ hk => hk.1.1))))) (Reps.none _ _))))); intro v166 w17 ho18 hb hg_ hnew_; clear hg_ hnew_; (first | rw [← Ny165.out] at ho18 | (simp only [Int.reduceToNat] at ho18; rw [← Ny165.out] at ho18)); have n0_ := am (Kd.V_elder' (by (with_reducible repeat (first | apply Kd.V_alloc | apply Kd.V_drewN | apply Kd.V_drew)); exact HO_1.out) (Kd.N_base ho18) hb); have n1_ := am (Kd.N_lower ho18 (below_size (bw HB.out))); have n2_ := am (below_step (bw HB.out) hb); clear HO_1; clear HB; clear HO161; clear HO164; have HO_1 := n0_; have HO167 := n1_; have HB := n2_; clear n0_ n1_ n2_; clear hb ho18; obtain ⟨Ao19, co19, eo19⟩ := Kd.N_slice HO167.out; subst eo19) | ((with_reducible refine gate_callee (f := 83) rfl ?_); refine goesL_ (some 27) rfl rfl Try.func83 (by kernel_rfl) rfl #[.slice Ao19 y165.length co19] rfl (by (try simp only [List.map_toArray, List.map_cons, List.map_nil]); first | done | rfl | (simp only [List.length_drop, List.length_take]; rfl)) ?_; (with_reducible refine (slices_Concat_byte_byte.calls kj2 _ _ y165 t168 _ ?side1 ?side2 A8.out).mono ?_); (case side1 => repeat (first | exact (Kd.N_reads' HO167.out).2.2 | (with_reducible refine Kd.C_alloc ?_ _) | (with_reducible refine Kd.C_drewN ?_ _) | (with_reducible refine Kd.C_drew ?_))); (case side2 => exact (Kd.N_reads' HO167.out).2.1); rintro e w20 ⟨v169, rfl, ho0, hb⟩; refine ⟨_, rfl, ?_⟩; have n0_ := am (Kd.V_elder' (by (with_reducible repeat (first | apply Kd.V_alloc | apply Kd.V_drewN | apply Kd.V_drew)); exact HO_1.out) (Kd.R_base ho0) hb); have n1_ := am (Kd.N_elder' (by (with_reducible repeat (first | apply Kd.N_alloc | apply Kd.N_drewN | apply Kd.N_drew)); exact HO167.out) (Kd.R_base ho0) hb); have n2_ := am (Kd.R_lower (Kd.R_newM (M := fun k_ => (w.heap.size ≤ k_)) ho0 (below_size (bw HB.out)) (fun k_ h_ => h_)) (below_size (bw HB.out))); have n3_ := am (below_step (bw HB.out) hb); clear HO_1; clear HO167; clear HB; have HO_1 := n0_; have HO167 := n1_; have HO170 := n2_; have HB := n3_; clear n0_ n1_ n2_ n3_; (try clear hb); (try clear hb2); (try clear hk); (try clear hi); (try clear ho0); obtain ⟨Ao21, co21, eo21⟩ := Kd.R_slice HO170.out; subst eo21) | ((with_reducible refine gate_callee (f := 46) rfl ?_); refine goesL_ (some 30) rfl rfl Try.func46 (by kernel_rfl) rfl #[.slice Ao21 t168.length co21] rfl (by (try simp only [List.map_toArray, List.map_cons, List.map_nil]); first | done | rfl | (simp only [List.length_drop, List.length_take]; rfl)) ?_; (with_reducible refine (section_Sum.calls kj2 _ _ t168 t171 _ ?side1 ?side2 A9.out).mono ?_); (case side1 => repeat (first | exact (Kd.R_reads' HO170.out).2.2 | (with_reducible refine Kd.C_alloc ?_ _) | (with_reducible refine Kd.C_drewN ?_ _) | (with_reducible refine Kd.C_drew ?_))); (case side2 => exact (Kd.R_reads' HO170.out).2.1); rintro e w22 ⟨rfl, hb⟩; refine ⟨_, rfl, ?_⟩; have n0_ := am (Kd.V_below (by (with_reducible repeat (first | apply Kd.V_alloc | apply Kd.V_drewN | apply Kd.V_drew)); exact HO_1.out) hb); have n1_ := am (Kd.N_below (by (with_reducible repeat (first | apply Kd.N_alloc | apply Kd.N_drewN | apply Kd.N_drew)); exact HO167.out) hb); have n2_ := am (Kd.R_below (rr HO170.out) hb); have n3_ := am (below_step (bw HB.out) hb); clear HO_1; clear HO167; clear HO170; clear HB; have HO_1 := n0_; have HO167 := n1_; have HO170 := n2_; have HB := n3_; clear n0_ n1_ n2_ n3_; (try clear hb); (try clear hb2); (try clear hk); (try clear hi)) | ((with_reducible refine gate_callee (f := 85) rfl ?_); refine goesL_ (some 31) rfl rfl Try.func85 (by kernel_rfl) rfl #[.int .u32 t171] rfl (by (try simp only [List.map_toArray, List.map_cons, List.map_nil]); first | done | rfl | (simp only [List.length_drop, List.length_take]; rfl)) ?_; (with_reducible refine (wire_Word.calls kj2 t171 t172 _ A10.out).mono ?_); rintro e w23 ⟨v173, rfl, ho0, hb⟩; refine ⟨_, rfl, ?_⟩; have n0_ := am (Kd.V_elder' (by (with_reducible repeat (first | apply Kd.V_alloc | apply Kd.V_drewN | apply Kd.V_drew)); exact HO_1.out) (Kd.R_base ho0) hb); have n1_ := am (Kd.N_elder' (by (with_reducible repeat (first | apply Kd.N_alloc | apply Kd.N_drewN | apply Kd.N_drew)); exact HO167.out) (Kd.R_base ho0) hb); have n2_ := am (Kd.R_elder' (rr HO170.out) (Kd.R_base ho0) hb); have n3_ := am (Kd.R_lower (Kd.R_new' (Kd.R_newM (M := fun k_ => (w.heap.size ≤ k_)) ho0 (below_size (bw HB.out)) (fun k_ h_ => h_)) (Kd.R_lt (rr HO170.out))) (below_size (bw HB.out))); have n4_ := am (below_step (bw HB.out) hb); clear HO_1; clear HO167; clear HO170; clear HB; have HO_1 := n0_; have HO167 := n1_; have HO170 := n2_; have HO174 := n3_; have HB := n4_; clear n0_ n1_ n2_ n3_ n4_; (try clear hb); (try clear hb2); (try clear hk); (try clear hi); (try clear ho0); obtain ⟨Ao25, co25, eo25⟩ := Kd.R_slice HO174.out; subst eo25) | ((with_reducible refine gate_builtin (b := .append) (xs := #[.tmp 28, .tmp 31]) rfl ?_); (try (refine gate_guard (by rfl) ?_; dsimp only)); at_builtin; refine Kd.R_append_rows (Kd.int .u8) (w0 := w) w.heap.size rfl (.tmp 28) (.tmp 31) 40 5 (.int .u8 0) 1 rfl Try.underlying40 info5 rfl (by decide) (by omega) (.slice Ao21 t168.length co21) t168 t172 _ _ _ (fun k_ => (w.heap.size ≤ k_) ∧ some k_ ≠ (.slice Ao25 t172.length co25 : Value).ownBlock) (fun _ => False) rfl rfl ?aO ?aR (fun _ _ h => h) (fun _ h => h.elim) ?aF ?aB ?aS ?aL ?_; (case aR => repeat (first | exact (Kd.R_reads' HO174.out).2.2 | (with_reducible refine Kd.C_alloc ?_ _) | (with_reducible refine Kd.C_drewN ?_ _) | (with_reducible refine Kd.C_drew ?_))); (case aB => exact (bw HB.out)); (case aF => exact (fun k_ hk => ⟨(Nat.le_trans (below_size (bw HB.out)) hk), Kd.fresh' (Kd.R_lt (rr HO174.out)) k_ hk⟩)); (case aO => exact (by (with_reducible repeat (first | apply Kd.R_alloc | apply Kd.R_drewN | apply Kd.R_drew)); exact Kd.R_mono HO170.out (fun _ hk => ⟨hk.1.1, hk.2⟩))); (case aS => exact (below_size (bw HB.out))); (case aL => have := LMc11.out; omega); intro v176 w24 ho hb hg hat; rw [← Ny175.out] at ho; have n0_ := am (Kd.V_afterv (ok := (fun k_ => (P1_ k_ ∨ w.heap.size ≤ k_) ∧ some k_ ≠ (.slice Ao19 y165.length co19 : Value).ownBlock ∧ some k_ ≠ (.slice Ao25 t172.length co25 : Value).ownBlock)) (by (with_reducible repeat (first | apply Kd.V_alloc | apply Kd.V_drewN | apply Kd.V_drew)); exact Kd.V_mono HO_1.out (fun _ hk => ⟨⟨hk.1.1.1.1.1, ⟨hk.1.1.2, hk.2⟩⟩, hk.1.2⟩)) hg hat); have n1_ := am (Kd.N_afterv (ok := (fun k_ => (P1_ k_ ∨ w.heap.size ≤ k_) ∧ some k_ ≠ (.slice Ao25 t172.length co25 : Value).ownBlock)) (by (with_reducible repeat (first | apply Kd.N_alloc | apply Kd.N_drewN | apply Kd.N_drew)); exact Kd.N_mono HO167.out (fun _ hk => ⟨⟨hk.1.1, hk.2⟩, hk.1.2⟩)) hg hat); have n2_ := am (Kd.R_after (ok := (fun k_ => (w.heap.size ≤ k_))) (by (with_reducible repeat (first | apply Kd.R_alloc | apply Kd.R_drewN | apply Kd.R_drew)); exact Kd.R_mono HO174.out (fun _ hk => ⟨hk.1.1, hk.2⟩)) hg hat); have n3_ := am (hb); have n4_ := am (ho); clear HO_1; clear HO167; clear HO174; clear HB; clear HO170; have HO_1 := n0_; have HO167 := n1_; have HO174 := n2_; have HB := n3_; have HO177 := n4_; clear n0_ n1_ n2_ n3_ n4_; clear ho hb hg hat))
     go_ret2
     exact ⟨_, by first | rfl | (simp [errW_none, errW_some] <;> rfl) | (simp [*, errW_none, errW_some] <;> rfl), by (with_reducible repeat (first | apply Kd.R_alloc | apply Kd.R_drewN | apply Kd.R_drew)); exact Kd.R_mono HO177.out (fun _ hk => hk.1), bw HB.out⟩
    ·rw [if_neg c11] at H
     exact absurd H (by simp)
end
section
open Go.Proofs.Ytchaegfdcdlfaaa.Y (IsGet Bytes RdB four word put Put_eq Word_eq word_bytes word_length four_word put_range put_length put_length_pos isGet_put word_four)
open Go.RowKit Go.Proofs.YtchaegfdcdlfaaaW.PrintWords Go.Proofs.YtchaegfdcdlfaaaW.PrintLast Go.Proofs.YtchaegfdcdlfaaaW.PrintMore
def headL (kind : Int) (b : List Int) : List Int := kind :: (put b.length ++ b)
def packL (kind : Int) (b : List Int) : List Int := headL kind b ++ word (crc (nats (headL kind b)))
theorem headL_byt {kind : Int} {b : List Int} (h0 : 0 ≤ kind) (h9 : kind ≤ 9) (hb : Bytes b) : Bytes (headL kind b) := fun x hx => by
 rcases List.mem_cons.1 hx with rfl | hx
 ·omega
 ·rcases List.mem_append.1 hx with hx | hx
  ·exact put_range _ x hx
  ·exact hb x hx
theorem packL_byt {kind : Int} {b : List Int} (h0 : 0 ≤ kind) (h9 : kind ≤ 9) (hb : Bytes b) : Bytes (packL kind b) := fun x hx => by
 rcases List.mem_append.1 hx with hx | hx
 ·exact headL_byt h0 h9 hb x hx
 ·exact word_bytes _ x hx
theorem headL_length (kind : Int) (b : List Int) : (headL kind b).length = 1 + (put b.length).length + b.length := by
 simp only [headL, List.length_cons, List.length_append]; omega
theorem packL_length (kind : Int) (b : List Int) : (packL kind b).length = 1 + (put b.length).length + b.length + 4 := by
 simp only [packL, List.length_append, headL_length, word_length]
theorem Pack_eq {kind : Int} {b : List Int} (h0 : 0 ≤ kind) (h9 : kind ≤ 9) (hb : Bytes b) (hl : b.length ≤ 100000) (k : Nat) (hk : 30 < k) : section_Pack.f k kind b = some (packL kind b, true) := by
 obtain ⟨k, rfl⟩ : ∃ k', k = k' + 1 := ⟨k - 1, by omega⟩
 have hp10 := put_length b.length (by omega)
 have hw : IntKind.u64.wrap (b.length : Int) = (b.length : Int) := Y.wraps_u64 _ (by omega) (by omega)
 have hfl : [[kind % 256], put b.length, b].flatten = headL kind b := by
  simp only [headL, List.flatten_cons, List.flatten_nil, List.append_nil]
  rw [Int.emod_eq_of_lt h0 (by omega)]
  rfl
 unfold section_Pack.f
 rw [if_neg (by omega), if_neg (by omega), decide_eq_false (by omega), section_Pack.j0, if_neg (by decide), hw, Put_eq b.length (by omega) k (by omega)]
 simp only [Option.bind_some]
 rw [Cat_eq k (by rw [hfl, headL_length]; omega) (by simp), hfl]
 simp only [Option.bind_some]
 rw [Sum2_eq k (headL_byt h0 h9 hb) (by rw [headL_length]; omega)]
 simp only [Option.bind_some]
 rw [show sumL (headL kind b) = ((crc (nats (headL kind b)) : Nat) : Int) from rfl, Word_eq _ k (by omega)]
 simp only [Option.bind_some]
 rw [if_pos (by rw [headL_length, word_length]; omega)]
 rfl
theorem open_pack {kind : Int} {b rest : List Int} (h0 : 0 ≤ kind) (h9 : kind ≤ 9) (hb : Bytes b) (hl : b.length ≤ 100000) (hr : Bytes rest) (hrl : rest.length ≤ 100000000) :
  openL (packL kind b ++ rest) = (kind, b, ((packL kind b).length : Int), 0) := by
 have hp10 := put_length b.length (by omega)
 have hH := headL_length kind b
 obtain ⟨q, hq⟩ : ∃ q, q = word (crc (nats (headL kind b))) := ⟨_, rfl⟩
 have hq4 : q.length = 4 := by rw [hq, word_length]
 have hL : packL kind b ++ rest = kind :: (put b.length ++ (b ++ (q ++ rest))) := by
  simp [packL, headL, hq]
 have hL2 : packL kind b ++ rest = headL kind b ++ (q ++ rest) := by simp [packL, hq]
 have hd : (packL kind b ++ rest).drop 1 = put b.length ++ (b ++ (q ++ rest)) := by rw [hL]; rfl
 have hby : Bytes (b ++ (q ++ rest)) := fun x hx => by
  rcases List.mem_append.1 hx with hx | hx
  ·exact hb x hx
  ·rcases List.mem_append.1 hx with hx | hx
   ·rw [hq] at hx; exact word_bytes _ x hx
   ·exact hr x hx
 have hg : getL ((packL kind b ++ rest).drop 1) = ((b.length : Int), ((put b.length).length : Int), true) := by
  rw [hd]
  refine getL_eq (fun x hx => ?_) ?_ (isGet_put b.length (by omega) _)
  ·rcases List.mem_append.1 hx with hx | hx
   ·exact put_range _ x hx
   ·exact hby x hx
  ·simp only [List.length_append, hq4]; omega
 have hlen : (packL kind b ++ rest).length = (headL kind b).length + 4 + rest.length := by rw [hL2]; simp only [List.length_append, hq4]; omega
 have hrd : rd (packL kind b ++ rest) 0 = kind := by rw [hL]; rfl
 have e1 : 1 + (put b.length).length + b.length = (headL kind b).length := by omega
 have ht : (packL kind b ++ rest).take (1 + (put b.length).length + b.length) = headL kind b := by rw [e1, hL2, List.take_left]
 have hm : ((packL kind b ++ rest).take (1 + (put b.length).length + b.length + 4)).drop (1 + (put b.length).length + b.length) = q := by
  rw [e1, List.drop_take, hL2, List.drop_left, show (headL kind b).length + 4 - (headL kind b).length = q.length by omega, List.take_left]
 have hx : (headL kind b).drop (1 + (put b.length).length) = b := by
  have : headL kind b = (kind :: put b.length) ++ b := by simp [headL]
  rw [this, show 1 + (put b.length).length = (kind :: put b.length).length by simp only [List.length_cons]; omega, List.drop_left]
 unfold openL openR
 rw [hg]
 simp only [Int.toNat_natCast]
 rw [hrd, if_neg (by rw [hlen]; omega), if_neg (by rw [hlen]; simp only [Bool.true_eq_false, false_or]; omega), ht, hm, if_neg, hx]
 ·rw [packL_length]
 ·rw [hq, four_word _ (crc_lt _)]
  intro h
  exact h rfl
end
section
open Go.Proofs.Ytchaegfdcdlfaaa.Y (IsGet Bytes four word put put_range put_length put_length_pos isGet_put word_four four_word word_length word_bytes put_unique)
structure Rd where
 b : List Int
 bad : Bool
theorem by_app {l m : List Int} (h : Bytes l) (h2 : Bytes m) : Bytes (l ++ m) := fun x hx => (List.mem_append.1 hx).elim (h x) (h2 x)
theorem by_drop {l : List Int} (h : Bytes l) (k : Nat) : Bytes (l.drop k) := fun x hx => h x (List.mem_of_mem_drop hx)
theorem by_take {l : List Int} (h : Bytes l) (k : Nat) : Bytes (l.take k) := fun x hx => h x (List.mem_of_mem_take hx)
def skipR (s : Rd) (n : Nat) (is : Bool) : List Int × Rd :=
 if s.bad = true ∨ is = false ∨ s.b.length < n then (List.replicate n 0, ⟨s.b, true⟩) else (s.b.take n, ⟨s.b.drop n, false⟩)
theorem skipR_bad {s : Rd} {n : Nat} {is : Bool} (h : s.bad = true ∨ is = false ∨ s.b.length < n) : skipR s n is = (List.replicate n 0, ⟨s.b, true⟩) := if_pos h
theorem skipR_ok {s : Rd} {n : Nat} {is : Bool} (h0 : s.bad = false) (h1 : is = true) (h2 : n ≤ s.b.length) : skipR s n is = (s.b.take n, ⟨s.b.drop n, false⟩) :=
 if_neg (by
  rintro (h | h | h)
  ·rw [h0] at h; cases h
  ·rw [h1] at h; cases h
  ·omega)
theorem skipR_len (s : Rd) (n : Nat) (is : Bool) : (skipR s n is).1.length = n := by
 unfold skipR
 split
 ·exact List.length_replicate
 ·rename_i h
  show (s.b.take n).length = n
  rw [List.length_take]
  have : ¬ s.b.length < n := fun h2 => h (.inr (.inr h2))
  omega
theorem skipR_suf (s : Rd) (n : Nat) (is : Bool) : ∃ k, (skipR s n is).2.b = s.b.drop k := by
 unfold skipR
 split
 ·exact ⟨0, rfl⟩
 ·exact ⟨n, rfl⟩
theorem skipR_got {s : Rd} {n : Nat} {is : Bool} (h : (skipR s n is).2.bad = false) : s.bad = false ∧ is = true ∧ n ≤ s.b.length ∧ skipR s n is = (s.b.take n, ⟨s.b.drop n, false⟩) := by
 by_cases hc : s.bad = true ∨ is = false ∨ s.b.length < n
 ·rw [skipR_bad hc] at h; cases h
 ·have h1 : s.bad = false := by
   cases hb : s.bad
   ·rfl
   ·exact absurd (.inl hb) hc
  have h2 : is = true := by
   cases hi : is
   ·exact absurd (.inr (.inl hi)) hc
   ·rfl
  have h3 : n ≤ s.b.length := by
   have : ¬ s.b.length < n := fun h2 => hc (.inr (.inr h2))
   omega
  exact ⟨h1, h2, h3, skipR_ok h1 h2 h3⟩
structure Good {α : Type} (f : Rd → α × Rd) (B : α → List Int) (P : α → Prop) : Prop where
 byt : ∀ x, P x → Bytes (B x)
 put : ∀ x rest, P x → Bytes rest → (B x ++ rest).length ≤ 1000000 → f ⟨B x ++ rest, false⟩ = (x, ⟨rest, false⟩)
 suf : ∀ s, ∃ k, (f s).2.b = s.b.drop k
 got : ∀ s, Bytes s.b → s.b.length ≤ 1000000 → (f s).2.bad = false → s.bad = false ∧ P (f s).1 ∧ s.b = B (f s).1 ++ (f s).2.b
theorem Good.rest {α : Type} {f : Rd → α × Rd} {B : α → List Int} {P : α → Prop} (h : Good f B P) {s : Rd} (hb : Bytes s.b) (hl : s.b.length ≤ 1000000) : Bytes (f s).2.b ∧ (f s).2.b.length ≤ 1000000 := by
 obtain ⟨k, hk⟩ := h.suf s
 rw [hk]
 exact ⟨by_drop hb k, by rw [List.length_drop]; omega⟩
def seqR {α β : Type} (f : Rd → α × Rd) (g : α → Rd → β × Rd) (s : Rd) : (α × β) × Rd := (((f s).1, (g (f s).1 (f s).2).1), (g (f s).1 (f s).2).2)
theorem Good.seq {α β : Type} {f : Rd → α × Rd} {g : α → Rd → β × Rd} {B : α → List Int} {C : α → β → List Int} {P : α → Prop} {Q : α → β → Prop} (hf : Good f B P) (hg : ∀ x, P x → Good (g x) (C x) (Q x)) (hs : ∀ x s, ∃ k, (g x s).2.b = s.b.drop k) (ht : ∀ x s, (g x s).2.bad = false → s.bad = false) :
  Good (seqR f g) (fun p => B p.1 ++ C p.1 p.2) (fun p => P p.1 ∧ Q p.1 p.2) where
 byt := fun p h => by_app (hf.byt p.1 h.1) ((hg p.1 h.1).byt p.2 h.2)
 put := fun p rest h hb hl => by
  have e : (B p.1 ++ C p.1 p.2) ++ rest = B p.1 ++ (C p.1 p.2 ++ rest) := List.append_assoc ..
  rw [e] at hl
  rw [e]
  have h1 := hf.put p.1 _ h.1 (by_app ((hg p.1 h.1).byt p.2 h.2) hb) hl
  unfold seqR
  rw [h1]
  have h2 := (hg p.1 h.1).put p.2 rest h.2 hb (by rw [List.length_append] at hl; omega)
  rw [h2]
 suf := fun s => by
  obtain ⟨k, hk⟩ := hf.suf s
  obtain ⟨m, hm⟩ := hs (f s).1 (f s).2
  exact ⟨k + m, by show (g (f s).1 (f s).2).2.b = _; rw [hm, hk, List.drop_drop]⟩
 got := fun s hb hl h => by
  have h1 : (f s).2.bad = false := ht _ _ h
  obtain ⟨h2, h3, h4⟩ := hf.got s hb hl h1
  have hr := hf.rest hb hl
  obtain ⟨h5, h6, h7⟩ := (hg _ h3).got (f s).2 hr.1 hr.2 h
  refine ⟨h2, ⟨h3, h6⟩, ?_⟩
  show s.b = (B (f s).1 ++ C (f s).1 (g (f s).1 (f s).2).1) ++ (g (f s).1 (f s).2).2.b
  rw [List.append_assoc, ← h7, ← h4]
def itR {α : Type} (f : Rd → α × Rd) : Nat → Rd → List α × Rd
 | 0, s => ([], s)
 | k + 1, s => ((itR f k s).1 ++ [(f (itR f k s).2).1], (f (itR f k s).2).2)
def allB {α : Type} (B : α → List Int) : List α → List Int
 | [] => []
 | x :: l => B x ++ allB B l
theorem allB_snoc {α : Type} (B : α → List Int) : ∀ (l : List α) (x : α), allB B (l ++ [x]) = allB B l ++ B x
 | [], x => by show B x ++ [] = [] ++ B x; rw [List.append_nil, List.nil_append]
 | a :: l, x => by show B a ++ allB B (l ++ [x]) = B a ++ allB B l ++ B x; rw [allB_snoc B l x, List.append_assoc]
theorem allB_byt {α : Type} {B : α → List Int} : ∀ {l : List α}, (∀ x ∈ l, Bytes (B x)) → Bytes (allB B l)
 | [], _ => fun x hx => by cases hx
 | a :: l, h => by_app (h a (by simp)) (allB_byt (fun x hx => h x (by simp [hx])))
theorem itR_len {α : Type} (f : Rd → α × Rd) : ∀ (k : Nat) (s : Rd), (itR f k s).1.length = k
 | 0, s => rfl
 | k + 1, s => by show ((itR f k s).1 ++ [_]).length = _; rw [List.length_append, itR_len f k s]; rfl
theorem itR_suf {α : Type} {f : Rd → α × Rd} (hs : ∀ s, ∃ k, (f s).2.b = s.b.drop k) : ∀ (k : Nat) (s : Rd), ∃ m, (itR f k s).2.b = s.b.drop m
 | 0, s => ⟨0, rfl⟩
 | k + 1, s => by
  obtain ⟨m, hm⟩ := itR_suf hs k s
  obtain ⟨n, hn⟩ := hs (itR f k s).2
  exact ⟨m + n, by show (f (itR f k s).2).2.b = _; rw [hn, hm, List.drop_drop]⟩
def takeR (n : Nat) (s : Rd) : List Int × Rd := skipR s n true
theorem takeR_good (n : Nat) : Good (takeR n) (fun l => l) (fun l => l.length = n ∧ Bytes l) where
 byt := fun l h => h.2
 put := fun l rest h hb hl => by
  unfold takeR
  rw [skipR_ok rfl rfl (by show n ≤ (l ++ rest).length; rw [List.length_append]; omega)]
  show ((l ++ rest).take n, (⟨(l ++ rest).drop n, false⟩ : Rd)) = _
  rw [← h.1, List.take_left, List.drop_left]
 suf := fun s => skipR_suf s n true
 got := fun s hb hl h => by
  obtain ⟨h1, _, h2, h3⟩ := skipR_got h
  refine ⟨h1, ⟨skipR_len s n true, ?_⟩, ?_⟩
  ·show Bytes (skipR s n true).1
   rw [h3]
   exact by_take hb n
  ·show s.b = (skipR s n true).1 ++ (skipR s n true).2.b
   rw [h3]
   exact (List.take_append_drop n s.b).symm
theorem skip_bad_of (s : Rd) (n : Nat) (is : Bool) (h : (skipR s n is).2.bad = false) : s.bad = false := (skipR_got h).1
def byteR (s : Rd) : Int × Rd := ((skipR s 1 true).1.getD 0 0, (skipR s 1 true).2)
theorem one_list {l : List Int} (h : l.length = 1) : l = [l.getD 0 0] := by
 match l, h with
 | [x], _ => rfl
theorem byteR_good : Good byteR (fun x => [x]) (fun x => 0 ≤ x ∧ x ≤ 255) where
 byt := fun x h y hy => by rw [List.mem_singleton.1 hy]; exact h
 put := fun x rest h hb hl => by
  unfold byteR
  rw [skipR_ok rfl rfl (by show 1 ≤ ([x] ++ rest).length; simp)]
  rfl
 suf := fun s => skipR_suf s 1 true
 got := fun s hb hl h => by
  obtain ⟨h1, ⟨h2, h3⟩, h4⟩ := (takeR_good 1).got s hb hl h
  have e := one_list h2
  refine ⟨h1, ?_, ?_⟩
  ·exact h3 _ (by rw [e]; simp [byteR, takeR])
  ·show s.b = [(takeR 1 s).1.getD 0 0] ++ (takeR 1 s).2.b
   rw [← e]
   exact h4
def numR (most : Int) (s : Rd) : Int × Rd :=
 let t := (skipR s (getL s.b).2.1.toNat ((getL s.b).2.2 && decide ((getL s.b).1 ≤ most))).2
 (if t.bad = true then 0 else (getL s.b).1, t)
theorem numR_good (most : Int) (h1 : most ≤ 1000) : Good (numR most) (fun n => put n.toNat) (fun n => 0 ≤ n ∧ n ≤ most) where
 byt := fun x h => put_range _
 put := fun x rest h hb hl => by
  have hg : getL (put x.toNat ++ rest) = ((x.toNat : Int), ((put x.toNat).length : Int), true) := getL_eq (by_app (put_range _) hb) (by omega) (isGet_put x.toNat (by omega) rest)
  unfold numR
  dsimp only
  rw [hg]
  dsimp only
  rw [skipR_ok rfl (by simp; omega) (by show ((put x.toNat).length : Int).toNat ≤ (put x.toNat ++ rest).length; rw [List.length_append]; omega)]
  show (_, (⟨(put x.toNat ++ rest).drop ((put x.toNat).length : Int).toNat, false⟩ : Rd)) = _
  rw [Int.toNat_natCast, List.drop_left, if_neg (by simp)]
  congr 1
  omega
 suf := fun s => skipR_suf s _ _
 got := fun s hb hl h => by
  obtain ⟨g1, g2, g3, g4⟩ := skipR_got h
  have hi := getL_is hb (by omega)
  rw [Bool.and_eq_true, decide_eq_true_eq] at g2
  rcases hi with ⟨m, hm, ⟨r, hr⟩, hg⟩ | ⟨_, hg⟩
  ·have e : numR most s = ((m : Int), ⟨r, false⟩) := by
    unfold numR
    dsimp only
    rw [g4, hg]
    dsimp only
    rw [if_neg (by simp), Int.toNat_natCast, ← hr, List.drop_left]
   rw [hg] at g2
   rw [e]
   refine ⟨g1, ⟨by omega, g2.2⟩, ?_⟩
   show s.b = put (m : Int).toNat ++ r
   rw [Int.toNat_natCast, hr]
  ·rw [hg] at g2
   exact absurd g2.1 (by simp)
theorem numR_range (most : Int) (hm : 0 ≤ most) (s : Rd) (hb : Bytes s.b) (hl : s.b.length ≤ 1000000) : 0 ≤ (numR most s).1 ∧ (numR most s).1 ≤ most := by
 by_cases h : (numR most s).2.bad = true
 ·have e : (numR most s).1 = 0 := by
   show (if (numR most s).2.bad = true then (0 : Int) else _) = 0
   exact if_pos h
  omega
 ·have h' : (numR most s).2.bad = false := by cases hq : (numR most s).2.bad <;> simp_all
  obtain ⟨g1, g2, g3, g4⟩ := skipR_got h'
  rw [Bool.and_eq_true, decide_eq_true_eq] at g2
  have e : (numR most s).1 = (getL s.b).1 := by
   show (if (numR most s).2.bad = true then (0 : Int) else _) = _
   exact if_neg h
  rw [e]
  rcases getL_is hb (by omega) with ⟨m, hm2, _, hg⟩ | ⟨_, hg⟩
  ·rw [hg] at g2 ⊢
   exact ⟨by show (0 : Int) ≤ m; omega, g2.2⟩
  ·rw [hg] at g2
   exact absurd g2.1 (by simp)
def stR (s : Rd) : (Int × Int) × Rd := ((stGetP (getL s.b)).1, (skipR s (stGetP (getL s.b)).2.1.toNat (stGetP (getL s.b)).2.2).2)
theorem stMay_range {n r : Int} (h : stMay n r = true) : 0 ≤ n ∧ n ≤ 1099511627776 ∧ 0 ≤ r ∧ r < 8 := by
 unfold stMay at h
 simp at h
 omega
theorem stR_good : Good stR (fun p => put (stNum p.1 p.2)) (fun p => stMay p.1 p.2 = true) where
 byt := fun x h => put_range _
 put := fun x rest h hb hl => by
  obtain ⟨n, r⟩ := x
  have hr := stMay_range h
  dsimp only at h hl ⊢
  have hlt : stNum n r < 18446744073709551616 := by unfold stNum; omega
  have hg := getL_eq (by_app (put_range (stNum n r)) hb) (by omega) (isGet_put (stNum n r) hlt rest)
  have e1 : ((stNum n r : Nat) : Int) / 8 = n := by unfold stNum; omega
  have e2 : ((stNum n r : Nat) : Int) % 8 = r := by unfold stNum; omega
  have hs : stGetP (getL (put (stNum n r) ++ rest)) = ((n, r), ((put (stNum n r)).length : Int), true) := by
   rw [hg]
   unfold stGetP
   dsimp only
   rw [e1, e2, if_pos ⟨rfl, h⟩]
  unfold stR
  dsimp only
  rw [hs]
  dsimp only
  rw [skipR_ok rfl rfl (by show ((put (stNum n r)).length : Int).toNat ≤ (put (stNum n r) ++ rest).length; rw [List.length_append]; omega)]
  show (_, (⟨(put (stNum n r) ++ rest).drop ((put (stNum n r)).length : Int).toNat, false⟩ : Rd)) = _
  rw [Int.toNat_natCast, List.drop_left]
 suf := fun s => skipR_suf s _ _
 got := fun s hb hl h => by
  obtain ⟨g1, g2, g3, g4⟩ := skipR_got h
  have hi := getL_is hb (by omega)
  have hc : (getL s.b).2.2 = true ∧ stMay ((getL s.b).1 / 8) ((getL s.b).1 % 8) = true := by
   by_cases hc : (getL s.b).2.2 = true ∧ stMay ((getL s.b).1 / 8) ((getL s.b).1 % 8) = true
   ·exact hc
   ·unfold stGetP at g2
    rw [if_neg hc] at g2
    cases g2
  have hs : stGetP (getL s.b) = (((getL s.b).1 / 8, (getL s.b).1 % 8), (getL s.b).2.1, true) := if_pos hc
  rcases hi with ⟨m, hm, ⟨r, hr⟩, hg⟩ | ⟨_, hg⟩
  ·rw [hg] at hs hc
   dsimp only at hs hc
   have e : stR s = (((m : Int) / 8, (m : Int) % 8), ⟨r, false⟩) := by
    unfold stR
    rw [hg, hs]
    dsimp only
    rw [hg, hs] at g4
    dsimp only at g4
    rw [g4]
    dsimp only
    rw [Int.toNat_natCast, ← hr, List.drop_left]
   rw [e]
   refine ⟨g1, hc.2, ?_⟩
   show s.b = put (stNum ((m : Int) / 8) ((m : Int) % 8)) ++ r
   have : stNum ((m : Int) / 8) ((m : Int) % 8) = m := by unfold stNum; omega
   rw [this, hr]
  ·rw [hg] at hc
   exact absurd hc.1 (by simp)
end
section
open Go.ChangeShapes Go.WideShapes Go.ChangeAt Go.RowKit Go.Deep Go.Proofs.YtchaegfdcdlfaaaW.PrintWords Go.Proofs.YtchaegfdcdlfaaaW.PrintLast Go.Proofs.YtchaegfdcdlfaaaW.PrintMore
variable {H : Type} {enc : TypeId × Value → H} {w : World} {base : Nat} {spare : Nat → Bool} {held : Bool}
theorem trod_stamp {fuel : Nat} {cs : List Value} {x : DataW H × List MemPlace} (h : DataW.trod enc Try.prog w base spare held fuel 96 cs = some x) : ∃ n r : Int, cs = [.int .i64 n, .int .i64 r] ∧ (Lit.int .i64 n).wf = true ∧ (Lit.int .i64 r).wf = true := by
 obtain ⟨y0, y1, n, rfl, hl, h0, h1⟩ := trod_struct2 Try.underlying96 h
 obtain ⟨a, ha, _, hwa⟩ := DataW.trod_int (k := .i64) (by kernel_rfl) h0
 obtain ⟨b, hb, _, hwb⟩ := DataW.trod_int (k := .i64) (by kernel_rfl) h1
 have h2 : cs.length = 2 := by rw [hl]; kernel_rfl
 refine ⟨a, b, ?_, hwa, hwb⟩
 match cs, h2 with
 | [v0, v1], _ =>
  have ha2 : [v0] = [.int .i64 a] := ha
  have hb2 : [v1] = [.int .i64 b] := hb
  simp only [List.cons.injEq, and_true] at ha2 hb2
  rw [ha2, hb2]
end
section
open Go.Proofs.Ytchaegfdcdlfaaa.Y (IsGet Bytes RdB rdb_below)
open Go.RowKit Go.Proofs.YtchaegfdcdlfaaaW.PrintWords Go.Proofs.YtchaegfdcdlfaaaW.PrintLast Go.Proofs.YtchaegfdcdlfaaaW.PrintMore
theorem V_of_C {w : World} {b : Nat} {A : Option Addr} {c : Nat} {l : List Int} (h : Kd.C (Kd.int .u8) w A l.length l) (hc : l.length ≤ c) : Kd.V (Kd.int .u8) 5 w b (fun _ => True) (.slice A l.length c) l := by
 refine ⟨A, c, rfl, hc, fun W' hW => ⟨h.1, h.2.1, fun h0 => ?_⟩⟩
 obtain ⟨ad, e, hcell⟩ := h.2.2 h0
 refine ⟨ad, e, fun j p hj => ?_⟩
 obtain ⟨cs, h1, h2, h3⟩ := hcell j p hj
 refine ⟨cs, h1, h2, fun i u hi => ?_⟩
 have hx := h3 i u hi
 have hlt := World.block_lt_of_cell? w _ hx
 rw [← hx]
 have := hW _ trivial hlt
 simp only [World.cell?, this]
end
section
open Go.Proofs.Ytchaegfdcdlfaaa.Y (IsGet Bytes RdB four word put Put_eq Word_eq word_bytes word_length four_word put_range put_length put_length_pos isGet_put word_four more more_small put_unique)
open Go.RowKit Go.Proofs.YtchaegfdcdlfaaaW.PrintWords Go.Proofs.YtchaegfdcdlfaaaW.PrintLast Go.Proofs.YtchaegfdcdlfaaaW.PrintMore
theorem open_kind {l : List Int} (h : 10 ≤ rd l 0) : openL l = (0, [], 0, 2) := by
 unfold openL openR
 rw [if_pos (Or.inr h)]
end
section
open Go.Proofs.Ytchaegfdcdlfaaa.Y (IsGet Bytes RdB four word put put_range put_length put_length_pos isGet_put word_four word_length)
open Go.RowKit Go.Proofs.YtchaegfdcdlfaaaW.PrintWords Go.Proofs.YtchaegfdcdlfaaaW.PrintLast Go.Proofs.YtchaegfdcdlfaaaW.PrintMore
theorem open_back {l : List Int} (hb : Bytes l) (hl : l.length ≤ 100000000) : (∃ k, k ≠ 0 ∧ openL l = (0, [], 0, k)) ∨
  ∃ a b rest, 0 ≤ a ∧ a ≤ 9 ∧ Bytes b ∧ b.length ≤ 100000 ∧ l = packL a b ++ rest ∧ openL l = (a, b, ((packL a b).length : Int), 0) := by
 have hg := getL_is (drop_bytes hb 1) (by rw [List.length_drop]; omega)
 by_cases h0 : l.length = 0
 ·exact Or.inl ⟨2, by decide, by unfold openL openR; rw [if_pos (Or.inl h0)]⟩
 ·by_cases h10 : 10 ≤ rd l 0
  ·exact Or.inl ⟨2, by decide, open_kind h10⟩
  ·by_cases hc : (getL (l.drop 1)).2.2 = false ∨ 100000 < (getL (l.drop 1)).1 ∨ (l.length : Int) < 1 + (getL (l.drop 1)).2.1 + (getL (l.drop 1)).1 + 4
   ·exact Or.inl ⟨2, by decide, by unfold openL openR; rw [if_neg (by omega), if_pos hc]⟩
   ·rcases hg with ⟨m, hm, ⟨r, hr⟩, hge⟩ | ⟨_, hge⟩
    ·obtain ⟨a, t, rfl⟩ : ∃ a t, l = a :: t := by
      cases l with
      | nil => exact absurd rfl h0
      | cons a t => exact ⟨a, t, rfl⟩
     have ha : rd (a :: t) 0 = a := rfl
     rw [ha] at h10
     have hab := hb a (by simp)
     have hr' : put m ++ r = t := hr
     subst hr'
     have hgo : getL ((a :: (put m ++ r)).drop 1) = ((m : Int), ((put m).length : Int), true) := hge
     rw [hgo] at hc
     have hc2 : m ≤ 100000 ∧ m + 4 ≤ r.length := by
      constructor
      ·have := fun h => hc (Or.inr (Or.inl h))
       simp only at this
       omega
      ·have := fun h => hc (Or.inr (Or.inr h))
       have hz : ((a :: (put m ++ r)).length : Int) = 1 + ((put m).length : Int) + (r.length : Int) := by
        simp only [List.length_cons, List.length_append]; omega
       rw [hz] at this
       have h2 : ¬ (1 + ((put m).length : Int) + (r.length : Int) < 1 + ((put m).length : Int) + (m : Int) + 4) := this
       omega
     have hrb : Bytes r := fun x hx => hb x (by simp [hx])
     obtain ⟨b, hbd⟩ : ∃ b, b = r.take m := ⟨_, rfl⟩
     obtain ⟨q, hq⟩ : ∃ q, q = (r.drop m).take 4 := ⟨_, rfl⟩
     obtain ⟨z, hz⟩ : ∃ z, z = (r.drop m).drop 4 := ⟨_, rfl⟩
     have hbl : b.length = m := by rw [hbd, List.length_take]; omega
     have hq4 : q.length = 4 := by rw [hq, List.length_take, List.length_drop]; omega
     have hbb : Bytes b := fun x hx => hrb x (by rw [hbd] at hx; exact List.mem_of_mem_take hx)
     have hqb : Bytes q := fun x hx => hrb x (by rw [hq] at hx; exact List.mem_of_mem_drop (List.mem_of_mem_take hx))
     have hrs : r = b ++ (q ++ z) := by rw [hbd, hq, hz, List.take_append_drop, List.take_append_drop]
     have hL : a :: (put m ++ r) = headL a b ++ (q ++ z) := by
      rw [hrs]
      unfold headL
      rw [hbl]
      simp
     have hH := headL_length a b
     rw [hbl] at hH
     by_cases he : (four q : Int) = sumL (headL a b)
     ·have hw : q = word (crc (nats (headL a b))) := by
       have h1 := word_four q hq4 hqb
       unfold sumL at he
       rw [show four q = crc (nats (headL a b)) by omega] at h1
       exact h1.symm
      have hP : a :: (put m ++ r) = packL a b ++ z := by
       rw [hL]
       unfold packL
       rw [hw, List.append_assoc]
      refine Or.inr ⟨a, b, z, hab.1, by omega, hbb, by omega, hP, ?_⟩
      rw [hP]
      refine open_pack hab.1 (by omega) hbb (by omega) (fun x hx => hrb x (by rw [hrs]; simp [hx])) ?_
      have := congrArg List.length hrs
      simp only [List.length_append] at this
      simp only [List.length_cons, List.length_append] at hl
      omega
     ·refine Or.inl ⟨3, by decide, ?_⟩
      have e1 : 1 + (put m).length + m = (headL a b).length := by omega
      have ht : (a :: (put m ++ r)).take (1 + (put m).length + m) = headL a b := by rw [hL, e1, List.take_left]
      have hm2 : ((a :: (put m ++ r)).take (1 + (put m).length + m + 4)).drop (1 + (put m).length + m) = q := by
       rw [hL, e1, List.drop_take, List.drop_left, show (headL a b).length + 4 - (headL a b).length = q.length by omega, List.take_left]
      unfold openL openR
      rw [if_neg (by rw [ha]; simp only [List.length_cons]; omega), hgo, if_neg hc]
      simp only [Int.toNat_natCast]
      rw [ht, hm2, if_pos he]
    ·exact absurd (Or.inl (by rw [hge])) hc
end
section
open Go.Proofs.Ytchaegfdcdlfaaa.Y (IsGet Bytes four word put put_range put_length put_length_pos isGet_put word_four four_word word_length word_bytes put_unique)
structure Tame {α : Type} (f : Rd → α × Rd) : Prop where
 suf : ∀ s, ∃ k, (f s).2.b = s.b.drop k
 bad : ∀ s, (f s).2.bad = false → s.bad = false
theorem Tame.seq {α β : Type} {f : Rd → α × Rd} {g : α → Rd → β × Rd} (hf : Tame f) (hg : ∀ x, Tame (g x)) : Tame (seqR f g) where
 suf := fun s => by
  obtain ⟨k, hk⟩ := hf.suf s
  obtain ⟨m, hm⟩ := (hg (f s).1).suf (f s).2
  exact ⟨k + m, by show (g (f s).1 (f s).2).2.b = _; rw [hm, hk, List.drop_drop]⟩
 bad := fun s h => hf.bad s ((hg _).bad _ h)
theorem Tame.iso {α β : Type} {f : Rd → α × Rd} (hf : Tame f) (u : α → β) : Tame (fun s => (u (f s).1, (f s).2)) := ⟨hf.suf, hf.bad⟩
theorem take_tame (n : Nat) : Tame (takeR n) := ⟨fun s => skipR_suf s n true, fun s h => skip_bad_of _ _ _ h⟩
theorem byte_tame : Tame byteR := ⟨fun s => skipR_suf s 1 true, fun s h => skip_bad_of _ _ _ h⟩
theorem num_tame (m : Int) : Tame (numR m) := ⟨fun s => skipR_suf s _ _, fun s h => skip_bad_of _ _ _ h⟩
theorem st_tame : Tame stR := ⟨fun s => skipR_suf s _ _, fun s h => skip_bad_of _ _ _ h⟩
theorem Good.seq' {α β : Type} {f : Rd → α × Rd} {g : α → Rd → β × Rd} {B : α → List Int} {C : α → β → List Int} {P : α → Prop} {Q : α → β → Prop} (hf : Good f B P) (hg : ∀ x, P x → Good (g x) (C x) (Q x)) (ht : ∀ x, Tame (g x)) :
  Good (seqR f g) (fun p => B p.1 ++ C p.1 p.2) (fun p => P p.1 ∧ Q p.1 p.2) := hf.seq hg (fun x s => (ht x).suf s) (fun x s h => (ht x).bad s h)
theorem Good.iso' {α β : Type} {f : Rd → α × Rd} {B : α → List Int} {P : α → Prop} (h : Good f B P) (u : α → β) (v : β → α) (hv : ∀ x, P x → v (u x) = x) (huv : ∀ y, u (v y) = y) :
  Good (fun s => (u (f s).1, (f s).2)) (fun y => B (v y)) (fun y => P (v y)) where
 byt := fun y hy => h.byt _ hy
 put := fun y rest hy hb hl => by show (u (f ⟨B (v y) ++ rest, false⟩).1, _) = _; rw [h.put _ rest hy hb hl, huv]
 suf := fun s => h.suf s
 got := fun s hb hl hs => by
  obtain ⟨h1, h2, h3⟩ := h.got s hb hl hs
  exact ⟨h1, by show P (v (u _)); rwa [hv _ h2], by show s.b = B (v (u _)) ++ _; rwa [hv _ h2]⟩
theorem allB_le {α : Type} {B : α → List Int} {c : Nat} : ∀ {l : List α}, (∀ x ∈ l, (B x).length ≤ c) → (allB B l).length ≤ c * l.length
 | [], _ => Nat.le_refl _
 | a :: l, h => by
  show (B a ++ allB B l).length ≤ c * (l.length + 1)
  have h1 := h a (by simp)
  have h2 := allB_le (B := B) (c := c) (l := l) (fun x hx => h x (by simp [hx]))
  rw [List.length_append, Nat.mul_add]
  omega
theorem put_len3 {n : Nat} (h : n < 2097152) : (put n).length ≤ 3 := by
 by_cases h1 : n < 128
 ·unfold put; rw [if_pos h1]; simp
 ·unfold put
  rw [if_neg h1]
  unfold Y.more
  split
  ·simp
  ·unfold Y.more
   rw [if_pos (by omega)]
   simp
end
section
open Go.RowKit Go.Proofs.YtchaegfdcdlfaaaW.PrintWords Go.Proofs.YtchaegfdcdlfaaaW.PrintLast Go.Proofs.YtchaegfdcdlfaaaW.PrintMore
def At (W : World) (a : Addr) (cs : Array Value) : Prop := ∀ j v, cs[j]? = some v → W.cell? (a.add j) = some v
theorem At.below {W W1 : World} {a : Addr} {cs : Array Value} (h : At W a cs) (hb : Below W.heap.size W W1) : At W1 a cs := fun j v hj => (hb.cell (World.block_lt_of_cell? W _ (h j v hj))).trans (h j v hj)
theorem add_lit (a : Addr) {k : Nat} (h : k ≠ 0) : a.add k = ⟨a.block, a.off + k, none⟩ := by unfold Addr.add; rw [if_neg h]
theorem add_at (b j : Nat) : (⟨b, 0, none⟩ : Addr).add j = ⟨b, j, none⟩ := by unfold Addr.add; split <;> simp_all
theorem At.blk {W : World} {g t : Nat} {cs : Array Value} (h : W.heap[g]? = some (.cells cs t (0, 0))) : At W ⟨g, 0, none⟩ cs := fun j v hj => by rw [add_at, blk_cell h]; exact hj
theorem At.part {W : World} {a : Addr} {l m r : List Value} (h : At W a (l ++ (m ++ r)).toArray) (k : Nat) (hk : l.length = k) : At W (a.add k) m.toArray := fun j v hj => by
 rw [List.getElem?_toArray] at hj
 have hjl : j < m.length := (List.getElem?_eq_some_iff.1 hj).1
 have := h (k + j) v (by rw [List.getElem?_toArray, List.getElem?_append_right (by omega), hk, show k + j - k = j by omega, List.getElem?_append_left hjl]; exact hj)
 rw [show (a.add k).add j = a.add (k + j) by unfold Addr.add; by_cases h1 : k = 0 <;> by_cases h2 : j = 0 <;> simp [h1, h2, Nat.add_assoc]]
 exact this
theorem At.head {W : World} {a : Addr} {m r : List Value} (h : At W a (m ++ r).toArray) : At W a m.toArray := fun j v hj => by
 rw [List.getElem?_toArray] at hj
 have hjl : j < m.length := (List.getElem?_eq_some_iff.1 hj).1
 exact h j v (by rw [List.getElem?_toArray, List.getElem?_append_left hjl]; exact hj)
end
section
open Go.RowKit Go.Proofs.YtchaegfdcdlfaaaW.PrintWords Go.Proofs.YtchaegfdcdlfaaaW.PrintLast Go.Proofs.YtchaegfdcdlfaaaW.PrintMore
variable {P : Program} {md : Region.Mode} {ops : Array Oper} {Q : Exit → Act → World → Prop} {S : World → Prop}
theorem tk {i : Nat} {oi : Oper} {v : Value} {fuel : Nat} {listed : Array Bool} {a : Act} {w : World} (hi : ops[i]? = some oi)
  (hb : (Region.noSelect ops && (Region.free md ops listed i && (Region.ready md ops listed).contains i)) = true)
  (hQ : ∀ c a w, Q (.panic c) (a.put oi.dst v) w → Q (.panic c) a w) (hS : S w) (hw : Region.wanted oi (yielded ops a.tmps) = true) (hy : ∀ W, S W → (execOp a.eval oi).run P W = .ok (.value v) W)
  (h : wpAnyH P md ops Q S fuel (listed.setIfInBounds i true) (a.put oi.dst v) w) : wpAnyH P md ops Q S (fuel + 1) listed a w := by
 simp only [Bool.and_eq_true] at hb
 exact wpAnyH_take hi hb.1 hb.2.1 hb.2.2 hQ (.inl ⟨hw, hy⟩) hS h
theorem tf {i : Nat} {oi : Oper} {fuel : Nat} {listed : Array Bool} {a : Act} {w : World} (hi : ops[i]? = some oi)
  (hb : (Region.noSelect ops && (Region.free md ops listed i && (Region.ready md ops listed).contains i)) = true)
  (hQ : ∀ c a w, Q (.panic c) (a.put oi.dst undef) w → Q (.panic c) a w) (hS : S w) (hw : Region.wanted oi (yielded ops a.tmps) = false)
  (h : wpAnyH P md ops Q S fuel (listed.setIfInBounds i true) (a.put oi.dst undef) w) : wpAnyH P md ops Q S (fuel + 1) listed a w := by
 simp only [Bool.and_eq_true] at hb
 exact wpAnyH_take hi hb.1 hb.2.1 hb.2.2 hQ (.inr ⟨hw, rfl⟩) hS h
theorem tq {i : Nat} {oi : Oper} {v : Value} {fuel : Nat} {listed : Array Bool} {a : Act} {w : World} (hy : ∀ W, S W → (execOp a.eval oi).run P W = .ok (.value v) W)
  (h : wpAnyH P md ops Q S fuel (listed.setIfInBounds i true) (a.put oi.dst v) w) (hi : ops[i]? = some oi := by simp only [List.getElem?_toArray, List.getElem?_cons_succ, List.getElem?_cons_zero]; rfl)
  (hb : (Region.noSelect ops && (Region.free md ops listed i && (Region.ready md ops listed).contains i)) = true := by kernel_rfl)
  (hQ : ∀ c a w, Q (.panic c) (a.put oi.dst v) w → Q (.panic c) a w := by exact fun _ _ _ h => h) (hS : S w := by assumption) (hw : Region.wanted oi (yielded ops a.tmps) = true := by rfl) : wpAnyH P md ops Q S (fuel + 1) listed a w := tk hi hb hQ hS hw hy h
end
section
open Go.RowKit Go.Maps Go.Proofs.YtchaegfdcdlfaaaW.PrintWords Go.Proofs.YtchaegfdcdlfaaaW.PrintLast Go.Proofs.YtchaegfdcdlfaaaW.PrintMore
structure OpT where
 kind : Int
 id : List Int
 n : Int
 rep : Int
 no : Int
 v : ByteArray
 p : List S67
 fro : List Int
 fno : Int
 d : List Int
abbrev OpW := Int × List Int × Int × Int × Int × ByteArray × List S67 × List Int × Int × List Int
def OpT.tup (x : OpT) : OpW := (x.kind, x.id, x.n, x.rep, x.no, x.v, x.p, x.fro, x.fno, x.d)
def opK : Kd OpT := Kd.iso (Kd.pair (Kd.int .i64) (Kd.pair (arrK 16) (Kd.pair (Kd.int .i64) (Kd.pair (Kd.int .i64) (Kd.pair (Kd.int .i64) (Kd.pair Kd.string (Kd.pair (Kd.slice 67 k67) (Kd.pair (arrK 16) (Kd.pair (Kd.int .i64) (arrK 32)))))))))) OpT.tup
def batK : Kd (List OpT) := Kd.slice 98 opK
theorem batK_sz : batK.sz = 1 := rfl
theorem cellsOp : Try.prog.cellsOf 98 = 71 := by kernel_rfl
theorem cellsPlan : Try.prog.cellsOf 81 = 33 := by kernel_rfl
theorem infoOp : (Try.prog.info? 98).map (·.size) = some 71 := by kernel_rfl
theorem infoPlan : (Try.prog.info? 81).map (·.size) = some 33 := by kernel_rfl
def opC (x : OpT) (A : Option Addr) (c : Nat) : List Value :=
 .int .i64 x.kind :: (nums .u8 x.id ++ (.int .i64 x.n :: .int .i64 x.rep :: .int .i64 x.no :: .string x.v :: .slice A x.p.length c :: (nums .u8 x.fro ++ (.int .i64 x.fno :: nums .u8 x.d))))
theorem opK_K {w : World} {x : OpT} {cs : List Value} : opK.K w x cs ↔ ∃ A c, cs = opC x A c ∧ x.id.length = 16 ∧ x.fro.length = 16 ∧ x.d.length = 32 ∧ x.p.length ≤ c ∧ Kd.C k67 w A x.p.length x.p := by
 constructor
 ·rintro ⟨c0, _, rfl, h0, c1, _, rfl, h1, c2, _, rfl, h2, c3, _, rfl, h3, c4, _, rfl, h4, c5, _, rfl, h5, c6, _, rfl, ⟨A, c, h6, hc, hC⟩, c7, _, rfl, h7, c8, c9, rfl, h8, h9⟩
  obtain rfl : c0 = [.int .i64 x.kind] := h0
  obtain ⟨rfl, hid⟩ : c1 = nums .u8 x.id ∧ x.id.length = 16 := h1
  obtain rfl : c2 = [.int .i64 x.n] := h2
  obtain rfl : c3 = [.int .i64 x.rep] := h3
  obtain rfl : c4 = [.int .i64 x.no] := h4
  obtain rfl : c5 = [.string x.v] := h5
  obtain rfl : c6 = [.slice A x.p.length c] := h6
  obtain ⟨rfl, hfr⟩ : c7 = nums .u8 x.fro ∧ x.fro.length = 16 := h7
  obtain rfl : c8 = [.int .i64 x.fno] := h8
  obtain ⟨rfl, hd⟩ : c9 = nums .u8 x.d ∧ x.d.length = 32 := h9
  exact ⟨A, c, rfl, hid, hfr, hd, hc, hC⟩
 ·rintro ⟨A, c, rfl, hid, hfr, hd, hc, hC⟩
  exact ⟨[.int .i64 x.kind], _, rfl, rfl, nums .u8 x.id, _, rfl, ⟨rfl, hid⟩, [.int .i64 x.n], _, rfl, rfl, [.int .i64 x.rep], _, rfl, rfl, [.int .i64 x.no], _, rfl, rfl, [.string x.v], _, rfl, rfl, [.slice A x.p.length c], _, rfl, ⟨A, c, rfl, hc, hC⟩, nums .u8 x.fro, _, rfl, ⟨rfl, hfr⟩, [.int .i64 x.fno], _, rfl, rfl, ⟨rfl, hd⟩⟩
theorem batK_K {w : World} {l : List OpT} {cs : List Value} : batK.K w l cs ↔ ∃ A c, cs = [.slice A l.length c] ∧ l.length ≤ c ∧ Kd.C opK w A l.length l := Iff.rfl
def zOp : OpT := ⟨0, [], 0, 0, 0, ⟨#[]⟩, [], [], 0, []⟩
theorem op_at {W : World} {A : Option Addr} {n : Nat} {l : List OpT} (h : Kd.C opK W A n l) {i : Nat} (hi : i < n) (x : OpT) (hx : l.getD i zOp = x) :
  ∃ ad B c, A = some ad ∧ (x.id.length = 16 ∧ x.fro.length = 16 ∧ x.d.length = 32) ∧ x.p.length ≤ c ∧ Kd.C k67 W B x.p.length x.p ∧ At W (ad.add (i * 71)) (opC x B c).toArray := by
 obtain ⟨ad, cs, hA, hcl, hk, hcell⟩ := Kd.C_get h zOp (i : Int) (by omega) (by omega)
 rw [Int.toNat_natCast, hx] at hk
 rw [Int.toNat_natCast] at hcell
 obtain ⟨B, c, rfl, h1, h2, h3, hc, hC⟩ := opK_K.1 hk
 refine ⟨ad, B, c, hA, ⟨h1, h2, h3⟩, hc, hC, fun j v hv => ?_⟩
 rw [show (ad.add (i * 71)).add j = ad.add (i * 71 + j) by unfold Addr.add; by_cases h1 : i * 71 = 0 <;> by_cases h2 : j = 0 <;> simp [h1, h2, Nat.add_assoc]]
 exact hcell j v (by simpa using hv)
theorem bat_at {W : World} {A : Option Addr} {n : Nat} {l : List (List OpT)} (h : Kd.C batK W A n l) {i : Nat} (hi : i < n) (x : List OpT) (hx : l.getD i [] = x) :
  ∃ ad B c, A = some ad ∧ x.length ≤ c ∧ Kd.C opK W B x.length x ∧ W.cell? (ad.add i) = some (.slice B x.length c) := by
 obtain ⟨ad, cs, hA, hcl, hk, hcell⟩ := Kd.C_get h [] (i : Int) (by omega) (by omega)
 rw [Int.toNat_natCast, hx] at hk
 rw [Int.toNat_natCast] at hcell
 obtain ⟨B, c, rfl, hc, hC⟩ := batK_K.1 hk
 have := hcell 0 _ rfl
 rw [batK_sz, Nat.mul_one, Nat.add_zero] at this
 exact ⟨ad, B, c, hA, hc, hC, this⟩
structure PlanT where
 base : List Int
 b : List (List OpT)
def planC (x : PlanT) (A : Option Addr) (c : Nat) : List Value := nums .u8 x.base ++ [.slice A x.b.length c]
theorem opC_len {x : OpT} (h : x.id.length = 16 ∧ x.fro.length = 16 ∧ x.d.length = 32) (A : Option Addr) (c : Nat) : (opC x A c).length = 71 := by simp [opC, nums, h.1, h.2.1, h.2.2]
theorem opC_one (x : OpT) (A : Option Addr) (c : Nat) : (opC x A c).toArray.all (·.oneCell') = true := by
 rw [Array.all_eq_true_iff_forall_mem]
 intro v hv
 simp only [opC, List.mem_toArray, List.mem_cons, List.mem_append, nums, List.mem_map] at hv
 rcases hv with rfl | ⟨q, _, rfl⟩ | rfl | rfl | rfl | rfl | rfl | ⟨q, _, rfl⟩ | rfl | ⟨q, _, rfl⟩ <;> rfl
theorem opInfo {x : OpT} (h : x.id.length = 16 ∧ x.fro.length = 16 ∧ x.d.length = 32) (A : Option Addr) (c : Nat) : (Try.prog.info? 98).map (·.size) = some (opC x A c).toArray.size := by rw [List.size_toArray, opC_len h]; exact infoOp
end
section
open Go.RowKit Go.Proofs.YtchaegfdcdlfaaaW.PrintWords Go.Proofs.YtchaegfdcdlfaaaW.PrintLast Go.Proofs.YtchaegfdcdlfaaaW.PrintMore
attribute [local go_sem] max2_int min2_int max_two min_two max_three min_three max_four min_four
theorem all_drop {α : Type} (p : α → Bool) (l : List α) (i : Nat) (z : α) (hi : i < l.length) : (l.drop i).all p = (p (l.getD i z) && (l.drop (i + 1)).all p) := by
 rw [List.drop_eq_getElem_cons hi, List.all_cons, List.getD_eq_getElem?_getD, List.getElem?_eq_getElem hi, Option.getD_some]
def fewO (x : OpT) : Bool := decide (x.p.length ≤ 80) && decide (x.v.size ≤ 300)
def fewOs (l : List OpT) : Bool := decide (l.length ≤ 130) && l.all fewO
def fewB (l : List OpT) : Bool := fewOs l && decide (l.length ≤ 24)
def fewP (p : PlanT) : Bool := decide (p.b.length ≤ 20) && p.b.all fewB
theorem opC_at {x : OpT} (h : x.id.length = 16 ∧ x.fro.length = 16 ∧ x.d.length = 32) (A : Option Addr) (c : Nat) :
  (opC x A c).toArray[0]? = some (.int .i64 x.kind) ∧ (opC x A c).toArray[17]? = some (.int .i64 x.n) ∧ (opC x A c).toArray[18]? = some (.int .i64 x.rep) ∧ (opC x A c).toArray[19]? = some (.int .i64 x.no) ∧ (opC x A c).toArray[20]? = some (.string x.v) ∧ (opC x A c).toArray[21]? = some (.slice A x.p.length c) ∧ (opC x A c).toArray[38]? = some (.int .i64 x.fno) := by
 obtain ⟨h1, h2, h3⟩ := h
 have hl : (nums .u8 x.id).length = 16 := by simp [nums, h1]
 have hf : (nums .u8 x.fro).length = 16 := by simp [nums, h2]
 have e : ∀ k, (opC x A c).toArray[k + 17]? = (.int .i64 x.n :: .int .i64 x.rep :: .int .i64 x.no :: .string x.v :: .slice A x.p.length c :: (nums .u8 x.fro ++ (.int .i64 x.fno :: nums .u8 x.d)))[k]? := fun k => by
  rw [List.getElem?_toArray]
  show (nums .u8 x.id ++ _)[k + 16]? = _
  rw [List.getElem?_append_right (by omega), hl, Nat.add_sub_cancel]
 refine ⟨rfl, e 0, e 1, e 2, e 3, e 4, ?_⟩
 rw [e 21]
 show (nums .u8 x.fro ++ _)[16]? = _
 rw [List.getElem?_append_right (by omega), hf]
 rfl
set_option maxHeartbeats 2000000 in
theorem fewos_call (l : List OpT) (A : Option Addr) (c : Nat) (w : World) (hC : Kd.C opK w A l.length l) :
  Calls Try.prog 75 #[.slice A l.length c] w fun e w' => e = .returned (.bool (fewOs l)) ∧ w = w' := by
 have HLEN := am hC.2.1
 have HC := am hC
 clear hC
 by_cases h14 : l.length > 130
 ·have HRES : Aside0 (fewOs l = false) := ⟨by unfold fewOs; rw [decide_eq_false (by omega)]; rfl⟩
  have e1 : decide ((l.length : Int) > 130) = true := by simp; omega
  have e2 : decide (l.length > 130) = true := by simp; omega
  clear h14
  go_enter Try.func75, Try.ntmps75
  go_wp2_with fail
  go_ret
  exact ⟨by rw [HRES.out]; rfl, rfl⟩
 have HRES : Aside0 (fewOs l = l.all fewO) := ⟨by unfold fewOs; rw [decide_eq_true (by omega)]; rfl⟩
 have e1 : decide ((l.length : Int) > 130) = false := by simp; omega
 have e2 : decide (l.length > 130) = false := by simp; omega
 clear h14
 go_enter Try.func75, Try.ntmps75
 go_wp2_with fail
 go_loop [3] (fun v3 => ∃ i : Nat, v3 = .int .i64 i ∧ Aside0 (i ≤ l.length) ∧ Aside0 ((l.drop i).all fewO = l.all fewO)) (fun v3 => l.length - (intOf v3).toNat)
 case atStart => exact ⟨0, rfl, ⟨Nat.zero_le _⟩, ⟨rfl⟩⟩
 case round =>
  obtain ⟨i, rfl, HI0, HE⟩ := hrel
  by_cases hi : i < l.length
  ·obtain ⟨x, hx⟩ : ∃ x, x = l.getD i zOp := ⟨_, rfl⟩
   obtain ⟨ad, B, cb, hA, hid, hbc, hCb, hcell⟩ := op_at HC.out hi x hx.symm
   have HSTEP := am (all_drop fewO l i zOp hi)
   rw [← hx] at HSTEP
   subst hA
   obtain ⟨_, _, _, _, k20, k21, _⟩ := opC_at hid B cb
   have g20 := hcell 20 _ k20
   have g21 := hcell 21 _ k21
   rw [add_lit _ (by decide)] at g20 g21
   obtain ⟨e3, e4⟩ := ltY hi
   have e4n : (i < l.length) = True := by simpa using hi
   have e5 : (0 ≤ (i : Int)) = True := by simp
   have e6 := wr1 (i := i) (by have := HLEN.out; omega)
   have HI := am hi
   clear hi hcell hCb hbc hid hx k20 k21
   by_cases h8 : x.p.length > 80
   ·have HR2 : Aside0 (l.all fewO = false) := ⟨by rw [← HE.out, HSTEP.out]; unfold fewO; rw [decide_eq_false (by omega)]; rfl⟩
    have e7 : decide ((x.p.length : Int) > 80) = true := by simp; omega
    have e8 : decide (x.p.length > 80) = true := by simp; omega
    clear h8
    go_wp2_with fail
    go_ret
    exact ⟨by rw [HRES.out, HR2.out]; rfl, rfl⟩
   have e7 : decide ((x.p.length : Int) > 80) = false := by simp; omega
   have e8 : decide (x.p.length > 80) = false := by simp; omega
   by_cases h3 : x.v.size > 300
   ·have HR2 : Aside0 (l.all fewO = false) := ⟨by rw [← HE.out, HSTEP.out]; unfold fewO; rw [decide_eq_false (p := x.v.size ≤ 300) (by omega), Bool.and_false]; rfl⟩
    have e9 : decide ((x.v.size : Int) > 300) = true := by simp; omega
    have e10 : decide (x.v.size > 300) = true := by simp; omega
    clear h8 h3
    go_wp2_with fail
    go_ret
    exact ⟨by rw [HRES.out, HR2.out]; rfl, rfl⟩
   ·have HFE : Aside0 (fewO x = true) := ⟨by unfold fewO; rw [decide_eq_true (by omega), decide_eq_true (by omega)]; rfl⟩
    have e9 : decide ((x.v.size : Int) > 300) = false := by simp; omega
    have e10 : decide (x.v.size > 300) = false := by simp; omega
    clear h8 h3
    go_wp2_with fail
    go_round
    case rel => exact ⟨i + 1, by first | rfl | (simp [e6]; done), ⟨HI.out⟩, ⟨by rw [← HE.out, HSTEP.out, HFE.out]; rfl⟩⟩
    case measure => have := HI.out; simp [intOf, e6]; omega
  ·have hil : i = l.length := by have := HI0.out; omega
   obtain ⟨e3, e4⟩ := ltN hi
   have HR : Aside0 (l.all fewO = true) := ⟨by rw [← HE.out, hil, List.drop_length]; rfl⟩
   clear hi hil
   go_wp2_with fail
   go_ret
   exact ⟨by rw [HRES.out, HR.out]; rfl, rfl⟩
theorem planC_32 {m : PlanT} (h : m.base.length = 32) (A : Option Addr) (c : Nat) : (planC m A c).toArray[32]? = some (.slice A m.b.length c) := by
 have hl : (nums .u8 m.base).length = 32 := by simp [nums, h]
 unfold planC
 rw [List.getElem?_toArray, List.getElem?_append_right (by omega), hl]
 rfl
set_option maxHeartbeats 2000000 in
theorem fewp_call (p : PlanT) (A : Option Addr) (c : Nat) (w : World) (hb : p.base.length = 32) (hc : p.b.length ≤ c) (hC : Kd.C batK w A p.b.length p.b) :
  Calls Try.prog 69 #[.agg (planC p A c).toArray] w fun e w' => e = .returned (.bool (fewP p)) ∧ Below w.heap.size w w' := by
 have HLEN := am hC.2.1
 have hC1 : Kd.C batK (w.alloc (.cells (planC p A c).toArray 81)) A p.b.length p.b := Kd.C_alloc hC _
 have k32 := planC_32 hb A c
 obtain ⟨cs, hcs⟩ : ∃ cs, (planC p A c).toArray = cs := ⟨_, rfl⟩
 rw [hcs] at k32 hC1 ⊢
 have HC := am hC1
 have g32 := (blk_cell (blk_new w (.cells cs 81)) 32).trans k32
 clear hb hc hC hC1 hcs k32
 by_cases h14 : p.b.length > 20
 ·have HRES : Aside0 (fewP p = false) := ⟨by unfold fewP; rw [decide_eq_false (by omega)]; rfl⟩
  have e1 : decide ((p.b.length : Int) > 20) = true := by simp; omega
  have e2 : decide (p.b.length > 20) = true := by simp; omega
  clear h14
  go_enter Try.func69, Try.ntmps69
  go_wp2_with fail
  go_ret
  exact ⟨by rw [HRES.out]; rfl, below_alloc (Below.refl _ _) _⟩
 have HRES : Aside0 (fewP p = p.b.all fewB) := ⟨by unfold fewP; rw [decide_eq_true (by omega)]; rfl⟩
 have e1 : decide ((p.b.length : Int) > 20) = false := by simp; omega
 have e2 : decide (p.b.length > 20) = false := by simp; omega
 clear h14
 go_enter Try.func69, Try.ntmps69
 go_wp2_with fail
 go_loop [3, 4] (fun v3 v4 => ∃ i : Nat, v3 = .int .i64 i ∧ Aside0 (i ≤ p.b.length) ∧ Aside0 ((p.b.drop i).all fewB = p.b.all fewB)) (fun v3 v4 => p.b.length - (intOf v3).toNat)
 case atStart => exact ⟨0, rfl, ⟨Nat.zero_le _⟩, ⟨rfl⟩⟩
 case round =>
  obtain ⟨i, rfl, HI0, HE⟩ := hrel
  by_cases hi : i < p.b.length
  ·obtain ⟨x, hx⟩ : ∃ x, x = p.b.getD i [] := ⟨_, rfl⟩
   obtain ⟨ad, B, cb, hA, hbc, hCb, hcell⟩ := bat_at HC.out hi x hx.symm
   have HSTEP := am (all_drop fewB p.b i [] hi)
   rw [← hx] at HSTEP
   have HF := am (fewos_call x B cb _ hCb)
   have HLX := am hCb.2.1
   subst hA
   obtain ⟨e3, e4⟩ := ltY hi
   have e4n : (i < p.b.length) = True := by simpa using hi
   have e5 : (0 ≤ (i : Int)) = True := by simp
   have e6 := wr1 (i := i) (by have := HLEN.out; omega)
   have HI := am hi
   clear hi hCb hbc hx
   go_wp2_with fail
   refine HF.out.mono ?_
   rintro e_ w1 ⟨rfl, rfl⟩
   cases hfo : fewOs x
   ·have HR2 : Aside0 (p.b.all fewB = false) := ⟨by rw [← HE.out, HSTEP.out]; unfold fewB; rw [hfo]; rfl⟩
    clear hfo
    go_wp2_with fail
    go_ret
    exact ⟨by rw [HRES.out, HR2.out]; rfl, below_alloc (Below.refl _ _) _⟩
   by_cases h8 : x.length > 24
   ·have HR2 : Aside0 (p.b.all fewB = false) := ⟨by rw [← HE.out, HSTEP.out]; unfold fewB; rw [decide_eq_false (by omega), Bool.and_false]; rfl⟩
    have e7 : decide ((x.length : Int) > 24) = true := by simp; omega
    have e8 : decide (x.length > 24) = true := by simp; omega
    clear h8 hfo
    go_wp2_with fail
    go_ret
    exact ⟨by rw [HRES.out, HR2.out]; rfl, below_alloc (Below.refl _ _) _⟩
   ·have HFE : Aside0 (fewB x = true) := ⟨by unfold fewB; rw [hfo, decide_eq_true (by omega)]; rfl⟩
    have e7 : decide ((x.length : Int) > 24) = false := by simp; omega
    have e8 : decide (x.length > 24) = false := by simp; omega
    clear h8 hfo
    go_wp2_with fail
    go_round
    case rel => exact ⟨i + 1, by first | rfl | (simp [e6]; done), ⟨HI.out⟩, ⟨by rw [← HE.out, HSTEP.out, HFE.out]; rfl⟩⟩
    case measure => have := HI.out; simp [intOf, e6]; omega
  ·have hil : i = p.b.length := by have := HI0.out; omega
   obtain ⟨e3, e4⟩ := ltN hi
   have HR : Aside0 (p.b.all fewB = true) := ⟨by rw [← HE.out, hil, List.drop_length]; rfl⟩
   clear hi hil
   go_wp2_with fail
   go_ret
   exact ⟨by rw [HRES.out, HR.out]; rfl, below_alloc (Below.refl _ _) _⟩
end
section
open Go.RowKit Go.Proofs.YtchaegfdcdlfaaaW.PrintWords Go.Proofs.YtchaegfdcdlfaaaW.PrintLast Go.Proofs.YtchaegfdcdlfaaaW.PrintMore
open Go.Proofs.Ytchaegfdcdlfaaa.Y (Bytes RdB rdb_below rdb_drewN put_call row_slice)
theorem At.reads {W : World} {a : Addr} {xs : List Int} (h : At W a (cells8 xs)) (hm : xs.length ≤ 1000000000) : RdB W (some a) xs.length xs :=
 Kd.C_of_reads (d := (0 : Int)) (h1 := fun _ => rfl) ⟨rfl, by omega, fun _ => ⟨_, rfl, fun j hj => h j _ (by simp [cells8, List.getD_eq_getElem?_getD, hj])⟩⟩
def SlB (W : World) (v : Value) (l : List Int) : Prop := ∃ A c, v = .slice A l.length c ∧ l.length ≤ c ∧ RdB W A l.length l
theorem SlB.below {W W1 : World} {v : Value} {l : List Int} (h : SlB W v l) (hb : Below W.heap.size W W1) : SlB W1 v l := by
 obtain ⟨A, c, hv, hc, hr⟩ := h
 exact ⟨A, c, hv, hc, rdb_below hr hb⟩
theorem SlB.alloc {W : World} {v : Value} {l : List Int} (h : SlB W v l) (o : Obj) : SlB (W.alloc o) v l := h.below (below_alloc (Below.refl _ _) o)
theorem SlB.drew {W : World} {v : Value} {l : List Int} (h : SlB W v l) : SlB W.drew v l := h.below (below_drew (Below.refl _ _))
theorem SlB.of_R {W : World} {base : Nat} {ok : Nat → Prop} {v : Value} {l : List Int} (h : Kd.R (Kd.int .u8) 5 W base ok v l) : SlB W v l := row_slice h
theorem SlB.at {W : World} {a : Addr} {xs : List Int} (h : At W a (cells8 xs)) (n c : Nat) (hn : xs.length = n) (hc : n ≤ c) (hm : n ≤ 1000000000) : SlB W (.slice (some a) n c) xs := by
 subst hn
 exact ⟨_, _, rfl, hc, h.reads hm⟩
theorem SlB.one (W : World) (x : Int) : SlB (W.alloc (.cells #[.int .u8 x] 5)) (.slice (some ⟨W.heap.size, 0, none⟩) 1 1) [x] :=
 SlB.at (At.blk (cs := cells8 [x]) (blk_new W (.cells #[.int .u8 x] 5))) 1 1 rfl (Nat.le_refl _) (by omega)
inductive SlBs (W : World) : List Value → List (List Int) → Prop
 | nil : SlBs W [] []
 | cons {v : Value} {l : List Int} {vs : List Value} {ls : List (List Int)} (h : SlB W v l) (t : SlBs W vs ls) : SlBs W (v :: vs) (l :: ls)
theorem SlBs.get {W : World} : ∀ {vs : List Value} {ls : List (List Int)}, SlBs W vs ls → ∀ (j : Nat) (l : List Int), ls[j]? = some l → ∃ v, vs[j]? = some v ∧ SlB W v l
 | _, _, .nil, j, l, h => by simp at h
 | _, _, .cons h t, 0, l, hj => by
  obtain rfl := Option.some.inj hj
  exact ⟨_, rfl, h⟩
 | _, _, .cons h t, j + 1, l, hj => t.get j l (by simpa using hj)
theorem rows_C {W : World} {vs : List Value} {ls : List (List Int)} (h : SlBs W vs ls) (hn : ls.length ≤ 1000) :
  Kd.C (Kd.slice 5 (Kd.int .u8)) (W.alloc (.cells vs.toArray 40)) (some ⟨W.heap.size, 0, none⟩) ls.length ls := by
 refine ⟨rfl, by omega, fun _ => ⟨_, rfl, fun j l hj => ?_⟩⟩
 obtain ⟨v, hv, A, c, rfl, hc, hr⟩ := h.get j l hj
 refine ⟨[.slice A l.length c], rfl, ⟨A, c, rfl, hc, rdb_below hr (below_alloc (Below.refl _ _) _)⟩, fun i u hi => ?_⟩
 have hi0 : i = 0 := by
  have := (List.getElem?_eq_some_iff.1 hi).1
  simp at this
  exact this
 subst hi0
 obtain rfl := Option.some.inj hi
 show (W.alloc _).cell? ((⟨W.heap.size, 0, none⟩ : Addr).add (j * 1 + 0)) = _
 rw [Nat.mul_one, Nat.add_zero, add_at, blk_cell (blk_new W _), List.getElem?_toArray]
 exact hv
theorem cat_rows {W : World} {vs : List Value} {ls : List (List Int)} (h : SlBs W vs ls) (hn : ls.length ≤ 1000) (N : Nat) (hN : W.heap.size = N) (n : Nat) (hl : ls.length = n) (hf : ls.flatten.length ≤ 1000000000) (r : List Int) (hr : ls.flatten = r) :
  Calls Try.prog 83 #[.slice (some ⟨N, 0, none⟩) n n] (W.alloc (.cells vs.toArray 40)) fun e w' => (∃ A c, e = .returned (.slice A r.length c) ∧ r.length ≤ c ∧ RdB w' A r.length r) ∧ Below W.heap.size W w' := by
 subst hl
 subst hr
 subst hN
 have := cat_call (some ⟨W.heap.size, 0, none⟩) ls.length ls _ (rows_C h hn) hf (by omega)
 refine this.mono ?_
 rintro e w' ⟨v, rfl, hR, hB⟩
 obtain ⟨A, c, rfl, hc, hr⟩ := SlB.of_R hR
 exact ⟨⟨A, c, rfl, hc, hr⟩, below_step (below_alloc (Below.refl _ _) _) hB⟩
end
section
open Go.RowKit Go.Proofs.YtchaegfdcdlfaaaW.PrintWords Go.Proofs.YtchaegfdcdlfaaaW.PrintLast Go.Proofs.YtchaegfdcdlfaaaW.PrintMore
open Go.Proofs.Ytchaegfdcdlfaaa.Y (Bytes RdB IsGet rdb_below rdb_drop rdb_take get_call Get_eq put put_length)
attribute [local go_sem] max2_int min2_int max_two min_two max_three min_three max_four min_four
theorem getL_nat {l : List Int} (hb : Bytes l) (hl : l.length ≤ 1000000) : ∃ (gn gu : Nat) (gi : Bool), getL l = ((gn : Int), (gu : Int), gi) ∧ gn < 18446744073709551616 ∧ gu ≤ l.length ∧ gu ≤ 10 := by
 rcases getL_is hb (by omega) with ⟨m, hm, hp, hg⟩ | ⟨_, hg⟩
 ·exact ⟨m, (put m).length, true, hg, hm, hp.length_le, put_length m hm⟩
 ·exact ⟨0, 0, false, hg, by decide, Nat.zero_le _, by decide⟩
theorem grown_setn {W W1 : World} {r : Option Nat} (h : W.grownBy W1 r) {g : Nat} (hg : W.heap.size ≤ g) (j : Nat) (u : Value) : W.grownBy (W1.setCell ⟨g, j, none⟩ u) r :=
 ⟨h.os, h.tape, h.output, by have := h.size; simpa [World.setCell] using this, fun k hk hne => by rw [Below.heap_setCell _ _ _ _ (by show k ≠ g; omega)]; exact h.block k hk hne⟩
end
section
open Go.RowKit Go.Proofs.YtchaegfdcdlfaaaW.PrintWords Go.Proofs.YtchaegfdcdlfaaaW.PrintLast Go.Proofs.YtchaegfdcdlfaaaW.PrintMore
open Go.Proofs.Ytchaegfdcdlfaaa.Y (Bytes RdB IsGet rdb_below rdb_drop rdb_take get_call Get_eq put put_length four four_call)
attribute [local go_sem] max2_int min2_int max_two min_two max_three min_three max_four min_four
theorem grown_row {W W1 : World} {r : Option Nat} (h : W.grownBy W1 r) {g : Nat} (hg : W.heap.size ≤ g) (cs : Array Value) : W.grownBy (W1.setRow g cs) r :=
 ⟨h.os, h.tape, h.output, by rw [setRow_size]; exact h.size, fun k hk hne => by rw [setRow_other _ _ _ _ (by omega)]; exact h.block k hk hne⟩
theorem rdb_at {W : World} {A : Option Addr} {n : Nat} {l : List Int} (h : RdB W A n l) (hn : 0 < n) : ∃ ad, A = some ad ∧ At W ad (cells8 l) := by
 obtain ⟨ad, hA, _⟩ := Kd.at_int h 0 (by omega) (by omega)
 refine ⟨ad, hA, fun j v hj => ?_⟩
 have hjl : j < l.length := by
  have := (Array.getElem?_eq_some_iff.1 hj).1
  simpa [cells8] using this
 obtain ⟨ad2, e, hc⟩ := Kd.at_int h (j : Int) (by omega) (by have := h.1; omega)
 rw [hA] at e
 injection e with e
 subst e
 rw [Int.toNat_natCast] at hc
 rw [hc, ← hj]
 simp [cells8, rd, hjl]
end
section
open Go.RowKit Go.Proofs.YtchaegfdcdlfaaaW.PrintWords Go.Proofs.YtchaegfdcdlfaaaW.PrintLast Go.Proofs.YtchaegfdcdlfaaaW.PrintMore
theorem fill_some (place : Nat → Option (Nat × Nat)) : ∀ (parts : List (Nat × Value)) (off : Nat) (cells : Array Value), Laid place off parts → off + (partsL parts).length ≤ cells.size →
  Instr.fill place cells parts = some (cells.toList.take off ++ partsL parts ++ cells.toList.drop (off + (partsL parts).length)).toArray
 | [], off, cells, _, h => by
  simp only [partsL, List.length_nil, Nat.add_zero] at h
  simp only [Instr.fill, partsL, List.append_nil, List.length_nil, Nat.add_zero, List.take_append_drop, Array.toArray_toList]
 | (i, v) :: rest, off, cells, hl, h => by
  obtain ⟨hp, hr⟩ := hl
  simp only [partsL, List.length_append, Array.length_toList] at h
  unfold Instr.fill
  simp only [hp]
  rw [if_neg (by simp; omega)]
  have hf := fill_fold off v.cells.toList 0 cells (by simp; omega)
  have he : ((v.cells.toList.zipIdx 0).foldl (fun cs (p : Value × Nat) => cs.setIfInBounds (off + p.2) p.1) cells) = v.cells.zipIdx.foldl (fun cs (x : Value × Nat) => match x with | (c, j) => cs.setIfInBounds (off + j) c) cells := by
   rw [← Array.foldl_toList, Array.toList_zipIdx]
  rw [he] at hf
  generalize Array.foldl _ _ _ = cs' at hf
  simp only [Nat.add_zero, Array.length_toList] at hf
  have hs : cs'.size = cells.size := by
   have := congrArg List.length hf
   simp at this
   omega
  rw [fill_some place rest (off + v.cells.size) cs' hr (by rw [hs]; omega), hf]
  have hl2 : (cells.toList.take off ++ v.cells.toList).length = off + v.cells.size := by simp; omega
  have e1 : (cells.toList.take off ++ v.cells.toList ++ cells.toList.drop (off + v.cells.size)).take (off + v.cells.size) = cells.toList.take off ++ v.cells.toList := by
   rw [← hl2, List.take_left]
  have e2 : (cells.toList.take off ++ v.cells.toList ++ cells.toList.drop (off + v.cells.size)).drop (off + v.cells.size + (partsL rest).length) = cells.toList.drop (off + (partsL ((i, v) :: rest)).length) := by
   rw [← List.drop_drop, ← hl2, List.drop_left, hl2, List.drop_drop]
   congr 1
   simp [partsL]
   omega
  rw [e1, e2]
  simp only [partsL, List.append_assoc]
theorem exec_build_cells {P : Program} {a : Act} {o : Oper} {W : World} (t : TypeId) (parts : Array (Nat × Operand)) (ho : o.op = .build t parts) (cs : Array Value) (hf : P.built t (parts.map fun (i, x) => (i, a.eval x)).toList = some cs) :
  (execOp a.eval o).run P W = .ok (.value (.agg cs)) W := by
 unfold execOp
 simp only [ho, Sem.run_bind, run_build W t _ cs hf, Result.andThen_ok]
 rfl
def OnlyN (Fin : Act → World → Prop) : Exit → Act → World → Prop
 | .normal, a, w => Fin a w
 | _, _, _ => False
theorem cut_region {P : Program} {c : Code} {a : Act} {w : World} {Q : Exit → Act → World → Prop} (Fin : Act → World → Prop) (h : c.wp P (OnlyN Fin) a w) (hq : ∀ a w, Fin a w → Q .normal a w) : c.wp P Q a w :=
 Code.wp_mono (fun e a w he => by cases e <;> first | exact hq a w he | exact he.elim) h
end
section
open Go.RowKit Go.Proofs.YtchaegfdcdlfaaaW.PrintWords Go.Proofs.YtchaegfdcdlfaaaW.PrintLast Go.Proofs.YtchaegfdcdlfaaaW.PrintMore
open Go.Proofs.Ytchaegfdcdlfaaa.Y (Bytes RdB IsGet rdb_below rdb_drop rdb_take get_call Get_eq put put_length four four_call)
attribute [local go_sem] max2_int min2_int max_two min_two max_three min_three max_four min_four
theorem R_old {α : Type} {d : Kd α} {e base rb : Nat} {ok : Nat → Prop} {W W1 : World} {v : Value} {xs : List α} (h : d.R e W base ok v xs) (hg : W.grownBy W1 (some rb)) (hrb : rb < base) : d.R e W1 base ok v xs :=
 Kd.R_mono (Kd.R_grown (Kd.R_bound h) hg (fun k hk he => by injection he with he; have := hk.2.1; omega)) (fun _ hk => hk.1)
theorem R_row {α : Type} {d : Kd α} {e base : Nat} {ok : Nat → Prop} {W : World} {v : Value} {xs : List α} (h : d.R e W base ok v xs) {g t : Nat} {cells : Array Value} (hb : W.heap[g]? = some (.cells cells t (0, 0))) (ht : ∀ q, q ∈ e :: d.E → q ≠ t) (cs : Array Value) : d.R e (W.setRow g cs) base ok v xs :=
 Kd.R_mono (Kd.R_move (Kd.R_types h hb ht) (fun k hk => setRow_other _ _ _ _ hk.2)) (fun _ hk => hk.1)
theorem own_hi {α : Type} {d : Kd α} {e base : Nat} {ok : Nat → Prop} {W : World} {v : Value} {xs : List α} (h : d.R e W base ok v xs) (k : Nat) (hk : v.ownBlock = some k) : base ≤ k := by
 obtain ⟨inner, ho⟩ := Kd.R_own h
 exact own_base ho k hk
end
section
open Go.RowKit Go.Proofs.YtchaegfdcdlfaaaW.PrintWords Go.Proofs.YtchaegfdcdlfaaaW.PrintLast Go.Proofs.YtchaegfdcdlfaaaW.PrintMore
attribute [local go_sem] max2_int min2_int max_two min_two max_three min_three max_four min_four
theorem bel_cell {w w1 : World} {g i : Nat} {v : Value} (hb : Below w.heap.size w w1) (h : w.cell? ⟨g, i, none⟩ = some v) : w1.cell? ⟨g, i, none⟩ = some v := by
 have hl : g < w.heap.size := by
  unfold World.cell? at h
  cases hq : w.heap[g]? with
  | none => simp [hq] at h
  | some o => exact blk_lt hq
 have := hb.cell (p := ⟨g, i, none⟩) hl
 exact this.trans h
theorem stmay_call (n r : Int) (w : World) : Calls Try.prog 149 #[.agg #[.int .i64 n, .int .i64 r]] w fun e w' => e = .returned (.bool (stMay n r)) ∧ Below w.heap.size w w' :=
 stamp_May.calls n r (stMay n r) w (StMay_eq n r)
end
section
open Go.RowKit Go.Proofs.YtchaegfdcdlfaaaW.PrintWords Go.Proofs.YtchaegfdcdlfaaaW.PrintLast Go.Proofs.YtchaegfdcdlfaaaW.PrintMore
open Go.Proofs.Ytchaegfdcdlfaaa.Y (Bytes RdB put put_range put_length put_length_pos word word_length word_bytes rdb_below rdb_drewN put_call row_slice)
attribute [local go_sem] max2_int min2_int max_two min_two max_three min_three max_four min_four
theorem stput_call (n r : Int) (h : stMay n r = true) (w : World) : Calls Try.prog 104 #[.agg #[.int .i64 n, .int .i64 r]] w fun e w' => (∃ A c, e = .returned (.tuple #[.slice A (put (stNum n r)).length c, .bool true]) ∧ (put (stNum n r)).length ≤ c ∧ RdB w' A (put (stNum n r)).length (put (stNum n r))) ∧ Below w.heap.size w w' :=
 (stamp_Put.calls 20 n r _ _ w (StPut_eq h 20 (by decide))).mono fun e w' ⟨v, he, hR, hB⟩ => by
  obtain ⟨A, c, rfl, hc, hr⟩ := SlB.of_R hR
  exact ⟨⟨A, c, he, hc, hr⟩, hB⟩
theorem cat_own {W : World} {vs : List Value} {ls : List (List Int)} (h : SlBs W vs ls) (hn : ls.length ≤ 1000) (N : Nat) (hN : W.heap.size = N) (n : Nat) (hl : ls.length = n) (hf : ls.flatten.length ≤ 1000000000) (r : List Int) (hr : ls.flatten = r) :
  Calls Try.prog 83 #[.slice (some ⟨N, 0, none⟩) n n] (W.alloc (.cells vs.toArray 40)) fun e w' => (∃ A c, e = .returned (.slice A r.length c) ∧ Kd.R (Kd.int .u8) 5 w' W.heap.size (fun _ => True) (.slice A r.length c) r) ∧ Below W.heap.size W w' := by
 subst hl
 subst hr
 subst hN
 have := cat_call (some ⟨W.heap.size, 0, none⟩) ls.length ls _ (rows_C h hn) hf (by omega)
 refine this.mono ?_
 rintro e w' ⟨v, rfl, hR, hB⟩
 obtain ⟨A, c, rfl⟩ := Kd.R_slice hR
 exact ⟨⟨A, c, rfl, Kd.R_lower hR (by rw [show (W.alloc (.cells vs.toArray 40)).heap.size = W.heap.size + 1 from Array.size_push ..]; omega)⟩, below_step (below_alloc (Below.refl _ _) _) hB⟩
theorem allB_take {α : Type} (B : α → List Int) (l : List α) (i : Nat) (z : α) (hi : i < l.length) : allB B (l.take (i + 1)) = allB B (l.take i) ++ B (l.getD i z) := by
 rw [List.take_succ_eq_append_getElem hi, allB_snoc, List.getD_eq_getElem?_getD, List.getElem?_eq_getElem hi, Option.getD_some]
theorem take_len {α : Type} {B : α → List Int} {c : Nat} {l : List α} (h : ∀ x ∈ l, (B x).length ≤ c) (i : Nat) : (allB B (l.take i)).length ≤ c * l.length := by
 have h1 := allB_le (B := B) (c := c) (l := l.take i) (fun x hx => h x (List.mem_of_mem_take hx))
 have h2 : (l.take i).length ≤ l.length := by rw [List.length_take]; omega
 exact Nat.le_trans h1 (Nat.mul_le_mul_left c h2)
end
section
open Go.RowKit Go.Proofs.YtchaegfdcdlfaaaW.PrintWords Go.Proofs.YtchaegfdcdlfaaaW.PrintLast Go.Proofs.YtchaegfdcdlfaaaW.PrintMore
open Go.Proofs.Ytchaegfdcdlfaaa.Y (Bytes RdB rdb_below)
attribute [local go_sem] max2_int min2_int max_two min_two max_three min_three max_four min_four
theorem results_ct {P : Program} {fn : Func} {p u : Tmp} {ty : TypeId} (h : fn.results = #[.cell p ty, .tmp u]) (tmps : Array Value) (w : World) (g : Nat) (t : TypeId) (cs : Array Value) (fr : Nat × Nat) (d : TypeDesc)
  (hp : tmps.getD p undef = .pointer (some ⟨g, 0, none⟩)) (hg : w.heap[g]? = some (.cells cs t fr))
  (hu : P.underlying ty = some d) (hd : (match d with | .struct _ | .array _ _ => true | _ => false) = true) (hi : (P.info? ty).map (·.size) = some cs.size) :
  (results fn tmps).run P w = .ok (.tuple #[.agg cs, tmps.getD u undef]) w := by
 have hp' : tmps[p]?.getD undef = .pointer (some ⟨g, 0, none⟩) := by simpa using hp
 simp [results, h, hp', asAddr, run_loadVar_row w g t ty cs fr d hg hu hd hi]
theorem setCells_run {W : World} {g : Nat} {t : TypeId} {cur : Array Value} (h : W.heap[g]? = some (.cells cur t (0, 0))) (o : Nat) (vs : List Value) (hl : o + vs.length ≤ cur.size) (h1 : ∀ v ∈ vs, v.oneCell' = true) : (storeCells ⟨g, o, none⟩ vs).run Try.prog W = .ok () (W.setCells g o vs) := by
 have := run_storeCells_cells (P := Try.prog) g o vs 0 W (fun j hj => by rw [blk_cell h]; simp; omega) (fun j _ => blk_frozen h _) h1
 simpa using this
end
section
open Go.RowKit Go.Proofs.YtchaegfdcdlfaaaW.PrintWords Go.Proofs.YtchaegfdcdlfaaaW.PrintLast Go.Proofs.YtchaegfdcdlfaaaW.PrintMore
open Go.Proofs.Ytchaegfdcdlfaaa.Y (Bytes RdB put put_range put_length put_length_pos word word_length word_bytes rdb_below rdb_drewN put_call row_slice)
attribute [local go_sem] max2_int min2_int max_two min_two max_three min_three max_four min_four
theorem alloc_size (w : World) (o : Obj) : (w.alloc o).heap.size = w.heap.size + 1 := Array.size_push ..
end
section
open Go.RowKit Go.Proofs.YtchaegfdcdlfaaaW.PrintWords Go.Proofs.YtchaegfdcdlfaaaW.PrintLast Go.Proofs.YtchaegfdcdlfaaaW.PrintMore
attribute [local go_sem] max2_int min2_int max_two min_two max_three min_three max_four min_four
def allEq {α : Type} (e : α → α → Bool) : List α → List α → Bool
 | [], [] => true
 | x :: l, y :: m => e x y && allEq e l m
 | _, _ => false
theorem allEq_len {α : Type} {e : α → α → Bool} : ∀ {l m : List α}, l.length ≠ m.length → allEq e l m = false
 | [], [], h => absurd rfl h
 | _ :: _, [], _ => rfl
 | [], _ :: _, _ => rfl
 | x :: l, y :: m, h => by unfold allEq; rw [allEq_len (l := l) (m := m) (by simpa using h), Bool.and_false]
theorem allEq_drop {α : Type} (e : α → α → Bool) (l m : List α) (i : Nat) (z : α) (hi : i < l.length) (hm : i < m.length) : allEq e (l.drop i) (m.drop i) = (e (l.getD i z) (m.getD i z) && allEq e (l.drop (i + 1)) (m.drop (i + 1))) := by
 rw [List.drop_eq_getElem_cons hi, List.drop_eq_getElem_cons hm, List.getD_eq_getElem?_getD, List.getElem?_eq_getElem hi, Option.getD_some, List.getD_eq_getElem?_getD, List.getElem?_eq_getElem hm, Option.getD_some]
 rfl
theorem allEq_self {α : Type} {e : α → α → Bool} : ∀ {l : List α}, (∀ x ∈ l, e x x = true) → allEq e l l = true
 | [], _ => rfl
 | x :: l, h => by unfold allEq; rw [h x (by simp), allEq_self (fun y hy => h y (by simp [hy]))]; rfl
theorem allEq_eq {α : Type} {e : α → α → Bool} : ∀ {l m : List α}, (∀ x ∈ l, ∀ y ∈ m, e x y = true → x = y) → allEq e l m = true → l = m
 | [], [], _, _ => rfl
 | _ :: _, [], _, h => by cases h
 | [], _ :: _, _, h => by cases h
 | x :: l, y :: m, h, hh => by
  unfold allEq at hh
  rw [Bool.and_eq_true] at hh
  rw [h x (by simp) y (by simp) hh.1, allEq_eq (fun a ha b hb => h a (by simp [ha]) b (by simp [hb])) hh.2]
theorem wpList_load_cells_g {P : Program} {ops : Array Oper} {rest : List Oper} {o : Oper} {a : Act} {w : World} {Q : Exit → Act → World → Prop} (hgd : Region.wanted o (yielded ops a.tmps) = true) (ty : TypeId) (x : Operand) (ho : o.op = .load ty x)
  (ad : Addr) (hx : a.eval x = .pointer (some ad)) (cs : Array Value) (d : TypeDesc) (hc : ∀ j v, cs[j]? = some v → w.cell? (ad.add j) = some v)
  (hu : P.underlying ty = some d) (hd : (match d with | .struct _ | .array _ _ => true | _ => false) = true) (hi : (P.info? ty).map (·.size) = some cs.size)
  (h : wpList P ops Q rest (a.put o.dst (.agg cs)) w) : wpList P ops Q (o :: rest) a w := by
 unfold wpList
 rw [if_pos hgd]
 exact .inl (wp_load_cells ty x ho ad hx cs d hc hu hd hi h)
theorem eql_st (n r n2 r2 : Int) (W : World) : (binOp .eql 96 (.agg #[.int .i64 n, .int .i64 r]) (.agg #[.int .i64 n2, .int .i64 r2])).run Try.prog W = .ok (.bool (n == n2 && r == r2)) W := by
 have h : (Op.equalIn 10000 96 (.agg #[.int .i64 n, .int .i64 r]) (.agg #[.int .i64 n2, .int .i64 r2])).run Try.prog W = .ok (n == n2 && r == r2) W := by
  refine eqA_of (d := 9999) Try.underlying96 (by kernel_rfl) ?_
  refine eqf_cons (by rfl) (a := .int .i64 n) (b := .int .i64 n2) ?_ ?_ ?_ (eqf_last (by rfl) (a := .int .i64 r) (b := .int .i64 r2) ?_ ?_ ?_) <;> go_simp
 rw [run_eql_struct, h]
 rfl
abbrev TwoS (w0 : World) (t : TypeId) (es fs : Array Value) (W : World) : Prop := W.heap[w0.heap.size]? = some (.cells es t (0, 0)) ∧ W.heap[w0.heap.size + 1]? = some (.cells fs t (0, 0)) ∧ Below w0.heap.size w0 W
theorem TwoS.begin (w0 : World) (t : TypeId) (es fs : Array Value) : TwoS w0 t es fs ((w0.alloc (.cells es t)).alloc (.cells fs t)) := by
 have h := blk_new (w0.alloc (.cells es t)) (.cells fs t)
 rw [alloc_size] at h
 exact ⟨blk_alloc (blk_new w0 (.cells es t)) _, h, below_alloc (below_alloc (Below.refl _ _) _) _⟩
set_option maxHeartbeats 1000000 in
theorem number_call (n : Int) (w : World) : Calls Try.prog 157 #[.int .i64 n] w fun e w' => e = .returned (.bool (decide (0 ≤ n) && decide (n < 8))) ∧ w = w' := by
 by_cases h : n ≥ 0
 ·have e1 : decide (n ≥ 0) = true := decide_eq_true h
  have e2 : decide (0 ≤ n) = true := decide_eq_true h
  clear h
  go_enter Try.func157, Try.ntmps157
  go_wp2_with fail
  go_ret
  exact ⟨by simp [e2], rfl⟩
 ·have e1 : decide (n ≥ 0) = false := decide_eq_false h
  have e2 : decide (0 ≤ n) = false := decide_eq_false h
  clear h
  go_enter Try.func157, Try.ntmps157
  go_wp2_with fail
  go_ret
  exact ⟨by simp [e2], rfl⟩
def z16 : List Int := List.replicate 16 0
def z32 : List Int := List.replicate 32 0
def headO (x : OpT) : OpT := ⟨x.kind, x.id, x.n, x.rep, 0, ⟨#[]⟩, [], z16, 0, z32⟩
def onlyO (x : OpT) : OpT :=
 if x.kind = 1 then ⟨x.kind, x.id, x.n, x.rep, x.no, x.v, [], z16, 0, z32⟩
 else if x.kind = 2 then ⟨x.kind, x.id, x.n, x.rep, x.no, ⟨#[]⟩, [], x.fro, x.fno, x.d⟩
 else if x.kind = 3 then ⟨x.kind, x.id, x.n, x.rep, x.no, ⟨#[]⟩, x.p, z16, 0, x.d⟩
 else headO x
theorem opC_arr {x : OpT} (h : x.id.length = 16 ∧ x.fro.length = 16 ∧ x.d.length = 32) (A : Option Addr) (c : Nat) {W : World} {a : Addr} (hat : At W a (opC x A c).toArray) : At W (a.add 1) (cells8 x.id) ∧ At W (a.add 22) (cells8 x.fro) ∧ At W (a.add 39) (cells8 x.d) := by
 refine ⟨?_, ?_, ?_⟩
 ·exact At.part (l := [.int .i64 x.kind]) (m := nums .u8 x.id) (r := .int .i64 x.n :: .int .i64 x.rep :: .int .i64 x.no :: .string x.v :: .slice A x.p.length c :: (nums .u8 x.fro ++ (.int .i64 x.fno :: nums .u8 x.d))) hat 1 rfl
 ·have e : opC x A c = (.int .i64 x.kind :: (nums .u8 x.id ++ [.int .i64 x.n, .int .i64 x.rep, .int .i64 x.no, .string x.v, .slice A x.p.length c])) ++ (nums .u8 x.fro ++ (.int .i64 x.fno :: nums .u8 x.d)) := by simp [opC]
  rw [e] at hat
  exact At.part hat 22 (by simp [nums, h.1])
 ·have e : opC x A c = (.int .i64 x.kind :: (nums .u8 x.id ++ (.int .i64 x.n :: .int .i64 x.rep :: .int .i64 x.no :: .string x.v :: .slice A x.p.length c :: (nums .u8 x.fro ++ [.int .i64 x.fno])))) ++ (nums .u8 x.d ++ []) := by simp [opC]
  rw [e] at hat
  exact At.part hat 39 (by simp [nums, h.1, h.2.1])
theorem zeroOp : (Try.prog.info? 98).map (·.zero) = some (some (.agg #[.int .i64 0, .int .u8 0, .int .u8 0, .int .u8 0, .int .u8 0, .int .u8 0, .int .u8 0, .int .u8 0, .int .u8 0, .int .u8 0, .int .u8 0, .int .u8 0, .int .u8 0, .int .u8 0, .int .u8 0, .int .u8 0, .int .u8 0, .int .i64 0, .int .i64 0, .int .i64 0, .string ⟨#[]⟩, .slice none 0 0, .int .u8 0, .int .u8 0, .int .u8 0, .int .u8 0, .int .u8 0, .int .u8 0, .int .u8 0, .int .u8 0, .int .u8 0, .int .u8 0, .int .u8 0, .int .u8 0, .int .u8 0, .int .u8 0, .int .u8 0, .int .u8 0, .int .i64 0, .int .u8 0, .int .u8 0, .int .u8 0, .int .u8 0, .int .u8 0, .int .u8 0, .int .u8 0, .int .u8 0, .int .u8 0, .int .u8 0, .int .u8 0, .int .u8 0, .int .u8 0, .int .u8 0, .int .u8 0, .int .u8 0, .int .u8 0, .int .u8 0, .int .u8 0, .int .u8 0, .int .u8 0, .int .u8 0, .int .u8 0, .int .u8 0, .int .u8 0, .int .u8 0, .int .u8 0, .int .u8 0, .int .u8 0, .int .u8 0, .int .u8 0, .int .u8 0])) := by kernel_rfl
theorem built_op (k n rep : Int) (d : List Int) (hd : d.length = 16) : Try.prog.built 98 [(0, .int .i64 k), (1, .agg (cells8 d)), (2, .agg #[.int .i64 n, .int .i64 rep])] = some (opC ⟨k, d, n, rep, 0, ⟨#[]⟩, [], z16, 0, z32⟩ none 0).toArray := by
 obtain ⟨i, hi, hz0⟩ := Option.map_eq_some_iff.1 zeroOp
 unfold Program.built
 have e0 : (Try.prog.info? 3).map (·.size) = some 1 := by kernel_rfl
 have e1 : (Try.prog.info? 94).map (·.size) = some 16 := by kernel_rfl
 have e2 : (Try.prog.info? 96).map (·.size) = some 2 := by kernel_rfl
 have e3 : (Try.prog.info? 9).map (·.size) = some 1 := by kernel_rfl
 have e4 : (Try.prog.info? 55).map (·.size) = some 1 := by kernel_rfl
 have e5 : (Try.prog.info? 28).map (·.size) = some 32 := by kernel_rfl
 obtain ⟨i0, hi0, hs0⟩ := Option.map_eq_some_iff.1 e0
 obtain ⟨i1, hi1, hs1⟩ := Option.map_eq_some_iff.1 e1
 obtain ⟨i2, hi2, hs2⟩ := Option.map_eq_some_iff.1 e2
 obtain ⟨i3, hi3, hs3⟩ := Option.map_eq_some_iff.1 e3
 obtain ⟨i4, hi4, hs4⟩ := Option.map_eq_some_iff.1 e4
 obtain ⟨i5, hi5, hs5⟩ := Option.map_eq_some_iff.1 e5
 rw [hi, Try.underlying98]
 simp only [hz0, List.mapM_cons, List.mapM_nil, hi0, hi1, hi2, hi3, hi4, hi5, Option.map_some, hs0, hs1, hs2, hs3, hs4, hs5, Option.pure_def, Option.bind_eq_bind, Option.bind_some]
 have := fill_some (([(0, 1), (1, 16), (17, 2), (19, 1), (20, 1), (21, 1), (22, 16), (38, 1), (39, 32)] : List (Nat × Nat)).toArray[·]?) [(0, .int .i64 k), (1, .agg (cells8 d)), (2, .agg #[.int .i64 n, .int .i64 rep])] 0 #[.int .i64 0, .int .u8 0, .int .u8 0, .int .u8 0, .int .u8 0, .int .u8 0, .int .u8 0, .int .u8 0, .int .u8 0, .int .u8 0, .int .u8 0, .int .u8 0, .int .u8 0, .int .u8 0, .int .u8 0, .int .u8 0, .int .u8 0, .int .i64 0, .int .i64 0, .int .i64 0, .string ⟨#[]⟩, .slice none 0 0, .int .u8 0, .int .u8 0, .int .u8 0, .int .u8 0, .int .u8 0, .int .u8 0, .int .u8 0, .int .u8 0, .int .u8 0, .int .u8 0, .int .u8 0, .int .u8 0, .int .u8 0, .int .u8 0, .int .u8 0, .int .u8 0, .int .i64 0, .int .u8 0, .int .u8 0, .int .u8 0, .int .u8 0, .int .u8 0, .int .u8 0, .int .u8 0, .int .u8 0, .int .u8 0, .int .u8 0, .int .u8 0, .int .u8 0, .int .u8 0, .int .u8 0, .int .u8 0, .int .u8 0, .int .u8 0, .int .u8 0, .int .u8 0, .int .u8 0, .int .u8 0, .int .u8 0, .int .u8 0, .int .u8 0, .int .u8 0, .int .u8 0, .int .u8 0, .int .u8 0, .int .u8 0, .int .u8 0, .int .u8 0, .int .u8 0] ⟨by simp [Value.cells], by simp [Value.cells, cells8, hd], by simp [Value.cells, cells8, hd], trivial⟩ (by simp [partsL, Value.cells, cells8, hd])
 rw [show (Value.agg #[.int .i64 0, .int .u8 0, .int .u8 0, .int .u8 0, .int .u8 0, .int .u8 0, .int .u8 0, .int .u8 0, .int .u8 0, .int .u8 0, .int .u8 0, .int .u8 0, .int .u8 0, .int .u8 0, .int .u8 0, .int .u8 0, .int .u8 0, .int .i64 0, .int .i64 0, .int .i64 0, .string ⟨#[]⟩, .slice none 0 0, .int .u8 0, .int .u8 0, .int .u8 0, .int .u8 0, .int .u8 0, .int .u8 0, .int .u8 0, .int .u8 0, .int .u8 0, .int .u8 0, .int .u8 0, .int .u8 0, .int .u8 0, .int .u8 0, .int .u8 0, .int .u8 0, .int .i64 0, .int .u8 0, .int .u8 0, .int .u8 0, .int .u8 0, .int .u8 0, .int .u8 0, .int .u8 0, .int .u8 0, .int .u8 0, .int .u8 0, .int .u8 0, .int .u8 0, .int .u8 0, .int .u8 0, .int .u8 0, .int .u8 0, .int .u8 0, .int .u8 0, .int .u8 0, .int .u8 0, .int .u8 0, .int .u8 0, .int .u8 0, .int .u8 0, .int .u8 0, .int .u8 0, .int .u8 0, .int .u8 0, .int .u8 0, .int .u8 0, .int .u8 0, .int .u8 0]).cells = #[.int .i64 0, .int .u8 0, .int .u8 0, .int .u8 0, .int .u8 0, .int .u8 0, .int .u8 0, .int .u8 0, .int .u8 0, .int .u8 0, .int .u8 0, .int .u8 0, .int .u8 0, .int .u8 0, .int .u8 0, .int .u8 0, .int .u8 0, .int .i64 0, .int .i64 0, .int .i64 0, .string ⟨#[]⟩, .slice none 0 0, .int .u8 0, .int .u8 0, .int .u8 0, .int .u8 0, .int .u8 0, .int .u8 0, .int .u8 0, .int .u8 0, .int .u8 0, .int .u8 0, .int .u8 0, .int .u8 0, .int .u8 0, .int .u8 0, .int .u8 0, .int .u8 0, .int .i64 0, .int .u8 0, .int .u8 0, .int .u8 0, .int .u8 0, .int .u8 0, .int .u8 0, .int .u8 0, .int .u8 0, .int .u8 0, .int .u8 0, .int .u8 0, .int .u8 0, .int .u8 0, .int .u8 0, .int .u8 0, .int .u8 0, .int .u8 0, .int .u8 0, .int .u8 0, .int .u8 0, .int .u8 0, .int .u8 0, .int .u8 0, .int .u8 0, .int .u8 0, .int .u8 0, .int .u8 0, .int .u8 0, .int .u8 0, .int .u8 0, .int .u8 0, .int .u8 0] from rfl]
 rw [this]
 simp [partsL, Value.cells, cells8, hd, opC, nums, z16, z32, List.replicate]
theorem only_world (w : World) (es : Array Value) (cs : Array Value) : (((w.alloc (.cells es 98)).alloc (.cells Try.zeroCells98 98)).alloc (.cells cs 98)).drew.heap[w.heap.size]? = some (.cells es 98 (0, 0)) ∧ (((w.alloc (.cells es 98)).alloc (.cells Try.zeroCells98 98)).alloc (.cells cs 98)).drew.heap[w.heap.size + 1]? = some (.cells Try.zeroCells98 98 (0, 0)) ∧ (((w.alloc (.cells es 98)).alloc (.cells Try.zeroCells98 98)).alloc (.cells cs 98)).drew.heap[w.heap.size + 1 + 1]? = some (.cells cs 98 (0, 0)) ∧ Below w.heap.size w (((w.alloc (.cells es 98)).alloc (.cells Try.zeroCells98 98)).alloc (.cells cs 98)).drew := by
 have hb0 := blk_new w (.cells es 98)
 have hz := blk_new (w.alloc (.cells es 98)) (.cells Try.zeroCells98 98)
 rw [alloc_size] at hz
 have hn := blk_new ((w.alloc (.cells es 98)).alloc (.cells Try.zeroCells98 98)) (.cells cs 98)
 rw [alloc_size, alloc_size] at hn
 exact ⟨blk_alloc (blk_alloc hb0 _) _, blk_alloc hz _, hn, below_drew (below_alloc (below_alloc (below_alloc (Below.refl _ _) _) _) _)⟩
theorem set1 (k n r no : Int) (v : ByteArray) (d : List Int) (hd : d.length = 16) : ((opC ⟨k, d, n, r, 0, ⟨#[]⟩, [], z16, 0, z32⟩ none 0).toArray.setIfInBounds 19 (.int .i64 no)).setIfInBounds 20 (.string v) = (opC ⟨k, d, n, r, no, v, [], z16, 0, z32⟩ none 0).toArray := by
 have hl : (nums .u8 d).length = 16 := by simp [nums, hd]
 simp only [List.setIfInBounds_toArray, opC]
 congr 1
 simp only [List.set_cons_succ, List.set_append, hl, Nat.lt_irrefl, if_false, Nat.reduceSub, Nat.reduceLT]
 rfl
def setL : Array Value → Nat → List Value → Array Value
 | cs, _, [] => cs
 | cs, o, v :: r => setL (cs.setIfInBounds o v) (o + 1) r
theorem setL_size : ∀ (vs : List Value) (cs : Array Value) (o : Nat), (setL cs o vs).size = cs.size
 | [], _, _ => rfl
 | v :: r, cs, o => by rw [setL, setL_size r, Array.size_setIfInBounds]
theorem setL_far : ∀ (vs : List Value) (cs : Array Value) (o k : Nat), o + vs.length ≤ k → (setL cs o vs)[k]? = cs[k]?
 | [], _, _, _, _ => rfl
 | v :: r, cs, o, k, h => by
  simp only [List.length_cons] at h
  rw [setL, setL_far r _ _ _ (by omega), Array.getElem?_setIfInBounds_ne (by omega)]
theorem setL_mid : ∀ (vs l m r : List Value), m.length = vs.length → setL (l ++ (m ++ r)).toArray l.length vs = (l ++ (vs ++ r)).toArray
 | [], l, m, r, h => by
  obtain rfl := List.length_eq_zero_iff.1 h
  rfl
 | v :: vs, l, [], r, h => by cases h
 | v :: vs, l, a :: m, r, h => by
  have h2 := setL_mid vs (l ++ [v]) m r (by simpa using h)
  rw [List.length_append, List.length_singleton] at h2
  rw [setL, List.setIfInBounds_toArray, List.cons_append, List.set_append_right _ _ (Nat.le_refl _), Nat.sub_self, List.set_cons_zero]
  have e : l ++ v :: (m ++ r) = l ++ [v] ++ (m ++ r) := by simp
  rw [e, h2]
  simp
theorem setL_at {vs l m r : List Value} (o : Nat) (ho : l.length = o) (h : m.length = vs.length) : setL (l ++ (m ++ r)).toArray o vs = (l ++ (vs ++ r)).toArray := by
 subst ho
 exact setL_mid vs l m r h
theorem only_set (w : World) (es : Array Value) : ∀ (vs : List Value) (cs : Array Value) (o : Nat), (((w.alloc (.cells es 98)).alloc (.cells Try.zeroCells98 98)).alloc (.cells cs 98)).drew.setCells (w.heap.size + 1 + 1) o vs = (((w.alloc (.cells es 98)).alloc (.cells Try.zeroCells98 98)).alloc (.cells (setL cs o vs) 98)).drew
 | [], cs, o => rfl
 | v :: r, cs, o => by
  rw [World.setCells, setL, ← only_set w es r]
  congr 1
  have e := World.setCell_alloc_at (w := (w.alloc (.cells es 98)).alloc (.cells Try.zeroCells98 98)) cs 98 (w.heap.size + 1 + 1) o v (by rw [alloc_size, alloc_size])
  rw [← e]
  rfl
theorem store_mid (w : World) (es cs : Array Value) (o : Nat) (vs : List Value) (hl : o + vs.length ≤ cs.size) (h1 : ∀ v ∈ vs, v.oneCell' = true) : (storeCells ⟨w.heap.size + 1 + 1, o, none⟩ vs).run Try.prog (((w.alloc (.cells es 98)).alloc (.cells Try.zeroCells98 98)).alloc (.cells cs 98)).drew = .ok () (((w.alloc (.cells es 98)).alloc (.cells Try.zeroCells98 98)).alloc (.cells (setL cs o vs) 98)).drew := by
 rw [← only_set]
 exact setCells_run (only_world w es cs).2.2.1 o vs hl h1
theorem set2 (k n r no fno : Int) (id fr d : List Int) (hd : id.length = 16) (hf : fr.length = 16) (h3 : d.length = 32) : setL ((setL ((opC ⟨k, id, n, r, 0, ⟨#[]⟩, [], z16, 0, z32⟩ none 0).toArray.setIfInBounds 19 (Value.int .i64 no)) 22 (cells8 fr).toList).setIfInBounds 38 (Value.int .i64 fno)) 39 (cells8 d).toList = (opC ⟨k, id, n, r, no, ⟨#[]⟩, [], fr, fno, d⟩ none 0).toArray := by
 have e1 : (opC ⟨k, id, n, r, 0, ⟨#[]⟩, [], z16, 0, z32⟩ none 0).toArray.setIfInBounds 19 (Value.int .i64 no) = ((Value.int .i64 k :: (nums .u8 id ++ [Value.int .i64 n, Value.int .i64 r, Value.int .i64 no, Value.string ⟨#[]⟩, Value.slice none 0 0])) ++ (nums .u8 z16 ++ (Value.int .i64 0 :: nums .u8 z32))).toArray := by
  have := setL_at (vs := [Value.int .i64 no]) (l := Value.int .i64 k :: (nums .u8 id ++ [Value.int .i64 n, Value.int .i64 r])) (m := [Value.int .i64 0]) (r := Value.string ⟨#[]⟩ :: Value.slice none 0 0 :: (nums .u8 z16 ++ (Value.int .i64 0 :: nums .u8 z32))) 19 (by simp [nums, hd]) rfl
  simpa [setL, opC] using this
 have e2 : setL ((Value.int .i64 k :: (nums .u8 id ++ [Value.int .i64 n, Value.int .i64 r, Value.int .i64 no, Value.string ⟨#[]⟩, Value.slice none 0 0])) ++ (nums .u8 z16 ++ (Value.int .i64 0 :: nums .u8 z32))).toArray 22 (cells8 fr).toList = ((Value.int .i64 k :: (nums .u8 id ++ [Value.int .i64 n, Value.int .i64 r, Value.int .i64 no, Value.string ⟨#[]⟩, Value.slice none 0 0])) ++ (nums .u8 fr ++ (Value.int .i64 0 :: nums .u8 z32))).toArray :=
  setL_at 22 (by simp [nums, hd]) (by simp [nums, cells8, hf, z16])
 have e3 : ((Value.int .i64 k :: (nums .u8 id ++ [Value.int .i64 n, Value.int .i64 r, Value.int .i64 no, Value.string ⟨#[]⟩, Value.slice none 0 0])) ++ (nums .u8 fr ++ (Value.int .i64 0 :: nums .u8 z32))).toArray.setIfInBounds 38 (Value.int .i64 fno) = ((Value.int .i64 k :: (nums .u8 id ++ (Value.int .i64 n :: Value.int .i64 r :: Value.int .i64 no :: Value.string ⟨#[]⟩ :: Value.slice none 0 0 :: (nums .u8 fr ++ [Value.int .i64 fno])))) ++ (nums .u8 z32 ++ [])).toArray := by
  have := setL_at (vs := [Value.int .i64 fno]) (l := Value.int .i64 k :: (nums .u8 id ++ (Value.int .i64 n :: Value.int .i64 r :: Value.int .i64 no :: Value.string ⟨#[]⟩ :: Value.slice none 0 0 :: nums .u8 fr))) (m := [Value.int .i64 0]) (r := nums .u8 z32) 38 (by simp [nums, hd, hf]) rfl
  simpa [setL] using this
 rw [e1, e2, e3, setL_at 39 (by simp [nums, hd, hf]) (by simp [nums, cells8, h3, z32])]
 simp [opC, cells8, nums]
theorem set3 (k n r no : Int) (id d : List Int) (p : List S67) (A : Option Addr) (c : Nat) (hd : id.length = 16) (h3 : d.length = 32) : setL (((opC ⟨k, id, n, r, 0, ⟨#[]⟩, [], z16, 0, z32⟩ none 0).toArray.setIfInBounds 19 (Value.int .i64 no)).setIfInBounds 21 (Value.slice A p.length c)) 39 (cells8 d).toList = (opC ⟨k, id, n, r, no, ⟨#[]⟩, p, z16, 0, d⟩ A c).toArray := by
 have e1 : ((opC ⟨k, id, n, r, 0, ⟨#[]⟩, [], z16, 0, z32⟩ none 0).toArray.setIfInBounds 19 (Value.int .i64 no)).setIfInBounds 21 (Value.slice A p.length c) = ((Value.int .i64 k :: (nums .u8 id ++ (Value.int .i64 n :: Value.int .i64 r :: Value.int .i64 no :: Value.string ⟨#[]⟩ :: Value.slice A p.length c :: (nums .u8 z16 ++ [Value.int .i64 0])))) ++ (nums .u8 z32 ++ [])).toArray := by
  have h1 := setL_at (vs := [Value.int .i64 no, Value.string ⟨#[]⟩, Value.slice A p.length c]) (l := Value.int .i64 k :: (nums .u8 id ++ [Value.int .i64 n, Value.int .i64 r])) (m := [Value.int .i64 0, Value.string ⟨#[]⟩, Value.slice none 0 0]) (r := nums .u8 z16 ++ (Value.int .i64 0 :: nums .u8 z32)) 19 (by simp [nums, hd]) rfl
  have h2 := setL_at (vs := [Value.int .i64 no]) (l := Value.int .i64 k :: (nums .u8 id ++ [Value.int .i64 n, Value.int .i64 r])) (m := [Value.int .i64 0]) (r := Value.string ⟨#[]⟩ :: Value.slice none 0 0 :: (nums .u8 z16 ++ (Value.int .i64 0 :: nums .u8 z32))) 19 (by simp [nums, hd]) rfl
  have h3 := setL_at (vs := [Value.slice A p.length c]) (l := Value.int .i64 k :: (nums .u8 id ++ [Value.int .i64 n, Value.int .i64 r, Value.int .i64 no, Value.string ⟨#[]⟩])) (m := [Value.slice none 0 0]) (r := nums .u8 z16 ++ (Value.int .i64 0 :: nums .u8 z32)) 21 (by simp [nums, hd]) rfl
  have h2' : (opC ⟨k, id, n, r, 0, ⟨#[]⟩, [], z16, 0, z32⟩ none 0).toArray.setIfInBounds 19 (Value.int .i64 no) = ((Value.int .i64 k :: (nums .u8 id ++ [Value.int .i64 n, Value.int .i64 r, Value.int .i64 no, Value.string ⟨#[]⟩])) ++ ([Value.slice none 0 0] ++ (nums .u8 z16 ++ (Value.int .i64 0 :: nums .u8 z32)))).toArray := by simpa [setL, opC] using h2
  rw [h2']
  simpa [setL] using h3
 rw [e1, setL_at 39 (by simp [nums, hd, z16]) (by simp [nums, cells8, h3, z32])]
 simp [opC, cells8, nums]
set_option maxHeartbeats 4000000 in
theorem only_0 (x : OpT) (A : Option Addr) (c : Nat) (w : World) (hx : x.id.length = 16 ∧ x.fro.length = 16 ∧ x.d.length = 32) (c1 : (x.kind == 1) = false) (c2 : (x.kind == 2) = false) (c3 : (x.kind == 3) = false) :
  Calls Try.prog 156 #[.agg (opC x A c).toArray] w fun e w' => e = .returned (.agg (opC (headO x) none 0).toArray) ∧ Below w.heap.size w w' := by
 obtain ⟨k0, k17, k18, k19, k20, k21, k38⟩ := opC_at hx A c
 have HX := am hx
 have HAT := am (fun (W : World) (h : W.heap[w.heap.size]? = some (.cells (opC x A c).toArray 98 (0, 0))) => by
  have := opC_arr hx A c (At.blk h)
  rwa [add_at, add_at, add_at] at this)
 have HBU := am (built_op x.kind x.n x.rep x.id hx.1)
 have hl1 : (⟨x.kind, x.id, x.n, x.rep, 0, ⟨#[]⟩, [], z16, 0, z32⟩ : OpT).id.length = 16 ∧ (⟨x.kind, x.id, x.n, x.rep, 0, ⟨#[]⟩, [], z16, 0, z32⟩ : OpT).fro.length = 16 ∧ (⟨x.kind, x.id, x.n, x.rep, 0, ⟨#[]⟩, [], z16, 0, z32⟩ : OpT).d.length = 32 := ⟨hx.1, rfl, rfl⟩
 have hoz : (opC ⟨x.kind, x.id, x.n, x.rep, 0, ⟨#[]⟩, [], z16, 0, z32⟩ none 0).toArray.size = 71 := by rw [List.size_toArray, opC_len hl1]
 have HO1 := am (opC_one ⟨x.kind, x.id, x.n, x.rep, 0, ⟨#[]⟩, [], z16, 0, z32⟩ none 0)
 have HFIN : Aside0 ((opC (headO x) none 0).toArray = (opC ⟨x.kind, x.id, x.n, x.rep, 0, ⟨#[]⟩, [], z16, 0, z32⟩ none 0).toArray) := ⟨rfl⟩
 obtain ⟨es, hes⟩ : ∃ es, (opC x A c).toArray = es := ⟨_, rfl⟩
 obtain ⟨os, hos⟩ : ∃ os, (opC ⟨x.kind, x.id, x.n, x.rep, 0, ⟨#[]⟩, [], z16, 0, z32⟩ none 0).toArray = os := ⟨_, rfl⟩
 rw [hes] at k0 k17 k18 k19 k20 k21 k38 HAT ⊢
 rw [hos] at HBU hoz HO1 HFIN
 have hb0 := blk_new w (.cells es 98)
 have hz := blk_new (w.alloc (.cells es 98)) (.cells Try.zeroCells98 98)
 rw [alloc_size] at hz
 have HB := am (And.intro (blk_alloc (blk_alloc hb0 (.cells Try.zeroCells98 98)) (.cells os 98)) (blk_alloc hz (.cells os 98)))
 have hn := blk_new ((w.alloc (.cells es 98)).alloc (.cells Try.zeroCells98 98)) (.cells os 98)
 rw [alloc_size, alloc_size] at hn
 have HN := am hn
 have HE0 := am (blk_alloc hb0 (.cells Try.zeroCells98 98))
 have HBL := am (below_alloc (below_alloc (below_alloc (Below.refl w.heap.size w) (.cells es 98)) (.cells Try.zeroCells98 98)) (.cells os 98))
 have hsn := store_new ((w.alloc (.cells es 98)).alloc (.cells Try.zeroCells98 98)) Try.zeroCells98 os 98 (by rw [hoz]; kernel_rfl) HO1.out
 rw [alloc_size, alloc_size] at hsn
 have f0 := (blk_cell HE0.out 0).trans k0
 have f17 := (blk_cell HE0.out 17).trans k17
 have f18 := (blk_cell HE0.out 18).trans k18
 have g0 := (blk_cell HB.out.1 0).trans k0
 have HI := am (And.intro k19 (And.intro k20 (And.intro k21 k38)))
 have HID := am (HAT.out _ HE0.out).1
 clear hx hes hos hb0 hz hn hl1 k0 k17 k18 k19 k20 k21 k38
 have hst := storeA (cs := os) HB.out.2 (by rw [hoz]; kernel_rfl) HO1.out
 go_enter Try.func156, Try.ntmps156
 go_wp2_with (first
  | ((with_reducible refine gate_dst (N := 7) rfl ?_); refine wpList_load_cells rfl 94 (.tmp 6) rfl ⟨w.heap.size, 1, none⟩ rfl (cells8 x.id) _ HID.out Try.underlying94 rfl (by rw [cells8_size, HX.out.1]; kernel_rfl) ?_)
  | ((with_reducible refine gate_dst (N := 10) rfl ?_); refine wpList_build_cells rfl 98 _ rfl os ?hb ?_; case hb => (simp only [List.map_toArray, List.map_cons, List.map_nil]; exact HBU.out))
  | ((with_reducible refine gate_dst (N := 46) rfl ?_); refine wpList_load_row rfl 98 (.tmp 3) rfl (w.heap.size + 1 + 1) rfl 98 os (0, 0) _ HN.out Try.underlying98 rfl (by rw [hoz]; exact infoOp) ?_)
  | fail)
 rw [HFIN.out]
 refine bodyPost_ret (v := .agg os) ?_ rfl ⟨rfl, ?_⟩
 ·exact results_cell_row (P := Try.prog) Try.results156 _ _ (w.heap.size + 1) 98 os (0, 0) _ rfl (setRow_heap _ _ _ _ _ _ HB.out.2) Try.underlying98 rfl (by rw [hoz]; exact infoOp)
 ·exact below_row HBL.out (by omega)
set_option maxHeartbeats 4000000 in
theorem only_1 (x : OpT) (A : Option Addr) (c : Nat) (w : World) (hx : x.id.length = 16 ∧ x.fro.length = 16 ∧ x.d.length = 32) (c1 : (x.kind == 1) = true) :
  Calls Try.prog 156 #[.agg (opC x A c).toArray] w fun e w' => e = .returned (.agg (opC (⟨x.kind, x.id, x.n, x.rep, x.no, x.v, [], z16, 0, z32⟩) none 0).toArray) ∧ Below w.heap.size w w' := by
 obtain ⟨k0, k17, k18, k19, k20, k21, k38⟩ := opC_at hx A c
 have HX := am hx
 have HAT := am (fun (W : World) (h : W.heap[w.heap.size]? = some (.cells (opC x A c).toArray 98 (0, 0))) => by
  have := opC_arr hx A c (At.blk h)
  rwa [add_at, add_at, add_at] at this)
 have HBU := am (built_op x.kind x.n x.rep x.id hx.1)
 have hl1 : (⟨x.kind, x.id, x.n, x.rep, 0, ⟨#[]⟩, [], z16, 0, z32⟩ : OpT).id.length = 16 ∧ (⟨x.kind, x.id, x.n, x.rep, 0, ⟨#[]⟩, [], z16, 0, z32⟩ : OpT).fro.length = 16 ∧ (⟨x.kind, x.id, x.n, x.rep, 0, ⟨#[]⟩, [], z16, 0, z32⟩ : OpT).d.length = 32 := ⟨hx.1, rfl, rfl⟩
 have hoz : (opC ⟨x.kind, x.id, x.n, x.rep, 0, ⟨#[]⟩, [], z16, 0, z32⟩ none 0).toArray.size = 71 := by rw [List.size_toArray, opC_len hl1]
 have HO1 := am (opC_one ⟨x.kind, x.id, x.n, x.rep, 0, ⟨#[]⟩, [], z16, 0, z32⟩ none 0)
 have HFIN := am (set1 x.kind x.n x.rep x.no x.v x.id hx.1)
 obtain ⟨es, hes⟩ : ∃ es, (opC x A c).toArray = es := ⟨_, rfl⟩
 obtain ⟨os, hos⟩ : ∃ os, (opC ⟨x.kind, x.id, x.n, x.rep, 0, ⟨#[]⟩, [], z16, 0, z32⟩ none 0).toArray = os := ⟨_, rfl⟩
 rw [hes] at k0 k17 k18 k19 k20 k21 k38 HAT ⊢
 rw [hos] at HBU hoz HO1 HFIN
 have hb0 := blk_new w (.cells es 98)
 have hz := blk_new (w.alloc (.cells es 98)) (.cells Try.zeroCells98 98)
 rw [alloc_size] at hz
 have HB := am (And.intro (blk_alloc (blk_alloc hb0 (.cells Try.zeroCells98 98)) (.cells os 98)) (blk_alloc hz (.cells os 98)))
 have hn := blk_new ((w.alloc (.cells es 98)).alloc (.cells Try.zeroCells98 98)) (.cells os 98)
 rw [alloc_size, alloc_size] at hn
 have HN := am hn
 have HE0 := am (blk_alloc hb0 (.cells Try.zeroCells98 98))
 have HBL := am (below_alloc (below_alloc (below_alloc (Below.refl w.heap.size w) (.cells es 98)) (.cells Try.zeroCells98 98)) (.cells os 98))
 have hsn := store_new ((w.alloc (.cells es 98)).alloc (.cells Try.zeroCells98 98)) Try.zeroCells98 os 98 (by rw [hoz]; kernel_rfl) HO1.out
 rw [alloc_size, alloc_size] at hsn
 have f0 := (blk_cell HE0.out 0).trans k0
 have f17 := (blk_cell HE0.out 17).trans k17
 have f18 := (blk_cell HE0.out 18).trans k18
 have g0 := (blk_cell HB.out.1 0).trans k0
 have HI := am (And.intro k19 (And.intro k20 (And.intro k21 k38)))
 have HID := am (HAT.out _ HE0.out).1
 have HG := am (only_world w es)
 have HK := am (And.intro (show os[19]? = some (.int .i64 0) by rw [← hos]; exact (opC_at hl1 none 0).2.2.2.1) (show os[20]? = some (.string ⟨#[]⟩) by rw [← hos]; exact (opC_at hl1 none 0).2.2.2.2.1))
 clear hx hes hos hb0 hz hn hl1 k0 k17 k18 k19 k20 k21 k38
 go_enter Try.func156, Try.ntmps156
 go_wp2_with (first
  | ((with_reducible refine gate_dst (N := 7) rfl ?_); refine wpList_load_cells rfl 94 (.tmp 6) rfl ⟨w.heap.size, 1, none⟩ rfl (cells8 x.id) _ HID.out Try.underlying94 rfl (by rw [cells8_size, HX.out.1]; kernel_rfl) ?_)
  | ((with_reducible refine gate_dst (N := 10) rfl ?_); refine wpList_build_cells rfl 98 _ rfl os ?hb ?_; case hb => (simp only [List.map_toArray, List.map_cons, List.map_nil]; exact HBU.out))
  | fail)
 refine wp_region_held_drew (S := (fun W => W.heap[w.heap.size]? = some (.cells es 98 (0, 0)) ∧ Below w.heap.size w W)) (by kernel_rfl) (⟨(HG.out os).1, (HG.out os).2.2.2⟩) (fun hHeld => ?_)
 refine th (i := 0) ?_
 refine tu (i := 1) (fun W_ hW_ => (blk_cell hW_.1 19).trans HI.out.1) ?_
 refine th (i := 2) ?_
 refine tu (i := 3) (fun W_ hW_ => (blk_cell hW_.1 20).trans HI.out.2.1) ?_
 refine th (i := 4) ?_
 refine tr (i := 5) (fun K hK => ?_)
 have h19 := (blk_cell (HG.out os).2.2.1 19).trans HK.out.1
 have hfr := blk_frozen (HG.out os).2.2.1 19
 go_wp2_with fail
 refine hK.out _ _ (⟨(HG.out _).1, (HG.out _).2.2.2⟩) ?_
 clear hK K hHeld
 intro hHeld
 try simp only [sp]
 clear h19 hfr
 refine th (i := 6) ?_
 refine tr (i := 7) (fun K hK => ?_)
 have h20 := (blk_cell (HG.out (os.setIfInBounds 19 (.int .i64 x.no))).2.2.1 20).trans ((Array.getElem?_setIfInBounds_ne (by decide)).trans HK.out.2)
 have hfr := blk_frozen (HG.out (os.setIfInBounds 19 (.int .i64 x.no))).2.2.1 20
 go_wp2_with fail
 refine hK.out _ _ (⟨(HG.out _).1, (HG.out _).2.2.2⟩) ?_
 clear hK K hHeld
 intro hHeld
 try simp only [sp]
 clear h20 hfr
 refine td ?_
 have hx1 : (⟨x.kind, x.id, x.n, x.rep, x.no, x.v, [], z16, 0, z32⟩ : OpT).id.length = 16 ∧ (⟨x.kind, x.id, x.n, x.rep, x.no, x.v, [], z16, 0, z32⟩ : OpT).fro.length = 16 ∧ (⟨x.kind, x.id, x.n, x.rep, x.no, x.v, [], z16, 0, z32⟩ : OpT).d.length = 32 := ⟨HX.out.1, rfl, rfl⟩
 have hxz : (opC ⟨x.kind, x.id, x.n, x.rep, x.no, x.v, [], z16, 0, z32⟩ none 0).toArray.size = 71 := by rw [List.size_toArray, opC_len hx1]
 have hxo := opC_one ⟨x.kind, x.id, x.n, x.rep, x.no, x.v, [], z16, 0, z32⟩ none 0
 rw [HFIN.out]
 obtain ⟨xs, hxs⟩ : ∃ xs, (opC ⟨x.kind, x.id, x.n, x.rep, x.no, x.v, [], z16, 0, z32⟩ none 0).toArray = xs := ⟨_, rfl⟩
 rw [hxs] at hxz hxo ⊢
 have hst := storeA (cs := xs) (HG.out xs).2.1 (by rw [hxz]; kernel_rfl) hxo
 have HXG := am (HG.out xs)
 have HXS := am hxs
 clear hx1 hxo hHeld hxs
 go_wp2_with (first
  | ((with_reducible refine gate_dst (N := 46) rfl ?_); refine wpList_load_row rfl 98 (.tmp 3) rfl (w.heap.size + 1 + 1) rfl 98 xs (0, 0) _ HXG.out.2.2.1 Try.underlying98 rfl (by rw [hxz]; exact infoOp) ?_)
  | fail)
 refine bodyPost_ret (v := .agg xs) ?_ rfl ⟨by rw [HXS.out], ?_⟩
 ·exact results_cell_row (P := Try.prog) Try.results156 _ _ (w.heap.size + 1) 98 xs (0, 0) _ rfl (setRow_heap _ _ _ _ _ _ HXG.out.2.1) Try.underlying98 rfl (by rw [hxz]; exact infoOp)
 ·exact below_row HXG.out.2.2.2 (by omega)
set_option maxHeartbeats 4000000 in
theorem only_2 (x : OpT) (A : Option Addr) (c : Nat) (w : World) (hx : x.id.length = 16 ∧ x.fro.length = 16 ∧ x.d.length = 32) (c1 : (x.kind == 1) = false) (c2 : (x.kind == 2) = true) :
  Calls Try.prog 156 #[.agg (opC x A c).toArray] w fun e w' => e = .returned (.agg (opC (⟨x.kind, x.id, x.n, x.rep, x.no, ⟨#[]⟩, [], x.fro, x.fno, x.d⟩) none 0).toArray) ∧ Below w.heap.size w w' := by
 obtain ⟨k0, k17, k18, k19, k20, k21, k38⟩ := opC_at hx A c
 have HX := am hx
 have HAT := am (fun (W : World) (h : W.heap[w.heap.size]? = some (.cells (opC x A c).toArray 98 (0, 0))) => by
  have := opC_arr hx A c (At.blk h)
  rwa [add_at, add_at, add_at] at this)
 have HBU := am (built_op x.kind x.n x.rep x.id hx.1)
 have hl1 : (⟨x.kind, x.id, x.n, x.rep, 0, ⟨#[]⟩, [], z16, 0, z32⟩ : OpT).id.length = 16 ∧ (⟨x.kind, x.id, x.n, x.rep, 0, ⟨#[]⟩, [], z16, 0, z32⟩ : OpT).fro.length = 16 ∧ (⟨x.kind, x.id, x.n, x.rep, 0, ⟨#[]⟩, [], z16, 0, z32⟩ : OpT).d.length = 32 := ⟨hx.1, rfl, rfl⟩
 have hoz : (opC ⟨x.kind, x.id, x.n, x.rep, 0, ⟨#[]⟩, [], z16, 0, z32⟩ none 0).toArray.size = 71 := by rw [List.size_toArray, opC_len hl1]
 have HO1 := am (opC_one ⟨x.kind, x.id, x.n, x.rep, 0, ⟨#[]⟩, [], z16, 0, z32⟩ none 0)
 have HFIN := am (set2 x.kind x.n x.rep x.no x.fno x.id x.fro x.d hx.1 hx.2.1 hx.2.2)
 obtain ⟨es, hes⟩ : ∃ es, (opC x A c).toArray = es := ⟨_, rfl⟩
 obtain ⟨os, hos⟩ : ∃ os, (opC ⟨x.kind, x.id, x.n, x.rep, 0, ⟨#[]⟩, [], z16, 0, z32⟩ none 0).toArray = os := ⟨_, rfl⟩
 rw [hes] at k0 k17 k18 k19 k20 k21 k38 HAT ⊢
 rw [hos] at HBU hoz HO1 HFIN
 have hb0 := blk_new w (.cells es 98)
 have hz := blk_new (w.alloc (.cells es 98)) (.cells Try.zeroCells98 98)
 rw [alloc_size] at hz
 have HB := am (And.intro (blk_alloc (blk_alloc hb0 (.cells Try.zeroCells98 98)) (.cells os 98)) (blk_alloc hz (.cells os 98)))
 have hn := blk_new ((w.alloc (.cells es 98)).alloc (.cells Try.zeroCells98 98)) (.cells os 98)
 rw [alloc_size, alloc_size] at hn
 have HN := am hn
 have HE0 := am (blk_alloc hb0 (.cells Try.zeroCells98 98))
 have HBL := am (below_alloc (below_alloc (below_alloc (Below.refl w.heap.size w) (.cells es 98)) (.cells Try.zeroCells98 98)) (.cells os 98))
 have hsn := store_new ((w.alloc (.cells es 98)).alloc (.cells Try.zeroCells98 98)) Try.zeroCells98 os 98 (by rw [hoz]; kernel_rfl) HO1.out
 rw [alloc_size, alloc_size] at hsn
 have f0 := (blk_cell HE0.out 0).trans k0
 have f17 := (blk_cell HE0.out 17).trans k17
 have f18 := (blk_cell HE0.out 18).trans k18
 have g0 := (blk_cell HB.out.1 0).trans k0
 have HI := am (And.intro k19 (And.intro k20 (And.intro k21 k38)))
 have HID := am (HAT.out _ HE0.out).1
 have HG := am (only_world w es)
 have HK := am (And.intro (show os[19]? = some (.int .i64 0) by rw [← hos]; exact (opC_at hl1 none 0).2.2.2.1) (show os[38]? = some (.int .i64 0) by rw [← hos]; exact (opC_at hl1 none 0).2.2.2.2.2.2))
 clear hx hes hos hb0 hz hn hl1 k0 k17 k18 k19 k20 k21 k38
 go_enter Try.func156, Try.ntmps156
 go_wp2_with (first
  | ((with_reducible refine gate_dst (N := 7) rfl ?_); refine wpList_load_cells rfl 94 (.tmp 6) rfl ⟨w.heap.size, 1, none⟩ rfl (cells8 x.id) _ HID.out Try.underlying94 rfl (by rw [cells8_size, HX.out.1]; kernel_rfl) ?_)
  | ((with_reducible refine gate_dst (N := 10) rfl ?_); refine wpList_build_cells rfl 98 _ rfl os ?hb ?_; case hb => (simp only [List.map_toArray, List.map_cons, List.map_nil]; exact HBU.out))
  | fail)
 refine wp_region_held_drew (S := (fun W => W.heap[w.heap.size]? = some (.cells es 98 (0, 0)) ∧ Below w.heap.size w W)) (by kernel_rfl) (⟨(HG.out os).1, (HG.out os).2.2.2⟩) (fun hHeld => ?_)
 refine th (i := 0) ?_
 refine tu (i := 1) (fun W_ hW_ => (blk_cell hW_.1 19).trans HI.out.1) ?_
 refine th (i := 2) ?_
 refine tq (i := 3) (v := ?_) ?hy ?_
 case hy => (intro W_ hW_; refine Eq.trans (exec_load_cells 94 (.tmp 25) ?_ ⟨w.heap.size, 22, none⟩ ?_ (cells8 x.fro) _ (HAT.out _ hW_.1).2.1 Try.underlying94 rfl (by rw [cells8_size, HX.out.2.1]; kernel_rfl)) ?_ <;> (first | with_reducible rfl | rfl))
 try simp only [sp]
 refine th (i := 4) ?_
 refine tu (i := 5) (fun W_ hW_ => (blk_cell hW_.1 38).trans HI.out.2.2.2) ?_
 refine th (i := 6) ?_
 refine tq (i := 7) (v := ?_) ?hy ?_
 case hy => (intro W_ hW_; refine Eq.trans (exec_load_cells 28 (.tmp 29) ?_ ⟨w.heap.size, 39, none⟩ ?_ (cells8 x.d) _ (HAT.out _ hW_.1).2.2 Try.underlying28 rfl (by rw [cells8_size, HX.out.2.2]; kernel_rfl)) ?_ <;> (first | with_reducible rfl | rfl))
 try simp only [sp]
 refine th (i := 8) ?_
 refine tr (i := 9) (fun K hK => ?_)
 have h_ := (blk_cell (HG.out (os)).2.2.1 19).trans (HK.out.1)
 have hfr := blk_frozen (HG.out (os)).2.2.1 19
 go_wp2_with fail
 refine hK.out _ _ (⟨(HG.out _).1, (HG.out _).2.2.2⟩) ?_
 clear hK K hHeld
 intro hHeld
 try simp only [sp]
 clear h_ hfr
 refine th (i := 10) ?_
 refine tr (i := 11) (fun K hK => ?_)
 have hsr := store_mid w es (os.setIfInBounds 19 (.int .i64 x.no)) 22 (cells8 x.fro).toList (by rw [Array.length_toList, cells8_size, HX.out.2.1]; simp only [setL_size, Array.size_setIfInBounds, hoz]; decide) (fun v hv => (Array.all_eq_true_iff_forall_mem.1 (cells8_all _)) v (by simpa using hv))
 have hsz_ : (cells8 x.fro).size = 16 := by rw [cells8_size, HX.out.2.1]
 go_wp2_with fail
 refine hK.out _ _ (⟨(HG.out _).1, (HG.out _).2.2.2⟩) ?_
 clear hK K hHeld
 intro hHeld
 try simp only [sp]
 clear hsr hsz_
 refine th (i := 12) ?_
 refine tr (i := 13) (fun K hK => ?_)
 have h_ := (blk_cell (HG.out (setL (os.setIfInBounds 19 (.int .i64 x.no)) 22 (cells8 x.fro).toList)).2.2.1 38).trans ((setL_far _ _ _ _ (by rw [Array.length_toList, cells8_size, HX.out.2.1]; decide)).trans ((Array.getElem?_setIfInBounds_ne (by decide)).trans HK.out.2))
 have hfr := blk_frozen (HG.out (setL (os.setIfInBounds 19 (.int .i64 x.no)) 22 (cells8 x.fro).toList)).2.2.1 38
 go_wp2_with fail
 refine hK.out _ _ (⟨(HG.out _).1, (HG.out _).2.2.2⟩) ?_
 clear hK K hHeld
 intro hHeld
 try simp only [sp]
 clear h_ hfr
 refine th (i := 14) ?_
 refine tr (i := 15) (fun K hK => ?_)
 have hsr := store_mid w es ((setL (os.setIfInBounds 19 (.int .i64 x.no)) 22 (cells8 x.fro).toList).setIfInBounds 38 (.int .i64 x.fno)) 39 (cells8 x.d).toList (by rw [Array.length_toList, cells8_size, HX.out.2.2]; simp only [setL_size, Array.size_setIfInBounds, hoz]; decide) (fun v hv => (Array.all_eq_true_iff_forall_mem.1 (cells8_all _)) v (by simpa using hv))
 have hsz_ : (cells8 x.d).size = 32 := by rw [cells8_size, HX.out.2.2]
 go_wp2_with fail
 refine hK.out _ _ (⟨(HG.out _).1, (HG.out _).2.2.2⟩) ?_
 clear hK K hHeld
 intro hHeld
 try simp only [sp]
 clear hsr hsz_
 refine td ?_
 have hx1 : (⟨x.kind, x.id, x.n, x.rep, x.no, ⟨#[]⟩, [], x.fro, x.fno, x.d⟩ : OpT).id.length = 16 ∧ (⟨x.kind, x.id, x.n, x.rep, x.no, ⟨#[]⟩, [], x.fro, x.fno, x.d⟩ : OpT).fro.length = 16 ∧ (⟨x.kind, x.id, x.n, x.rep, x.no, ⟨#[]⟩, [], x.fro, x.fno, x.d⟩ : OpT).d.length = 32 := ⟨HX.out.1, HX.out.2.1, HX.out.2.2⟩
 have hxz : (opC ⟨x.kind, x.id, x.n, x.rep, x.no, ⟨#[]⟩, [], x.fro, x.fno, x.d⟩ none 0).toArray.size = 71 := by rw [List.size_toArray, opC_len hx1]
 have hxo := opC_one ⟨x.kind, x.id, x.n, x.rep, x.no, ⟨#[]⟩, [], x.fro, x.fno, x.d⟩ none 0
 rw [HFIN.out]
 obtain ⟨xs, hxs⟩ : ∃ xs, (opC ⟨x.kind, x.id, x.n, x.rep, x.no, ⟨#[]⟩, [], x.fro, x.fno, x.d⟩ none 0).toArray = xs := ⟨_, rfl⟩
 rw [hxs] at hxz hxo ⊢
 have hst := storeA (cs := xs) (HG.out xs).2.1 (by rw [hxz]; kernel_rfl) hxo
 have HXG := am (HG.out xs)
 have HXS := am hxs
 clear hx1 hxo hHeld hxs
 go_wp2_with (first
  | ((with_reducible refine gate_dst (N := 46) rfl ?_); refine wpList_load_row rfl 98 (.tmp 3) rfl (w.heap.size + 1 + 1) rfl 98 xs (0, 0) _ HXG.out.2.2.1 Try.underlying98 rfl (by rw [hxz]; exact infoOp) ?_)
  | fail)
 refine bodyPost_ret (v := .agg xs) ?_ rfl ⟨by rw [HXS.out], ?_⟩
 ·exact results_cell_row (P := Try.prog) Try.results156 _ _ (w.heap.size + 1) 98 xs (0, 0) _ rfl (setRow_heap _ _ _ _ _ _ HXG.out.2.1) Try.underlying98 rfl (by rw [hxz]; exact infoOp)
 ·exact below_row HXG.out.2.2.2 (by omega)
set_option maxHeartbeats 4000000 in
theorem only_3 (x : OpT) (A : Option Addr) (c : Nat) (w : World) (hx : x.id.length = 16 ∧ x.fro.length = 16 ∧ x.d.length = 32) (c1 : (x.kind == 1) = false) (c2 : (x.kind == 2) = false) (c3 : (x.kind == 3) = true) :
  Calls Try.prog 156 #[.agg (opC x A c).toArray] w fun e w' => e = .returned (.agg (opC (⟨x.kind, x.id, x.n, x.rep, x.no, ⟨#[]⟩, x.p, z16, 0, x.d⟩) A c).toArray) ∧ Below w.heap.size w w' := by
 obtain ⟨k0, k17, k18, k19, k20, k21, k38⟩ := opC_at hx A c
 have HX := am hx
 have HAT := am (fun (W : World) (h : W.heap[w.heap.size]? = some (.cells (opC x A c).toArray 98 (0, 0))) => by
  have := opC_arr hx A c (At.blk h)
  rwa [add_at, add_at, add_at] at this)
 have HBU := am (built_op x.kind x.n x.rep x.id hx.1)
 have hl1 : (⟨x.kind, x.id, x.n, x.rep, 0, ⟨#[]⟩, [], z16, 0, z32⟩ : OpT).id.length = 16 ∧ (⟨x.kind, x.id, x.n, x.rep, 0, ⟨#[]⟩, [], z16, 0, z32⟩ : OpT).fro.length = 16 ∧ (⟨x.kind, x.id, x.n, x.rep, 0, ⟨#[]⟩, [], z16, 0, z32⟩ : OpT).d.length = 32 := ⟨hx.1, rfl, rfl⟩
 have hoz : (opC ⟨x.kind, x.id, x.n, x.rep, 0, ⟨#[]⟩, [], z16, 0, z32⟩ none 0).toArray.size = 71 := by rw [List.size_toArray, opC_len hl1]
 have HO1 := am (opC_one ⟨x.kind, x.id, x.n, x.rep, 0, ⟨#[]⟩, [], z16, 0, z32⟩ none 0)
 have HFIN := am (set3 x.kind x.n x.rep x.no x.id x.d x.p A c hx.1 hx.2.2)
 obtain ⟨es, hes⟩ : ∃ es, (opC x A c).toArray = es := ⟨_, rfl⟩
 obtain ⟨os, hos⟩ : ∃ os, (opC ⟨x.kind, x.id, x.n, x.rep, 0, ⟨#[]⟩, [], z16, 0, z32⟩ none 0).toArray = os := ⟨_, rfl⟩
 rw [hes] at k0 k17 k18 k19 k20 k21 k38 HAT ⊢
 rw [hos] at HBU hoz HO1 HFIN
 have hb0 := blk_new w (.cells es 98)
 have hz := blk_new (w.alloc (.cells es 98)) (.cells Try.zeroCells98 98)
 rw [alloc_size] at hz
 have HB := am (And.intro (blk_alloc (blk_alloc hb0 (.cells Try.zeroCells98 98)) (.cells os 98)) (blk_alloc hz (.cells os 98)))
 have hn := blk_new ((w.alloc (.cells es 98)).alloc (.cells Try.zeroCells98 98)) (.cells os 98)
 rw [alloc_size, alloc_size] at hn
 have HN := am hn
 have HE0 := am (blk_alloc hb0 (.cells Try.zeroCells98 98))
 have HBL := am (below_alloc (below_alloc (below_alloc (Below.refl w.heap.size w) (.cells es 98)) (.cells Try.zeroCells98 98)) (.cells os 98))
 have hsn := store_new ((w.alloc (.cells es 98)).alloc (.cells Try.zeroCells98 98)) Try.zeroCells98 os 98 (by rw [hoz]; kernel_rfl) HO1.out
 rw [alloc_size, alloc_size] at hsn
 have f0 := (blk_cell HE0.out 0).trans k0
 have f17 := (blk_cell HE0.out 17).trans k17
 have f18 := (blk_cell HE0.out 18).trans k18
 have g0 := (blk_cell HB.out.1 0).trans k0
 have HI := am (And.intro k19 (And.intro k20 (And.intro k21 k38)))
 have HID := am (HAT.out _ HE0.out).1
 have HG := am (only_world w es)
 have HK := am (And.intro (show os[19]? = some (.int .i64 0) by rw [← hos]; exact (opC_at hl1 none 0).2.2.2.1) (show os[21]? = some (.slice none 0 0) by rw [← hos]; exact (opC_at hl1 none 0).2.2.2.2.2.1))
 clear hx hes hos hb0 hz hn hl1 k0 k17 k18 k19 k20 k21 k38
 go_enter Try.func156, Try.ntmps156
 go_wp2_with (first
  | ((with_reducible refine gate_dst (N := 7) rfl ?_); refine wpList_load_cells rfl 94 (.tmp 6) rfl ⟨w.heap.size, 1, none⟩ rfl (cells8 x.id) _ HID.out Try.underlying94 rfl (by rw [cells8_size, HX.out.1]; kernel_rfl) ?_)
  | ((with_reducible refine gate_dst (N := 10) rfl ?_); refine wpList_build_cells rfl 98 _ rfl os ?hb ?_; case hb => (simp only [List.map_toArray, List.map_cons, List.map_nil]; exact HBU.out))
  | fail)
 refine wp_region_held_drew (S := (fun W => W.heap[w.heap.size]? = some (.cells es 98 (0, 0)) ∧ Below w.heap.size w W)) (by kernel_rfl) (⟨(HG.out os).1, (HG.out os).2.2.2⟩) (fun hHeld => ?_)
 refine th (i := 0) ?_
 refine tu (i := 1) (fun W_ hW_ => (blk_cell hW_.1 19).trans HI.out.1) ?_
 refine th (i := 2) ?_
 refine tu (i := 3) (fun W_ hW_ => (blk_cell hW_.1 21).trans HI.out.2.2.1) ?_
 refine th (i := 4) ?_
 refine tq (i := 5) (v := ?_) ?hy ?_
 case hy => (intro W_ hW_; refine Eq.trans (exec_load_cells 28 (.tmp 41) ?_ ⟨w.heap.size, 39, none⟩ ?_ (cells8 x.d) _ (HAT.out _ hW_.1).2.2 Try.underlying28 rfl (by rw [cells8_size, HX.out.2.2]; kernel_rfl)) ?_ <;> (first | with_reducible rfl | rfl))
 try simp only [sp]
 refine th (i := 6) ?_
 refine tr (i := 7) (fun K hK => ?_)
 have h_ := (blk_cell (HG.out (os)).2.2.1 19).trans (HK.out.1)
 have hfr := blk_frozen (HG.out (os)).2.2.1 19
 go_wp2_with fail
 refine hK.out _ _ (⟨(HG.out _).1, (HG.out _).2.2.2⟩) ?_
 clear hK K hHeld
 intro hHeld
 try simp only [sp]
 clear h_ hfr
 refine th (i := 8) ?_
 refine tr (i := 9) (fun K hK => ?_)
 have h_ := (blk_cell (HG.out (os.setIfInBounds 19 (.int .i64 x.no))).2.2.1 21).trans ((Array.getElem?_setIfInBounds_ne (by decide)).trans HK.out.2)
 have hfr := blk_frozen (HG.out (os.setIfInBounds 19 (.int .i64 x.no))).2.2.1 21
 go_wp2_with fail
 refine hK.out _ _ (⟨(HG.out _).1, (HG.out _).2.2.2⟩) ?_
 clear hK K hHeld
 intro hHeld
 try simp only [sp]
 clear h_ hfr
 refine th (i := 10) ?_
 refine tr (i := 11) (fun K hK => ?_)
 have hsr := store_mid w es ((os.setIfInBounds 19 (.int .i64 x.no)).setIfInBounds 21 (.slice A x.p.length c)) 39 (cells8 x.d).toList (by rw [Array.length_toList, cells8_size, HX.out.2.2]; simp only [setL_size, Array.size_setIfInBounds, hoz]; decide) (fun v hv => (Array.all_eq_true_iff_forall_mem.1 (cells8_all _)) v (by simpa using hv))
 have hsz_ : (cells8 x.d).size = 32 := by rw [cells8_size, HX.out.2.2]
 go_wp2_with fail
 refine hK.out _ _ (⟨(HG.out _).1, (HG.out _).2.2.2⟩) ?_
 clear hK K hHeld
 intro hHeld
 try simp only [sp]
 clear hsr hsz_
 refine td ?_
 have hx1 : (⟨x.kind, x.id, x.n, x.rep, x.no, ⟨#[]⟩, x.p, z16, 0, x.d⟩ : OpT).id.length = 16 ∧ (⟨x.kind, x.id, x.n, x.rep, x.no, ⟨#[]⟩, x.p, z16, 0, x.d⟩ : OpT).fro.length = 16 ∧ (⟨x.kind, x.id, x.n, x.rep, x.no, ⟨#[]⟩, x.p, z16, 0, x.d⟩ : OpT).d.length = 32 := ⟨HX.out.1, rfl, HX.out.2.2⟩
 have hxz : (opC ⟨x.kind, x.id, x.n, x.rep, x.no, ⟨#[]⟩, x.p, z16, 0, x.d⟩ A c).toArray.size = 71 := by rw [List.size_toArray, opC_len hx1]
 have hxo := opC_one ⟨x.kind, x.id, x.n, x.rep, x.no, ⟨#[]⟩, x.p, z16, 0, x.d⟩ A c
 rw [HFIN.out]
 obtain ⟨xs, hxs⟩ : ∃ xs, (opC ⟨x.kind, x.id, x.n, x.rep, x.no, ⟨#[]⟩, x.p, z16, 0, x.d⟩ A c).toArray = xs := ⟨_, rfl⟩
 rw [hxs] at hxz hxo ⊢
 have hst := storeA (cs := xs) (HG.out xs).2.1 (by rw [hxz]; kernel_rfl) hxo
 have HXG := am (HG.out xs)
 have HXS := am hxs
 clear hx1 hxo hHeld hxs
 go_wp2_with (first
  | ((with_reducible refine gate_dst (N := 46) rfl ?_); refine wpList_load_row rfl 98 (.tmp 3) rfl (w.heap.size + 1 + 1) rfl 98 xs (0, 0) _ HXG.out.2.2.1 Try.underlying98 rfl (by rw [hxz]; exact infoOp) ?_)
  | fail)
 refine bodyPost_ret (v := .agg xs) ?_ rfl ⟨by rw [HXS.out], ?_⟩
 ·exact results_cell_row (P := Try.prog) Try.results156 _ _ (w.heap.size + 1) 98 xs (0, 0) _ rfl (setRow_heap _ _ _ _ _ _ HXG.out.2.1) Try.underlying98 rfl (by rw [hxz]; exact infoOp)
 ·exact below_row HXG.out.2.2.2 (by omega)
theorem onlyO_lens {x : OpT} (h : x.id.length = 16 ∧ x.fro.length = 16 ∧ x.d.length = 32) : (onlyO x).id.length = 16 ∧ (onlyO x).fro.length = 16 ∧ (onlyO x).d.length = 32 := by
 unfold onlyO
 split
 ·exact ⟨h.1, rfl, rfl⟩
 ·split
  ·exact h
  ·split
   ·exact ⟨h.1, rfl, h.2.2⟩
   ·exact ⟨h.1, rfl, rfl⟩
theorem only_call (x : OpT) (A : Option Addr) (c : Nat) (w : World) (hx : x.id.length = 16 ∧ x.fro.length = 16 ∧ x.d.length = 32) (hc : x.p.length ≤ c) :
  Calls Try.prog 156 #[.agg (opC x A c).toArray] w fun e w' => (∃ A2 c2, e = .returned (.agg (opC (onlyO x) A2 c2).toArray) ∧ (onlyO x).p.length ≤ c2 ∧ ∀ V : World, Kd.C k67 V A x.p.length x.p → Kd.C k67 V A2 (onlyO x).p.length (onlyO x).p) ∧ Below w.heap.size w w' := by
 have hz : ∀ V : World, Kd.C k67 V A x.p.length x.p → Kd.C k67 V none ([] : List S67).length ([] : List S67) := fun _ _ => ⟨rfl, by decide, fun h => absurd h (by decide)⟩
 unfold onlyO
 by_cases h1 : x.kind = 1
 ·rw [if_pos h1]
  exact (only_1 x A c w hx (by simpa using h1)).mono fun e w' h => ⟨⟨none, 0, h.1, Nat.le_refl _, hz⟩, h.2⟩
 rw [if_neg h1]
 by_cases h2 : x.kind = 2
 ·rw [if_pos h2]
  exact (only_2 x A c w hx (by simpa using h1) (by simpa using h2)).mono fun e w' h => ⟨⟨none, 0, h.1, Nat.le_refl _, hz⟩, h.2⟩
 rw [if_neg h2]
 by_cases h3 : x.kind = 3
 ·rw [if_pos h3]
  exact (only_3 x A c w hx (by simpa using h1) (by simpa using h2) (by simpa using h3)).mono fun e w' h => ⟨⟨A, c, h.1, hc, fun _ hV => hV⟩, h.2⟩
 rw [if_neg h3]
 exact (only_0 x A c w hx (by simpa using h1) (by simpa using h2) (by simpa using h3)).mono fun e w' h => ⟨⟨none, 0, h.1, Nat.le_refl _, hz⟩, h.2⟩
theorem eqA67 (d : Nat) (w : World) (x0 y0 : Bool) (x1 y1 : Int) (x2 y2 : Int) (x3 y3 : ByteArray) :
  (Op.equalIn (d + 2) 67 (.agg #[.bool x0, .int .i64 x1, .int .i64 x2, .string x3]) (.agg #[.bool y0, .int .i64 y1, .int .i64 y2, .string y3])).run Try.prog w = .ok (x0 == y0 && (x1 == y1 && (x2 == y2 && (x3.toList == y3.toList)))) w := by
 refine eqA_of Try.underlying67 (by kernel_rfl) ?_
 refine eqf_cons (by rfl) (by go_simp; rfl) (by go_simp; rfl) (by go_simp) ?_
 refine eqf_cons (by rfl) (by go_simp; rfl) (by go_simp; rfl) (by go_simp) ?_
 refine eqf_cons (by rfl) (by go_simp; rfl) (by go_simp; rfl) (by go_simp) ?_
 exact eqf_last (by rfl) (by go_simp; rfl) (by go_simp; rfl) (by go_simp)
def delta_in.f (a0 : Int) (a1 : Int) (a2 : Int) : Option (Bool) := if a0 ≥ a1 then (some (decide (a0 ≤ a2))) else (some false)
set_option maxHeartbeats 8000000 in
theorem delta_in.calls (a0 : Int) (a1 : Int) (a2 : Int) (r : Bool) (w : World) (h : delta_in.f a0 a1 a2 = some r) :
  Calls Try.prog 146 #[.int .i64 a0, .int .i64 a1, .int .i64 a2] w fun e w' => e = .returned (.bool r) ∧ Drawn0 w w' := by
 have H : (if a0 ≥ a1 then (some (decide (a0 ≤ a2))) else (some false)) = some r := h
 clear h
 by_cases c4 : a0 ≥ a1
 ·rw [if_pos c4] at H
  have c4b0 : decide (a1 ≤ a0) = true := decide_eq_true c4
  clear c4
  obtain rfl := Option.some.inj H
  go_enter Try.func146, Try.ntmps146
  go_wp2
  go_ret
  exact ⟨by first | rfl | (simp; done) | (simp [*]; done), by repeat (first | exact Drawn0.refl _ | apply Drawn0.step)⟩
 ·rw [if_neg c4] at H
  have c4b0 : decide (a1 ≤ a0) = false := decide_eq_false c4
  clear c4
  obtain rfl := Option.some.inj H
  go_enter Try.func146, Try.ntmps146
  go_wp2
  go_ret
  exact ⟨by first | rfl | (simp; done) | (simp [*]; done), by repeat (first | exact Drawn0.refl _ | apply Drawn0.step)⟩
end
section
open Go.RowKit Go.Proofs.YtchaegfdcdlfaaaW.PrintWords Go.Proofs.YtchaegfdcdlfaaaW.PrintLast Go.Proofs.YtchaegfdcdlfaaaW.PrintMore
attribute [local go_sem] max2_int min2_int max_two min_two max_three min_three max_four min_four
attribute [local go_sem high] eqA67
def delta_may.f (a0_0 : Bool) (a0_1 : Int) (a0_2 : Int) (a0_3 : ByteArray) : Option (Bool) := if a0_0 = true then ((delta_in.f a0_1 0 200).bind fun t366 => (if t366 = true then ((delta_in.f a0_2 1 200).bind fun t367 => (if t367 = true then (some (a0_3.toList == ([] : List UInt8))) else (some false))) else (some false))) else (if (!a0_0 && (a0_1 == 0 && (a0_2 == 0))) = true then ((delta_in.f (a0_3.size : Int) 1 200).bind fun t368 => (some t368)) else (some false))
set_option maxHeartbeats 8000000 in
theorem delta_may.calls (a0_0 : Bool) (a0_1 : Int) (a0_2 : Int) (a0_3 : ByteArray) (r : Bool) (w : World) (h : delta_may.f a0_0 a0_1 a0_2 a0_3 = some r) :
  Calls Try.prog 101 #[.agg #[.bool a0_0, .int .i64 a0_1, .int .i64 a0_2, .string a0_3]] w fun e w' => e = .returned (.bool r) ∧ Below w.heap.size w w' := by
 have hu67 := Try.underlying67
 have HB := am (Below.refl w.heap.size w)
 have H : (if a0_0 = true then ((delta_in.f a0_1 0 200).bind fun t366 => (if t366 = true then ((delta_in.f a0_2 1 200).bind fun t367 => (if t367 = true then (some (a0_3.toList == ([] : List UInt8))) else (some false))) else (some false))) else (if (!a0_0 && (a0_1 == 0 && (a0_2 == 0))) = true then ((delta_in.f (a0_3.size : Int) 1 200).bind fun t368 => (some t368)) else (some false))) = some r := h
 clear h
 by_cases c2 : a0_0 = true
 ·subst c2
  have H1 : ((delta_in.f a0_1 0 200).bind fun t366 => (if t366 = true then ((delta_in.f a0_2 1 200).bind fun t367 => (if t367 = true then (some (a0_3.toList == ([] : List UInt8))) else (some false))) else (some false))) = some r := by rw [if_pos rfl] at H; exact H
  clear H
  have H := H1
  clear H1
  replace H := Option.bind_eq_some_iff.mp H
  obtain ⟨t366, A30, H⟩ := H
  replace H : (if t366 = true then ((delta_in.f a0_2 1 200).bind fun t367 => (if t367 = true then (some (a0_3.toList == ([] : List UInt8))) else (some false))) else (some false)) = some r := H
  have A3 := am A30
  clear A30
  by_cases c4 : t366 = true
  ·subst c4
   have H1 : ((delta_in.f a0_2 1 200).bind fun t367 => (if t367 = true then (some (a0_3.toList == ([] : List UInt8))) else (some false))) = some r := by rw [if_pos rfl] at H; exact H
   clear H
   have H := H1
   clear H1
   replace H := Option.bind_eq_some_iff.mp H
   obtain ⟨t367, A50, H⟩ := H
   replace H : (if t367 = true then (some (a0_3.toList == ([] : List UInt8))) else (some false)) = some r := H
   have A5 := am A50
   clear A50
   by_cases c6 : t367 = true
   ·subst c6
    have H1 : (some (a0_3.toList == ([] : List UInt8))) = some r := by rw [if_pos rfl] at H; exact H
    clear H
    have H := H1
    clear H1
    obtain rfl := Option.some.inj H
    go_enter Try.func101, Try.ntmps101
    go_wp2_with (first | ((with_reducible refine gate_dst (N := 1) rfl ?_); (try (refine gate_guard (by rfl) ?_; dsimp only)); refine box_event ?hg (N := 1) ?hd (cs := #[.bool true, .int .i64 a0_1, .int .i64 a0_2, .string a0_3]) (t := 67) ?hr ?_; (case hd => rfl); (case hg => rfl); (case hr => first | (go_simp; done) | (go_simp; rfl)); intro gb365 hg w7 hbox hb; have n0_ := am (below_step (bw HB.out) hb); have n1_ := am (hbox); have n2_ := am ((by rw [hg]; exact (below_size (bw HB.out)) : w.heap.size ≤ gb365)); have n3_ := am ((by rw [hg]; exact (below_size (bw HB.out)) : w.heap.size ≤ gb365)); clear HB; have HB := n0_; have BK365 := n1_; have GW365 := n2_; have GE365 := n3_; clear n0_ n1_ n2_ n3_; clear hb hbox hg; have hcz8_0 : w7.cell? ⟨gb365, 0, none⟩ = some (.bool true) := (blk_cell BK365.out 0).trans rfl; have hcz8_1 : w7.cell? ⟨gb365, 1, none⟩ = some (.int .i64 a0_1) := (blk_cell BK365.out 1).trans rfl; have hcz8_2 : w7.cell? ⟨gb365, 2, none⟩ = some (.int .i64 a0_2) := (blk_cell BK365.out 2).trans rfl; have hcz8_3 : w7.cell? ⟨gb365, 3, none⟩ = some (.string a0_3) := (blk_cell BK365.out 3).trans rfl; have hfz8_0 := blk_frozen BK365.out 0; have hfz8_1 := blk_frozen BK365.out 1; have hfz8_2 := blk_frozen BK365.out 2; have hfz8_3 := blk_frozen BK365.out 3) | ((with_reducible refine gate_callee (f := 146) rfl ?_); refine goesL_ (some 7) rfl rfl Try.func146 (by kernel_rfl) rfl #[.int .i64 a0_1, .int .i64 0, .int .i64 200] rfl (by (try simp only [List.map_toArray, List.map_cons, List.map_nil]); first | done | rfl | (simp only [List.length_drop, List.length_take]; rfl)) ?_; (with_reducible refine (delta_in.calls a0_1 0 200 true _ A3.out).mono ?_); rintro e w' ⟨rfl, ⟨nd, rfl⟩⟩; refine ⟨_, rfl, ?_⟩) | (go_at_call 146; (with_reducible refine (delta_in.calls a0_2 1 200 true _ A5.out).mono ?_); rintro e w' ⟨rfl, ⟨nd, rfl⟩⟩))
    go_ret
    exact ⟨by first | rfl | (simp [errW_none, errW_some] <;> rfl) | (simp [*, errW_none, errW_some] <;> rfl), by repeat (first | (with_reducible first | exact HB.out | apply below_alloc | apply pw_below_drewN | apply below_drew1 | refine below_set ?_ GE365.out) | exact HB.out)⟩
   ·replace c6 := Bool.eq_false_iff.mpr c6
    subst c6
    have H1 : (some false) = some r := by rw [if_neg (show ¬ (false = true) by decide)] at H; exact H
    clear H
    have H := H1
    clear H1
    obtain rfl := Option.some.inj H
    go_enter Try.func101, Try.ntmps101
    go_wp2_with (first | ((with_reducible refine gate_dst (N := 1) rfl ?_); (try (refine gate_guard (by rfl) ?_; dsimp only)); refine box_event ?hg (N := 1) ?hd (cs := #[.bool true, .int .i64 a0_1, .int .i64 a0_2, .string a0_3]) (t := 67) ?hr ?_; (case hd => rfl); (case hg => rfl); (case hr => first | (go_simp; done) | (go_simp; rfl)); intro gb365 hg w9 hbox hb; have n0_ := am (below_step (bw HB.out) hb); have n1_ := am (hbox); have n2_ := am ((by rw [hg]; exact (below_size (bw HB.out)) : w.heap.size ≤ gb365)); have n3_ := am ((by rw [hg]; exact (below_size (bw HB.out)) : w.heap.size ≤ gb365)); clear HB; have HB := n0_; have BK365 := n1_; have GW365 := n2_; have GE365 := n3_; clear n0_ n1_ n2_ n3_; clear hb hbox hg; have hcz10_0 : w9.cell? ⟨gb365, 0, none⟩ = some (.bool true) := (blk_cell BK365.out 0).trans rfl; have hcz10_1 : w9.cell? ⟨gb365, 1, none⟩ = some (.int .i64 a0_1) := (blk_cell BK365.out 1).trans rfl; have hcz10_2 : w9.cell? ⟨gb365, 2, none⟩ = some (.int .i64 a0_2) := (blk_cell BK365.out 2).trans rfl; have hcz10_3 : w9.cell? ⟨gb365, 3, none⟩ = some (.string a0_3) := (blk_cell BK365.out 3).trans rfl; have hfz10_0 := blk_frozen BK365.out 0; have hfz10_1 := blk_frozen BK365.out 1; have hfz10_2 := blk_frozen BK365.out 2; have hfz10_3 := blk_frozen BK365.out 3) | ((with_reducible refine gate_callee (f := 146) rfl ?_); refine goesL_ (some 7) rfl rfl Try.func146 (by kernel_rfl) rfl #[.int .i64 a0_1, .int .i64 0, .int .i64 200] rfl (by (try simp only [List.map_toArray, List.map_cons, List.map_nil]); first | done | rfl | (simp only [List.length_drop, List.length_take]; rfl)) ?_; (with_reducible refine (delta_in.calls a0_1 0 200 true _ A3.out).mono ?_); rintro e w' ⟨rfl, ⟨nd, rfl⟩⟩; refine ⟨_, rfl, ?_⟩) | (go_at_call 146; (with_reducible refine (delta_in.calls a0_2 1 200 false _ A5.out).mono ?_); rintro e w' ⟨rfl, ⟨nd, rfl⟩⟩))
    go_ret
    exact ⟨by first | rfl | (simp [errW_none, errW_some] <;> rfl) | (simp [*, errW_none, errW_some] <;> rfl), by repeat (first | (with_reducible first | exact HB.out | apply below_alloc | apply pw_below_drewN | apply below_drew1 | refine below_set ?_ GE365.out) | exact HB.out)⟩
  ·replace c4 := Bool.eq_false_iff.mpr c4
   subst c4
   have H1 : (some false) = some r := by rw [if_neg (show ¬ (false = true) by decide)] at H; exact H
   clear H
   have H := H1
   clear H1
   obtain rfl := Option.some.inj H
   go_enter Try.func101, Try.ntmps101
   go_wp2_with (first | ((with_reducible refine gate_dst (N := 1) rfl ?_); (try (refine gate_guard (by rfl) ?_; dsimp only)); refine box_event ?hg (N := 1) ?hd (cs := #[.bool true, .int .i64 a0_1, .int .i64 a0_2, .string a0_3]) (t := 67) ?hr ?_; (case hd => rfl); (case hg => rfl); (case hr => first | (go_simp; done) | (go_simp; rfl)); intro gb365 hg w11 hbox hb; have n0_ := am (below_step (bw HB.out) hb); have n1_ := am (hbox); have n2_ := am ((by rw [hg]; exact (below_size (bw HB.out)) : w.heap.size ≤ gb365)); have n3_ := am ((by rw [hg]; exact (below_size (bw HB.out)) : w.heap.size ≤ gb365)); clear HB; have HB := n0_; have BK365 := n1_; have GW365 := n2_; have GE365 := n3_; clear n0_ n1_ n2_ n3_; clear hb hbox hg; have hcz12_0 : w11.cell? ⟨gb365, 0, none⟩ = some (.bool true) := (blk_cell BK365.out 0).trans rfl; have hcz12_1 : w11.cell? ⟨gb365, 1, none⟩ = some (.int .i64 a0_1) := (blk_cell BK365.out 1).trans rfl; have hcz12_2 : w11.cell? ⟨gb365, 2, none⟩ = some (.int .i64 a0_2) := (blk_cell BK365.out 2).trans rfl; have hcz12_3 : w11.cell? ⟨gb365, 3, none⟩ = some (.string a0_3) := (blk_cell BK365.out 3).trans rfl; have hfz12_0 := blk_frozen BK365.out 0; have hfz12_1 := blk_frozen BK365.out 1; have hfz12_2 := blk_frozen BK365.out 2; have hfz12_3 := blk_frozen BK365.out 3) | ((with_reducible refine gate_callee (f := 146) rfl ?_); refine goesL_ (some 7) rfl rfl Try.func146 (by kernel_rfl) rfl #[.int .i64 a0_1, .int .i64 0, .int .i64 200] rfl (by (try simp only [List.map_toArray, List.map_cons, List.map_nil]); first | done | rfl | (simp only [List.length_drop, List.length_take]; rfl)) ?_; (with_reducible refine (delta_in.calls a0_1 0 200 false _ A3.out).mono ?_); rintro e w' ⟨rfl, ⟨nd, rfl⟩⟩; refine ⟨_, rfl, ?_⟩))
   go_ret
   exact ⟨by first | rfl | (simp [errW_none, errW_some] <;> rfl) | (simp [*, errW_none, errW_some] <;> rfl), by repeat (first | (with_reducible first | exact HB.out | apply below_alloc | apply pw_below_drewN | apply below_drew1 | refine below_set ?_ GE365.out) | exact HB.out)⟩
 ·replace c2 := Bool.eq_false_iff.mpr c2
  subst c2
  have H1 : (if (!false && (a0_1 == 0 && (a0_2 == 0))) = true then ((delta_in.f (a0_3.size : Int) 1 200).bind fun t368 => (some t368)) else (some false)) = some r := by rw [if_neg (show ¬ (false = true) by decide)] at H; exact H
  clear H
  have H := H1
  clear H1
  by_cases c13 : (!false && (a0_1 == 0 && (a0_2 == 0))) = true
  ·rw [if_pos c13] at H
   have c13b0 : (!false && (a0_1 == 0 && (a0_2 == 0))) = true := c13
   have cz13 : (a0_1 = 0 ∧ a0_2 = 0) = True := eq_true (by simpa using c13b0)
   have cy13 : (a0_1 == 0 && a0_2 == 0) = true := by simpa using c13b0
   clear c13
   replace H := Option.bind_eq_some_iff.mp H
   obtain ⟨t368, A140, H⟩ := H
   replace H : (some t368) = some r := H
   have A14 := am A140
   clear A140
   obtain rfl := Option.some.inj H
   go_enter Try.func101, Try.ntmps101
   go_wp2_with (first | ((with_reducible refine gate_dst (N := 1) rfl ?_); (try (refine gate_guard (by rfl) ?_; dsimp only)); refine box_event ?hg (N := 1) ?hd (cs := #[.bool false, .int .i64 a0_1, .int .i64 a0_2, .string a0_3]) (t := 67) ?hr ?_; (case hd => rfl); (case hg => rfl); (case hr => first | (go_simp; done) | (go_simp; rfl)); intro gb365 hg w15 hbox hb; have n0_ := am (below_step (bw HB.out) hb); have n1_ := am (hbox); have n2_ := am ((by rw [hg]; exact (below_size (bw HB.out)) : w.heap.size ≤ gb365)); have n3_ := am ((by rw [hg]; exact (below_size (bw HB.out)) : w.heap.size ≤ gb365)); clear HB; have HB := n0_; have BK365 := n1_; have GW365 := n2_; have GE365 := n3_; clear n0_ n1_ n2_ n3_; clear hb hbox hg; have hcz16_0 : w15.cell? ⟨gb365, 0, none⟩ = some (.bool false) := (blk_cell BK365.out 0).trans rfl; have hcz16_1 : w15.cell? ⟨gb365, 1, none⟩ = some (.int .i64 a0_1) := (blk_cell BK365.out 1).trans rfl; have hcz16_2 : w15.cell? ⟨gb365, 2, none⟩ = some (.int .i64 a0_2) := (blk_cell BK365.out 2).trans rfl; have hcz16_3 : w15.cell? ⟨gb365, 3, none⟩ = some (.string a0_3) := (blk_cell BK365.out 3).trans rfl; have hfz16_0 := blk_frozen BK365.out 0; have hfz16_1 := blk_frozen BK365.out 1; have hfz16_2 := blk_frozen BK365.out 2; have hfz16_3 := blk_frozen BK365.out 3) | (go_at_call 146; (with_reducible refine (delta_in.calls (a0_3.size : Int) 1 200 t368 _ A14.out).mono ?_); rintro e w' ⟨rfl, ⟨nd, rfl⟩⟩))
   go_ret
   exact ⟨by first | rfl | (simp [errW_none, errW_some] <;> rfl) | (simp [*, errW_none, errW_some] <;> rfl), by repeat (first | (with_reducible first | exact HB.out | apply below_alloc | apply pw_below_drewN | apply below_drew1 | refine below_set ?_ GE365.out) | exact HB.out)⟩
  ·rw [if_neg c13] at H
   have c13b0 : (!false && (a0_1 == 0 && (a0_2 == 0))) = false := by simpa using c13
   have cy13 : (a0_1 == 0 && a0_2 == 0) = false := by simpa using c13b0
   have cz13 : (a0_1 = 0 ∧ a0_2 = 0) = False := eq_false (by intro h; simp [h.1, h.2] at c13b0)
   clear c13
   obtain rfl := Option.some.inj H
   go_enter Try.func101, Try.ntmps101
   go_wp2_with (first | ((with_reducible refine gate_dst (N := 1) rfl ?_); (try (refine gate_guard (by rfl) ?_; dsimp only)); refine box_event ?hg (N := 1) ?hd (cs := #[.bool false, .int .i64 a0_1, .int .i64 a0_2, .string a0_3]) (t := 67) ?hr ?_; (case hd => rfl); (case hg => rfl); (case hr => first | (go_simp; done) | (go_simp; rfl)); intro gb365 hg w17 hbox hb; have n0_ := am (below_step (bw HB.out) hb); have n1_ := am (hbox); have n2_ := am ((by rw [hg]; exact (below_size (bw HB.out)) : w.heap.size ≤ gb365)); have n3_ := am ((by rw [hg]; exact (below_size (bw HB.out)) : w.heap.size ≤ gb365)); clear HB; have HB := n0_; have BK365 := n1_; have GW365 := n2_; have GE365 := n3_; clear n0_ n1_ n2_ n3_; clear hb hbox hg; have hcz18_0 : w17.cell? ⟨gb365, 0, none⟩ = some (.bool false) := (blk_cell BK365.out 0).trans rfl; have hcz18_1 : w17.cell? ⟨gb365, 1, none⟩ = some (.int .i64 a0_1) := (blk_cell BK365.out 1).trans rfl; have hcz18_2 : w17.cell? ⟨gb365, 2, none⟩ = some (.int .i64 a0_2) := (blk_cell BK365.out 2).trans rfl; have hcz18_3 : w17.cell? ⟨gb365, 3, none⟩ = some (.string a0_3) := (blk_cell BK365.out 3).trans rfl; have hfz18_0 := blk_frozen BK365.out 0; have hfz18_1 := blk_frozen BK365.out 1; have hfz18_2 := blk_frozen BK365.out 2; have hfz18_3 := blk_frozen BK365.out 3))
   go_ret
   exact ⟨by first | rfl | (simp [errW_none, errW_some] <;> rfl) | (simp [*, errW_none, errW_some] <;> rfl), by repeat (first | (with_reducible first | exact HB.out | apply below_alloc | apply pw_below_drewN | apply below_drew1 | refine below_set ?_ GE365.out) | exact HB.out)⟩
end
section
open Go.RowKit Go.Proofs.YtchaegfdcdlfaaaW.PrintWords Go.Proofs.YtchaegfdcdlfaaaW.PrintLast Go.Proofs.YtchaegfdcdlfaaaW.PrintMore
attribute [local go_sem] max2_int min2_int max_two min_two max_three min_three max_four min_four
def delta_May.l0 : Nat → List (S67) → Int → List (S67) → Int → Int → Option (Bool)
 | 0, _, _, _, _, _ => none
 | k + 1, x0, x3, x6, x7, x8 => if x8 < x7 then (if 0 ≤ x8 then (if x8 < (x6.length : Int) then ((delta_may.f ((rd_T67 x6 x8).f0) ((rd_T67 x6 x8).f1) ((rd_T67 x6 x8).f2) ((rd_T67 x6 x8).f3)).bind fun t371 => (if t371 = true then (delta_May.l0 k x0 (wrap64 (x3 + (wrap64 (((rd_T67 x6 x8).f2) + (((rd_T67 x6 x8).f3).size : Int))))) x6 x7 (wrap64 (x8 + 1))) else (some false))) else (none)) else (none)) else (if (x0.length : Int) ≤ 60 then (some (decide (x3 ≤ 200))) else (some false))
def delta_May.f (k : Nat) (l0 : List (S67)) : Option (Bool) := delta_May.l0 k l0 0 l0 (l0.length : Int) 0
set_option maxHeartbeats 8000000 in
theorem delta_May.calls (k : Nat) (A0 : Option Addr) (c0 : Nat) (l0 : List (S67)) (r : Bool) (w : World) (hr0 : Kd.C k67 w A0 l0.length l0) (hc0 : l0.length ≤ c0) (h : delta_May.f k l0 = some r) :
  Calls Try.prog 57 #[.slice A0 l0.length c0] w fun e w' => e = .returned (.bool r) ∧ Below w.heap.size w w' := by
 have hu67 := Try.underlying67
 have HR0 := am hr0
 have HC0 := am hc0
 clear hr0 hc0
 have HB := am (Below.refl w.heap.size w)
 have H : (delta_May.l0 k l0 0 l0 (l0.length : Int) 0) = some r := h
 clear h
 have H' := am H
 clear H
 go_enter Try.func57, Try.ntmps57
 go_wp2
 go_loopg [3, 8] k (fun kq v3 v8 w' => ∃ (x3_1 : Int) (x8_1 : Int), v3 = .int .i64 x3_1 ∧ v8 = .int .i64 x8_1 ∧ Aside0 (delta_May.l0 kq l0 x3_1 l0 (l0.length : Int) x8_1 = some r) ∧ Aside0 (kq ≤ k) ∧ Aside0 (Below w.heap.size w w'))
 case atStart => exact ⟨(0), (0), (by first | rfl | (simp; done) | (simp [*]; done)), (by first | rfl | (simp; done) | (simp [*]; done)), H', ⟨Nat.le_refl _⟩, ⟨bw HB.out⟩⟩
 case round =>
  clear H'
  obtain ⟨x3_1, x8_1, rfl, rfl, HA, HK1, HB⟩ := hrel
  cases gk with
  | zero => exact absurd HA.out (by simp [delta_May.l0])
  | succ k1 =>
   have H := HA.out
   clear HA
   simp only [delta_May.l0] at H
   by_cases c2 : x8_1 < (l0.length : Int)
   ·rw [if_pos c2] at H
    have c2b0 : decide (x8_1 < (l0.length : Int)) = true := decide_eq_true c2
    clear c2
    by_cases c3 : 0 ≤ x8_1
    ·rw [if_pos c3] at H
     have c3b0 : decide (0 ≤ x8_1) = true := decide_eq_true c3
     clear c3
     by_cases c4 : x8_1 < (l0.length : Int)
     ·rw [if_pos c4] at H
      have c4b0 : decide (x8_1 < (l0.length : Int)) = true := decide_eq_true c4
      clear c4
      replace H := Option.bind_eq_some_iff.mp H
      obtain ⟨t371, A50, H⟩ := H
      replace H : (if t371 = true then (delta_May.l0 k1 l0 (wrap64 (x3_1 + (wrap64 (((rd_T67 l0 x8_1).f2) + (((rd_T67 l0 x8_1).f3).size : Int))))) l0 (l0.length : Int) (wrap64 (x8_1 + 1))) else (some false)) = some r := H
      have A5 := am A50
      clear A50
      by_cases c6 : t371 = true
      ·subst c6
       have H1 : (delta_May.l0 k1 l0 (wrap64 (x3_1 + (wrap64 (((rd_T67 l0 x8_1).f2) + (((rd_T67 l0 x8_1).f3).size : Int))))) l0 (l0.length : Int) (wrap64 (x8_1 + 1))) = some r := by rw [if_pos rfl] at H; exact H
       clear H
       have H := H1
       clear H1
       have H' := am H
       clear H
       have p369 : 0 ≤ (x8_1 : Int) := of_decide_eq_true (by first | (with_reducible assumption) | assumption)
       have q369 : x8_1 < (l0.length : Int) := of_decide_eq_true (by first | (with_reducible assumption) | assumption)
       obtain ⟨ad369, e369, hx369_0, hx369_1, hx369_2, hx369_3⟩ := at_T67 HR0.out x8_1 p369 q369
       cases e369
       replace hx369_0 := (HB.out.cell (World.block_lt_of_cell? w _ hx369_0)).trans hx369_0
       replace hx369_1 := (HB.out.cell (World.block_lt_of_cell? w _ hx369_1)).trans hx369_1
       replace hx369_2 := (HB.out.cell (World.block_lt_of_cell? w _ hx369_2)).trans hx369_2
       replace hx369_3 := (HB.out.cell (World.block_lt_of_cell? w _ hx369_3)).trans hx369_3
       replace p369 := eq_true p369
       replace q369 := eq_true q369
       go_wp2_with (first | ((with_reducible refine gate_dst (N := 5) rfl ?_); refine box_event ?hg (N := 5) ?hd (cs := #[.bool false, .int .i64 0, .int .i64 0, .string (⟨#[]⟩ : ByteArray)]) (t := 67) ?hr ?_; (case hd => rfl); (case hg => rfl); (case hr => first | (go_simp; done) | (go_simp; rfl)); intro gb370 hg w7 hbox hb; have n0_ := am (below_step (bw HB.out) hb); have n1_ := am (hbox); have n2_ := am ((by rw [hg]; exact (below_size (bw HB.out)) : w.heap.size ≤ gb370)); have n3_ := am ((by rw [hg]; exact (below_size (bw HB.out)) : w.heap.size ≤ gb370)); clear HB; have HB := n0_; have BK370 := n1_; have GW370 := n2_; have GE370 := n3_; clear n0_ n1_ n2_ n3_; clear hb hbox hg; have hcz8_0 : w7.cell? ⟨gb370, 0, none⟩ = some (.bool false) := (blk_cell BK370.out 0).trans rfl; have hcz8_1 : w7.cell? ⟨gb370, 1, none⟩ = some (.int .i64 0) := (blk_cell BK370.out 1).trans rfl; have hcz8_2 : w7.cell? ⟨gb370, 2, none⟩ = some (.int .i64 0) := (blk_cell BK370.out 2).trans rfl; have hcz8_3 : w7.cell? ⟨gb370, 3, none⟩ = some (.string (⟨#[]⟩ : ByteArray)) := (blk_cell BK370.out 3).trans rfl; have hfz8_0 := blk_frozen BK370.out 0; have hfz8_1 := blk_frozen BK370.out 1; have hfz8_2 := blk_frozen BK370.out 2; have hfz8_3 := blk_frozen BK370.out 3) | ((with_reducible refine gate_callee (f := 101) rfl ?_); refine goesL_ (some 13) rfl rfl Try.func101 (by kernel_rfl) rfl #[.agg #[.bool ((rd_T67 l0 x8_1).f0), .int .i64 ((rd_T67 l0 x8_1).f1), .int .i64 ((rd_T67 l0 x8_1).f2), .string ((rd_T67 l0 x8_1).f3)]] rfl (by (try simp only [List.map_toArray, List.map_cons, List.map_nil]); first | done | rfl | (simp only [List.length_drop, List.length_take]; rfl)) ?_; (with_reducible refine (delta_may.calls ((rd_T67 l0 x8_1).f0) ((rd_T67 l0 x8_1).f1) ((rd_T67 l0 x8_1).f2) ((rd_T67 l0 x8_1).f3) true _ A5.out).mono ?_); rintro e w9 ⟨rfl, hb⟩; refine ⟨_, rfl, ?_⟩; have n0_ := am (blk_below (g := gb370) (o := .cells #[.bool ((rd_T67 l0 x8_1).f0), .int .i64 ((rd_T67 l0 x8_1).f1), .int .i64 ((rd_T67 l0 x8_1).f2), .string ((rd_T67 l0 x8_1).f3)] 67 (0, 0)) (by (with_reducible repeat (first | refine blk_drewN ?_ _ | refine blk_drew ?_ | refine blk_alloc ?_ _)); refine blk_put (cs := #[.bool ((rd_T67 l0 x8_1).f0), .int .i64 ((rd_T67 l0 x8_1).f1), .int .i64 ((rd_T67 l0 x8_1).f2), .string (⟨#[]⟩ : ByteArray)]) ?_ 3 _ rfl; (with_reducible repeat (first | refine blk_drewN ?_ _ | refine blk_drew ?_ | refine blk_alloc ?_ _)); refine blk_put (cs := #[.bool ((rd_T67 l0 x8_1).f0), .int .i64 ((rd_T67 l0 x8_1).f1), .int .i64 0, .string (⟨#[]⟩ : ByteArray)]) ?_ 2 _ rfl; (with_reducible repeat (first | refine blk_drewN ?_ _ | refine blk_drew ?_ | refine blk_alloc ?_ _)); refine blk_put (cs := #[.bool ((rd_T67 l0 x8_1).f0), .int .i64 0, .int .i64 0, .string (⟨#[]⟩ : ByteArray)]) ?_ 1 _ rfl; (with_reducible repeat (first | refine blk_drewN ?_ _ | refine blk_drew ?_ | refine blk_alloc ?_ _)); refine blk_put (cs := #[.bool false, .int .i64 0, .int .i64 0, .string (⟨#[]⟩ : ByteArray)]) ?_ 0 _ rfl; (with_reducible repeat (first | refine blk_drewN ?_ _ | refine blk_drew ?_ | refine blk_alloc ?_ _)); exact BK370.out) hb); have n1_ := am (below_step (by repeat (first | (with_reducible first | exact HB.out | apply below_alloc | apply pw_below_drewN | apply below_drew1 | refine below_set ?_ GE370.out) | exact HB.out)) hb); clear BK370; clear HB; have BK370 := n0_; have HB := n1_; clear n0_ n1_; (try clear hb); (try clear hb2); (try clear hk); (try clear hi); have hcz10_0 : w9.cell? ⟨gb370, 0, none⟩ = some (.bool ((rd_T67 l0 x8_1).f0)) := (blk_cell BK370.out 0).trans rfl; have hcz10_1 : w9.cell? ⟨gb370, 1, none⟩ = some (.int .i64 ((rd_T67 l0 x8_1).f1)) := (blk_cell BK370.out 1).trans rfl; have hcz10_2 : w9.cell? ⟨gb370, 2, none⟩ = some (.int .i64 ((rd_T67 l0 x8_1).f2)) := (blk_cell BK370.out 2).trans rfl; have hcz10_3 : w9.cell? ⟨gb370, 3, none⟩ = some (.string ((rd_T67 l0 x8_1).f3)) := (blk_cell BK370.out 3).trans rfl; have hfz10_0 := blk_frozen BK370.out 0; have hfz10_1 := blk_frozen BK370.out 1; have hfz10_2 := blk_frozen BK370.out 2; have hfz10_3 := blk_frozen BK370.out 3))
       go_roundg k1
       case measure => have := HK1.out; omega
       case rel => exact ⟨(wrap64 (x3_1 + (wrap64 (((rd_T67 l0 x8_1).f2) + (((rd_T67 l0 x8_1).f3).size : Int))))), (wrap64 (x8_1 + 1)), (by first | rfl | (simp; done) | (simp [*]; done)), (by first | rfl | (simp; done) | (simp [*]; done)), H', ⟨by have := HK1.out; omega⟩, ⟨by repeat (first | (with_reducible first | exact HB.out | apply below_alloc | apply pw_below_drewN | apply below_drew1 | refine below_set ?_ GE370.out) | exact HB.out)⟩⟩
      ·replace c6 := Bool.eq_false_iff.mpr c6
       subst c6
       have H1 : (some false) = some r := by rw [if_neg (show ¬ (false = true) by decide)] at H; exact H
       clear H
       have H := H1
       clear H1
       obtain rfl := Option.some.inj H
       have p369 : 0 ≤ (x8_1 : Int) := of_decide_eq_true (by first | (with_reducible assumption) | assumption)
       have q369 : x8_1 < (l0.length : Int) := of_decide_eq_true (by first | (with_reducible assumption) | assumption)
       obtain ⟨ad369, e369, hx369_0, hx369_1, hx369_2, hx369_3⟩ := at_T67 HR0.out x8_1 p369 q369
       cases e369
       replace hx369_0 := (HB.out.cell (World.block_lt_of_cell? w _ hx369_0)).trans hx369_0
       replace hx369_1 := (HB.out.cell (World.block_lt_of_cell? w _ hx369_1)).trans hx369_1
       replace hx369_2 := (HB.out.cell (World.block_lt_of_cell? w _ hx369_2)).trans hx369_2
       replace hx369_3 := (HB.out.cell (World.block_lt_of_cell? w _ hx369_3)).trans hx369_3
       replace p369 := eq_true p369
       replace q369 := eq_true q369
       go_wp2_with (first | ((with_reducible refine gate_dst (N := 5) rfl ?_); refine box_event ?hg (N := 5) ?hd (cs := #[.bool false, .int .i64 0, .int .i64 0, .string (⟨#[]⟩ : ByteArray)]) (t := 67) ?hr ?_; (case hd => rfl); (case hg => rfl); (case hr => first | (go_simp; done) | (go_simp; rfl)); intro gb370 hg w11 hbox hb; have n0_ := am (below_step (bw HB.out) hb); have n1_ := am (hbox); have n2_ := am ((by rw [hg]; exact (below_size (bw HB.out)) : w.heap.size ≤ gb370)); have n3_ := am ((by rw [hg]; exact (below_size (bw HB.out)) : w.heap.size ≤ gb370)); clear HB; have HB := n0_; have BK370 := n1_; have GW370 := n2_; have GE370 := n3_; clear n0_ n1_ n2_ n3_; clear hb hbox hg; have hcz12_0 : w11.cell? ⟨gb370, 0, none⟩ = some (.bool false) := (blk_cell BK370.out 0).trans rfl; have hcz12_1 : w11.cell? ⟨gb370, 1, none⟩ = some (.int .i64 0) := (blk_cell BK370.out 1).trans rfl; have hcz12_2 : w11.cell? ⟨gb370, 2, none⟩ = some (.int .i64 0) := (blk_cell BK370.out 2).trans rfl; have hcz12_3 : w11.cell? ⟨gb370, 3, none⟩ = some (.string (⟨#[]⟩ : ByteArray)) := (blk_cell BK370.out 3).trans rfl; have hfz12_0 := blk_frozen BK370.out 0; have hfz12_1 := blk_frozen BK370.out 1; have hfz12_2 := blk_frozen BK370.out 2; have hfz12_3 := blk_frozen BK370.out 3) | ((with_reducible refine gate_callee (f := 101) rfl ?_); refine goesL_ (some 13) rfl rfl Try.func101 (by kernel_rfl) rfl #[.agg #[.bool ((rd_T67 l0 x8_1).f0), .int .i64 ((rd_T67 l0 x8_1).f1), .int .i64 ((rd_T67 l0 x8_1).f2), .string ((rd_T67 l0 x8_1).f3)]] rfl (by (try simp only [List.map_toArray, List.map_cons, List.map_nil]); first | done | rfl | (simp only [List.length_drop, List.length_take]; rfl)) ?_; (with_reducible refine (delta_may.calls ((rd_T67 l0 x8_1).f0) ((rd_T67 l0 x8_1).f1) ((rd_T67 l0 x8_1).f2) ((rd_T67 l0 x8_1).f3) false _ A5.out).mono ?_); rintro e w13 ⟨rfl, hb⟩; refine ⟨_, rfl, ?_⟩; have n0_ := am (blk_below (g := gb370) (o := .cells #[.bool ((rd_T67 l0 x8_1).f0), .int .i64 ((rd_T67 l0 x8_1).f1), .int .i64 ((rd_T67 l0 x8_1).f2), .string ((rd_T67 l0 x8_1).f3)] 67 (0, 0)) (by (with_reducible repeat (first | refine blk_drewN ?_ _ | refine blk_drew ?_ | refine blk_alloc ?_ _)); refine blk_put (cs := #[.bool ((rd_T67 l0 x8_1).f0), .int .i64 ((rd_T67 l0 x8_1).f1), .int .i64 ((rd_T67 l0 x8_1).f2), .string (⟨#[]⟩ : ByteArray)]) ?_ 3 _ rfl; (with_reducible repeat (first | refine blk_drewN ?_ _ | refine blk_drew ?_ | refine blk_alloc ?_ _)); refine blk_put (cs := #[.bool ((rd_T67 l0 x8_1).f0), .int .i64 ((rd_T67 l0 x8_1).f1), .int .i64 0, .string (⟨#[]⟩ : ByteArray)]) ?_ 2 _ rfl; (with_reducible repeat (first | refine blk_drewN ?_ _ | refine blk_drew ?_ | refine blk_alloc ?_ _)); refine blk_put (cs := #[.bool ((rd_T67 l0 x8_1).f0), .int .i64 0, .int .i64 0, .string (⟨#[]⟩ : ByteArray)]) ?_ 1 _ rfl; (with_reducible repeat (first | refine blk_drewN ?_ _ | refine blk_drew ?_ | refine blk_alloc ?_ _)); refine blk_put (cs := #[.bool false, .int .i64 0, .int .i64 0, .string (⟨#[]⟩ : ByteArray)]) ?_ 0 _ rfl; (with_reducible repeat (first | refine blk_drewN ?_ _ | refine blk_drew ?_ | refine blk_alloc ?_ _)); exact BK370.out) hb); have n1_ := am (below_step (by repeat (first | (with_reducible first | exact HB.out | apply below_alloc | apply pw_below_drewN | apply below_drew1 | refine below_set ?_ GE370.out) | exact HB.out)) hb); clear BK370; clear HB; have BK370 := n0_; have HB := n1_; clear n0_ n1_; (try clear hb); (try clear hb2); (try clear hk); (try clear hi)))
       go_ret
       exact ⟨by first | rfl | (simp [errW_none, errW_some] <;> rfl) | (simp [*, errW_none, errW_some] <;> rfl), by repeat (first | (with_reducible first | exact HB.out | apply below_alloc | apply pw_below_drewN | apply below_drew1 | refine below_set ?_ GE370.out) | exact HB.out)⟩
     ·rw [if_neg c4] at H
      exact absurd H (by simp)
    ·rw [if_neg c3] at H
     exact absurd H (by simp)
   ·rw [if_neg c2] at H
    have c2b0 : decide (x8_1 < (l0.length : Int)) = false := decide_eq_false c2
    clear c2
    by_cases c14 : (l0.length : Int) ≤ 60
    ·rw [if_pos c14] at H
     have c14b0 : decide ((l0.length : Int) ≤ 60) = true := decide_eq_true c14
     have c14b1 : decide (l0.length ≤ 60) = true := decide_eq_true (by omega)
     clear c14
     obtain rfl := Option.some.inj H
     go_wp2
     go_ret
     exact ⟨by first | rfl | (simp [errW_none, errW_some] <;> rfl) | (simp [*, errW_none, errW_some] <;> rfl), bw HB.out⟩
    ·rw [if_neg c14] at H
     have c14b0 : decide ((l0.length : Int) ≤ 60) = false := decide_eq_false c14
     have c14b1 : decide (l0.length ≤ 60) = false := decide_eq_false (by omega)
     clear c14
     obtain rfl := Option.some.inj H
     go_wp2
     go_ret
     exact ⟨by first | rfl | (simp [errW_none, errW_some] <;> rfl) | (simp [*, errW_none, errW_some] <;> rfl), bw HB.out⟩
end
section
open Go.RowKit Go.Proofs.YtchaegfdcdlfaaaW.PrintWords Go.Proofs.YtchaegfdcdlfaaaW.PrintLast Go.Proofs.YtchaegfdcdlfaaaW.PrintMore
def mayP (p : S67) : Bool :=
 if p.f0 = true then decide (0 ≤ p.f1) && decide (p.f1 ≤ 200) && (decide (1 ≤ p.f2) && decide (p.f2 ≤ 200)) && (p.f3.toList == ([] : List UInt8))
 else (p.f1 == 0 && p.f2 == 0) && (decide (1 ≤ p.f3.size) && decide (p.f3.size ≤ 200))
def sumP (l : List S67) : Int := (l.map fun p => p.f2 + (p.f3.size : Int)).sum
def mayL (l : List S67) : Bool := l.all mayP && (decide (l.length ≤ 60) && decide (sumP l ≤ 200))
theorem in_eq (a b c : Int) : delta_in.f a b c = some (decide (b ≤ a) && decide (a ≤ c)) := by
 unfold delta_in.f
 by_cases h : a ≥ b
 ·rw [if_pos h, decide_eq_true (show b ≤ a from h), Bool.true_and]
 ·rw [if_neg h, decide_eq_false (show ¬ b ≤ a from h), Bool.false_and]
theorem may_eq (p : S67) : delta_may.f p.f0 p.f1 p.f2 p.f3 = some (mayP p) := by
 unfold delta_may.f mayP
 simp only [in_eq, Option.bind_some]
 cases p.f0
 ·simp only [Bool.false_eq_true, if_false, Bool.not_false, Bool.true_and]
  by_cases h : (p.f1 == 0 && p.f2 == 0) = true
  ·rw [if_pos h, h, Bool.true_and]
   congr 1
   congr 1 <;> (apply decide_eq_decide.2; omega)
  ·rw [if_neg h]
   rw [Bool.eq_false_iff.2 h, Bool.false_and]
 ·simp only [if_true]
  by_cases h1 : (decide (0 ≤ p.f1) && decide (p.f1 ≤ 200)) = true
  ·rw [if_pos h1, h1, Bool.true_and]
   by_cases h2 : (decide (1 ≤ p.f2) && decide (p.f2 ≤ 200)) = true
   ·rw [if_pos h2, h2, Bool.true_and]
   ·rw [if_neg h2, Bool.eq_false_iff.2 h2, Bool.false_and]
  ·rw [if_neg h1, Bool.eq_false_iff.2 h1, Bool.false_and, Bool.false_and]
theorem mayP_size {p : S67} (h : mayP p = true) : 0 ≤ p.f2 + (p.f3.size : Int) ∧ p.f2 + (p.f3.size : Int) ≤ 400 ∧ 0 ≤ p.f2 ∧ p.f2 ≤ 200 ∧ p.f3.size ≤ 200 := by
 unfold mayP at h
 by_cases h0 : p.f0 = true
 ·rw [if_pos h0] at h
  simp only [Bool.and_eq_true, decide_eq_true_eq, beq_iff_eq] at h
  have e : p.f3.size = 0 := by
   have := data_length p.f3
   rw [← ByteArray.toList_eq, h.2] at this
   exact this.symm
  omega
 ·rw [if_neg h0] at h
  simp only [Bool.and_eq_true, decide_eq_true_eq, beq_iff_eq] at h
  omega
theorem sumP_cons (p : S67) (l : List S67) : sumP (p :: l) = p.f2 + (p.f3.size : Int) + sumP l := by simp only [sumP, List.map_cons, List.sum_cons]
theorem may_l0 (l : List S67) (hl : l.length ≤ 1000000000000000) : ∀ (d i : Nat) (a : Int) (k : Nat), l.length = i + d → d < k → 0 ≤ a → a ≤ 400 * (i : Int) →
  delta_May.l0 k l a l (l.length : Int) (i : Int) = some (if (l.drop i).all mayP = true then decide (l.length ≤ 60) && decide (a + sumP (l.drop i) ≤ 200) else false) := by
 intro d
 induction d with
 | zero =>
  intro i a k hi hk h0 h1
  obtain ⟨k, rfl⟩ : ∃ k', k = k' + 1 := ⟨k - 1, by omega⟩
  have hd : l.drop i = [] := List.drop_eq_nil_of_le (by omega)
  rw [delta_May.l0, if_neg (by omega), hd]
  simp only [List.all_nil, if_true, sumP, List.map_nil, List.sum_nil, Int.add_zero]
  by_cases h : (l.length : Int) ≤ 60
  ·rw [if_pos h, decide_eq_true (show l.length ≤ 60 by omega), Bool.true_and]
  ·rw [if_neg h, decide_eq_false (show ¬ l.length ≤ 60 by omega), Bool.false_and]
 | succ d ih =>
  intro i a k hi hk h0 h1
  obtain ⟨k, rfl⟩ : ∃ k', k = k' + 1 := ⟨k - 1, by omega⟩
  have hil : i < l.length := by omega
  obtain ⟨p, hp⟩ : ∃ p, rd_T67 l (i : Int) = p := ⟨_, rfl⟩
  have hd : l.drop i = p :: l.drop (i + 1) := by
   rw [List.drop_eq_getElem_cons hil]
   congr 1
   rw [← hp]
   unfold rd_T67
   rw [Int.toNat_natCast, List.getD_eq_getElem?_getD, List.getElem?_eq_getElem hil]
   rfl
  rw [delta_May.l0, if_pos (by omega), if_pos (by omega), if_pos (by omega), hp, may_eq, Option.bind_some, hd]
  cases hm : mayP p
  ·simp [hm]
  ·have hs := mayP_size hm
   rw [if_pos rfl]
   have e1 : wrap64 (p.f2 + (p.f3.size : Int)) = p.f2 + (p.f3.size : Int) := by unfold wrap64; omega
   have e2 : wrap64 (a + (p.f2 + (p.f3.size : Int))) = a + (p.f2 + (p.f3.size : Int)) := by unfold wrap64; omega
   have e3 : wrap64 ((i : Int) + 1) = ((i + 1 : Nat) : Int) := by unfold wrap64; omega
   rw [e1, e2, e3, ih (i + 1) _ k (by omega) (by omega) (by omega) (by omega)]
   simp only [List.all_cons, hm, Bool.true_and, sumP_cons, Int.add_assoc]
theorem May_eq (l : List S67) (hl : l.length ≤ 1000000000000000) (k : Nat) (hk : l.length < k) : delta_May.f k l = some (mayL l) := by
 unfold delta_May.f
 rw [show (0 : Int) = ((0 : Nat) : Int) from rfl, may_l0 l hl l.length 0 _ k (by omega) hk (by omega) (by omega)]
 unfold mayL
 rw [List.drop_zero]
 cases l.all mayP
 ·simp
 ·simp
end
section
open Go.RowKit Go.Maps Go.Proofs.YtchaegfdcdlfaaaW.PrintWords Go.Proofs.YtchaegfdcdlfaaaW.PrintLast Go.Proofs.YtchaegfdcdlfaaaW.PrintMore
theorem snoc_cases {α : Type} (l : List α) : l = [] ∨ ∃ m p, l = m ++ [p] := by
 rcases List.eq_nil_or_concat l with h | ⟨m, p, h⟩
 ·exact .inl h
 ·exact .inr ⟨m, p, by rw [h, List.concat_eq_append]⟩
theorem sumP_append (l m : List S67) : sumP (l ++ m) = sumP l + sumP m := by simp only [sumP, List.map_append, List.sum_append]
theorem sumP_nil : sumP [] = 0 := rfl
def Made (base : ByteArray) (p : S67) : Prop := (p.f0 = true → 0 ≤ p.f1 ∧ 8 ≤ p.f2 ∧ p.f1 + p.f2 ≤ (base.size : Int) ∧ p.f3 = ⟨#[]⟩) ∧ (p.f0 = false → p.f1 = 0 ∧ p.f2 = 0 ∧ 1 ≤ p.f3.size)
theorem sumP_nonneg {base : ByteArray} : ∀ {l : List S67}, (∀ p ∈ l, Made base p) → 0 ≤ sumP l
 | [], _ => by rw [sumP_nil]; omega
 | p :: l, h => by
  rw [sumP_cons]
  have h1 := sumP_nonneg (l := l) (fun q hq => h q (by simp [hq]))
  have h2 := h p (by simp)
  cases hp : p.f0
  ·have := h2.2 hp; omega
  ·have := h2.1 hp; omega
theorem made_part {base : ByteArray} {l : List S67} (h : ∀ p ∈ l, Made base p) {p : S67} (hp : p ∈ l) : p.f2 + (p.f3.size : Int) ≤ sumP l := by
 obtain ⟨a, b, rfl⟩ := List.append_of_mem hp
 have h1 := sumP_nonneg (base := base) (l := a) (fun q hq => h q (by simp [hq]))
 have h2 := sumP_nonneg (base := base) (l := b) (fun q hq => h q (by simp [hq]))
 rw [sumP_append, sumP_cons]
 omega
theorem toList_empty : (⟨#[]⟩ : ByteArray).toList = ([] : List UInt8) := by simp [ByteArray.toList_eq]
theorem made_may {base : ByteArray} {l : List S67} (hb : base.size ≤ 200) (h : ∀ p ∈ l, Made base p) (hs : sumP l ≤ 200) (hl : l.length ≤ 60) : mayL l = true := by
 unfold mayL
 rw [Bool.and_eq_true, Bool.and_eq_true, decide_eq_true_eq, decide_eq_true_eq, List.all_eq_true]
 refine ⟨fun p hp => ?_, hl, hs⟩
 have h1 := h p hp
 have h2 := made_part h hp
 unfold mayP
 cases h0 : p.f0
 ·have h3 := h1.2 h0
  simp only [Bool.false_eq_true, if_false, Bool.and_eq_true, beq_iff_eq, decide_eq_true_eq]
  omega
 ·obtain ⟨a1, a2, a3, a4⟩ := h1.1 h0
  simp only [if_true, Bool.and_eq_true, beq_iff_eq, decide_eq_true_eq]
  refine ⟨⟨⟨a1, by omega⟩, by omega, by omega⟩, ?_⟩
  rw [a4, toList_empty]
theorem mayP_true {p : S67} (h : mayP p = true) : (p.f0 = true → 0 ≤ p.f1 ∧ p.f1 ≤ 200 ∧ 1 ≤ p.f2 ∧ p.f2 ≤ 200 ∧ p.f3.size = 0) ∧ (p.f0 = false → p.f1 = 0 ∧ p.f2 = 0 ∧ 1 ≤ p.f3.size ∧ p.f3.size ≤ 200) := by
 unfold mayP at h
 cases h0 : p.f0
 ·rw [h0, if_neg (by simp)] at h
  simp only [Bool.and_eq_true, decide_eq_true_eq, beq_iff_eq] at h
  exact ⟨fun q => by simp at q, fun _ => by omega⟩
 ·rw [h0, if_pos rfl] at h
  simp only [Bool.and_eq_true, decide_eq_true_eq, beq_iff_eq] at h
  have e : p.f3.size = 0 := by
   have := data_length p.f3
   rw [← ByteArray.toList_eq, h.2] at this
   exact this.symm
  exact ⟨fun _ => by omega, fun q => by simp at q⟩
theorem mayL_iff (l : List S67) : mayL l = true ↔ l.all mayP = true ∧ l.length ≤ 60 ∧ sumP l ≤ 200 := by
 unfold mayL
 rw [Bool.and_eq_true, Bool.and_eq_true, decide_eq_true_eq, decide_eq_true_eq]
theorem rd_next {l : List S67} {i : Nat} (h : i < l.length) : l.drop i = rd_T67 l (i : Int) :: l.drop (i + 1) := by
 rw [List.drop_eq_getElem_cons h]
 congr 1
 unfold rd_T67
 rw [Int.toNat_natCast, List.getD_eq_getElem?_getD, List.getElem?_eq_getElem h]
 rfl
theorem rd_mem {l : List S67} {i : Nat} (h : i < l.length) : rd_T67 l (i : Int) ∈ l := by
 unfold rd_T67
 rw [Int.toNat_natCast, List.getD_eq_getElem?_getD, List.getElem?_eq_getElem h]
 exact List.getElem_mem h
theorem wrap_next (i : Nat) (h : i ≤ 1000000000000) : wrap64 ((i : Int) + 1) = ((i + 1 : Nat) : Int) := by unfold wrap64; omega
end
end Go.Proofs.Ytchaegfdcdlfaaa.X
