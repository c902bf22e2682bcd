/- Texts of this claim, one behind the other: CCat, Xx39, Xx65, Xx68. -/
import Derived.Lib.AppendZeros
import Derived.Test.YtchaegfdcdlfaaaE1v
import Derived.Test.YtchaegfdcdlfaaaE2v
import Derived.Test.YtchaegfdcdlfaaaE3v

/- slices.Concat of rows of bytes, and slices.Grow of none, by hand. -/
namespace Go.Proofs.Ytchaegfdcdlfaaa.X
set_option linter.unusedVariables false
set_option linter.unusedSimpArgs false
open Go.RowKit Go.Proofs.YtchaegfdcdlfaaaW.PrintWords Go.Proofs.YtchaegfdcdlfaaaW.PrintLast Go.Proofs.YtchaegfdcdlfaaaW.PrintMore

set_option maxHeartbeats 1000000 in
set_option maxRecDepth 100000 in
theorem grow_call (n : Nat) (hn : n ≤ 1000000000) (w : World) :
    Calls Try.prog 140 #[.slice none 0 0, .int .i64 n] w fun e w' => ∃ v, e = .returned v ∧ Kd.R (Kd.int .u8) 5 w' w.heap.size (fun _ => True) v [] ∧ Below w.heap.size w w' := by
  have e1 : decide ((n : Int) < 0) = false := decide_eq_false (by omega)
  by_cases h0 : 0 < n
  · obtain ⟨i0, hi0, hz0, hs0, hb0⟩ := info_parts info5
    have e2 : decide ((n : Int) > 0) = true := decide_eq_true (by omega)
    have e3 : IntKind.i64.wrap ((n : Int) - 0) = (n : Int) := by rw [i64_w]; unfold wrap64; omega
    have hrun := Go.Lib.run_append_nil_zeros (P := Try.prog) w 40 3 40 5 i0 _ .i64 .i64 Try.underlying40 Try.underlying3 hi0 hz0 n h0 (by omega) (by omega) (by rw [hb0]; omega)
    obtain ⟨cp, hcp⟩ : ∃ cp, cp = grownCap w n 0 5 := ⟨_, rfl⟩
    rw [← hcp] at hrun
    go_enter Try.func140, Try.ntmps140
    go_wp2_with (first
      | ((with_reducible refine gate_builtin (b := .append) (xs := #[.tmp 20, .tmp 21]) rfl ?_); at_builtin; refine Go.Lib.wpList_append_run _ rfl _ _ _ _ rfl _ _ rfl rfl _ _ hrun ?_)
      | fail)
    go_ret
    refine ⟨_, rfl, Kd.R_of_own (ok := fun _ => True) ⟨rfl, .inr ⟨w.heap.size, grownCap w n 0 5, _, rfl, Nat.le_refl _, heap_alloc_new _ _, Nat.zero_le _, grownCap_le_maxLen w n 0 5 (by unfold maxLen; omega), ?_, by simp [encs]⟩⟩ (fun _ _ => trivial), below_drew (below_alloc (Below.refl _ _) _)⟩
    have := grownCap_ge w n 0 5
    simp [size_zeroCells]
    omega
  · obtain rfl : n = 0 := by omega
    have e2 : decide (((0 : Nat) : Int) > 0) = false := by decide
    have e3 : IntKind.i64.wrap ((0 : Int) - 0) = 0 := by decide
    go_enter Try.func140, Try.ntmps140
    go_wp2_with fail
    go_ret
    exact ⟨_, rfl, Kd.R_nil _ _ _ _ _, Below.refl _ _⟩

/-- How long the first i rows are together. -/
def lens (l : List (List Int)) (i : Nat) : Nat := (l.take i).flatten.length
theorem lens_succ {l : List (List Int)} {i : Nat} (hi : i < l.length) : (l.take (i + 1)).flatten = (l.take i).flatten ++ rd_L2 l i := by
  have : l.take (i + 1) = l.take i ++ [rd_L2 l i] := by
    unfold rd_L2
    rw [Int.toNat_natCast, List.getD_eq_getElem?_getD, List.getElem?_eq_getElem hi, Option.getD_some, List.take_succ_eq_append_getElem hi]
  rw [this, List.flatten_append]
  simp
theorem lens_le (l : List (List Int)) (i : Nat) : lens l i ≤ l.flatten.length := by
  have : l.flatten = (l.take i).flatten ++ (l.drop i).flatten := by rw [← List.flatten_append, List.take_append_drop]
  unfold lens
  rw [this, List.length_append]
  omega

set_option maxHeartbeats 1000000 in
set_option maxRecDepth 100000 in
theorem cat_call (A : Option Addr) (c : Nat) (l : List (List Int)) (w : World) (hr : Kd.C (Kd.slice 5 (Kd.int .u8)) w A l.length l) (hl : l.flatten.length ≤ 1000000000) (hn : l.length ≤ 1000000000) :
    Calls Try.prog 83 #[.slice A l.length c] w fun e w' => ∃ v, e = .returned v ∧ Kd.R (Kd.int .u8) 5 w' w.heap.size (fun _ => True) v l.flatten ∧ Below w.heap.size w w' := by
  have HR := Aside0.mk hr
  have HL := Aside0.mk hl
  have HN := Aside0.mk hn
  clear hr hl
  go_enter Try.func83, Try.ntmps83
  go_wp2_with fail
  go_loopg [3, 11] l.length (fun k v3 v11 w' => ∃ i : Nat, v3 = .int .i64 (lens l i : Int) ∧ v11 = .int .i64 i ∧ Aside0 (k = l.length - i ∧ i ≤ l.length) ∧ Aside0 (Below w.heap.size w w'))
  case atStart => exact ⟨0, by simp [lens], rfl, ⟨by omega, by omega⟩, ⟨Below.refl _ _⟩⟩
  case round =>
    obtain ⟨i, rfl, rfl, HI, HB⟩ := hrel
    by_cases hi : i < l.length
    · have d1 : decide (i < l.length) = true := decide_eq_true hi
      have d2 : decide ((i : Int) < (l.length : Int)) = true := decide_eq_true (by omega)
      have pi : ((i : Int) < (l.length : Int)) = True := eq_true (by omega)
      have qi : (0 ≤ (i : Int)) = True := eq_true (by omega)
      have hwi : IntKind.i64.wrap ((i : Int) + 1) = ((i + 1 : Nat) : Int) := by rw [i64_w]; unfold wrap64; omega
      obtain ⟨ad0, A0, c0, e0, x0, hc0, _⟩ := at_L2 (Kd.C_below HR.out HB.out) (i : Int) (by omega) (by omega)
      subst e0
      simp only [Int.toNat_natCast] at x0
      have HE := lens_succ hi
      have hs : lens l (i + 1) = lens l i + (rd_L2 l i).length := by unfold lens; rw [HE, List.length_append]
      have hle := lens_le l (i + 1)
      have hll := HL.out
      have hw2 : IntKind.i64.wrap ((lens l i : Int) + ((rd_L2 l i).length : Int)) = (lens l (i + 1) : Int) := by rw [i64_w]; unfold wrap64; omega
      have d3 : decide ((lens l (i + 1) : Int) < 0) = false := decide_eq_false (by omega)
      clear HE hs hle hll
      go_wp2_with fail
      go_roundg (l.length - (i + 1))
      case measure => have := HI.out; omega
      case rel => exact ⟨i + 1, rfl, by simp, ⟨rfl, by omega⟩, HB⟩
    · have d1 : decide (i < l.length) = false := decide_eq_false hi
      have d2 : decide ((i : Int) < (l.length : Int)) = false := decide_eq_false (by omega)
      obtain rfl : i = l.length := by have := HI.out; omega
      have hle := lens_le l l.length
      have hll := HL.out
      clear hi
      go_wp2_with fail
      refine (grow_call (lens l l.length) (by omega) _).mono ?_
      rintro e w1 ⟨v, rfl, ho1, hb1⟩
      have HO := Aside0.mk (Kd.R_lower ho1 HB.out.size)
      have HB1 := Aside0.mk (below_step HB.out hb1)
      clear ho1 hb1 hle hll HB
      go_wp2_with fail
      go_loopg [6, 27] l.length (fun k v6 v27 w' => ∃ i : Nat, v27 = .int .i64 i ∧ Aside0 (k = l.length - i ∧ i ≤ l.length) ∧ Aside0 (Kd.R (Kd.int .u8) 5 w' w.heap.size (fun _ => True) v6 (l.take i).flatten) ∧ Aside0 (Below w.heap.size w w'))
      case atStart => exact ⟨0, rfl, ⟨by omega, by omega⟩, ⟨by simpa using HO.out⟩, HB1⟩
      case round =>
        clear HO HB1 HI
        obtain ⟨i, rfl, HI, HO, HB⟩ := hrel
        by_cases hi : i < l.length
        · have d1 : decide (i < l.length) = true := decide_eq_true hi
          have d2 : decide ((i : Int) < (l.length : Int)) = true := decide_eq_true (by omega)
          have pi : ((i : Int) < (l.length : Int)) = True := eq_true (by omega)
          have qi : (0 ≤ (i : Int)) = True := eq_true (by omega)
          have hwi : IntKind.i64.wrap ((i : Int) + 1) = ((i + 1 : Nat) : Int) := by rw [i64_w]; unfold wrap64; omega
          obtain ⟨ad0, A0, c0, e0, x0, hc0, hi0⟩ := at_L2 (Kd.C_below HR.out HB.out) (i : Int) (by omega) (by omega)
          subst e0
          simp only [Int.toNat_natCast] at x0
          have HI0 := Aside0.mk hi0
          have HE := Aside0.mk (lens_succ hi)
          have hs : lens l (i + 1) = lens l i + (rd_L2 l i).length := by unfold lens; rw [HE.out, List.length_append]
          have hle := lens_le l (i + 1)
          have HLE : Aside0 (((l.take i).flatten.length + (rd_L2 l i).length) * 1 ≤ 140737488355328) := ⟨by have := HL.out; have := hs; unfold lens at this hle; omega⟩
          clear hi0 hs hle
          go_wp2_with (first | ((with_reducible refine gate_builtin (b := .append) (xs := #[.tmp 31, .tmp 32]) rfl ?_); at_builtin; refine Kd.R_append_rows (Kd.int .u8) (w0 := w) w.heap.size rfl (.tmp 31) (.tmp 32) 40 5 (.int .u8 0) 1 rfl Try.underlying40 info5 rfl (by decide) (by omega) u6 (l.take i).flatten (rd_L2 l i) _ _ _ (fun _ => True) (fun _ => False) rfl rfl HO.out HI0.out (fun _ _ h => h) (fun _ h => h.elim) (fun _ _ => trivial) HB.out HB.out.size (by have := HLE.out; omega) ?_; intro v1 w1 ho hb hg hat; have HO1 := Aside0.mk ho; have HB1 := Aside0.mk hb; clear ho hb hg hat) | fail)
          go_roundg (l.length - (i + 1))
          case measure => have := HI.out; omega
          case rel => exact ⟨i + 1, by simp, ⟨rfl, by omega⟩, ⟨by rw [HE.out]; exact HO1.out⟩, HB1⟩
        · have d1 : decide (i < l.length) = false := decide_eq_false hi
          have d2 : decide ((i : Int) < (l.length : Int)) = false := decide_eq_false (by omega)
          have hil : i = l.length := by have := HI.out; omega
          have HX : Aside0 ((l.take i).flatten = l.flatten) := ⟨by rw [hil, List.take_length]⟩
          clear hi hil
          go_wp2_with fail
          go_ret
          exact ⟨_, rfl, by rw [← HX.out]; exact HO.out, HB.out⟩

/-- In the printed form. -/
def slices_Concat_byte_byte.f (k : Nat) (l0 : List (List Int)) : Option (List Int) := if l0.flatten.length ≤ 1000000000 ∧ l0.length ≤ 1000000000 then some l0.flatten else none
theorem slices_Concat_byte_byte.mono : ∀ a0 k, LeO (slices_Concat_byte_byte.f k a0) (slices_Concat_byte_byte.f (k + 1) a0) := fun _ _ => LeO.refl _
theorem slices_Concat_byte_byte.calls (k : Nat) (A0 : Option Addr) (c0 : Nat) (l0 : List (List Int)) (r : List Int) (w : World) (hr0 : Kd.C (Kd.slice 5 (Kd.int .u8)) w A0 l0.length l0) (hc0 : l0.length ≤ c0) (h : slices_Concat_byte_byte.f k l0 = some r) :
    Calls Try.prog 83 #[.slice A0 l0.length c0] w fun e w' => ∃ v0_ : Value, e = .returned (v0_) ∧ Kd.R (Kd.int .u8) 5 w' w.heap.size (fun _ => True) v0_ r ∧ Below w.heap.size w w' := by
  unfold slices_Concat_byte_byte.f at h
  split at h
  · rename_i hh
    injection h with h
    subst h
    exact cat_call A0 c0 l0 w hr0 hh.1 hh.2
  · cases h
theorem Cat_eq (k : Nat) {l0 : List (List Int)} (h1 : l0.flatten.length ≤ 1000000000) (h2 : l0.length ≤ 1000000000) : slices_Concat_byte_byte.f k l0 = some l0.flatten := by
  unfold slices_Concat_byte_byte.f
  rw [if_pos ⟨h1, h2⟩]
end Go.Proofs.Ytchaegfdcdlfaaa.X

-- Printed for this session by a program of its own over an edited copy of the translation's print.

namespace Go.Proofs.Ytchaegfdcdlfaaa.X
open Go.RowKit Go.Proofs.YtchaegfdcdlfaaaW.PrintWords Go.Proofs.YtchaegfdcdlfaaaW.PrintLast Go.Proofs.YtchaegfdcdlfaaaW.PrintMore
attribute [local go_sem] max2_int min2_int max_two min_two max_three min_three max_four min_four   -- for this text's walks alone
set_option linter.unusedVariables false
set_option linter.unusedSimpArgs false

/-! ### delta_Put: function 50 -/
def delta_Put.l0 : Nat → List Int → List (S67) → Int → Int → Option (List Int × Bool)
  | 0, _, _, _, _ => none
  | k + 1, x4, x14, x15, x16 => if x16 < x15 then (if 0 ≤ x16 then (if x16 < (x14.length : Int) then (if (rd_T67 x14 x16).f0 = true then ((wire_Put.f k (IntKind.u64.wrap ((rd_T67 x14 x16).f1))).bind fun t387 => ((wire_Put.f k (IntKind.u64.wrap ((rd_T67 x14 x16).f2))).bind fun t390 => ((slices_Concat_byte_byte.f k (([x4, (([1] : List Int)), t387, t390] : List (List Int)))).bind fun t396 => (delta_Put.l0 k t396 x14 x15 (wrap64 (x16 + 1)))))) else ((wire_Text.f k ((rd_T67 x14 x16).f3)).bind fun t402 => ((slices_Concat_byte_byte.f k (([x4, (([0] : List Int)), t402] : List (List Int)))).bind fun t408 => (delta_Put.l0 k t408 x14 x15 (wrap64 (x16 + 1)))))) else (none)) else (none)) else (some (x4, true))
def delta_Put.f (k : Nat) (l0 : List (S67)) : Option (List Int × Bool) := (delta_May.f k l0).bind fun t378 => (if t378 = true then ((wire_Put.f k (IntKind.u64.wrap ((l0.length : Int)))).bind fun t379 => (delta_Put.l0 k t379 l0 (l0.length : Int) 0)) else (some (([] : List Int), false)))
theorem delta_Put.mono_l : ∀ k, (∀ y0 y1 y2 y3, LeO (delta_Put.l0 k y0 y1 y2 y3) (delta_Put.l0 (k + 1) y0 y1 y2 y3))
  | 0 => fun _ _ _ _ r h => by simp [delta_Put.l0] at h
  | k + 1 => by
    have ih0 := delta_Put.mono_l k
    · intro y0 y1 y2 y3
      unfold delta_Put.l0
      repeat' first
      | (with_reducible exact ih0 _ _ _ _)
      | (with_reducible exact delta_May.mono _ _)
      | (with_reducible exact slices_Concat_byte_byte.mono _ _)
      | (with_reducible exact wire_Put.mono _ _)
      | (with_reducible exact wire_Text.mono _ _)
      | (with_reducible exact LeO.refl _)
      | (with_reducible exact LeO.none _)
      | (with_reducible refine LeO.ite ?_ ?_)
      | (with_reducible refine LeO.bind ?_ (fun _ => ?_))
      | exact ih0 _ _ _ _
      | exact delta_May.mono _ _
      | exact slices_Concat_byte_byte.mono _ _
      | exact wire_Put.mono _ _
      | exact wire_Text.mono _ _
      | exact LeO.none _
      | refine LeO.ite ?_ ?_
      | refine LeO.bind ?_ (fun _ => ?_)
theorem delta_Put.mono : ∀ a0 k, LeO (delta_Put.f k a0) (delta_Put.f (k + 1) a0) := by
  intro a0 k
  have ih0 := delta_Put.mono_l k
  unfold delta_Put.f
  repeat' first
      | (with_reducible exact ih0 _ _ _ _)
      | (with_reducible exact delta_May.mono _ _)
      | (with_reducible exact slices_Concat_byte_byte.mono _ _)
      | (with_reducible exact wire_Put.mono _ _)
      | (with_reducible exact wire_Text.mono _ _)
      | (with_reducible exact LeO.refl _)
      | (with_reducible exact LeO.none _)
      | (with_reducible refine LeO.ite ?_ ?_)
      | (with_reducible refine LeO.bind ?_ (fun _ => ?_))
      | exact ih0 _ _ _ _
      | exact delta_May.mono _ _
      | exact slices_Concat_byte_byte.mono _ _
      | exact wire_Put.mono _ _
      | exact wire_Text.mono _ _
      | exact LeO.none _
      | refine LeO.ite ?_ ?_
      | refine LeO.bind ?_ (fun _ => ?_)
def delta_Put.T8 : Bool × List (List Nat × List Nat) := (true, [([], []), ([], []), ([], []), ([2], [2]), ([3], [3]), ([4], [4]), ([], []), ([6], [6]), ([7], [7]), ([8, 5], [8]), ([0, 1, 5, 9], [0, 1, 5, 9]), ([10, 9], [10]), ([11, 11, 0, 1, 2, 3, 4, 5, 6, 7, 8, 9, 10, 11], [0, 11])])
def delta_Put.B8 : List Nat := [0, 0, 0, 4, 12, 28, 0, 64, 192, 508, 1023, 2047, 4095]
theorem delta_Put.tab8 : rtab .any (opsOf Try.f50 8) = delta_Put.T8 := by kernel_rfl
theorem delta_Put.bits8 : waitsOk delta_Put.T8.2 delta_Put.B8 = true := by kernel_rfl
set_option maxHeartbeats 8000000 in
set_option maxRecDepth 100000 in
theorem delta_Put.calls (k : Nat) (A0 : Option Addr) (c0 : Nat) (l0 : List (S67)) (r1 : List Int) (r2 : Bool) (w : World) (hr0 : Kd.C k67 w A0 l0.length l0) (hc0 : l0.length ≤ c0) (h : delta_Put.f k l0 = some (r1, r2)) :
    Calls Try.prog 50 #[.slice A0 l0.length c0] w fun e w' => ∃ v0_ : Value, e = .returned (.tuple #[v0_, .bool r2]) ∧ Kd.R (Kd.int .u8) 5 w' w.heap.size (fun _ => True) v0_ r1 ∧ Below w.heap.size w w' := by
  have hu67 := Try.underlying67
  have HR0 := Aside0.mk hr0
  have HC0 := Aside0.mk hc0
  clear hr0 hc0
  have HB := Aside0.mk (Below.refl w.heap.size w)
  have H : ((delta_May.f k l0).bind fun t378 => (if t378 = true then ((wire_Put.f k (IntKind.u64.wrap ((l0.length : Int)))).bind fun t379 => (delta_Put.l0 k t379 l0 (l0.length : Int) 0)) else (some (([] : List Int), false)))) = some (r1, r2) := h
  clear h
  replace H := Option.bind_eq_some_iff.mp H
  obtain ⟨t378, A20, H⟩ := H
  replace H : (if t378 = true then ((wire_Put.f k (IntKind.u64.wrap ((l0.length : Int)))).bind fun t379 => (delta_Put.l0 k t379 l0 (l0.length : Int) 0)) else (some (([] : List Int), false))) = some (r1, r2) := H
  have A2 := Aside0.mk A20
  clear A20
  by_cases c3 : t378 = true
  · subst c3
    have H1 : ((wire_Put.f k (IntKind.u64.wrap ((l0.length : Int)))).bind fun t379 => (delta_Put.l0 k t379 l0 (l0.length : Int) 0)) = some (r1, r2) := by rw [if_pos rfl] at H; exact H
    clear H
    have H := H1
    clear H1
    replace H := Option.bind_eq_some_iff.mp H
    obtain ⟨t379, A40, H⟩ := H
    replace H : (delta_Put.l0 k t379 l0 (l0.length : Int) 0) = some (r1, r2) := H
    have A4 := Aside0.mk A40
    clear A40
    have H' := Aside0.mk H
    clear H
    go_enter Try.func50, Try.ntmps50
    go_wp2_with (first | ((with_reducible refine gate_callee (f := 57) rfl ?_); refine goesL_ (some 8) rfl rfl Try.func57 (by kernel_rfl) rfl #[.slice A0 l0.length c0] rfl (by (try simp only [List.map_toArray, List.map_cons, List.map_nil]); first | done | rfl | (simp only [List.length_drop, List.length_take]; rfl)) ?_; (with_reducible refine (delta_May.calls k _ _ l0 true _ ?side1 ?side2 A2.out).mono ?_); (case side1 => repeat (first | exact HR0.out | (with_reducible refine Kd.C_alloc ?_ _) | (with_reducible refine Kd.C_drewN ?_ _) | (with_reducible refine Kd.C_drew ?_))); (case side2 => exact HC0.out); rintro e w5 ⟨rfl, hb⟩; refine ⟨_, rfl, ?_⟩; have n0_ := Aside0.mk (below_step (by repeat (first | (with_reducible first | exact HB.out | apply below_alloc | apply pw_below_drewN | apply below_drew1) | exact HB.out)) hb); clear HB; have HB := n0_; clear n0_; (try clear hb); (try clear hb2); (try clear hk); (try clear hi)) | ((with_reducible refine gate_callee (f := 84) rfl ?_); refine goesL_ (some 13) rfl rfl Try.func84 (by kernel_rfl) rfl #[.int .u64 (IntKind.u64.wrap ((l0.length : Int)))] rfl (by (try simp only [List.map_toArray, List.map_cons, List.map_nil]); first | done | rfl | (simp only [List.length_drop, List.length_take]; rfl)) ?_; (with_reducible refine (wire_Put.calls k (IntKind.u64.wrap ((l0.length : Int))) t379 _ A4.out).mono ?_); rintro e w6 ⟨v380, rfl, ho0, hb⟩; refine ⟨_, rfl, ?_⟩; have n0_ := Aside0.mk (Kd.R_lower ho0 (below_size (by repeat (first | (with_reducible first | exact HB.out | apply below_alloc | apply pw_below_drewN | apply below_drew1) | exact HB.out)))); have n1_ := Aside0.mk (below_step (by repeat (first | (with_reducible first | exact HB.out | apply below_alloc | apply pw_below_drewN | apply below_drew1) | exact HB.out)) hb); clear HB; have HO381 := n0_; have HB := n1_; clear n0_ n1_; (try clear hb); (try clear hb2); (try clear hk); (try clear hi); (try clear ho0)))
    go_loopg [4, 16] k (fun kq v4 v16 w' => ∃ (x4_1 : List Int) (x16_1 : Int), v16 = .int .i64 x16_1 ∧ Aside0 (delta_Put.l0 kq x4_1 l0 (l0.length : Int) x16_1 = some (r1, r2)) ∧ Aside0 (kq ≤ k) ∧ Aside0 (Kd.R (Kd.int .u8) 5 w' w.heap.size (fun _ => True) v4 x4_1) ∧ Aside0 (Below w.heap.size w w'))
    case atStart => exact ⟨(t379), (0), (by first | rfl | (simp; done) | (simp [*]; done)), H', ⟨Nat.le_refl _⟩, ⟨by (with_reducible repeat (first | apply Kd.R_alloc | apply Kd.R_drewN | apply Kd.R_drew)); exact HO381.out⟩, ⟨by repeat (first | (with_reducible first | exact HB.out | apply below_alloc | apply pw_below_drewN | apply below_drew1) | exact HB.out)⟩⟩
    case round =>
      clear H'
      try clear p2
      try clear c3
      try clear c5
      obtain ⟨x4_1, x16_1, rfl, HA, HK1, HO_4, HB⟩ := hrel
      cases gk with
      | zero => exact absurd HA.out (by simp [delta_Put.l0])
      | succ k1 =>
        have H := HA.out
        clear HA
        simp only [delta_Put.l0] at H
        by_cases c7 : x16_1 < (l0.length : Int)
        · rw [if_pos c7] at H
          have c7b0 : decide (x16_1 < (l0.length : Int)) = true := decide_eq_true c7
          clear c7
          by_cases c8 : 0 ≤ x16_1
          · rw [if_pos c8] at H
            have c8b0 : decide (0 ≤ x16_1) = true := decide_eq_true c8
            clear c8
            by_cases c9 : x16_1 < (l0.length : Int)
            · rw [if_pos c9] at H
              have c9b0 : decide (x16_1 < (l0.length : Int)) = true := decide_eq_true c9
              clear c9
              obtain ⟨bq10, hbq10⟩ : ∃ b_ : Bool, b_ = ((rd_T67 l0 x16_1).f0) := ⟨_, rfl⟩
              replace H : (if bq10 = true then ((wire_Put.f k1 (IntKind.u64.wrap ((rd_T67 l0 x16_1).f1))).bind fun t387 => ((wire_Put.f k1 (IntKind.u64.wrap ((rd_T67 l0 x16_1).f2))).bind fun t390 => ((slices_Concat_byte_byte.f k1 (([x4_1, (([1] : List Int)), t387, t390] : List (List Int)))).bind fun t396 => (delta_Put.l0 k1 t396 l0 (l0.length : Int) (wrap64 (x16_1 + 1)))))) else ((wire_Text.f k1 ((rd_T67 l0 x16_1).f3)).bind fun t402 => ((slices_Concat_byte_byte.f k1 (([x4_1, (([0] : List Int)), t402] : List (List Int)))).bind fun t408 => (delta_Put.l0 k1 t408 l0 (l0.length : Int) (wrap64 (x16_1 + 1)))))) = some (r1, r2) := by rw [← hbq10] at H; exact H
              have Nbq10 := Aside0.mk hbq10
              clear hbq10
              by_cases c11 : bq10 = true
              · subst c11
                have H1 : ((wire_Put.f k1 (IntKind.u64.wrap ((rd_T67 l0 x16_1).f1))).bind fun t387 => ((wire_Put.f k1 (IntKind.u64.wrap ((rd_T67 l0 x16_1).f2))).bind fun t390 => ((slices_Concat_byte_byte.f k1 (([x4_1, (([1] : List Int)), t387, t390] : List (List Int)))).bind fun t396 => (delta_Put.l0 k1 t396 l0 (l0.length : Int) (wrap64 (x16_1 + 1)))))) = some (r1, r2) := by rw [if_pos rfl] at H; exact H
                clear H
                have H := H1
                clear H1
                obtain ⟨y384, hy384⟩ : ∃ y_ : List Int, y_ = (([1] : List Int)) := ⟨_, rfl⟩
                replace H : ((wire_Put.f k1 (IntKind.u64.wrap ((rd_T67 l0 x16_1).f1))).bind fun t387 => ((wire_Put.f k1 (IntKind.u64.wrap ((rd_T67 l0 x16_1).f2))).bind fun t390 => ((slices_Concat_byte_byte.f k1 (([x4_1, y384, t387, t390] : List (List Int)))).bind fun t396 => (delta_Put.l0 k1 t396 l0 (l0.length : Int) (wrap64 (x16_1 + 1)))))) = some (r1, r2) := by first | (rw [hy384]; with_reducible exact H) | (have H2_ := (Option.bind_some _ _).symm.trans H; rw [hy384]; with_reducible exact H2_) | (have H2_ := (Option.bind_some _ _).symm.trans H; with_reducible exact H2_) | with_reducible exact H | (rw [hy384]; exact H) | exact H
                have Ny384 := Aside0.mk hy384
                clear hy384
                replace H := Option.bind_eq_some_iff.mp H
                obtain ⟨t387, A120, H⟩ := H
                replace H : ((wire_Put.f k1 (IntKind.u64.wrap ((rd_T67 l0 x16_1).f2))).bind fun t390 => ((slices_Concat_byte_byte.f k1 (([x4_1, y384, t387, t390] : List (List Int)))).bind fun t396 => (delta_Put.l0 k1 t396 l0 (l0.length : Int) (wrap64 (x16_1 + 1))))) = some (r1, r2) := H
                have A12 := Aside0.mk A120
                clear A120
                replace H := Option.bind_eq_some_iff.mp H
                obtain ⟨t390, A130, H⟩ := H
                replace H : ((slices_Concat_byte_byte.f k1 (([x4_1, y384, t387, t390] : List (List Int)))).bind fun t396 => (delta_Put.l0 k1 t396 l0 (l0.length : Int) (wrap64 (x16_1 + 1)))) = some (r1, r2) := H
                have A13 := Aside0.mk A130
                clear A130
                obtain ⟨y393, hy393⟩ : ∃ y_ : List (List Int), y_ = (([x4_1, y384, t387, t390] : List (List Int))) := ⟨_, rfl⟩
                replace H : ((slices_Concat_byte_byte.f k1 y393).bind fun t396 => (delta_Put.l0 k1 t396 l0 (l0.length : Int) (wrap64 (x16_1 + 1)))) = some (r1, r2) := by first | (rw [hy393]; with_reducible exact H) | (have H2_ := (Option.bind_some _ _).symm.trans H; rw [hy393]; with_reducible exact H2_) | (have H2_ := (Option.bind_some _ _).symm.trans H; with_reducible exact H2_) | with_reducible exact H | (rw [hy393]; exact H) | exact H
                have Ny393 := Aside0.mk hy393
                clear hy393
                replace H := Option.bind_eq_some_iff.mp H
                obtain ⟨t396, A140, H⟩ := H
                replace H : (delta_Put.l0 k1 t396 l0 (l0.length : Int) (wrap64 (x16_1 + 1))) = some (r1, r2) := H
                have A14 := Aside0.mk A140
                clear A140
                have H' := Aside0.mk H
                clear H
                have p382 : 0 ≤ (x16_1 : Int) := of_decide_eq_true (by first | (with_reducible assumption) | assumption)
                have q382 : x16_1 < (l0.length : Int) := of_decide_eq_true (by first | (with_reducible assumption) | assumption)
                obtain ⟨ad382, e382, hx382_0, hx382_1, hx382_2, hx382_3⟩ := at_T67 HR0.out x16_1 p382 q382
                (try rw [← Nbq10.out] at hx382_0)
                cases e382
                replace hx382_0 := (HB.out.cell (World.block_lt_of_cell? w _ hx382_0)).trans hx382_0
                replace hx382_1 := (HB.out.cell (World.block_lt_of_cell? w _ hx382_1)).trans hx382_1
                replace hx382_2 := (HB.out.cell (World.block_lt_of_cell? w _ hx382_2)).trans hx382_2
                replace hx382_3 := (HB.out.cell (World.block_lt_of_cell? w _ hx382_3)).trans hx382_3
                replace p382 := eq_true p382
                replace q382 := eq_true q382
                try go_wp2_with (first | ((with_reducible refine gate_dst (N := 6) rfl ?_); refine box_event ?hg (N := 6) ?hd (cs := #[.bool false, .int .i64 0, .int .i64 0, .string (⟨#[]⟩ : ByteArray)]) (t := 67) ?hr ?_; (case hd => rfl); (case hg => rfl); (case hr => first | (go_simp; done) | (go_simp; rfl)); intro gb383 hg w15 hbox hb; have n0_ := Aside0.mk (Kd.R_below (by (with_reducible repeat (first | apply Kd.R_alloc | apply Kd.R_drewN | apply Kd.R_drew)); exact HO_4.out) hb); have n1_ := Aside0.mk (below_step (by repeat (first | (with_reducible first | exact HB.out | apply below_alloc | apply pw_below_drewN | apply below_drew1) | exact HB.out)) hb); have n2_ := Aside0.mk (hbox); have n3_ := Aside0.mk ((by rw [hg]; exact (below_size (by repeat (first | (with_reducible first | exact HB.out | apply below_alloc | apply pw_below_drewN | apply below_drew1) | exact HB.out))) : w.heap.size ≤ gb383)); have n4_ := Aside0.mk ((by rw [hg]; exact (below_size (by repeat (first | (with_reducible first | exact HB.out | apply below_alloc | apply pw_below_drewN | apply below_drew1) | exact HB.out))) : w.heap.size ≤ gb383)); clear HO_4; clear HB; have HO_4 := n0_; have HB := n1_; have BK383 := n2_; have GW383 := n3_; have GE383 := n4_; clear n0_ n1_ n2_ n3_ n4_; clear hb hbox hg; have hcz16_0 : w15.cell? ⟨gb383, 0, none⟩ = some (.bool false) := (blk_cell BK383.out 0).trans rfl; have hcz16_1 : w15.cell? ⟨gb383, 1, none⟩ = some (.int .i64 0) := (blk_cell BK383.out 1).trans rfl; have hcz16_2 : w15.cell? ⟨gb383, 2, none⟩ = some (.int .i64 0) := (blk_cell BK383.out 2).trans rfl; have hcz16_3 : w15.cell? ⟨gb383, 3, none⟩ = some (.string (⟨#[]⟩ : ByteArray)) := (blk_cell BK383.out 3).trans rfl; have hfz16_0 := blk_frozen BK383.out 0; have hfz16_1 := blk_frozen BK383.out 1; have hfz16_2 := blk_frozen BK383.out 2; have hfz16_3 := blk_frozen BK383.out 3))
                have n0_ : Aside0 (Kd.R (Kd.int .u8) 5 ((((w15.setCell ⟨gb383, 0, none⟩ (.bool true)).setCell ⟨gb383, 1, none⟩ (.int .i64 ((rd_T67 l0 x16_1).f1))).setCell ⟨gb383, 2, none⟩ (.int .i64 ((rd_T67 l0 x16_1).f2))).setCell ⟨gb383, 3, none⟩ (.string ((rd_T67 l0 x16_1).f3))) w.heap.size (fun _ => True) u4 x4_1) := ⟨by (with_reducible repeat (first | apply Kd.R_alloc | apply Kd.R_drewN | apply Kd.R_drew)); exact Kd.R_mono (Kd.R_far (p := ⟨gb383, 3, none⟩) (Kd.R_far (p := ⟨gb383, 2, none⟩) (Kd.R_far (p := ⟨gb383, 1, none⟩) (Kd.R_far (p := ⟨gb383, 0, none⟩) (Kd.R_types HO_4.out BK383.out (by decide)) (fun _ hk => by first | trivial | exact hk | exact ⟨hk.2, hk.1⟩ | exact ⟨hk.2, hk.1.2⟩ | exact hk.2 | exact hk.1 | exact hk.1.2) (.bool true)) (fun _ hk => by first | trivial | exact hk | exact ⟨hk.2, hk.1⟩ | exact ⟨hk.2, hk.1.2⟩ | exact hk.2 | exact hk.1 | exact hk.1.2) (.int .i64 ((rd_T67 l0 x16_1).f1))) (fun _ hk => by first | trivial | exact hk | exact ⟨hk.2, hk.1⟩ | exact ⟨hk.2, hk.1.2⟩ | exact hk.2 | exact hk.1 | exact hk.1.2) (.int .i64 ((rd_T67 l0 x16_1).f2))) (fun _ hk => by first | trivial | exact hk | exact ⟨hk.2, hk.1⟩ | exact ⟨hk.2, hk.1.2⟩ | exact hk.2 | exact hk.1 | exact hk.1.2) (.string ((rd_T67 l0 x16_1).f3))) (fun _ hk => trivial)⟩
                have n1_ : Aside0 (((((w15.setCell ⟨gb383, 0, none⟩ (.bool true)).setCell ⟨gb383, 1, none⟩ (.int .i64 ((rd_T67 l0 x16_1).f1))).setCell ⟨gb383, 2, none⟩ (.int .i64 ((rd_T67 l0 x16_1).f2))).setCell ⟨gb383, 3, none⟩ (.string ((rd_T67 l0 x16_1).f3))).heap[gb383]? = some (.cells #[.bool true, .int .i64 ((rd_T67 l0 x16_1).f1), .int .i64 ((rd_T67 l0 x16_1).f2), .string ((rd_T67 l0 x16_1).f3)] 67 (0, 0))) := ⟨by (with_reducible repeat (first | refine blk_drewN ?_ _ | refine blk_drew ?_ | refine blk_alloc ?_ _)); refine blk_put (cs := #[.bool true, .int .i64 ((rd_T67 l0 x16_1).f1), .int .i64 ((rd_T67 l0 x16_1).f2), .string (⟨#[]⟩ : ByteArray)]) ?_ 3 _ rfl; (with_reducible repeat (first | refine blk_drewN ?_ _ | refine blk_drew ?_ | refine blk_alloc ?_ _)); refine blk_put (cs := #[.bool true, .int .i64 ((rd_T67 l0 x16_1).f1), .int .i64 0, .string (⟨#[]⟩ : ByteArray)]) ?_ 2 _ rfl; (with_reducible repeat (first | refine blk_drewN ?_ _ | refine blk_drew ?_ | refine blk_alloc ?_ _)); refine blk_put (cs := #[.bool true, .int .i64 0, .int .i64 0, .string (⟨#[]⟩ : ByteArray)]) ?_ 1 _ rfl; (with_reducible repeat (first | refine blk_drewN ?_ _ | refine blk_drew ?_ | refine blk_alloc ?_ _)); refine blk_put (cs := #[.bool false, .int .i64 0, .int .i64 0, .string (⟨#[]⟩ : ByteArray)]) ?_ 0 _ rfl; (with_reducible repeat (first | refine blk_drewN ?_ _ | refine blk_drew ?_ | refine blk_alloc ?_ _)); exact BK383.out⟩
                have n2_ : Aside0 (Below w.heap.size w ((((w15.setCell ⟨gb383, 0, none⟩ (.bool true)).setCell ⟨gb383, 1, none⟩ (.int .i64 ((rd_T67 l0 x16_1).f1))).setCell ⟨gb383, 2, none⟩ (.int .i64 ((rd_T67 l0 x16_1).f2))).setCell ⟨gb383, 3, none⟩ (.string ((rd_T67 l0 x16_1).f3)))) := ⟨by repeat (first | (with_reducible first | exact HB.out | apply below_alloc | apply pw_below_drewN | apply below_drew1 | refine below_set ?_ GE383.out) | exact HB.out)⟩
                (try clear HO_4)
                (try clear BK383)
                (try clear HB)
                generalize ((((w15.setCell ⟨gb383, 0, none⟩ (.bool true)).setCell ⟨gb383, 1, none⟩ (.int .i64 ((rd_T67 l0 x16_1).f1))).setCell ⟨gb383, 2, none⟩ (.int .i64 ((rd_T67 l0 x16_1).f2))).setCell ⟨gb383, 3, none⟩ (.string ((rd_T67 l0 x16_1).f3))) = w17 at n0_ n1_ n2_ ⊢
                have HO_4 := n0_
                have BK383 := n1_
                have HB := n2_
                clear n0_ n1_ n2_
                have n0_ := Aside0.mk (Kd.R_drew HO_4.out)
                have n1_ := Aside0.mk (blk_drew BK383.out)
                have n2_ := Aside0.mk (below_drew1 HB.out)
                clear HO_4
                clear BK383
                clear HB
                have HO_4 := n0_
                have BK383 := n1_
                have HB := n2_
                clear n0_ n1_ n2_
                refine start_ (n := 13) (S := fun w' => True) (ds := []) #[false, false, false, false, false, false, false, false, false, false, false, false, false] (by kernel_rfl) rfl rfl trivial (fun hHeld => ?_); refine with_tabW delta_Put.tab8 delta_Put.bits8 (fun HT_ HW_ => ?_)
                generalize w17.drew = w18 at HO_4 BK383 HB hHeld ⊢
                refine pure_ (i := 0) (N := some 22) (v := ?_) (a' := ?_) #[true, false, false, false, false, false, false, false, false, false, false, false, false] rfl rfl (any_of HT_.out (by kernel_rfl)) (fun _ _ _ h => h) (Or.inl ⟨by rfl, ?_⟩) ?_ ?_
                rotate_left
                · intro w'
                  go_simp
                  with_reducible rfl
                rotate_left
                · simp only [Act.put, List.setIfInBounds_toArray, List.set_cons_zero, List.set_cons_succ, i64_w, i32_w]
                  rfl
                refine pure_ (i := 2) (N := some 24) (v := ?_) (a' := ?_) #[true, false, true, false, false, false, false, false, false, false, false, false, false] rfl rfl (any_of HT_.out (by kernel_rfl)) (fun _ _ _ h => h) (Or.inl ⟨by rfl, ?_⟩) ?_ ?_
                rotate_left
                · intro w'
                  go_simp
                  with_reducible rfl
                rotate_left
                · simp only [Act.put, List.setIfInBounds_toArray, List.set_cons_zero, List.set_cons_succ, i64_w, i32_w]
                  rfl
                refine pure_ (i := 6) (N := some 28) (v := ?_) (a' := ?_) #[true, false, true, false, false, false, true, false, false, false, false, false, false] rfl rfl (any_of HT_.out (by kernel_rfl)) (fun _ _ _ h => h) (Or.inl ⟨by rfl, ?_⟩) ?_ ?_
                rotate_left
                · intro w'
                  go_simp
                  with_reducible rfl
                rotate_left
                · simp only [Act.put, List.setIfInBounds_toArray, List.set_cons_zero, List.set_cons_succ, i64_w, i32_w]
                  rfl
                refine inv_at [1, 3, 4, 5, 7, 8, 9, 10, 11, 12] (fun a0_ b a w' => ∃ (v385 : Value) (v388 : Value) (v391 : Value) (v394 : Value) (v397 : Value) (m12_ : Value), a = putSel a0_ b [(1, 23, v385), (3, 25, .int .i64 ((rd_T67 l0 x16_1).f1)), (4, 26, .int .u64 (IntKind.u64.wrap ((rd_T67 l0 x16_1).f1))), (5, 27, v388), (7, 29, .int .i64 ((rd_T67 l0 x16_1).f2)), (8, 30, .int .u64 (IntKind.u64.wrap ((rd_T67 l0 x16_1).f2))), (9, 31, v391), (10, 32, v394), (11, 33, v397), (12, 4, m12_)] ∧ (b 10 = false → Kd.R (Kd.int .u8) 5 w' w.heap.size (fun _ => True) u4 x4_1) ∧ (w'.heap[gb383]? = some (.cells #[.bool true, .int .i64 ((rd_T67 l0 x16_1).f1), .int .i64 ((rd_T67 l0 x16_1).f2), .string ((rd_T67 l0 x16_1).f3)] 67 (0, 0))) ∧ (Below w.heap.size w w') ∧ (b 1 = true → b 10 = false → Kd.R (Kd.int .u8) 5 w' w.heap.size (fun k_ => some k_ ≠ (u4 : Value).ownBlock) v385 y384) ∧ (b 5 = true → b 10 = false → Kd.R (Kd.int .u8) 5 w' w.heap.size (fun k_ => some k_ ≠ (u4 : Value).ownBlock) v388 t387) ∧ (b 9 = true → b 10 = false → Kd.R (Kd.int .u8) 5 w' w.heap.size (fun k_ => some k_ ≠ (u4 : Value).ownBlock) v391 t390) ∧ (b 10 = true → Kd.N (Kd.slice 5 (Kd.int .u8)) 40 w' w.heap.size (fun k_ => k_ ≠ gb383) v394 y393) ∧ (b 11 = true → Kd.R (Kd.int .u8) 5 w' w.heap.size (fun _ => True) v397 t396) ∧ (b 12 = true → (m12_ : Value) = v397)) HT_.out HW_.out (by kernel_rfl) (by kernel_rfl) ?_ ?_ ?_
                · exact ⟨.bool false, .bool false, .bool false, .bool false, .bool false, .bool false, by simp only [putSel, Bool.false_eq_true, if_false], fun _ => HO_4.out, BK383.out, HB.out, fun h_ => absurd h_ (by decide), fun h_ => absurd h_ (by decide), fun h_ => absurd h_ (by decide), fun h_ => absurd h_ (by decide), fun h_ => absurd h_ (by decide), fun h_ => absurd h_ (by decide)⟩
                · skip
                  clear BK383 HB HO_4
                  refine steps_cons ?_ ?_
                  · rintro b a w' ⟨v385, v388, v391, v394, v397, m12_, ha, Q_HO_4, Q_BK383, Q_HB, Q_HO386, Q_HO389, Q_HO392, Q_HO395, Q_HO398, Q_X12_⟩ hb_ hon hoff
                    refine ⟨_, rfl, fun K hK => ?_⟩
                    replace ha := Aside0.mk ha
                    have HO_4 := Aside0.mk (Q_HO_4 (hoff 10 (by kernel_rfl)))
                    have BK383 := Aside0.mk Q_BK383
                    have HB := Aside0.mk Q_HB
                    refine Kd.R_lit_step (Kd.int .u8) _ 5 ?hg (N := 23) ?hd (xs := ([1] : List Int)) (inner := [.int .u8 1]) (ok := fun _ => True) (okp := fun _ => True) ?hr ?hp (fun _ hk => hk) trivial (Below.refl _ _) (Nat.le_refl _) (by simp) ?_; (case hd => rfl); (case hg => rfl); (case hr => first | (go_simp; done) | (go_simp; rfl)); (case hp => exact (Reps.one (show Kd.M (Kd.int .u8) _ _ _ 1 [.int .u8 1] from rfl) (Reps.none _ _)))
                    intro v385 w19 ho20 hb hg_ hnew_
                    clear hg_ hnew_
                    (first | rw [← Ny384.out] at ho20 | (simp only [Int.reduceToNat] at ho20; rw [← Ny384.out] at ho20))
                    have n0_ := Aside0.mk (Kd.R_elder' (by (with_reducible repeat (first | apply Kd.R_alloc | apply Kd.R_drewN | apply Kd.R_drew)); exact HO_4.out) (Kd.R_base ho20) hb)
                    have n1_ := Aside0.mk (Kd.R_lower (Kd.R_new' ho20 (Kd.R_lt (by (with_reducible repeat (first | apply Kd.R_alloc | apply Kd.R_drewN | apply Kd.R_drew)); exact HO_4.out))) (below_size (by repeat (first | (with_reducible first | exact HB.out | apply below_alloc | apply pw_below_drewN | apply below_drew1 | refine below_set ?_ GE383.out) | exact HB.out))))
                    have n2_ := Aside0.mk (blk_below (g := gb383) (o := .cells #[.bool true, .int .i64 ((rd_T67 l0 x16_1).f1), .int .i64 ((rd_T67 l0 x16_1).f2), .string ((rd_T67 l0 x16_1).f3)] 67 (0, 0)) (by (with_reducible repeat (first | refine blk_drewN ?_ _ | refine blk_drew ?_ | refine blk_alloc ?_ _)); exact BK383.out) hb)
                    have n3_ := Aside0.mk (below_step (by repeat (first | (with_reducible first | exact HB.out | apply below_alloc | apply pw_below_drewN | apply below_drew1 | refine below_set ?_ GE383.out) | exact HB.out)) hb)
                    have z_HO389 := fun (h0_ : b 5 = true) (h1_ : b 10 = false) => (show Kd.R (Kd.int .u8) 5 w19 w.heap.size (fun k_ => some k_ ≠ (u4 : Value).ownBlock) v388 t387 from by first | exact (Kd.R_elder' (by (with_reducible repeat (first | apply Kd.R_alloc | apply Kd.R_drewN | apply Kd.R_drew)); exact (Q_HO389 h0_ h1_)) (Kd.R_base ho20) hb) | exact Kd.R_mono (Kd.R_elder' (by (with_reducible repeat (first | apply Kd.R_alloc | apply Kd.R_drewN | apply Kd.R_drew)); exact (Q_HO389 h0_ h1_)) (Kd.R_base ho20) hb) (fun _ h_ => by first | trivial | exact h_ | exact h_.1))
                    have z_HO392 := fun (h0_ : b 9 = true) (h1_ : b 10 = false) => (show Kd.R (Kd.int .u8) 5 w19 w.heap.size (fun k_ => some k_ ≠ (u4 : Value).ownBlock) v391 t390 from by first | exact (Kd.R_elder' (by (with_reducible repeat (first | apply Kd.R_alloc | apply Kd.R_drewN | apply Kd.R_drew)); exact (Q_HO392 h0_ h1_)) (Kd.R_base ho20) hb) | exact Kd.R_mono (Kd.R_elder' (by (with_reducible repeat (first | apply Kd.R_alloc | apply Kd.R_drewN | apply Kd.R_drew)); exact (Q_HO392 h0_ h1_)) (Kd.R_base ho20) hb) (fun _ h_ => by first | trivial | exact h_ | exact h_.1))
                    clear HO_4
                    clear BK383
                    clear HB
                    have HO_4 := n0_
                    have HO386 := n1_
                    have BK383 := n2_
                    have HB := n3_
                    clear n0_ n1_ n2_ n3_
                    clear hb ho20
                    refine hK.out _ _ ⟨v385, v388, v391, v394, v397, m12_, (by rw [ha.out]; exact putSel_upk 0 hb_ rfl rfl rfl), fun _ => (by (with_reducible repeat (first | apply Kd.R_alloc | apply Kd.R_drewN | apply Kd.R_drew)); exact Kd.R_mono HO_4.out (fun _ hk => by first | trivial | exact hk | exact ⟨hk.2, hk.1⟩ | exact ⟨hk.2, hk.1.2⟩ | exact hk.2 | exact hk.1 | exact hk.1.2)), (by (with_reducible repeat (first | refine blk_drewN ?_ _ | refine blk_drew ?_ | refine blk_alloc ?_ _)); exact BK383.out), (by repeat (first | (with_reducible first | exact HB.out | apply below_alloc | apply pw_below_drewN | apply below_drew1 | refine below_set ?_ GE383.out) | exact HB.out)), fun _ _ => (by (with_reducible repeat (first | apply Kd.R_alloc | apply Kd.R_drewN | apply Kd.R_drew)); exact Kd.R_mono HO386.out (fun _ hk => by first | trivial | exact hk | exact ⟨hk.2, hk.1⟩ | exact ⟨hk.2, hk.1.2⟩ | exact hk.2 | exact hk.1 | exact hk.1.2)), z_HO389, z_HO392, fun h0_ => absurd ((hoff 10 (by kernel_rfl)).symm.trans h0_) (by decide), fun h0_ => absurd ((hoff 11 (by kernel_rfl)).symm.trans h0_) (by decide), fun h0_ => absurd ((hoff 12 (by kernel_rfl)).symm.trans h0_) (by decide)⟩
                  refine steps_cons ?_ ?_
                  · rintro b a w' ⟨v385, v388, v391, v394, v397, m12_, ha, Q_HO_4, Q_BK383, Q_HB, Q_HO386, Q_HO389, Q_HO392, Q_HO395, Q_HO398, Q_X12_⟩ hb_ hon hoff
                    refine ⟨_, rfl, fun K hK => ?_⟩
                    have e24 : a.tmps[24]? = some (.pointer (some ⟨gb383, 1, none⟩)) := by rw [ha]; exact (putSel_off rfl).trans rfl
                    replace ha := Aside0.mk ha
                    have HO_4 := Aside0.mk (Q_HO_4 (hoff 10 (by kernel_rfl)))
                    have BK383 := Aside0.mk Q_BK383
                    have HB := Aside0.mk Q_HB
                    have hc0_ : w'.cell? ⟨gb383, 0, none⟩ = some (.bool true) := (blk_cell BK383.out 0).trans rfl
                    have hc1_ : w'.cell? ⟨gb383, 1, none⟩ = some (.int .i64 ((rd_T67 l0 x16_1).f1)) := (blk_cell BK383.out 1).trans rfl
                    have hc2_ : w'.cell? ⟨gb383, 2, none⟩ = some (.int .i64 ((rd_T67 l0 x16_1).f2)) := (blk_cell BK383.out 2).trans rfl
                    have hc3_ : w'.cell? ⟨gb383, 3, none⟩ = some (.string ((rd_T67 l0 x16_1).f3)) := (blk_cell BK383.out 3).trans rfl
                    refine value_ (w1 := w') (v := .int .i64 ((rd_T67 l0 x16_1).f1)) (by rfl) rfl ?_ ?_
                    · go_simp
                      (try simp only [i64_w])
                      try rfl
                    refine hK.out _ _ ⟨v385, v388, v391, v394, v397, m12_, (by rw [ha.out]; exact putSel_upk 1 hb_ rfl rfl rfl), Q_HO_4, Q_BK383, Q_HB, Q_HO386, fun h0_ _ => absurd ((hoff 5 (by kernel_rfl)).symm.trans h0_) (by decide), fun h0_ _ => absurd ((hoff 9 (by kernel_rfl)).symm.trans h0_) (by decide), fun h0_ => absurd ((hoff 10 (by kernel_rfl)).symm.trans h0_) (by decide), fun h0_ => absurd ((hoff 11 (by kernel_rfl)).symm.trans h0_) (by decide), fun h0_ => absurd ((hoff 12 (by kernel_rfl)).symm.trans h0_) (by decide)⟩
                  refine steps_cons ?_ ?_
                  · rintro b a w' ⟨v385, v388, v391, v394, v397, m12_, ha, Q_HO_4, Q_BK383, Q_HB, Q_HO386, Q_HO389, Q_HO392, Q_HO395, Q_HO398, Q_X12_⟩ hb_ hon hoff
                    refine ⟨_, rfl, fun K hK => ?_⟩
                    have e25 : a.tmps[25]? = some (.int .i64 ((rd_T67 l0 x16_1).f1)) := by rw [ha]; exact putSel_on (e := (3, 25, .int .i64 ((rd_T67 l0 x16_1).f1))) 1 rfl rfl (hon 3 (by kernel_rfl)) rfl
                    replace ha := Aside0.mk ha
                    have HO_4 := Aside0.mk (Q_HO_4 (hoff 10 (by kernel_rfl)))
                    have BK383 := Aside0.mk Q_BK383
                    have HB := Aside0.mk Q_HB
                    refine value_ (w1 := w') (v := .int .u64 (IntKind.u64.wrap ((rd_T67 l0 x16_1).f1))) (by rfl) rfl ?_ ?_
                    · go_simp
                      (try simp only [i64_w])
                      try rfl
                    refine hK.out _ _ ⟨v385, v388, v391, v394, v397, m12_, (by rw [ha.out]; exact putSel_upk 2 hb_ rfl rfl rfl), Q_HO_4, Q_BK383, Q_HB, Q_HO386, fun h0_ _ => absurd ((hoff 5 (by kernel_rfl)).symm.trans h0_) (by decide), fun h0_ _ => absurd ((hoff 9 (by kernel_rfl)).symm.trans h0_) (by decide), fun h0_ => absurd ((hoff 10 (by kernel_rfl)).symm.trans h0_) (by decide), fun h0_ => absurd ((hoff 11 (by kernel_rfl)).symm.trans h0_) (by decide), fun h0_ => absurd ((hoff 12 (by kernel_rfl)).symm.trans h0_) (by decide)⟩
                  refine steps_cons ?_ ?_
                  · rintro b a w' ⟨v385, v388, v391, v394, v397, m12_, ha, Q_HO_4, Q_BK383, Q_HB, Q_HO386, Q_HO389, Q_HO392, Q_HO395, Q_HO398, Q_X12_⟩ hb_ hon hoff
                    refine ⟨_, rfl, fun K hK => ?_⟩
                    have e26 : a.tmps[26]? = some (.int .u64 (IntKind.u64.wrap ((rd_T67 l0 x16_1).f1))) := by rw [ha]; exact putSel_on (e := (4, 26, .int .u64 (IntKind.u64.wrap ((rd_T67 l0 x16_1).f1)))) 2 rfl rfl (hon 4 (by kernel_rfl)) rfl
                    replace ha := Aside0.mk ha
                    have HO_4 := Aside0.mk (Q_HO_4 (hoff 10 (by kernel_rfl)))
                    have BK383 := Aside0.mk Q_BK383
                    have HB := Aside0.mk Q_HB
                    refine goes_ Try.func84 (by kernel_rfl) rfl #[.int .u64 (IntKind.u64.wrap ((rd_T67 l0 x16_1).f1))] (by rfl) rfl rfl (by first | (simp only [List.map_toArray, List.map_cons, List.map_nil, Act.eval, Array.getD_eq_getD_getElem?, Option.getD_some, e26]; done) | (simp only [List.map_toArray, List.map_cons, List.map_nil, Act.eval, Array.getD_eq_getD_getElem?, Option.getD_some, e26]; rfl)) ?_
                    with_reducible refine (wire_Put.calls k1 (IntKind.u64.wrap ((rd_T67 l0 x16_1).f1)) t387 _ A12.out).mono ?_
                    rintro e w19 ⟨v388, rfl, ho0, hb⟩
                    refine ⟨_, rfl, ?_⟩
                    have n0_ := Aside0.mk (Kd.R_elder' (by (with_reducible repeat (first | apply Kd.R_alloc | apply Kd.R_drewN | apply Kd.R_drew)); exact HO_4.out) (Kd.R_base ho0) hb)
                    have n1_ := Aside0.mk (Kd.R_lower (Kd.R_new' ho0 (Kd.R_lt (by (with_reducible repeat (first | apply Kd.R_alloc | apply Kd.R_drewN | apply Kd.R_drew)); exact HO_4.out))) (below_size (by repeat (first | (with_reducible first | exact HB.out | apply below_alloc | apply pw_below_drewN | apply below_drew1 | refine below_set ?_ GE383.out) | exact HB.out))))
                    have n2_ := Aside0.mk (blk_below (g := gb383) (o := .cells #[.bool true, .int .i64 ((rd_T67 l0 x16_1).f1), .int .i64 ((rd_T67 l0 x16_1).f2), .string ((rd_T67 l0 x16_1).f3)] 67 (0, 0)) (by (with_reducible repeat (first | refine blk_drewN ?_ _ | refine blk_drew ?_ | refine blk_alloc ?_ _)); exact BK383.out) hb)
                    have n3_ := Aside0.mk (below_step (by repeat (first | (with_reducible first | exact HB.out | apply below_alloc | apply pw_below_drewN | apply below_drew1 | refine below_set ?_ GE383.out) | exact HB.out)) hb)
                    have z_HO386 := fun (h0_ : b 1 = true) (h1_ : b 10 = false) => (show Kd.R (Kd.int .u8) 5 w19 w.heap.size (fun k_ => some k_ ≠ (u4 : Value).ownBlock) v385 y384 from by first | exact (Kd.R_elder' (by (with_reducible repeat (first | apply Kd.R_alloc | apply Kd.R_drewN | apply Kd.R_drew)); exact (Q_HO386 h0_ h1_)) (Kd.R_base ho0) hb) | exact Kd.R_mono (Kd.R_elder' (by (with_reducible repeat (first | apply Kd.R_alloc | apply Kd.R_drewN | apply Kd.R_drew)); exact (Q_HO386 h0_ h1_)) (Kd.R_base ho0) hb) (fun _ h_ => by first | trivial | exact h_ | exact h_.1))
                    clear HO_4
                    clear BK383
                    clear HB
                    have HO_4 := n0_
                    have HO389 := n1_
                    have BK383 := n2_
                    have HB := n3_
                    clear n0_ n1_ n2_ n3_
                    (try clear hb)
                    (try clear hb2)
                    (try clear hk)
                    (try clear hi)
                    (try clear ho0)
                    refine hK.out _ _ ⟨v385, v388, v391, v394, v397, m12_, (by rw [ha.out]; exact putSel_upk 3 hb_ rfl rfl rfl), fun _ => (by (with_reducible repeat (first | apply Kd.R_alloc | apply Kd.R_drewN | apply Kd.R_drew)); exact Kd.R_mono HO_4.out (fun _ hk => by first | trivial | exact hk | exact ⟨hk.2, hk.1⟩ | exact ⟨hk.2, hk.1.2⟩ | exact hk.2 | exact hk.1 | exact hk.1.2)), (by (with_reducible repeat (first | refine blk_drewN ?_ _ | refine blk_drew ?_ | refine blk_alloc ?_ _)); exact BK383.out), (by repeat (first | (with_reducible first | exact HB.out | apply below_alloc | apply pw_below_drewN | apply below_drew1 | refine below_set ?_ GE383.out) | exact HB.out)), z_HO386, fun _ _ => (by (with_reducible repeat (first | apply Kd.R_alloc | apply Kd.R_drewN | apply Kd.R_drew)); exact Kd.R_mono HO389.out (fun _ hk => by first | trivial | exact hk | exact ⟨hk.2, hk.1⟩ | exact ⟨hk.2, hk.1.2⟩ | exact hk.2 | exact hk.1 | exact hk.1.2)), fun h0_ _ => absurd ((hoff 9 (by kernel_rfl)).symm.trans h0_) (by decide), fun h0_ => absurd ((hoff 10 (by kernel_rfl)).symm.trans h0_) (by decide), fun h0_ => absurd ((hoff 11 (by kernel_rfl)).symm.trans h0_) (by decide), fun h0_ => absurd ((hoff 12 (by kernel_rfl)).symm.trans h0_) (by decide)⟩
                  refine steps_cons ?_ ?_
                  · rintro b a w' ⟨v385, v388, v391, v394, v397, m12_, ha, Q_HO_4, Q_BK383, Q_HB, Q_HO386, Q_HO389, Q_HO392, Q_HO395, Q_HO398, Q_X12_⟩ hb_ hon hoff
                    refine ⟨_, rfl, fun K hK => ?_⟩
                    have e28 : a.tmps[28]? = some (.pointer (some ⟨gb383, 2, none⟩)) := by rw [ha]; exact (putSel_off rfl).trans rfl
                    replace ha := Aside0.mk ha
                    have HO_4 := Aside0.mk (Q_HO_4 (hoff 10 (by kernel_rfl)))
                    have BK383 := Aside0.mk Q_BK383
                    have HB := Aside0.mk Q_HB
                    have hc0_ : w'.cell? ⟨gb383, 0, none⟩ = some (.bool true) := (blk_cell BK383.out 0).trans rfl
                    have hc1_ : w'.cell? ⟨gb383, 1, none⟩ = some (.int .i64 ((rd_T67 l0 x16_1).f1)) := (blk_cell BK383.out 1).trans rfl
                    have hc2_ : w'.cell? ⟨gb383, 2, none⟩ = some (.int .i64 ((rd_T67 l0 x16_1).f2)) := (blk_cell BK383.out 2).trans rfl
                    have hc3_ : w'.cell? ⟨gb383, 3, none⟩ = some (.string ((rd_T67 l0 x16_1).f3)) := (blk_cell BK383.out 3).trans rfl
                    refine value_ (w1 := w') (v := .int .i64 ((rd_T67 l0 x16_1).f2)) (by rfl) rfl ?_ ?_
                    · go_simp
                      (try simp only [i64_w])
                      try rfl
                    refine hK.out _ _ ⟨v385, v388, v391, v394, v397, m12_, (by rw [ha.out]; exact putSel_upk 4 hb_ rfl rfl rfl), Q_HO_4, Q_BK383, Q_HB, Q_HO386, Q_HO389, fun h0_ _ => absurd ((hoff 9 (by kernel_rfl)).symm.trans h0_) (by decide), fun h0_ => absurd ((hoff 10 (by kernel_rfl)).symm.trans h0_) (by decide), fun h0_ => absurd ((hoff 11 (by kernel_rfl)).symm.trans h0_) (by decide), fun h0_ => absurd ((hoff 12 (by kernel_rfl)).symm.trans h0_) (by decide)⟩
                  refine steps_cons ?_ ?_
                  · rintro b a w' ⟨v385, v388, v391, v394, v397, m12_, ha, Q_HO_4, Q_BK383, Q_HB, Q_HO386, Q_HO389, Q_HO392, Q_HO395, Q_HO398, Q_X12_⟩ hb_ hon hoff
                    refine ⟨_, rfl, fun K hK => ?_⟩
                    have e29 : a.tmps[29]? = some (.int .i64 ((rd_T67 l0 x16_1).f2)) := by rw [ha]; exact putSel_on (e := (7, 29, .int .i64 ((rd_T67 l0 x16_1).f2))) 4 rfl rfl (hon 7 (by kernel_rfl)) rfl
                    replace ha := Aside0.mk ha
                    have HO_4 := Aside0.mk (Q_HO_4 (hoff 10 (by kernel_rfl)))
                    have BK383 := Aside0.mk Q_BK383
                    have HB := Aside0.mk Q_HB
                    refine value_ (w1 := w') (v := .int .u64 (IntKind.u64.wrap ((rd_T67 l0 x16_1).f2))) (by rfl) rfl ?_ ?_
                    · go_simp
                      (try simp only [i64_w])
                      try rfl
                    refine hK.out _ _ ⟨v385, v388, v391, v394, v397, m12_, (by rw [ha.out]; exact putSel_upk 5 hb_ rfl rfl rfl), Q_HO_4, Q_BK383, Q_HB, Q_HO386, Q_HO389, fun h0_ _ => absurd ((hoff 9 (by kernel_rfl)).symm.trans h0_) (by decide), fun h0_ => absurd ((hoff 10 (by kernel_rfl)).symm.trans h0_) (by decide), fun h0_ => absurd ((hoff 11 (by kernel_rfl)).symm.trans h0_) (by decide), fun h0_ => absurd ((hoff 12 (by kernel_rfl)).symm.trans h0_) (by decide)⟩
                  refine steps_cons ?_ ?_
                  · rintro b a w' ⟨v385, v388, v391, v394, v397, m12_, ha, Q_HO_4, Q_BK383, Q_HB, Q_HO386, Q_HO389, Q_HO392, Q_HO395, Q_HO398, Q_X12_⟩ hb_ hon hoff
                    refine ⟨_, rfl, fun K hK => ?_⟩
                    have e30 : a.tmps[30]? = some (.int .u64 (IntKind.u64.wrap ((rd_T67 l0 x16_1).f2))) := by rw [ha]; exact putSel_on (e := (8, 30, .int .u64 (IntKind.u64.wrap ((rd_T67 l0 x16_1).f2)))) 5 rfl rfl (hon 8 (by kernel_rfl)) rfl
                    replace ha := Aside0.mk ha
                    have HO_4 := Aside0.mk (Q_HO_4 (hoff 10 (by kernel_rfl)))
                    have BK383 := Aside0.mk Q_BK383
                    have HB := Aside0.mk Q_HB
                    have HO389 := Aside0.mk (Q_HO389 (hon 5 (by kernel_rfl)) (hoff 10 (by kernel_rfl)))
                    refine goes_ Try.func84 (by kernel_rfl) rfl #[.int .u64 (IntKind.u64.wrap ((rd_T67 l0 x16_1).f2))] (by rfl) rfl rfl (by first | (simp only [List.map_toArray, List.map_cons, List.map_nil, Act.eval, Array.getD_eq_getD_getElem?, Option.getD_some, e30]; done) | (simp only [List.map_toArray, List.map_cons, List.map_nil, Act.eval, Array.getD_eq_getD_getElem?, Option.getD_some, e30]; rfl)) ?_
                    with_reducible refine (wire_Put.calls k1 (IntKind.u64.wrap ((rd_T67 l0 x16_1).f2)) t390 _ A13.out).mono ?_
                    rintro e w21 ⟨v391, rfl, ho0, hb⟩
                    refine ⟨_, rfl, ?_⟩
                    have n0_ := Aside0.mk (Kd.R_elder' (by (with_reducible repeat (first | apply Kd.R_alloc | apply Kd.R_drewN | apply Kd.R_drew)); exact HO_4.out) (Kd.R_base ho0) hb)
                    have n1_ := Aside0.mk (Kd.R_elder' (by (with_reducible repeat (first | apply Kd.R_alloc | apply Kd.R_drewN | apply Kd.R_drew)); exact HO389.out) (Kd.R_base ho0) hb)
                    have n2_ := Aside0.mk (Kd.R_lower (Kd.R_new' (Kd.R_new' ho0 (Kd.R_lt (by (with_reducible repeat (first | apply Kd.R_alloc | apply Kd.R_drewN | apply Kd.R_drew)); exact HO_4.out))) (Kd.R_lt (by (with_reducible repeat (first | apply Kd.R_alloc | apply Kd.R_drewN | apply Kd.R_drew)); exact HO389.out))) (below_size (by repeat (first | (with_reducible first | exact HB.out | apply below_alloc | apply pw_below_drewN | apply below_drew1 | refine below_set ?_ GE383.out) | exact HB.out))))
                    have n3_ := Aside0.mk (blk_below (g := gb383) (o := .cells #[.bool true, .int .i64 ((rd_T67 l0 x16_1).f1), .int .i64 ((rd_T67 l0 x16_1).f2), .string ((rd_T67 l0 x16_1).f3)] 67 (0, 0)) (by (with_reducible repeat (first | refine blk_drewN ?_ _ | refine blk_drew ?_ | refine blk_alloc ?_ _)); exact BK383.out) hb)
                    have n4_ := Aside0.mk (below_step (by repeat (first | (with_reducible first | exact HB.out | apply below_alloc | apply pw_below_drewN | apply below_drew1 | refine below_set ?_ GE383.out) | exact HB.out)) hb)
                    have z_HO386 := fun (h0_ : b 1 = true) (h1_ : b 10 = false) => (show Kd.R (Kd.int .u8) 5 w21 w.heap.size (fun k_ => some k_ ≠ (u4 : Value).ownBlock) v385 y384 from by first | exact (Kd.R_elder' (by (with_reducible repeat (first | apply Kd.R_alloc | apply Kd.R_drewN | apply Kd.R_drew)); exact (Q_HO386 h0_ h1_)) (Kd.R_base ho0) hb) | exact Kd.R_mono (Kd.R_elder' (by (with_reducible repeat (first | apply Kd.R_alloc | apply Kd.R_drewN | apply Kd.R_drew)); exact (Q_HO386 h0_ h1_)) (Kd.R_base ho0) hb) (fun _ h_ => by first | trivial | exact h_ | exact h_.1))
                    clear HO_4
                    clear HO389
                    clear BK383
                    clear HB
                    have HO_4 := n0_
                    have HO389 := n1_
                    have HO392 := n2_
                    have BK383 := n3_
                    have HB := n4_
                    clear n0_ n1_ n2_ n3_ n4_
                    (try clear hb)
                    (try clear hb2)
                    (try clear hk)
                    (try clear hi)
                    (try clear ho0)
                    refine hK.out _ _ ⟨v385, v388, v391, v394, v397, m12_, (by rw [ha.out]; exact putSel_upk 6 hb_ rfl rfl rfl), fun _ => (by (with_reducible repeat (first | apply Kd.R_alloc | apply Kd.R_drewN | apply Kd.R_drew)); exact Kd.R_mono HO_4.out (fun _ hk => by first | trivial | exact hk | exact ⟨hk.2, hk.1⟩ | exact ⟨hk.2, hk.1.2⟩ | exact hk.2 | exact hk.1 | exact hk.1.2)), (by (with_reducible repeat (first | refine blk_drewN ?_ _ | refine blk_drew ?_ | refine blk_alloc ?_ _)); exact BK383.out), (by repeat (first | (with_reducible first | exact HB.out | apply below_alloc | apply pw_below_drewN | apply below_drew1 | refine below_set ?_ GE383.out) | exact HB.out)), z_HO386, fun _ _ => (by (with_reducible repeat (first | apply Kd.R_alloc | apply Kd.R_drewN | apply Kd.R_drew)); exact Kd.R_mono HO389.out (fun _ hk => by first | trivial | exact hk | exact ⟨hk.2, hk.1⟩ | exact ⟨hk.2, hk.1.2⟩ | exact hk.2 | exact hk.1 | exact hk.1.2)), fun _ _ => (by (with_reducible repeat (first | apply Kd.R_alloc | apply Kd.R_drewN | apply Kd.R_drew)); exact Kd.R_mono HO392.out (fun _ hk => by first | trivial | exact hk | exact ⟨hk.2, hk.1⟩ | exact ⟨hk.2, hk.1.2⟩ | exact hk.2 | exact hk.1 | exact hk.1.2)), fun h0_ => absurd ((hoff 10 (by kernel_rfl)).symm.trans h0_) (by decide), fun h0_ => absurd ((hoff 11 (by kernel_rfl)).symm.trans h0_) (by decide), fun h0_ => absurd ((hoff 12 (by kernel_rfl)).symm.trans h0_) (by decide)⟩
                  refine steps_cons ?_ ?_
                  · rintro b a w' ⟨v385, v388, v391, v394, v397, m12_, ha, Q_HO_4, Q_BK383, Q_HB, Q_HO386, Q_HO389, Q_HO392, Q_HO395, Q_HO398, Q_X12_⟩ hb_ hon hoff
                    refine ⟨_, rfl, fun K hK => ?_⟩
                    have e22 : a.tmps[22]? = some u4 := by rw [ha]; exact (putSel_off rfl).trans rfl
                    have e23 : a.tmps[23]? = some (v385) := by rw [ha]; exact putSel_on (e := (1, 23, v385)) 0 rfl rfl (hon 1 (by kernel_rfl)) rfl
                    have e27 : a.tmps[27]? = some (v388) := by rw [ha]; exact putSel_on (e := (5, 27, v388)) 3 rfl rfl (hon 5 (by kernel_rfl)) rfl
                    have e31 : a.tmps[31]? = some (v391) := by rw [ha]; exact putSel_on (e := (9, 31, v391)) 6 rfl rfl (hon 9 (by kernel_rfl)) rfl
                    replace ha := Aside0.mk ha
                    have HO_4 := Aside0.mk (Q_HO_4 hb_)
                    have BK383 := Aside0.mk Q_BK383
                    have HB := Aside0.mk Q_HB
                    have HO386 := Aside0.mk (Q_HO386 (hon 1 (by kernel_rfl)) hb_)
                    have HO389 := Aside0.mk (Q_HO389 (hon 5 (by kernel_rfl)) hb_)
                    have HO392 := Aside0.mk (Q_HO392 (hon 9 (by kernel_rfl)) hb_)
                    obtain ⟨Ao24, co24, eo24⟩ := Kd.R_slice HO_4.out
                    (first | subst eo24 | (injection eo24 with f1_ f2_ f3_; have f4_ := f1_.symm; have f5_ := f3_.symm; clear f1_ f2_ f3_; subst f4_; subst f5_))
                    obtain ⟨Ao25, co25, eo25⟩ := Kd.R_slice HO386.out
                    (first | subst eo25 | (injection eo25 with f1_ f2_ f3_; have f4_ := f1_.symm; have f5_ := f3_.symm; clear f1_ f2_ f3_; subst f4_; subst f5_))
                    obtain ⟨Ao26, co26, eo26⟩ := Kd.R_slice HO389.out
                    (first | subst eo26 | (injection eo26 with f1_ f2_ f3_; have f4_ := f1_.symm; have f5_ := f3_.symm; clear f1_ f2_ f3_; subst f4_; subst f5_))
                    obtain ⟨Ao27, co27, eo27⟩ := Kd.R_slice HO392.out
                    (first | subst eo27 | (injection eo27 with f1_ f2_ f3_; have f4_ := f1_.symm; have f5_ := f3_.symm; clear f1_ f2_ f3_; subst f4_; subst f5_))
                    refine Kd.N_lit_step (Kd.slice 5 (Kd.int .u8)) _ 40 ?hg (N' := 32) ?hd (xs := ([x4_1, y384, t387, t390] : List (List Int))) (inner := [.slice Ao24 x4_1.length co24, .slice Ao25 y384.length co25, .slice Ao26 t387.length co26, .slice Ao27 t390.length co27]) (ok := (fun k_ => k_ ≠ gb383)) (okp := (fun k_ => k_ ≠ gb383)) ?hr ?hp (fun _ hk => hk) ((show ∀ k_, w'.heap.size ≤ k_ → (fun k_ => k_ ≠ gb383) k_ from fun k_ hk => Kd.freshB (g := gb383) (o := .cells #[.bool true, .int .i64 ((rd_T67 l0 x16_1).f1), .int .i64 ((rd_T67 l0 x16_1).f2), .string ((rd_T67 l0 x16_1).f3)] 67 (0, 0)) (by (with_reducible repeat (first | refine blk_drewN ?_ _ | refine blk_drew ?_ | refine blk_alloc ?_ _)); exact BK383.out) k_ hk) _ (Nat.le_refl _)) (Below.refl _ _) (Nat.le_refl _) (by simp) ?_; (case hd => rfl); (case hg => rfl); (case hr => first | (go_simp; done) | (go_simp; rfl)); (case hp => exact (Reps.one (show Kd.FK (Kd.slice 5 (Kd.int .u8)) _ _ x4_1 [.slice Ao24 x4_1.length co24] from (Kd.FK_slice_mk (Kd.R_reads' (Kd.R_mono (ok' := (fun k_ => k_ ≠ gb383)) (Kd.R_types (HO_4.out) BK383.out (by decide)) (fun k_ hk => hk.2))).2.1 (Kd.R_F (Kd.R_mono (ok' := (fun k_ => k_ ≠ gb383)) (Kd.R_types (HO_4.out) BK383.out (by decide)) (fun k_ hk => hk.2))))) (Reps.one (show Kd.FK (Kd.slice 5 (Kd.int .u8)) _ _ y384 [.slice Ao25 y384.length co25] from (Kd.FK_slice_mk (Kd.R_reads' (Kd.R_mono (ok' := (fun k_ => k_ ≠ gb383)) (Kd.R_types (HO386.out) BK383.out (by decide)) (fun k_ hk => hk.2))).2.1 (Kd.R_F (Kd.R_mono (ok' := (fun k_ => k_ ≠ gb383)) (Kd.R_types (HO386.out) BK383.out (by decide)) (fun k_ hk => hk.2))))) (Reps.one (show Kd.FK (Kd.slice 5 (Kd.int .u8)) _ _ t387 [.slice Ao26 t387.length co26] from (Kd.FK_slice_mk (Kd.R_reads' (Kd.R_mono (ok' := (fun k_ => k_ ≠ gb383)) (Kd.R_types (HO389.out) BK383.out (by decide)) (fun k_ hk => hk.2))).2.1 (Kd.R_F (Kd.R_mono (ok' := (fun k_ => k_ ≠ gb383)) (Kd.R_types (HO389.out) BK383.out (by decide)) (fun k_ hk => hk.2))))) (Reps.one (show Kd.FK (Kd.slice 5 (Kd.int .u8)) _ _ t390 [.slice Ao27 t390.length co27] from (Kd.FK_slice_mk (Kd.R_reads' (Kd.R_mono (ok' := (fun k_ => k_ ≠ gb383)) (Kd.R_types (HO392.out) BK383.out (by decide)) (fun k_ hk => hk.2))).2.1 (Kd.R_F (Kd.R_mono (ok' := (fun k_ => k_ ≠ gb383)) (Kd.R_types (HO392.out) BK383.out (by decide)) (fun k_ hk => hk.2))))) (Reps.none _ _))))))
                    intro v394 w28 ho29 hb hg_ hnew_
                    clear hg_ hnew_
                    (first | rw [← Ny393.out] at ho29 | (simp only [Int.reduceToNat] at ho29; rw [← Ny393.out] at ho29))
                    have n0_ := Aside0.mk (Kd.N_lower ho29 (below_size (by repeat (first | (with_reducible first | exact HB.out | apply below_alloc | apply pw_below_drewN | apply below_drew1 | refine below_set ?_ GE383.out) | exact HB.out))))
                    have n1_ := Aside0.mk (blk_below (g := gb383) (o := .cells #[.bool true, .int .i64 ((rd_T67 l0 x16_1).f1), .int .i64 ((rd_T67 l0 x16_1).f2), .string ((rd_T67 l0 x16_1).f3)] 67 (0, 0)) (by (with_reducible repeat (first | refine blk_drewN ?_ _ | refine blk_drew ?_ | refine blk_alloc ?_ _)); exact BK383.out) hb)
                    have n2_ := Aside0.mk (below_step (by repeat (first | (with_reducible first | exact HB.out | apply below_alloc | apply pw_below_drewN | apply below_drew1 | refine below_set ?_ GE383.out) | exact HB.out)) hb)
                    clear BK383
                    clear HB
                    clear HO386
                    clear HO389
                    clear HO392
                    clear HO_4
                    have HO395 := n0_
                    have BK383 := n1_
                    have HB := n2_
                    clear n0_ n1_ n2_
                    clear hb ho29
                    refine hK.out _ _ ⟨.slice Ao25 y384.length co25, .slice Ao26 t387.length co26, .slice Ao27 t390.length co27, v394, v397, m12_, (by rw [ha.out]; exact putSel_upk 7 hb_ rfl rfl rfl), fun h0_ => absurd ((up_self b 10).symm.trans h0_) (by decide), (by (with_reducible repeat (first | refine blk_drewN ?_ _ | refine blk_drew ?_ | refine blk_alloc ?_ _)); exact BK383.out), (by repeat (first | (with_reducible first | exact HB.out | apply below_alloc | apply pw_below_drewN | apply below_drew1 | refine below_set ?_ GE383.out) | exact HB.out)), fun _ h1_ => absurd ((up_self b 10).symm.trans h1_) (by decide), fun _ h1_ => absurd ((up_self b 10).symm.trans h1_) (by decide), fun _ h1_ => absurd ((up_self b 10).symm.trans h1_) (by decide), fun _ => (by (with_reducible repeat (first | apply Kd.N_alloc | apply Kd.N_drewN | apply Kd.N_drew)); exact HO395.out), fun h0_ => absurd ((hoff 11 (by kernel_rfl)).symm.trans h0_) (by decide), fun h0_ => absurd ((hoff 12 (by kernel_rfl)).symm.trans h0_) (by decide)⟩
                  refine steps_cons ?_ ?_
                  · rintro b a w' ⟨v385, v388, v391, v394, v397, m12_, ha, Q_HO_4, Q_BK383, Q_HB, Q_HO386, Q_HO389, Q_HO392, Q_HO395, Q_HO398, Q_X12_⟩ hb_ hon hoff
                    refine ⟨_, rfl, fun K hK => ?_⟩
                    have e32 : a.tmps[32]? = some (v394) := by rw [ha]; exact putSel_on (e := (10, 32, v394)) 7 rfl rfl (hon 10 (by kernel_rfl)) rfl
                    replace ha := Aside0.mk ha
                    have BK383 := Aside0.mk Q_BK383
                    have HB := Aside0.mk Q_HB
                    have HO395 := Aside0.mk (Q_HO395 (hon 10 (by kernel_rfl)))
                    obtain ⟨Ao30, co30, eo30⟩ := Kd.N_slice HO395.out
                    (first | subst eo30 | (injection eo30 with f1_ f2_ f3_; have f4_ := f1_.symm; have f5_ := f3_.symm; clear f1_ f2_ f3_; subst f4_; subst f5_))
                    refine goes_ Try.func83 (by kernel_rfl) rfl #[.slice Ao30 y393.length co30] (by rfl) rfl rfl (by first | (simp only [List.map_toArray, List.map_cons, List.map_nil, Act.eval, Array.getD_eq_getD_getElem?, Option.getD_some, e32]; done) | (simp only [List.map_toArray, List.map_cons, List.map_nil, Act.eval, Array.getD_eq_getD_getElem?, Option.getD_some, e32]; rfl)) ?_
                    with_reducible refine (slices_Concat_byte_byte.calls k1 _ _ y393 t396 _ ?side1 ?side2 A14.out).mono ?_
                    (case side1 => repeat (first | exact (Kd.N_reads' HO395.out).2.2 | (with_reducible refine Kd.C_alloc ?_ _) | (with_reducible refine Kd.C_drewN ?_ _) | (with_reducible refine Kd.C_drew ?_)))
                    (case side2 => exact (Kd.N_reads' HO395.out).2.1)
                    rintro e w31 ⟨v397, rfl, ho0, hb⟩
                    refine ⟨_, rfl, ?_⟩
                    have n0_ := Aside0.mk (Kd.N_elder' (by (with_reducible repeat (first | apply Kd.N_alloc | apply Kd.N_drewN | apply Kd.N_drew)); exact HO395.out) (Kd.R_base ho0) hb)
                    have n1_ := Aside0.mk (Kd.R_lower ho0 (below_size (by repeat (first | (with_reducible first | exact HB.out | apply below_alloc | apply pw_below_drewN | apply below_drew1 | refine below_set ?_ GE383.out) | exact HB.out))))
                    have n2_ := Aside0.mk (blk_below (g := gb383) (o := .cells #[.bool true, .int .i64 ((rd_T67 l0 x16_1).f1), .int .i64 ((rd_T67 l0 x16_1).f2), .string ((rd_T67 l0 x16_1).f3)] 67 (0, 0)) (by (with_reducible repeat (first | refine blk_drewN ?_ _ | refine blk_drew ?_ | refine blk_alloc ?_ _)); exact BK383.out) hb)
                    have n3_ := Aside0.mk (below_step (by repeat (first | (with_reducible first | exact HB.out | apply below_alloc | apply pw_below_drewN | apply below_drew1 | refine below_set ?_ GE383.out) | exact HB.out)) hb)
                    clear HO395
                    clear BK383
                    clear HB
                    have HO395 := n0_
                    have HO398 := n1_
                    have BK383 := n2_
                    have HB := n3_
                    clear n0_ n1_ n2_ n3_
                    (try clear hb)
                    (try clear hb2)
                    (try clear hk)
                    (try clear hi)
                    (try clear ho0)
                    refine hK.out _ _ ⟨v385, v388, v391, .slice Ao30 y393.length co30, v397, m12_, (by rw [ha.out]; exact putSel_upk 8 hb_ rfl rfl rfl), fun h0_ => absurd ((hon 10 (by kernel_rfl)).symm.trans h0_) (by decide), (by (with_reducible repeat (first | refine blk_drewN ?_ _ | refine blk_drew ?_ | refine blk_alloc ?_ _)); exact BK383.out), (by repeat (first | (with_reducible first | exact HB.out | apply below_alloc | apply pw_below_drewN | apply below_drew1 | refine below_set ?_ GE383.out) | exact HB.out)), fun _ h1_ => absurd ((hon 10 (by kernel_rfl)).symm.trans h1_) (by decide), fun _ h1_ => absurd ((hon 10 (by kernel_rfl)).symm.trans h1_) (by decide), fun _ h1_ => absurd ((hon 10 (by kernel_rfl)).symm.trans h1_) (by decide), fun _ => (by (with_reducible repeat (first | apply Kd.N_alloc | apply Kd.N_drewN | apply Kd.N_drew)); exact Kd.N_mono HO395.out (fun _ hk => by first | trivial | exact hk | exact ⟨hk.2, hk.1⟩ | exact ⟨hk.2, hk.1.2⟩ | exact hk.2 | exact hk.1 | exact hk.1.2)), fun _ => (by (with_reducible repeat (first | apply Kd.R_alloc | apply Kd.R_drewN | apply Kd.R_drew)); exact HO398.out), fun h0_ => absurd ((hoff 12 (by kernel_rfl)).symm.trans h0_) (by decide)⟩
                  refine steps_cons ?_ ?_
                  · rintro b a w' ⟨v385, v388, v391, v394, v397, m12_, ha, Q_HO_4, Q_BK383, Q_HB, Q_HO386, Q_HO389, Q_HO392, Q_HO395, Q_HO398, Q_X12_⟩ hb_ hon hoff
                    refine ⟨_, rfl, fun K hK => ?_⟩
                    have e33 : a.tmps[33]? = some (v397) := by rw [ha]; exact putSel_on (e := (11, 33, v397)) 8 rfl rfl (hon 11 (by kernel_rfl)) rfl
                    replace ha := Aside0.mk ha
                    have BK383 := Aside0.mk Q_BK383
                    have HB := Aside0.mk Q_HB
                    have HO395 := Aside0.mk (Q_HO395 (hon 10 (by kernel_rfl)))
                    have HO398 := Aside0.mk (Q_HO398 (hon 11 (by kernel_rfl)))
                    refine value_ (w1 := w') (v := v397) (by rfl) rfl ?_ ?_
                    · go_simp
                      (try simp only [i64_w])
                      try rfl
                    refine hK.out _ _ ⟨v385, v388, v391, v394, v397, (v397), (by rw [ha.out]; exact putSel_upk 9 hb_ rfl rfl rfl), fun h0_ => absurd ((hon 10 (by kernel_rfl)).symm.trans h0_) (by decide), Q_BK383, Q_HB, fun _ h1_ => absurd ((hon 10 (by kernel_rfl)).symm.trans h1_) (by decide), fun _ h1_ => absurd ((hon 10 (by kernel_rfl)).symm.trans h1_) (by decide), fun _ h1_ => absurd ((hon 10 (by kernel_rfl)).symm.trans h1_) (by decide), Q_HO395, Q_HO398, fun _ => rfl⟩
                  exact steps_nil
                rintro b a w31 hall ⟨v385, v388, v391, v394, v397, m12_, ha, Q_HO_4, Q_BK383, Q_HB, Q_HO386, Q_HO389, Q_HO392, Q_HO395, Q_HO398, Q_X12_⟩
                clear BK383 HB HO_4
                have hb1_ := hall 1 (by kernel_rfl)
                have hb3_ := hall 3 (by kernel_rfl)
                have hb4_ := hall 4 (by kernel_rfl)
                have hb5_ := hall 5 (by kernel_rfl)
                have hb7_ := hall 7 (by kernel_rfl)
                have hb8_ := hall 8 (by kernel_rfl)
                have hb9_ := hall 9 (by kernel_rfl)
                have hb10_ := hall 10 (by kernel_rfl)
                have hb11_ := hall 11 (by kernel_rfl)
                have hb12_ := hall 12 (by kernel_rfl)
                subst ha
                obtain rfl := Q_X12_ hb12_
                simp only [putSel, hb1_, hb3_, hb4_, hb5_, hb7_, hb8_, hb9_, hb10_, hb11_, hb12_, if_true, Act.put, List.setIfInBounds_toArray, List.set_cons_zero, List.set_cons_succ]
                clear Q_HO_4
                have BK383 := Aside0.mk Q_BK383
                clear Q_BK383
                have HB := Aside0.mk Q_HB
                clear Q_HB
                clear Q_HO386
                clear Q_HO389
                clear Q_HO392
                have HO395 := Aside0.mk (Q_HO395 hb10_)
                clear Q_HO395
                have HO398 := Aside0.mk (Q_HO398 hb11_)
                clear Q_HO398
                clear hall hb1_ hb3_ hb4_ hb5_ hb7_ hb8_ hb9_ hb10_ hb11_ hb12_
                try go_wp2
                go_roundg k1
                case measure => have := HK1.out; omega
                case rel => exact ⟨(t396), (wrap64 (x16_1 + 1)), (by first | rfl | (simp; done) | (simp [*]; done)), H', ⟨by have := HK1.out; omega⟩, ⟨by (with_reducible repeat (first | apply Kd.R_alloc | apply Kd.R_drewN | apply Kd.R_drew)); exact HO398.out⟩, ⟨by repeat (first | (with_reducible first | exact HB.out | apply below_alloc | apply pw_below_drewN | apply below_drew1 | refine below_set ?_ GE383.out) | exact HB.out)⟩⟩
              · replace c11 := Bool.eq_false_iff.mpr c11
                subst c11
                have H1 : ((wire_Text.f k1 ((rd_T67 l0 x16_1).f3)).bind fun t402 => ((slices_Concat_byte_byte.f k1 (([x4_1, (([0] : List Int)), t402] : List (List Int)))).bind fun t408 => (delta_Put.l0 k1 t408 l0 (l0.length : Int) (wrap64 (x16_1 + 1))))) = some (r1, r2) := by rw [if_neg (show ¬ (false = true) by decide)] at H; exact H
                clear H
                have H := H1
                clear H1
                obtain ⟨y399, hy399⟩ : ∃ y_ : List Int, y_ = (([0] : List Int)) := ⟨_, rfl⟩
                replace H : ((wire_Text.f k1 ((rd_T67 l0 x16_1).f3)).bind fun t402 => ((slices_Concat_byte_byte.f k1 (([x4_1, y399, t402] : List (List Int)))).bind fun t408 => (delta_Put.l0 k1 t408 l0 (l0.length : Int) (wrap64 (x16_1 + 1))))) = some (r1, r2) := by first | (rw [hy399]; with_reducible exact H) | (have H2_ := (Option.bind_some _ _).symm.trans H; rw [hy399]; with_reducible exact H2_) | (have H2_ := (Option.bind_some _ _).symm.trans H; with_reducible exact H2_) | with_reducible exact H | (rw [hy399]; exact H) | exact H
                have Ny399 := Aside0.mk hy399
                clear hy399
                replace H := Option.bind_eq_some_iff.mp H
                obtain ⟨t402, A320, H⟩ := H
                replace H : ((slices_Concat_byte_byte.f k1 (([x4_1, y399, t402] : List (List Int)))).bind fun t408 => (delta_Put.l0 k1 t408 l0 (l0.length : Int) (wrap64 (x16_1 + 1)))) = some (r1, r2) := H
                have A32 := Aside0.mk A320
                clear A320
                obtain ⟨y405, hy405⟩ : ∃ y_ : List (List Int), y_ = (([x4_1, y399, t402] : List (List Int))) := ⟨_, rfl⟩
                replace H : ((slices_Concat_byte_byte.f k1 y405).bind fun t408 => (delta_Put.l0 k1 t408 l0 (l0.length : Int) (wrap64 (x16_1 + 1)))) = some (r1, r2) := by first | (rw [hy405]; with_reducible exact H) | (have H2_ := (Option.bind_some _ _).symm.trans H; rw [hy405]; with_reducible exact H2_) | (have H2_ := (Option.bind_some _ _).symm.trans H; with_reducible exact H2_) | with_reducible exact H | (rw [hy405]; exact H) | exact H
                have Ny405 := Aside0.mk hy405
                clear hy405
                replace H := Option.bind_eq_some_iff.mp H
                obtain ⟨t408, A330, H⟩ := H
                replace H : (delta_Put.l0 k1 t408 l0 (l0.length : Int) (wrap64 (x16_1 + 1))) = some (r1, r2) := H
                have A33 := Aside0.mk A330
                clear A330
                have H' := Aside0.mk H
                clear H
                have p382 : 0 ≤ (x16_1 : Int) := of_decide_eq_true (by first | (with_reducible assumption) | assumption)
                have q382 : x16_1 < (l0.length : Int) := of_decide_eq_true (by first | (with_reducible assumption) | assumption)
                obtain ⟨ad382, e382, hx382_0, hx382_1, hx382_2, hx382_3⟩ := at_T67 HR0.out x16_1 p382 q382
                (try rw [← Nbq10.out] at hx382_0)
                cases e382
                replace hx382_0 := (HB.out.cell (World.block_lt_of_cell? w _ hx382_0)).trans hx382_0
                replace hx382_1 := (HB.out.cell (World.block_lt_of_cell? w _ hx382_1)).trans hx382_1
                replace hx382_2 := (HB.out.cell (World.block_lt_of_cell? w _ hx382_2)).trans hx382_2
                replace hx382_3 := (HB.out.cell (World.block_lt_of_cell? w _ hx382_3)).trans hx382_3
                replace p382 := eq_true p382
                replace q382 := eq_true q382
                go_wp2_with (first | ((with_reducible refine gate_dst (N := 6) rfl ?_); refine box_event ?hg (N := 6) ?hd (cs := #[.bool false, .int .i64 0, .int .i64 0, .string (⟨#[]⟩ : ByteArray)]) (t := 67) ?hr ?_; (case hd => rfl); (case hg => rfl); (case hr => first | (go_simp; done) | (go_simp; rfl)); intro gb383 hg w34 hbox hb; have n0_ := Aside0.mk (Kd.R_below (by (with_reducible repeat (first | apply Kd.R_alloc | apply Kd.R_drewN | apply Kd.R_drew)); exact HO_4.out) hb); have n1_ := Aside0.mk (below_step (by repeat (first | (with_reducible first | exact HB.out | apply below_alloc | apply pw_below_drewN | apply below_drew1) | exact HB.out)) hb); have n2_ := Aside0.mk (hbox); have n3_ := Aside0.mk ((by rw [hg]; exact (below_size (by repeat (first | (with_reducible first | exact HB.out | apply below_alloc | apply pw_below_drewN | apply below_drew1) | exact HB.out))) : w.heap.size ≤ gb383)); have n4_ := Aside0.mk ((by rw [hg]; exact (below_size (by repeat (first | (with_reducible first | exact HB.out | apply below_alloc | apply pw_below_drewN | apply below_drew1) | exact HB.out))) : w.heap.size ≤ gb383)); clear HO_4; clear HB; have HO_4 := n0_; have HB := n1_; have BK383 := n2_; have GW383 := n3_; have GE383 := n4_; clear n0_ n1_ n2_ n3_ n4_; clear hb hbox hg; have hcz35_0 : w34.cell? ⟨gb383, 0, none⟩ = some (.bool false) := (blk_cell BK383.out 0).trans rfl; have hcz35_1 : w34.cell? ⟨gb383, 1, none⟩ = some (.int .i64 0) := (blk_cell BK383.out 1).trans rfl; have hcz35_2 : w34.cell? ⟨gb383, 2, none⟩ = some (.int .i64 0) := (blk_cell BK383.out 2).trans rfl; have hcz35_3 : w34.cell? ⟨gb383, 3, none⟩ = some (.string (⟨#[]⟩ : ByteArray)) := (blk_cell BK383.out 3).trans rfl; have hfz35_0 := blk_frozen BK383.out 0; have hfz35_1 := blk_frozen BK383.out 1; have hfz35_2 := blk_frozen BK383.out 2; have hfz35_3 := blk_frozen BK383.out 3) | ((with_reducible refine gate_dst (N := 35) rfl ?_); refine Kd.R_lit (Kd.int .u8) _ 5 ?hg (N := 35) ?hd (xs := ([0] : List Int)) (inner := [.int .u8 0]) (ok := fun _ => True) (okp := fun _ => True) ?hr ?hp (fun _ hk => hk) trivial (Below.refl _ _) (Nat.le_refl _) (by simp) ?_; (case hd => rfl); (case hg => rfl); (case hr => first | (go_simp; done) | (go_simp; rfl)); (case hp => exact (Reps.one (show Kd.M (Kd.int .u8) _ _ _ 0 [.int .u8 0] from rfl) (Reps.none _ _))); intro v400 w36 ho37 hb hg_ hnew_; clear hg_ hnew_; (first | rw [← Ny399.out] at ho37 | (simp only [Int.reduceToNat] at ho37; rw [← Ny399.out] at ho37)); have n0_ := Aside0.mk (Kd.R_elder' (by (with_reducible repeat (first | apply Kd.R_alloc | apply Kd.R_drewN | apply Kd.R_drew)); exact (Kd.R_mono (Kd.R_far (p := ⟨gb383, 3, none⟩) (Kd.R_far (p := ⟨gb383, 2, none⟩) (Kd.R_far (p := ⟨gb383, 1, none⟩) (Kd.R_far (p := ⟨gb383, 0, none⟩) (Kd.R_types HO_4.out BK383.out (by decide)) (fun _ hk => by first | trivial | exact hk | exact ⟨hk.2, hk.1⟩ | exact ⟨hk.2, hk.1.2⟩ | exact hk.2 | exact hk.1 | exact hk.1.2) (.bool false)) (fun _ hk => by first | trivial | exact hk | exact ⟨hk.2, hk.1⟩ | exact ⟨hk.2, hk.1.2⟩ | exact hk.2 | exact hk.1 | exact hk.1.2) (.int .i64 ((rd_T67 l0 x16_1).f1))) (fun _ hk => by first | trivial | exact hk | exact ⟨hk.2, hk.1⟩ | exact ⟨hk.2, hk.1.2⟩ | exact hk.2 | exact hk.1 | exact hk.1.2) (.int .i64 ((rd_T67 l0 x16_1).f2))) (fun _ hk => by first | trivial | exact hk | exact ⟨hk.2, hk.1⟩ | exact ⟨hk.2, hk.1.2⟩ | exact hk.2 | exact hk.1 | exact hk.1.2) (.string ((rd_T67 l0 x16_1).f3))) (fun _ h_ => h_.1))) (Kd.R_base ho37) hb); have n1_ := Aside0.mk (Kd.R_lower (Kd.R_new' ho37 (Kd.R_lt (by (with_reducible repeat (first | apply Kd.R_alloc | apply Kd.R_drewN | apply Kd.R_drew)); exact (Kd.R_mono (Kd.R_far (p := ⟨gb383, 3, none⟩) (Kd.R_far (p := ⟨gb383, 2, none⟩) (Kd.R_far (p := ⟨gb383, 1, none⟩) (Kd.R_far (p := ⟨gb383, 0, none⟩) (Kd.R_types HO_4.out BK383.out (by decide)) (fun _ hk => by first | trivial | exact hk | exact ⟨hk.2, hk.1⟩ | exact ⟨hk.2, hk.1.2⟩ | exact hk.2 | exact hk.1 | exact hk.1.2) (.bool false)) (fun _ hk => by first | trivial | exact hk | exact ⟨hk.2, hk.1⟩ | exact ⟨hk.2, hk.1.2⟩ | exact hk.2 | exact hk.1 | exact hk.1.2) (.int .i64 ((rd_T67 l0 x16_1).f1))) (fun _ hk => by first | trivial | exact hk | exact ⟨hk.2, hk.1⟩ | exact ⟨hk.2, hk.1.2⟩ | exact hk.2 | exact hk.1 | exact hk.1.2) (.int .i64 ((rd_T67 l0 x16_1).f2))) (fun _ hk => by first | trivial | exact hk | exact ⟨hk.2, hk.1⟩ | exact ⟨hk.2, hk.1.2⟩ | exact hk.2 | exact hk.1 | exact hk.1.2) (.string ((rd_T67 l0 x16_1).f3))) (fun _ h_ => h_.1))))) (below_size (by repeat (first | (with_reducible first | exact HB.out | apply below_alloc | apply pw_below_drewN | apply below_drew1 | refine below_set ?_ GE383.out) | exact HB.out)))); have n2_ := Aside0.mk (blk_below (g := gb383) (o := .cells #[.bool false, .int .i64 ((rd_T67 l0 x16_1).f1), .int .i64 ((rd_T67 l0 x16_1).f2), .string ((rd_T67 l0 x16_1).f3)] 67 (0, 0)) (by (with_reducible repeat (first | refine blk_drewN ?_ _ | refine blk_drew ?_ | refine blk_alloc ?_ _)); refine blk_put (cs := #[.bool false, .int .i64 ((rd_T67 l0 x16_1).f1), .int .i64 ((rd_T67 l0 x16_1).f2), .string (⟨#[]⟩ : ByteArray)]) ?_ 3 _ rfl; (with_reducible repeat (first | refine blk_drewN ?_ _ | refine blk_drew ?_ | refine blk_alloc ?_ _)); refine blk_put (cs := #[.bool false, .int .i64 ((rd_T67 l0 x16_1).f1), .int .i64 0, .string (⟨#[]⟩ : ByteArray)]) ?_ 2 _ rfl; (with_reducible repeat (first | refine blk_drewN ?_ _ | refine blk_drew ?_ | refine blk_alloc ?_ _)); refine blk_put (cs := #[.bool false, .int .i64 0, .int .i64 0, .string (⟨#[]⟩ : ByteArray)]) ?_ 1 _ rfl; (with_reducible repeat (first | refine blk_drewN ?_ _ | refine blk_drew ?_ | refine blk_alloc ?_ _)); refine blk_put (cs := #[.bool false, .int .i64 0, .int .i64 0, .string (⟨#[]⟩ : ByteArray)]) ?_ 0 _ rfl; (with_reducible repeat (first | refine blk_drewN ?_ _ | refine blk_drew ?_ | refine blk_alloc ?_ _)); exact BK383.out) hb); have n3_ := Aside0.mk (below_step (by repeat (first | (with_reducible first | exact HB.out | apply below_alloc | apply pw_below_drewN | apply below_drew1 | refine below_set ?_ GE383.out) | exact HB.out)) hb); clear HO_4; clear BK383; clear HB; have HO_4 := n0_; have HO401 := n1_; have BK383 := n2_; have HB := n3_; clear n0_ n1_ n2_ n3_; clear hb ho37; have hcz38_0 : w36.cell? ⟨gb383, 0, none⟩ = some (.bool false) := (blk_cell BK383.out 0).trans rfl; have hcz38_1 : w36.cell? ⟨gb383, 1, none⟩ = some (.int .i64 ((rd_T67 l0 x16_1).f1)) := (blk_cell BK383.out 1).trans rfl; have hcz38_2 : w36.cell? ⟨gb383, 2, none⟩ = some (.int .i64 ((rd_T67 l0 x16_1).f2)) := (blk_cell BK383.out 2).trans rfl; have hcz38_3 : w36.cell? ⟨gb383, 3, none⟩ = some (.string ((rd_T67 l0 x16_1).f3)) := (blk_cell BK383.out 3).trans rfl; have hfz38_0 := blk_frozen BK383.out 0; have hfz38_1 := blk_frozen BK383.out 1; have hfz38_2 := blk_frozen BK383.out 2; have hfz38_3 := blk_frozen BK383.out 3) | ((with_reducible refine gate_callee (f := 93) rfl ?_); refine goesL_ (some 38) rfl rfl Try.func93 (by kernel_rfl) rfl #[.string ((rd_T67 l0 x16_1).f3)] rfl (by (try simp only [List.map_toArray, List.map_cons, List.map_nil]); first | done | rfl | (simp only [List.length_drop, List.length_take]; rfl)) ?_; (with_reducible refine (wire_Text.calls k1 ((rd_T67 l0 x16_1).f3) t402 _ A32.out).mono ?_); rintro e w39 ⟨v403, rfl, ho0, hb⟩; refine ⟨_, rfl, ?_⟩; have n0_ := Aside0.mk (Kd.R_elder' (by (with_reducible repeat (first | apply Kd.R_alloc | apply Kd.R_drewN | apply Kd.R_drew)); exact HO_4.out) (Kd.R_base ho0) hb); have n1_ := Aside0.mk (Kd.R_elder' (by (with_reducible repeat (first | apply Kd.R_alloc | apply Kd.R_drewN | apply Kd.R_drew)); exact HO401.out) (Kd.R_base ho0) hb); have n2_ := Aside0.mk (Kd.R_lower (Kd.R_new' (Kd.R_new' ho0 (Kd.R_lt (by (with_reducible repeat (first | apply Kd.R_alloc | apply Kd.R_drewN | apply Kd.R_drew)); exact HO_4.out))) (Kd.R_lt (by (with_reducible repeat (first | apply Kd.R_alloc | apply Kd.R_drewN | apply Kd.R_drew)); exact HO401.out))) (below_size (by repeat (first | (with_reducible first | exact HB.out | apply below_alloc | apply pw_below_drewN | apply below_drew1 | refine below_set ?_ GE383.out) | exact HB.out)))); have n3_ := Aside0.mk (blk_below (g := gb383) (o := .cells #[.bool false, .int .i64 ((rd_T67 l0 x16_1).f1), .int .i64 ((rd_T67 l0 x16_1).f2), .string ((rd_T67 l0 x16_1).f3)] 67 (0, 0)) (by (with_reducible repeat (first | refine blk_drewN ?_ _ | refine blk_drew ?_ | refine blk_alloc ?_ _)); exact BK383.out) hb); have n4_ := Aside0.mk (below_step (by repeat (first | (with_reducible first | exact HB.out | apply below_alloc | apply pw_below_drewN | apply below_drew1 | refine below_set ?_ GE383.out) | exact HB.out)) hb); clear HO_4; clear HO401; clear BK383; clear HB; have HO_4 := n0_; have HO401 := n1_; have HO404 := n2_; have BK383 := n3_; have HB := n4_; clear n0_ n1_ n2_ n3_ n4_; (try clear hb); (try clear hb2); (try clear hk); (try clear hi); (try clear ho0); obtain ⟨Ao40, co40, eo40⟩ := Kd.R_slice HO_4.out; subst eo40; obtain ⟨Ao41, co41, eo41⟩ := Kd.R_slice HO401.out; subst eo41; obtain ⟨Ao42, co42, eo42⟩ := Kd.R_slice HO404.out; subst eo42) | ((with_reducible refine gate_dst (N := 39) rfl ?_); refine Kd.N_lit (Kd.slice 5 (Kd.int .u8)) _ 40 ?hg (N' := 39) ?hd (xs := ([x4_1, y399, t402] : List (List Int))) (inner := [.slice Ao40 x4_1.length co40, .slice Ao41 y399.length co41, .slice Ao42 t402.length co42]) (ok := (fun k_ => k_ ≠ gb383)) (okp := (fun k_ => k_ ≠ gb383)) ?hr ?hp (fun _ hk => hk) ((show ∀ k_, w39.heap.size ≤ k_ → (fun k_ => k_ ≠ gb383) k_ from fun k_ hk => Kd.freshB (g := gb383) (o := .cells #[.bool false, .int .i64 ((rd_T67 l0 x16_1).f1), .int .i64 ((rd_T67 l0 x16_1).f2), .string ((rd_T67 l0 x16_1).f3)] 67 (0, 0)) (by (with_reducible repeat (first | refine blk_drewN ?_ _ | refine blk_drew ?_ | refine blk_alloc ?_ _)); exact BK383.out) k_ hk) _ (Nat.le_refl _)) (Below.refl _ _) (Nat.le_refl _) (by simp) ?_; (case hd => rfl); (case hg => rfl); (case hr => first | (go_simp; done) | (go_simp; rfl)); (case hp => exact (Reps.one (show Kd.FK (Kd.slice 5 (Kd.int .u8)) _ _ x4_1 [.slice Ao40 x4_1.length co40] from (Kd.FK_slice_mk (Kd.R_reads' (Kd.R_mono (ok' := (fun k_ => k_ ≠ gb383)) (Kd.R_types (HO_4.out) BK383.out (by decide)) (fun k_ hk => hk.2))).2.1 (Kd.R_F (Kd.R_mono (ok' := (fun k_ => k_ ≠ gb383)) (Kd.R_types (HO_4.out) BK383.out (by decide)) (fun k_ hk => hk.2))))) (Reps.one (show Kd.FK (Kd.slice 5 (Kd.int .u8)) _ _ y399 [.slice Ao41 y399.length co41] from (Kd.FK_slice_mk (Kd.R_reads' (Kd.R_mono (ok' := (fun k_ => k_ ≠ gb383)) (Kd.R_types (HO401.out) BK383.out (by decide)) (fun k_ hk => hk.2))).2.1 (Kd.R_F (Kd.R_mono (ok' := (fun k_ => k_ ≠ gb383)) (Kd.R_types (HO401.out) BK383.out (by decide)) (fun k_ hk => hk.2))))) (Reps.one (show Kd.FK (Kd.slice 5 (Kd.int .u8)) _ _ t402 [.slice Ao42 t402.length co42] from (Kd.FK_slice_mk (Kd.R_reads' (Kd.R_mono (ok' := (fun k_ => k_ ≠ gb383)) (Kd.R_types (HO404.out) BK383.out (by decide)) (fun k_ hk => hk.2))).2.1 (Kd.R_F (Kd.R_mono (ok' := (fun k_ => k_ ≠ gb383)) (Kd.R_types (HO404.out) BK383.out (by decide)) (fun k_ hk => hk.2))))) (Reps.none _ _))))); intro v406 w43 ho44 hb hg_ hnew_; clear hg_ hnew_; (first | rw [← Ny405.out] at ho44 | (simp only [Int.reduceToNat] at ho44; rw [← Ny405.out] at ho44)); have n0_ := Aside0.mk (Kd.N_lower ho44 (below_size (by repeat (first | (with_reducible first | exact HB.out | apply below_alloc | apply pw_below_drewN | apply below_drew1 | refine below_set ?_ GE383.out) | exact HB.out)))); have n1_ := Aside0.mk (blk_below (g := gb383) (o := .cells #[.bool false, .int .i64 ((rd_T67 l0 x16_1).f1), .int .i64 ((rd_T67 l0 x16_1).f2), .string ((rd_T67 l0 x16_1).f3)] 67 (0, 0)) (by (with_reducible repeat (first | refine blk_drewN ?_ _ | refine blk_drew ?_ | refine blk_alloc ?_ _)); exact BK383.out) hb); have n2_ := Aside0.mk (below_step (by repeat (first | (with_reducible first | exact HB.out | apply below_alloc | apply pw_below_drewN | apply below_drew1 | refine below_set ?_ GE383.out) | exact HB.out)) hb); clear BK383; clear HB; clear HO401; clear HO404; clear HO_4; have HO407 := n0_; have BK383 := n1_; have HB := n2_; clear n0_ n1_ n2_; clear hb ho44; obtain ⟨Ao45, co45, eo45⟩ := Kd.N_slice HO407.out; subst eo45) | ((with_reducible refine gate_callee (f := 83) rfl ?_); refine goesL_ (some 40) rfl rfl Try.func83 (by kernel_rfl) rfl #[.slice Ao45 y405.length co45] rfl (by (try simp only [List.map_toArray, List.map_cons, List.map_nil]); first | done | rfl | (simp only [List.length_drop, List.length_take]; rfl)) ?_; (with_reducible refine (slices_Concat_byte_byte.calls k1 _ _ y405 t408 _ ?side1 ?side2 A33.out).mono ?_); (case side1 => repeat (first | exact (Kd.N_reads' HO407.out).2.2 | (with_reducible refine Kd.C_alloc ?_ _) | (with_reducible refine Kd.C_drewN ?_ _) | (with_reducible refine Kd.C_drew ?_))); (case side2 => exact (Kd.N_reads' HO407.out).2.1); rintro e w46 ⟨v409, rfl, ho0, hb⟩; refine ⟨_, rfl, ?_⟩; have n0_ := Aside0.mk (Kd.N_elder' (by (with_reducible repeat (first | apply Kd.N_alloc | apply Kd.N_drewN | apply Kd.N_drew)); exact HO407.out) (Kd.R_base ho0) hb); have n1_ := Aside0.mk (Kd.R_lower ho0 (below_size (by repeat (first | (with_reducible first | exact HB.out | apply below_alloc | apply pw_below_drewN | apply below_drew1 | refine below_set ?_ GE383.out) | exact HB.out)))); have n2_ := Aside0.mk (blk_below (g := gb383) (o := .cells #[.bool false, .int .i64 ((rd_T67 l0 x16_1).f1), .int .i64 ((rd_T67 l0 x16_1).f2), .string ((rd_T67 l0 x16_1).f3)] 67 (0, 0)) (by (with_reducible repeat (first | refine blk_drewN ?_ _ | refine blk_drew ?_ | refine blk_alloc ?_ _)); exact BK383.out) hb); have n3_ := Aside0.mk (below_step (by repeat (first | (with_reducible first | exact HB.out | apply below_alloc | apply pw_below_drewN | apply below_drew1 | refine below_set ?_ GE383.out) | exact HB.out)) hb); clear HO407; clear BK383; clear HB; have HO407 := n0_; have HO410 := n1_; have BK383 := n2_; have HB := n3_; clear n0_ n1_ n2_ n3_; (try clear hb); (try clear hb2); (try clear hk); (try clear hi); (try clear ho0)))
                go_roundg k1
                case measure => have := HK1.out; omega
                case rel => exact ⟨(t408), (wrap64 (x16_1 + 1)), (by first | rfl | (simp; done) | (simp [*]; done)), H', ⟨by have := HK1.out; omega⟩, ⟨by (with_reducible repeat (first | apply Kd.R_alloc | apply Kd.R_drewN | apply Kd.R_drew)); exact HO410.out⟩, ⟨by repeat (first | (with_reducible first | exact HB.out | apply below_alloc | apply pw_below_drewN | apply below_drew1 | refine below_set ?_ GE383.out) | exact HB.out)⟩⟩
            · rw [if_neg c9] at H
              exact absurd H (by simp)
          · rw [if_neg c8] at H
            exact absurd H (by simp)
        · rw [if_neg c7] at H
          have c7b0 : decide (x16_1 < (l0.length : Int)) = false := decide_eq_false c7
          clear c7
          simp only [Option.some.injEq, Prod.mk.injEq] at H
          obtain ⟨rfl, rfl⟩ := H
          go_wp2
          go_ret2
          exact ⟨_, by first | rfl | (simp [errW_none, errW_some] <;> rfl) | (simp [*, errW_none, errW_some] <;> rfl), by (with_reducible repeat (first | apply Kd.R_alloc | apply Kd.R_drewN | apply Kd.R_drew)); exact HO_4.out, by repeat (first | (with_reducible first | exact HB.out | apply below_alloc | apply pw_below_drewN | apply below_drew1) | exact HB.out)⟩
  · replace c3 := Bool.eq_false_iff.mpr c3
    subst c3
    have H1 : (some (([] : List Int), false)) = some (r1, r2) := by rw [if_neg (show ¬ (false = true) by decide)] at H; exact H
    clear H
    have H := H1
    clear H1
    simp only [Option.some.injEq, Prod.mk.injEq] at H
    obtain ⟨rfl, rfl⟩ := H
    go_enter Try.func50, Try.ntmps50
    go_wp2_with (first | ((with_reducible refine gate_callee (f := 57) rfl ?_); refine goesL_ (some 8) rfl rfl Try.func57 (by kernel_rfl) rfl #[.slice A0 l0.length c0] rfl (by (try simp only [List.map_toArray, List.map_cons, List.map_nil]); first | done | rfl | (simp only [List.length_drop, List.length_take]; rfl)) ?_; (with_reducible refine (delta_May.calls k _ _ l0 false _ ?side1 ?side2 A2.out).mono ?_); (case side1 => repeat (first | exact HR0.out | (with_reducible refine Kd.C_alloc ?_ _) | (with_reducible refine Kd.C_drewN ?_ _) | (with_reducible refine Kd.C_drew ?_))); (case side2 => exact HC0.out); rintro e w47 ⟨rfl, hb⟩; refine ⟨_, rfl, ?_⟩; have n0_ := Aside0.mk (below_step (by repeat (first | (with_reducible first | exact HB.out | apply below_alloc | apply pw_below_drewN | apply below_drew1) | exact HB.out)) hb); clear HB; have HB := n0_; clear n0_; (try clear hb); (try clear hb2); (try clear hk); (try clear hi)))
    go_ret2
    exact ⟨_, by first | rfl | (simp [errW_none, errW_some] <;> rfl) | (simp [*, errW_none, errW_some] <;> rfl), by first | exact Kd.R_nil _ _ _ _ _ | exact Kd.N_nil _ _ _ _ _ | exact Kd.V_nil _ _ _ _ _ | exact Kd.Q_nil _ _ _ _ _ | exact Kd.S_nil _ _ _ _ _, by repeat (first | (with_reducible first | exact HB.out | apply below_alloc | apply pw_below_drewN | apply below_drew1) | exact HB.out)⟩

end Go.Proofs.Ytchaegfdcdlfaaa.X

namespace Go.Proofs.Ytchaegfdcdlfaaa.X
open Go.RowKit Go.Proofs.YtchaegfdcdlfaaaW.PrintWords Go.Proofs.YtchaegfdcdlfaaaW.PrintLast Go.Proofs.YtchaegfdcdlfaaaW.PrintMore
attribute [local go_sem] max2_int min2_int max_two min_two max_three min_three max_four min_four   -- for this text's walks alone
set_option linter.unusedVariables false
set_option linter.unusedSimpArgs false

/-! ### delta_Get: function 52 -/
mutual
def delta_Get.j0 : Nat → List Int → Int → Int → Bool → Option ((List (S67)) × Int × Bool)
  | 0, _, _, _, _ => none
  | k + 1, x0, x5, x6, x23 => if x23 = true then (some (([] : List (S67)), 0, false)) else (delta_Get.l0 k x0 x6 ([] : List (S67)) x5 0)
def delta_Get.l0 : Nat → List Int → Int → List (S67) → Int → Int → Option ((List (S67)) × Int × Bool)
  | 0, _, _, _, _, _ => none
  | k + 1, x0, x6, x8, x24, x25 => if x25 < x24 then (if 0 ≤ x6 then (if x6 ≤ (x0.length : Int) then ((delta_piece.f k (x0.drop (x6 : Int).toNat)).bind fun bt436 => (if bt436.2.2.2.2.2 = true then (if x8.length < 3518437208883 then (delta_Get.l0 k x0 (wrap64 (x6 + bt436.2.2.2.2.1)) (x8 ++ [(⟨bt436.1, bt436.2.1, bt436.2.2.1, bt436.2.2.2.1⟩ : S67)]) x24 (IntKind.u64.wrap (x25 + 1))) else (none)) else (some (([] : List (S67)), 0, false)))) else (none)) else (none)) else ((delta_May.f k x8).bind fun t446 => (if t446 = true then (some (x8, x6, true)) else (some (([] : List (S67)), 0, false))))
end
def delta_Get.f (k : Nat) (l0 : List Int) : Option ((List (S67)) × Int × Bool) := (wire_Get.f k l0).bind fun bt432 => (if bt432.2.2 = true then (delta_Get.j0 k l0 bt432.1 bt432.2.1 (decide (bt432.1 > 60))) else (delta_Get.j0 k l0 bt432.1 bt432.2.1 true))
theorem delta_Get.mono_l : ∀ k, (∀ y0 y1 y2 y3, LeO (delta_Get.j0 k y0 y1 y2 y3) (delta_Get.j0 (k + 1) y0 y1 y2 y3)) ∧ (∀ y0 y1 y2 y3 y4, LeO (delta_Get.l0 k y0 y1 y2 y3 y4) (delta_Get.l0 (k + 1) y0 y1 y2 y3 y4))
  | 0 => ⟨fun _ _ _ _ r h => by simp [delta_Get.j0] at h, fun _ _ _ _ _ r h => by simp [delta_Get.l0] at h⟩
  | k + 1 => by
    obtain ⟨ih0, ih1⟩ := delta_Get.mono_l k
    refine ⟨?_, ?_⟩
    · intro y0 y1 y2 y3
      unfold delta_Get.j0
      repeat' first
      | (with_reducible exact ih0 _ _ _ _)
      | (with_reducible exact ih1 _ _ _ _ _)
      | (with_reducible exact delta_May.mono _ _)
      | (with_reducible exact delta_piece.mono _ _)
      | (with_reducible exact wire_Get.mono _ _)
      | (with_reducible exact LeO.refl _)
      | (with_reducible exact LeO.none _)
      | (with_reducible refine LeO.ite ?_ ?_)
      | (with_reducible refine LeO.bind ?_ (fun _ => ?_))
      | exact ih0 _ _ _ _
      | exact ih1 _ _ _ _ _
      | exact delta_May.mono _ _
      | exact delta_piece.mono _ _
      | exact wire_Get.mono _ _
      | exact LeO.none _
      | refine LeO.ite ?_ ?_
      | refine LeO.bind ?_ (fun _ => ?_)
    · intro y0 y1 y2 y3 y4
      unfold delta_Get.l0
      repeat' first
      | (with_reducible exact ih0 _ _ _ _)
      | (with_reducible exact ih1 _ _ _ _ _)
      | (with_reducible exact delta_May.mono _ _)
      | (with_reducible exact delta_piece.mono _ _)
      | (with_reducible exact wire_Get.mono _ _)
      | (with_reducible exact LeO.refl _)
      | (with_reducible exact LeO.none _)
      | (with_reducible refine LeO.ite ?_ ?_)
      | (with_reducible refine LeO.bind ?_ (fun _ => ?_))
      | exact ih0 _ _ _ _
      | exact ih1 _ _ _ _ _
      | exact delta_May.mono _ _
      | exact delta_piece.mono _ _
      | exact wire_Get.mono _ _
      | exact LeO.none _
      | refine LeO.ite ?_ ?_
      | refine LeO.bind ?_ (fun _ => ?_)
theorem delta_Get.mono : ∀ a0 k, LeO (delta_Get.f k a0) (delta_Get.f (k + 1) a0) := by
  intro a0 k
  obtain ⟨ih0, ih1⟩ := delta_Get.mono_l k
  unfold delta_Get.f
  repeat' first
      | (with_reducible exact ih0 _ _ _ _)
      | (with_reducible exact ih1 _ _ _ _ _)
      | (with_reducible exact delta_May.mono _ _)
      | (with_reducible exact delta_piece.mono _ _)
      | (with_reducible exact wire_Get.mono _ _)
      | (with_reducible exact LeO.refl _)
      | (with_reducible exact LeO.none _)
      | (with_reducible refine LeO.ite ?_ ?_)
      | (with_reducible refine LeO.bind ?_ (fun _ => ?_))
      | exact ih0 _ _ _ _
      | exact ih1 _ _ _ _ _
      | exact delta_May.mono _ _
      | exact delta_piece.mono _ _
      | exact wire_Get.mono _ _
      | exact LeO.none _
      | refine LeO.ite ?_ ?_
      | refine LeO.bind ?_ (fun _ => ?_)
set_option maxHeartbeats 8000000 in
set_option maxRecDepth 100000 in
theorem delta_Get.calls (k : Nat) (A0 : Option Addr) (c0 : Nat) (l0 : List Int) (r1 : List (S67)) (r2 : Int) (r3 : Bool) (w : World) (hr0 : Kd.C (Kd.int .u8) w A0 l0.length l0) (hc0 : l0.length ≤ c0) (h : delta_Get.f k l0 = some (r1, r2, r3)) :
    Calls Try.prog 52 #[.slice A0 l0.length c0] w fun e w' => ∃ v0_ : Value, e = .returned (.tuple #[v0_, .int .i64 r2, .bool r3]) ∧ Kd.R k67 67 w' w.heap.size (fun _ => True) v0_ r1 ∧ Below w.heap.size w w' := by
  have hu67 := Try.underlying67
  have HR0 := Aside0.mk hr0
  have HC0 := Aside0.mk hc0
  clear hr0 hc0
  have HB := Aside0.mk (Below.refl w.heap.size w)
  have H : ((wire_Get.f k l0).bind fun bt432 => (if bt432.2.2 = true then (delta_Get.j0 k l0 bt432.1 bt432.2.1 (decide (bt432.1 > 60))) else (delta_Get.j0 k l0 bt432.1 bt432.2.1 true))) = some (r1, r2, r3) := h
  clear h
  replace H := Option.bind_eq_some_iff.mp H
  obtain ⟨⟨t432, t433, t434⟩, A20, H⟩ := H
  replace H : (if t434 = true then (delta_Get.j0 k l0 t432 t433 (decide (t432 > 60))) else (delta_Get.j0 k l0 t432 t433 true)) = some (r1, r2, r3) := H
  have A2 := Aside0.mk A20
  clear A20
  have HC3 := Aside0.mk H
  clear H
  go_enter Try.func52, Try.ntmps52
  go_upto_region 2 with (first | ((with_reducible refine gate_callee (f := 88) rfl ?_); refine goesL_ (some 14) rfl rfl Try.func88 (by kernel_rfl) rfl #[.slice A0 l0.length c0] rfl (by (try simp only [List.map_toArray, List.map_cons, List.map_nil]); first | done | rfl | (simp only [List.length_drop, List.length_take]; rfl)) ?_; (with_reducible refine (wire_Get.calls k _ _ l0 t432 t433 t434 _ ?side1 ?side2 A2.out).mono ?_); (case side1 => repeat (first | exact HR0.out | (with_reducible refine Kd.C_alloc ?_ _) | (with_reducible refine Kd.C_drewN ?_ _) | (with_reducible refine Kd.C_drew ?_))); (case side2 => exact HC0.out); rintro e w' ⟨rfl, ⟨nd, rfl⟩⟩; refine ⟨_, rfl, ?_⟩))
  (try simp only [Act.put, List.setIfInBounds_toArray, List.set_cons_zero, List.set_cons_succ])
  go_cut [23] (fun v23 wc => ∃ (kq : Nat) (x23_2 : Bool), v23 = .bool x23_2 ∧ Aside0 (delta_Get.j0 kq l0 t432 t433 x23_2 = some (r1, r2, r3)) ∧ Aside0 (kq ≤ k) ∧ Aside0 (Below w.heap.size w wc))
  case first =>
    have H := HC3.out
    clear HC3
    by_cases c4 : t434 = true
    · subst c4
      have H1 : (delta_Get.j0 k l0 t432 t433 (decide (t432 > 60))) = some (r1, r2, r3) := by rw [if_pos rfl] at H; exact H
      clear H
      have H := H1
      clear H1
      have H' := Aside0.mk H
      clear H
      go_wp2
      go_meet
      case rel => exact ⟨_, (decide (t432 > 60)), (by first | rfl | (simp; done) | (simp [*]; done)), H', ⟨by first | omega | exact Nat.le_refl _⟩, ⟨by repeat (first | (with_reducible first | exact HB.out | apply below_alloc | apply pw_below_drewN | apply below_drew1) | exact HB.out)⟩⟩
    · replace c4 := Bool.eq_false_iff.mpr c4
      subst c4
      have H1 : (delta_Get.j0 k l0 t432 t433 true) = some (r1, r2, r3) := by rw [if_neg (show ¬ (false = true) by decide)] at H; exact H
      clear H
      have H := H1
      clear H1
      have H' := Aside0.mk H
      clear H
      go_wp2
      go_meet
      case rel => exact ⟨_, (true), (by first | rfl | (simp; done) | (simp [*]; done)), H', ⟨by first | omega | exact Nat.le_refl _⟩, ⟨by repeat (first | (with_reducible first | exact HB.out | apply below_alloc | apply pw_below_drewN | apply below_drew1) | exact HB.out)⟩⟩
  case rest =>
    clear HC3
    try clear p2
    try clear c4
    obtain ⟨kq, x23_2, rfl, HA, HJ2, HB⟩ := hcut
    cases kq with
    | zero => exact absurd HA.out (by simp [delta_Get.j0])
    | succ kj2 =>
      have H := HA.out
      clear HA
      simp only [delta_Get.j0] at H
      by_cases c5 : x23_2 = true
      · subst c5
        have H1 : (some (([] : List (S67)), 0, false)) = some (r1, r2, r3) := by rw [if_pos rfl] at H; exact H
        clear H
        have H := H1
        clear H1
        simp only [Option.some.injEq, Prod.mk.injEq] at H
        obtain ⟨rfl, rfl, rfl⟩ := H
        go_wp2
        go_ret3
        exact ⟨_, by first | rfl | (simp [errW_none, errW_some] <;> rfl) | (simp [*, errW_none, errW_some] <;> rfl), by first | exact Kd.R_nil _ _ _ _ _ | exact Kd.N_nil _ _ _ _ _ | exact Kd.V_nil _ _ _ _ _ | exact Kd.Q_nil _ _ _ _ _ | exact Kd.S_nil _ _ _ _ _, by repeat (first | (with_reducible first | exact HB.out | apply below_alloc | apply pw_below_drewN | apply below_drew1) | exact HB.out)⟩
      · replace c5 := Bool.eq_false_iff.mpr c5
        subst c5
        have H1 : (delta_Get.l0 kj2 l0 t433 ([] : List (S67)) t432 0) = some (r1, r2, r3) := by rw [if_neg (show ¬ (false = true) by decide)] at H; exact H
        clear H
        have H := H1
        clear H1
        have H' := Aside0.mk H
        clear H
        go_wp2
        go_loopg [6, 8, 25] kj2 (fun kq v6 v8 v25 w' => ∃ (x6_2 : Int) (x8_2 : List (S67)) (x25_2 : Int), v6 = .int .i64 x6_2 ∧ v25 = .int .u64 x25_2 ∧ Aside0 (delta_Get.l0 kq l0 x6_2 x8_2 t432 x25_2 = some (r1, r2, r3)) ∧ Aside0 (kq ≤ kj2) ∧ Aside0 (Kd.R k67 67 w' w.heap.size (fun _ => True) v8 x8_2) ∧ Aside0 (Below w.heap.size w w'))
        case atStart => exact ⟨(t433), (([] : List (S67))), (0), (by first | rfl | (simp; done) | (simp [*]; done)), (by first | rfl | (simp; done) | (simp [*]; done)), H', ⟨Nat.le_refl _⟩, ⟨by first | exact Kd.R_nil _ _ _ _ _ | exact Kd.N_nil _ _ _ _ _ | exact Kd.V_nil _ _ _ _ _ | exact Kd.Q_nil _ _ _ _ _ | exact Kd.S_nil _ _ _ _ _⟩, ⟨by repeat (first | (with_reducible first | exact HB.out | apply below_alloc | apply pw_below_drewN | apply below_drew1) | exact HB.out)⟩⟩
        case round =>
          clear H'
          try clear p2
          try clear c4
          try clear c5
          try clear p2
          obtain ⟨x6_2, x8_2, x25_2, rfl, rfl, HA, HK2, HO_8, HB⟩ := hrel
          cases gk with
          | zero => exact absurd HA.out (by simp [delta_Get.l0])
          | succ k2 =>
            have H := HA.out
            clear HA
            simp only [delta_Get.l0] at H
            by_cases c6 : x25_2 < t432
            · rw [if_pos c6] at H
              have c6b0 : decide (x25_2 < t432) = true := decide_eq_true c6
              clear c6
              by_cases c7 : 0 ≤ x6_2
              · rw [if_pos c7] at H
                have c7b0 := eq_true c7
                have c7b1 : decide (0 ≤ x6_2) = true := decide_eq_true c7
                clear c7
                by_cases c8 : x6_2 ≤ (l0.length : Int)
                · rw [if_pos c8] at H
                  have c8b0 := eq_true c8
                  have c8b1 : decide (x6_2 ≤ (l0.length : Int)) = true := decide_eq_true c8
                  clear c8
                  replace H := Option.bind_eq_some_iff.mp H
                  obtain ⟨⟨t436, t437, t438, t439, t440, t441⟩, A90, H⟩ := H
                  replace H : (if t441 = true then (if x8_2.length < 3518437208883 then (delta_Get.l0 k2 l0 (wrap64 (x6_2 + t440)) (x8_2 ++ [(⟨t436, t437, t438, t439⟩ : S67)]) t432 (IntKind.u64.wrap (x25_2 + 1))) else (none)) else (some (([] : List (S67)), 0, false))) = some (r1, r2, r3) := H
                  have A9 := Aside0.mk A90
                  clear A90
                  by_cases c10 : t441 = true
                  · subst c10
                    have H1 : (if x8_2.length < 3518437208883 then (delta_Get.l0 k2 l0 (wrap64 (x6_2 + t440)) (x8_2 ++ [(⟨t436, t437, t438, t439⟩ : S67)]) t432 (IntKind.u64.wrap (x25_2 + 1))) else (none)) = some (r1, r2, r3) := by rw [if_pos rfl] at H; exact H
                    clear H
                    have H := H1
                    clear H1
                    by_cases c11 : x8_2.length < 3518437208883
                    · rw [if_pos c11] at H
                      have LMc11 := Aside0.mk c11
                      clear c11
                      obtain ⟨y443, hy443⟩ : ∃ y_ : List (S67), y_ = (x8_2 ++ [(⟨t436, t437, t438, t439⟩ : S67)]) := ⟨_, rfl⟩
                      replace H : (delta_Get.l0 k2 l0 (wrap64 (x6_2 + t440)) y443 t432 (IntKind.u64.wrap (x25_2 + 1))) = some (r1, r2, r3) := by first | (rw [hy443]; with_reducible exact H) | (have H2_ := (Option.bind_some _ _).symm.trans H; rw [hy443]; with_reducible exact H2_) | (have H2_ := (Option.bind_some _ _).symm.trans H; with_reducible exact H2_) | with_reducible exact H | (rw [hy443]; exact H) | exact H
                      have Ny443 := Aside0.mk hy443
                      clear hy443
                      have H' := Aside0.mk H
                      clear H
                      obtain ⟨i012, hi012, _, hsz12, _⟩ := info_parts info5
                      obtain ⟨A12, hcut12, hA12, hC12⟩ := print_drop_of (P := Try.prog) (Value.int .u8) 0 40 5 .i64 Try.underlying40 hi012 hsz12 A0 c0 l0 x6_2 (of_decide_eq_true (by first | (with_reducible assumption) | assumption)) (of_decide_eq_true (by first | (with_reducible assumption) | assumption)) HC0.out
                      have HR435 := Aside0.mk (Kd.C_of_reads (h1 := fun _ => rfl) (hA12 _ (Kd.reads_of_C HR0.out)))
                      have HC435 := Aside0.mk hC12
                      clear hA12 hC12 hi012 hsz12
                      go_wp2_with (first | ((with_reducible refine gate_callee (f := 95) rfl ?_); refine goesL_ (some 31) rfl rfl Try.func95 (by kernel_rfl) rfl #[.slice A12 (l0.drop (x6_2 : Int).toNat).length (c0 - x6_2.toNat)] rfl (by (try simp only [List.map_toArray, List.map_cons, List.map_nil]); first | done | (rw [show (l0.drop (x6_2 : Int).toNat).length = (l0.length - x6_2.toNat) from List.length_drop] <;> rfl) | rfl | (simp only [List.length_drop, List.length_take]; rfl)) ?_; (with_reducible refine (delta_piece.calls k2 _ _ (l0.drop (x6_2 : Int).toNat) t436 t437 t438 t439 t440 true _ ?side1 ?side2 A9.out).mono ?_); (case side1 => repeat (first | exact (Kd.C_below HR435.out HB.out) | (with_reducible refine Kd.C_alloc ?_ _) | (with_reducible refine Kd.C_drewN ?_ _) | (with_reducible refine Kd.C_drew ?_))); (case side2 => exact HC435.out); rintro e w13 ⟨rfl, hb⟩; refine ⟨_, rfl, ?_⟩; have n0_ := Aside0.mk (Kd.R_below (by (with_reducible repeat (first | apply Kd.R_alloc | apply Kd.R_drewN | apply Kd.R_drew)); exact HO_8.out) hb); have n1_ := Aside0.mk (below_step (by repeat (first | (with_reducible first | exact HB.out | apply below_alloc | apply pw_below_drewN | apply below_drew1) | exact HB.out)) hb); clear HO_8; clear HB; have HO_8 := n0_; have HB := n1_; clear n0_ n1_; (try clear hb); (try clear hb2); (try clear hk); (try clear hi)) | ((with_reducible refine gate_dst (N := 9) rfl ?_); refine box_event ?hg (N := 9) ?hd (cs := #[.bool false, .int .i64 0, .int .i64 0, .string (⟨#[]⟩ : ByteArray)]) (t := 67) ?hr ?_; (case hd => rfl); (case hg => rfl); (case hr => first | (go_simp; done) | (go_simp; rfl)); intro gb442 hg w14 hbox hb; have n0_ := Aside0.mk (Kd.R_below (Kd.R_elderB (by (with_reducible repeat (first | apply Kd.R_alloc | apply Kd.R_drewN | apply Kd.R_drew)); exact HO_8.out) gb442 (Nat.le_of_eq hg.symm)) hb); have n1_ := Aside0.mk (below_step (by repeat (first | (with_reducible first | exact HB.out | apply below_alloc | apply pw_below_drewN | apply below_drew1) | exact HB.out)) hb); have n2_ := Aside0.mk (hbox); have n3_ := Aside0.mk ((by rw [hg]; exact (below_size (by repeat (first | (with_reducible first | exact HB.out | apply below_alloc | apply pw_below_drewN | apply below_drew1) | exact HB.out))) : w.heap.size ≤ gb442)); have n4_ := Aside0.mk ((by rw [hg]; exact (below_size (by repeat (first | (with_reducible first | exact HB.out | apply below_alloc | apply pw_below_drewN | apply below_drew1) | exact HB.out))) : w.heap.size ≤ gb442)); clear HO_8; clear HB; have HO_8 := n0_; have HB := n1_; have BK442 := n2_; have GW442 := n3_; have GE442 := n4_; clear n0_ n1_ n2_ n3_ n4_; clear hb hbox hg; have hcz15_0 : w14.cell? ⟨gb442, 0, none⟩ = some (.bool false) := (blk_cell BK442.out 0).trans rfl; have hcz15_1 : w14.cell? ⟨gb442, 1, none⟩ = some (.int .i64 0) := (blk_cell BK442.out 1).trans rfl; have hcz15_2 : w14.cell? ⟨gb442, 2, none⟩ = some (.int .i64 0) := (blk_cell BK442.out 2).trans rfl; have hcz15_3 : w14.cell? ⟨gb442, 3, none⟩ = some (.string (⟨#[]⟩ : ByteArray)) := (blk_cell BK442.out 3).trans rfl; have hfz15_0 := blk_frozen BK442.out 0; have hfz15_1 := blk_frozen BK442.out 1; have hfz15_2 := blk_frozen BK442.out 2; have hfz15_3 := blk_frozen BK442.out 3) | ((with_reducible refine gate_builtin (b := .append) (xs := #[.tmp 37, .tmp 39]) rfl ?_); at_builtin; refine Kd.R_append k67 (w0 := w) w.heap.size rfl (.tmp 37) (.tmp 39) 55 67 (.agg #[(.bool false), (.int .i64 0), (.int .i64 0), (.string ⟨#[]⟩)]) 40 rfl Try.underlying55 info67 rfl (by decide) (by omega) u8 x8_2 (⟨t436, t437, t438, t439⟩ : S67) [.bool t436, .int .i64 t437, .int .i64 t438, .string t439] (fun k_ => k_ ≠ gb442) (fun _ => False) rfl (by first | (go_simp; done) | (go_simp; rfl)) ?aP (fun _ hk => hk.elim) ?aF ?aO ?aB ?aS ?aL ?_; (case aP => exact k67_mkM _ _ _ (⟨t436, t437, t438, t439⟩ : S67)); (case aB => exact (by repeat (first | (with_reducible first | exact HB.out | apply below_alloc | apply pw_below_drewN | apply below_drew1 | refine below_set ?_ GE442.out) | exact HB.out))); (case aF => exact (fun k_ hk => Kd.freshB (g := gb442) (o := .cells #[.bool t436, .int .i64 t437, .int .i64 t438, .string t439] 67 (0, 0)) (by (with_reducible repeat (first | refine blk_drewN ?_ _ | refine blk_drew ?_ | refine blk_alloc ?_ _)); refine blk_put (cs := #[.bool t436, .int .i64 t437, .int .i64 t438, .string (⟨#[]⟩ : ByteArray)]) ?_ 3 _ rfl; (with_reducible repeat (first | refine blk_drewN ?_ _ | refine blk_drew ?_ | refine blk_alloc ?_ _)); refine blk_put (cs := #[.bool t436, .int .i64 t437, .int .i64 0, .string (⟨#[]⟩ : ByteArray)]) ?_ 2 _ rfl; (with_reducible repeat (first | refine blk_drewN ?_ _ | refine blk_drew ?_ | refine blk_alloc ?_ _)); refine blk_put (cs := #[.bool t436, .int .i64 0, .int .i64 0, .string (⟨#[]⟩ : ByteArray)]) ?_ 1 _ rfl; (with_reducible repeat (first | refine blk_drewN ?_ _ | refine blk_drew ?_ | refine blk_alloc ?_ _)); refine blk_put (cs := #[.bool false, .int .i64 0, .int .i64 0, .string (⟨#[]⟩ : ByteArray)]) ?_ 0 _ rfl; (with_reducible repeat (first | refine blk_drewN ?_ _ | refine blk_drew ?_ | refine blk_alloc ?_ _)); exact BK442.out) k_ hk)); (case aO => exact (by (with_reducible repeat (first | apply Kd.R_alloc | apply Kd.R_drewN | apply Kd.R_drew)); exact Kd.R_mono (Kd.R_far (p := ⟨gb442, 3, none⟩) (Kd.R_far (p := ⟨gb442, 2, none⟩) (Kd.R_far (p := ⟨gb442, 1, none⟩) (Kd.R_far (p := ⟨gb442, 0, none⟩) (Kd.R_mono HO_8.out (fun k_ hk => (⟨hk, hk.2⟩ : _ ∧ k_ ≠ gb442))) (fun _ hk => hk.2) (.bool t436)) (fun _ hk => hk.2) (.int .i64 t437)) (fun _ hk => hk.2) (.int .i64 t438)) (fun _ hk => hk.2) (.string t439)) (fun _ hk => hk.1.2))); (case aS => exact (below_size (by repeat (first | (with_reducible first | exact HB.out | apply below_alloc | apply pw_below_drewN | apply below_drew1 | refine below_set ?_ GE442.out) | exact HB.out)))); (case aL => have := LMc11.out; omega); intro v444 w16 ho hb hg hat; rw [← Ny443.out] at ho; have n0_ := Aside0.mk (blk_grown (g := gb442) (o := .cells #[.bool t436, .int .i64 t437, .int .i64 t438, .string t439] 67 (0, 0)) (by (with_reducible repeat (first | refine blk_drewN ?_ _ | refine blk_drew ?_ | refine blk_alloc ?_ _)); refine blk_put (cs := #[.bool t436, .int .i64 t437, .int .i64 t438, .string (⟨#[]⟩ : ByteArray)]) ?_ 3 _ rfl; (with_reducible repeat (first | refine blk_drewN ?_ _ | refine blk_drew ?_ | refine blk_alloc ?_ _)); refine blk_put (cs := #[.bool t436, .int .i64 t437, .int .i64 0, .string (⟨#[]⟩ : ByteArray)]) ?_ 2 _ rfl; (with_reducible repeat (first | refine blk_drewN ?_ _ | refine blk_drew ?_ | refine blk_alloc ?_ _)); refine blk_put (cs := #[.bool t436, .int .i64 0, .int .i64 0, .string (⟨#[]⟩ : ByteArray)]) ?_ 1 _ rfl; (with_reducible repeat (first | refine blk_drewN ?_ _ | refine blk_drew ?_ | refine blk_alloc ?_ _)); refine blk_put (cs := #[.bool false, .int .i64 0, .int .i64 0, .string (⟨#[]⟩ : ByteArray)]) ?_ 0 _ rfl; (with_reducible repeat (first | refine blk_drewN ?_ _ | refine blk_drew ?_ | refine blk_alloc ?_ _)); exact BK442.out) hg (Kd.R_away HO_8.out (fun _ hk => hk.2))); have n1_ := Aside0.mk (hb); have n2_ := Aside0.mk (ho); clear BK442; clear HB; clear HO_8; have BK442 := n0_; have HB := n1_; have HO445 := n2_; clear n0_ n1_ n2_; clear ho hb hg hat))
                      go_roundg k2
                      case measure => have := HJ2.out; have := HK2.out; omega
                      case rel => exact ⟨(wrap64 (x6_2 + t440)), (y443), (IntKind.u64.wrap (x25_2 + 1)), (by first | rfl | (simp; done) | (simp [*]; done)), (by first | rfl | (simp; done) | (simp [*]; done)), H', ⟨by have := HJ2.out; have := HK2.out; omega⟩, ⟨by (with_reducible repeat (first | apply Kd.R_alloc | apply Kd.R_drewN | apply Kd.R_drew)); exact Kd.R_mono HO445.out (fun _ hk => trivial)⟩, ⟨by repeat (first | (with_reducible first | exact HB.out | apply below_alloc | apply pw_below_drewN | apply below_drew1 | refine below_set ?_ GE442.out) | exact HB.out)⟩⟩
                    · rw [if_neg c11] at H
                      exact absurd H (by simp)
                  · replace c10 := Bool.eq_false_iff.mpr c10
                    subst c10
                    have H1 : (some (([] : List (S67)), 0, false)) = some (r1, r2, r3) := by rw [if_neg (show ¬ (false = true) by decide)] at H; exact H
                    clear H
                    have H := H1
                    clear H1
                    simp only [Option.some.injEq, Prod.mk.injEq] at H
                    obtain ⟨rfl, rfl, rfl⟩ := H
                    obtain ⟨i017, hi017, _, hsz17, _⟩ := info_parts info5
                    obtain ⟨A17, hcut17, hA17, hC17⟩ := print_drop_of (P := Try.prog) (Value.int .u8) 0 40 5 .i64 Try.underlying40 hi017 hsz17 A0 c0 l0 x6_2 (of_decide_eq_true (by first | (with_reducible assumption) | assumption)) (of_decide_eq_true (by first | (with_reducible assumption) | assumption)) HC0.out
                    have HR435 := Aside0.mk (Kd.C_of_reads (h1 := fun _ => rfl) (hA17 _ (Kd.reads_of_C HR0.out)))
                    have HC435 := Aside0.mk hC17
                    clear hA17 hC17 hi017 hsz17
                    go_wp2_with (first | ((with_reducible refine gate_callee (f := 95) rfl ?_); refine goesL_ (some 31) rfl rfl Try.func95 (by kernel_rfl) rfl #[.slice A17 (l0.drop (x6_2 : Int).toNat).length (c0 - x6_2.toNat)] rfl (by (try simp only [List.map_toArray, List.map_cons, List.map_nil]); first | done | (rw [show (l0.drop (x6_2 : Int).toNat).length = (l0.length - x6_2.toNat) from List.length_drop] <;> rfl) | rfl | (simp only [List.length_drop, List.length_take]; rfl)) ?_; (with_reducible refine (delta_piece.calls k2 _ _ (l0.drop (x6_2 : Int).toNat) t436 t437 t438 t439 t440 false _ ?side1 ?side2 A9.out).mono ?_); (case side1 => repeat (first | exact (Kd.C_below HR435.out HB.out) | (with_reducible refine Kd.C_alloc ?_ _) | (with_reducible refine Kd.C_drewN ?_ _) | (with_reducible refine Kd.C_drew ?_))); (case side2 => exact HC435.out); rintro e w18 ⟨rfl, hb⟩; refine ⟨_, rfl, ?_⟩; have n0_ := Aside0.mk (Kd.R_below (by (with_reducible repeat (first | apply Kd.R_alloc | apply Kd.R_drewN | apply Kd.R_drew)); exact HO_8.out) hb); have n1_ := Aside0.mk (below_step (by repeat (first | (with_reducible first | exact HB.out | apply below_alloc | apply pw_below_drewN | apply below_drew1) | exact HB.out)) hb); clear HO_8; clear HB; have HO_8 := n0_; have HB := n1_; clear n0_ n1_; (try clear hb); (try clear hb2); (try clear hk); (try clear hi)) | ((with_reducible refine gate_dst (N := 9) rfl ?_); refine box_event ?hg (N := 9) ?hd (cs := #[.bool false, .int .i64 0, .int .i64 0, .string (⟨#[]⟩ : ByteArray)]) (t := 67) ?hr ?_; (case hd => rfl); (case hg => rfl); (case hr => first | (go_simp; done) | (go_simp; rfl)); intro gb442 hg w19 hbox hb; have n0_ := Aside0.mk (Kd.R_below (Kd.R_elderB (by (with_reducible repeat (first | apply Kd.R_alloc | apply Kd.R_drewN | apply Kd.R_drew)); exact HO_8.out) gb442 (Nat.le_of_eq hg.symm)) hb); have n1_ := Aside0.mk (below_step (by repeat (first | (with_reducible first | exact HB.out | apply below_alloc | apply pw_below_drewN | apply below_drew1) | exact HB.out)) hb); have n2_ := Aside0.mk (hbox); have n3_ := Aside0.mk ((by rw [hg]; exact (below_size (by repeat (first | (with_reducible first | exact HB.out | apply below_alloc | apply pw_below_drewN | apply below_drew1) | exact HB.out))) : w.heap.size ≤ gb442)); have n4_ := Aside0.mk ((by rw [hg]; exact (below_size (by repeat (first | (with_reducible first | exact HB.out | apply below_alloc | apply pw_below_drewN | apply below_drew1) | exact HB.out))) : w.heap.size ≤ gb442)); clear HO_8; clear HB; have HO_8 := n0_; have HB := n1_; have BK442 := n2_; have GW442 := n3_; have GE442 := n4_; clear n0_ n1_ n2_ n3_ n4_; clear hb hbox hg; have hcz20_0 : w19.cell? ⟨gb442, 0, none⟩ = some (.bool false) := (blk_cell BK442.out 0).trans rfl; have hcz20_1 : w19.cell? ⟨gb442, 1, none⟩ = some (.int .i64 0) := (blk_cell BK442.out 1).trans rfl; have hcz20_2 : w19.cell? ⟨gb442, 2, none⟩ = some (.int .i64 0) := (blk_cell BK442.out 2).trans rfl; have hcz20_3 : w19.cell? ⟨gb442, 3, none⟩ = some (.string (⟨#[]⟩ : ByteArray)) := (blk_cell BK442.out 3).trans rfl; have hfz20_0 := blk_frozen BK442.out 0; have hfz20_1 := blk_frozen BK442.out 1; have hfz20_2 := blk_frozen BK442.out 2; have hfz20_3 := blk_frozen BK442.out 3))
                    go_ret3
                    exact ⟨_, by first | rfl | (simp [errW_none, errW_some] <;> rfl) | (simp [*, errW_none, errW_some] <;> rfl), by first | exact Kd.R_nil _ _ _ _ _ | exact Kd.N_nil _ _ _ _ _ | exact Kd.V_nil _ _ _ _ _ | exact Kd.Q_nil _ _ _ _ _ | exact Kd.S_nil _ _ _ _ _, by repeat (first | (with_reducible first | exact HB.out | apply below_alloc | apply pw_below_drewN | apply below_drew1 | refine below_set ?_ GE442.out) | exact HB.out)⟩
                · rw [if_neg c8] at H
                  exact absurd H (by simp)
              · rw [if_neg c7] at H
                exact absurd H (by simp)
            · rw [if_neg c6] at H
              have c6b0 : decide (x25_2 < t432) = false := decide_eq_false c6
              clear c6
              replace H := Option.bind_eq_some_iff.mp H
              obtain ⟨t446, A210, H⟩ := H
              replace H : (if t446 = true then (some (x8_2, x6_2, true)) else (some (([] : List (S67)), 0, false))) = some (r1, r2, r3) := H
              have A21 := Aside0.mk A210
              clear A210
              by_cases c22 : t446 = true
              · subst c22
                have H1 : (some (x8_2, x6_2, true)) = some (r1, r2, r3) := by rw [if_pos rfl] at H; exact H
                clear H
                have H := H1
                clear H1
                simp only [Option.some.injEq, Prod.mk.injEq] at H
                obtain ⟨rfl, rfl, rfl⟩ := H
                obtain ⟨Ao23, co23, eo23⟩ := Kd.R_slice HO_8.out
                subst eo23
                go_wp2_with (first | ((with_reducible refine gate_callee (f := 57) rfl ?_); refine goesL_ (some 46) rfl rfl Try.func57 (by kernel_rfl) rfl #[.slice Ao23 x8_2.length co23] rfl (by (try simp only [List.map_toArray, List.map_cons, List.map_nil]); first | done | rfl | (simp only [List.length_drop, List.length_take]; rfl)) ?_; (with_reducible refine (delta_May.calls k2 _ _ x8_2 true _ ?side1 ?side2 A21.out).mono ?_); (case side1 => repeat (first | exact (Kd.R_reads' HO_8.out).2.2 | (with_reducible refine Kd.C_alloc ?_ _) | (with_reducible refine Kd.C_drewN ?_ _) | (with_reducible refine Kd.C_drew ?_))); (case side2 => exact (Kd.R_reads' HO_8.out).2.1); rintro e w24 ⟨rfl, hb⟩; refine ⟨_, rfl, ?_⟩; have n0_ := Aside0.mk (Kd.R_below (by (with_reducible repeat (first | apply Kd.R_alloc | apply Kd.R_drewN | apply Kd.R_drew)); exact HO_8.out) hb); have n1_ := Aside0.mk (below_step (by repeat (first | (with_reducible first | exact HB.out | apply below_alloc | apply pw_below_drewN | apply below_drew1) | exact HB.out)) hb); clear HO_8; clear HB; have HO_8 := n0_; have HB := n1_; clear n0_ n1_; (try clear hb); (try clear hb2); (try clear hk); (try clear hi)))
                go_ret3
                exact ⟨_, by first | rfl | (simp [errW_none, errW_some] <;> rfl) | (simp [*, errW_none, errW_some] <;> rfl), by (with_reducible repeat (first | apply Kd.R_alloc | apply Kd.R_drewN | apply Kd.R_drew)); exact HO_8.out, by repeat (first | (with_reducible first | exact HB.out | apply below_alloc | apply pw_below_drewN | apply below_drew1) | exact HB.out)⟩
              · replace c22 := Bool.eq_false_iff.mpr c22
                subst c22
                have H1 : (some (([] : List (S67)), 0, false)) = some (r1, r2, r3) := by rw [if_neg (show ¬ (false = true) by decide)] at H; exact H
                clear H
                have H := H1
                clear H1
                simp only [Option.some.injEq, Prod.mk.injEq] at H
                obtain ⟨rfl, rfl, rfl⟩ := H
                obtain ⟨Ao25, co25, eo25⟩ := Kd.R_slice HO_8.out
                subst eo25
                go_wp2_with (first | ((with_reducible refine gate_callee (f := 57) rfl ?_); refine goesL_ (some 46) rfl rfl Try.func57 (by kernel_rfl) rfl #[.slice Ao25 x8_2.length co25] rfl (by (try simp only [List.map_toArray, List.map_cons, List.map_nil]); first | done | rfl | (simp only [List.length_drop, List.length_take]; rfl)) ?_; (with_reducible refine (delta_May.calls k2 _ _ x8_2 false _ ?side1 ?side2 A21.out).mono ?_); (case side1 => repeat (first | exact (Kd.R_reads' HO_8.out).2.2 | (with_reducible refine Kd.C_alloc ?_ _) | (with_reducible refine Kd.C_drewN ?_ _) | (with_reducible refine Kd.C_drew ?_))); (case side2 => exact (Kd.R_reads' HO_8.out).2.1); rintro e w26 ⟨rfl, hb⟩; refine ⟨_, rfl, ?_⟩; have n0_ := Aside0.mk (Kd.R_below (by (with_reducible repeat (first | apply Kd.R_alloc | apply Kd.R_drewN | apply Kd.R_drew)); exact HO_8.out) hb); have n1_ := Aside0.mk (below_step (by repeat (first | (with_reducible first | exact HB.out | apply below_alloc | apply pw_below_drewN | apply below_drew1) | exact HB.out)) hb); clear HO_8; clear HB; have HO_8 := n0_; have HB := n1_; clear n0_ n1_; (try clear hb); (try clear hb2); (try clear hk); (try clear hi)))
                go_ret3
                exact ⟨_, by first | rfl | (simp [errW_none, errW_some] <;> rfl) | (simp [*, errW_none, errW_some] <;> rfl), by first | exact Kd.R_nil _ _ _ _ _ | exact Kd.N_nil _ _ _ _ _ | exact Kd.V_nil _ _ _ _ _ | exact Kd.Q_nil _ _ _ _ _ | exact Kd.S_nil _ _ _ _ _, by repeat (first | (with_reducible first | exact HB.out | apply below_alloc | apply pw_below_drewN | apply below_drew1) | exact HB.out)⟩

end Go.Proofs.Ytchaegfdcdlfaaa.X
