/- CodeBatch: the walk, the row -/
import Derived.Test.YtchaegfdcdlfaaaA8
import Derived.Test.YtchaegfdcdlfaaaRows
import Derived.ShutString
import Derived.ChangeOld
set_option linter.unusedVariables false
set_option linter.unusedSimpArgs false
set_option maxRecDepth 100000
namespace Go.Proofs.Ytchaegfdcdlfaaa.X
section
open Go.RowKit Go.Proofs.YtchaegfdcdlfaaaW.PrintWords Go.Proofs.YtchaegfdcdlfaaaW.PrintLast Go.Proofs.YtchaegfdcdlfaaaW.PrintMore
open Go.Proofs.Ytchaegfdcdlfaaa.Y (Bytes RdB)
attribute [local go_sem] max2_int min2_int max_two min_two max_three min_three max_four min_four
def hdrN (W0 : World) : Kd (List OpT) where
 sz := 1
 E := []
 K := fun _ x cs => ∃ A c, cs = [.slice A x.length c] ∧ x.length ≤ c ∧ Kd.C opK W0 A x.length x
 M := fun _ _ _ x cs => ∃ A c, cs = [.slice A x.length c] ∧ x.length ≤ c ∧ Kd.C opK W0 A x.length x
 K_len := fun h => by
  obtain ⟨A, c, rfl, _⟩ := h
  rfl
 K_one := fun h u hu => by
  obtain ⟨A, c, rfl, _⟩ := h
  rw [List.mem_singleton.1 hu]
  rfl
 K_below := fun _ h => h
 K_of_M := fun h => h
 M_mono := fun _ h => h
 M_bound := fun h => h
 M_move := fun _ h => h
 M_lower := fun _ h => h
theorem hdrN_in {W : World} {A : Option Addr} {n : Nat} {l : List (List OpT)} (h : Kd.C batK W A n l) : Kd.C (hdrN W) W A n l := h
theorem hdrN_out {W0 W : World} {A : Option Addr} {n : Nat} {l : List (List OpT)} (h : Kd.C (hdrN W0) W A n l) (hb : Below W0.heap.size W0 W) : Kd.C batK W A n l :=
 ReadsRow.imp_ h (Below.refl _ _) (fun p c hp => by
  obtain ⟨B, k, rfl, h1, h2⟩ := hp
  exact batK_K.2 ⟨B, k, rfl, h1, Kd.C_below h2 hb⟩)
theorem hdrN_one {W0 W : World} {B : Option Addr} {c : Nat} {l : List OpT} (hc : l.length ≤ c) (h : Kd.C opK W0 B l.length l) {a : Addr} (hx : W.cell? a = some (.slice B l.length c)) : Kd.C (hdrN W0) W (some a) 1 [l] :=
 ⟨rfl, by decide, fun _ => ⟨a, rfl, fun j s hj => by
  have hj0 : j = 0 := by have := (List.getElem?_eq_some_iff.1 hj).1; simp at this; omega
  subst hj0
  obtain rfl : l = s := by simpa using hj
  refine ⟨[.slice B l.length c], rfl, ⟨B, c, rfl, hc, h⟩, fun i u hi => ?_⟩
  have hi0 : i = 0 := by have := (List.getElem?_eq_some_iff.1 hi).1; simp at this; omega
  subst hi0
  obtain rfl : Value.slice B l.length c = u := by simpa using hi
  exact hx⟩⟩
theorem bat_slice {W : World} {ad : Addr} {n c i : Nat} {l : List (List OpT)} (hC : Kd.C batK W (some ad) n l) (hc : n ≤ c) (hi : i < n) (x : List OpT) (hx : l.getD i [] = x) :
  (∀ V : World, (Instr.slice 79 (.slice (some ad) n c) (some (.int .i64 (i : Int))) (some (.int .i64 ((i : Int) + 1))) none).run Try.prog V = .ok (.slice (some (ad.add i)) 1 (c - i)) V) ∧ Kd.C batK W (some (ad.add i)) 1 [x] := by
 refine ⟨fun V => ?_, ?_⟩
 ·obtain ⟨i0, hi0, _, hsz0, _⟩ := info_parts info92
  have hel : Try.prog.elem 79 = 92 := by simp [Program.elem, Try.underlying79]
  have hu : Try.prog.underlying 79 = some (.slice (Try.prog.elem 79)) := by rw [hel]; exact Try.underlying79
  rw [run_slice_lh V 79 (some ad) n c hu .i64 .i64 (i : Int) ((i : Int) + 1) (by omega) (by omega) (by omega), hel]
  have h1 : ¬ c = i := by omega
  have h2 : ((i : Int) + 1).toNat = i + 1 := by omega
  simp [sizeOf, typeInfo, hi0, hsz0, sliced, Result.andThen, h1, h2]
 ·obtain ⟨ad1, B, cb, hA, hbc, hCb, hcell⟩ := bat_at hC hi x hx
  injection hA with hA
  subst hA
  exact hdrN_out (hdrN_one hbc hCb hcell) (Below.refl _ _)
theorem may_all (p : PlanT) : mayPl p = (decide (p.b.length ≤ 16) && p.b.all fun x => mayPl ⟨z32, [x]⟩) := by
 have h : ∀ x : List OpT, mayPl ⟨z32, [x]⟩ = !badB x := fun x => by unfold mayPl; simp
 simp only [h]
 unfold mayPl
 rw [List.any_eq_not_all_not, Bool.not_not]
theorem may_with {p : PlanT} {l : List OpT} (h : mayPl ⟨z32, p.b ++ [l]⟩ = true) : 1 ≤ l.length ∧ l.length ≤ 20 ∧ mayPl p = true := by
 have hf := mayPl_facts h
 have h1 := hf.2 l (by simp)
 refine ⟨h1.1, h1.2.1, ?_⟩
 rw [may_all] at h ⊢
 rw [Bool.and_eq_true] at h ⊢
 refine ⟨decide_eq_true ?_, ?_⟩
 ·have := hf.1
  simp only [List.length_append, List.length_singleton] at this
  omega
 ·have h2 := h.2
  simp only [List.all_append, Bool.and_eq_true] at h2
  exact h2.1
theorem all_take {α : Type} (f : α → Bool) (l : List α) (i : Nat) (hi : i < l.length) (z x : α) (hx : l.getD i z = x) : (l.take (i + 1)).all f = ((l.take i).all f && f x) := by
 rw [take_one l i hi z x hx, List.all_append]
 simp
set_option maxHeartbeats 4000000 in
theorem cbatch_main (p : PlanT) (A : Option Addr) (c : Nat) (w : World) (l : List OpT) (B : Option Addr) (cl : Nat) (ok : PlanOk p) (hc : p.b.length ≤ c) (hC : Kd.C batK w A p.b.length p.b) (hcl : l.length ≤ cl) (hL : Kd.C opK w B l.length l) :
  Calls Try.prog 29 #[.agg (planC p A c).toArray, .slice B l.length cl] w fun e w' => e = .returned (.bool true) ∧ Below w.heap.size w w' := by
 have hfit := plan_fit hC
 have hfitl := ops_fit hL
 have HFEW : Aside0 (∀ W : World, Below w.heap.size w W → Calls Try.prog 69 #[.agg (planC p A c).toArray] W fun e w' => e = .returned (.bool (fewP p)) ∧ Below W.heap.size W w') := ⟨fun W hW => fewp_call p A c W ok.base.1 hc (Kd.C_below hC hW)⟩
 have HFEO : Aside0 (∀ W : World, Below w.heap.size w W → Calls Try.prog 75 #[.slice B l.length cl] W fun e w' => e = .returned (.bool (fewOs l)) ∧ W = w') := ⟨fun W hW => fewos_call l B cl W (Kd.C_below hL hW)⟩
 have HMAY : Aside0 (∀ W : World, Below w.heap.size w W → Calls Try.prog 71 #[.agg (planC p A c).toArray] W fun e w' => e = .returned (.bool (mayPl p)) ∧ Below W.heap.size W w') := ⟨fun W hW => mayp_call p A c W ok.base.1 hc (Kd.C_below hC hW) hfit⟩
 have HFIT := am hfit
 have HFITL := am hfitl
 have HI := am (planInfo (p := p) ok.base.1 A c)
 have k32 := planC_32 ok.base.1 A c
 have HPC := am hC
 have HPL := am hc
 have HLC := am hL
 have HLL := am hcl
 obtain ⟨ms, hms⟩ : ∃ ms, (planC p A c).toArray = ms := ⟨_, rfl⟩
 rw [hms] at HFEW HMAY HI k32 ⊢
 have HK32 := am k32
 have HBK := am (blk_new w (.cells ms 81))
 have HB0 := am (below_alloc (Below.refl w.heap.size w) (.cells ms 81))
 clear ok hc hC hcl hL hms k32 hfit hfitl
 go_enter Try.func29, Try.ntmps29
 go_wp2_with fail
 refine (awake18_call _).mono ?_
 rintro e_ w1 ⟨rfl, hb1⟩
 have HK1 := am (blk_below HBK.out hb1)
 have HB1 := am (below_step HB0.out hb1)
 clear hb1
 go_wp2_with (first
  | ((with_reducible refine gate_dst (N := 14) rfl ?_); refine wpList_load_row rfl 81 (.tmp 2) rfl w.heap.size rfl 81 ms (0, 0) _ HK1.out Try.underlying81 rfl HI.out ?_)
  | fail)
 refine (HFEW.out _ HB1.out).mono ?_
 rintro e_ w2 ⟨rfl, hb2⟩
 have HK2 := am (blk_below HK1.out hb2)
 have HB2 := am (below_step HB1.out hb2)
 clear hb2
 go_wp2_with fail
 refine (HFEO.out _ HB2.out).mono ?_
 rintro e_ w2_ ⟨rfl, rfl⟩
 cases hf : fewP p
 ·clear hf
  go_wp2_with fail
  go_ret
  exact ⟨rfl, HB2.out⟩
 have HFF := am (few_facts hf)
 clear hf
 cases hf : fewOs l
 ·clear hf
  go_wp2_with fail
  go_ret
  exact ⟨rfl, HB2.out⟩
 have HFL : Aside0 (l.length ≤ 130) := ⟨by unfold fewOs at hf; rw [Bool.and_eq_true] at hf; exact of_decide_eq_true hf.1⟩
 clear hf
 go_wp2_with (first
  | ((with_reducible refine gate_dst (N := 29) rfl ?_); refine wpList_load_row rfl 81 (.tmp 2) rfl w.heap.size rfl 81 ms (0, 0) _ HK2.out Try.underlying81 rfl HI.out ?_)
  | fail)
 refine (HMAY.out _ HB2.out).mono ?_
 rintro e_ w3 ⟨rfl, hb3⟩
 have HK3 := am (blk_below HK2.out hb3)
 have HB3 := am (below_step HB2.out hb3)
 have HC3 := am (Kd.C_below HPC.out HB3.out)
 have HL3 := am (Kd.C_below HLC.out HB3.out)
 clear hb3
 have f32 := (blk_cell HK3.out 32).trans HK32.out
 obtain ⟨r1, hr1⟩ : ∃ r1, mayPl p = r1 := ⟨_, rfl⟩
 have HR1 := am hr1
 obtain ⟨b16, hb16⟩ : ∃ b16, decide (p.b.length ≤ 16) = b16 := ⟨_, rfl⟩
 have HB16 := am hb16
 have q16 : decide ((p.b.length : Int) ≤ 16) = b16 := by rw [← hb16]; exact decide_eq_decide.2 (by omega)
 rw [hr1]
 clear hr1
 go_wp2_with fail
 go_loopg [9, 10, 11] p.b.length (fun kq v9 v10 v11 W => ∃ (i : Nat) (bb : Bool), v10 = .int .i64 i ∧ v9 = .bool bb ∧ Aside0 (kq + i = p.b.length) ∧ Aside0 (bb = (b16 && (p.b.take i).all fun x => mayPl ⟨z32, [x]⟩)) ∧ Aside0 (Below w3.heap.size w3 W))
 case atStart => exact ⟨0, b16, rfl, rfl, ⟨rfl⟩, ⟨by simp⟩, ⟨Below.refl _ _⟩⟩
 case round =>
  clear f32
  obtain ⟨i, bb, rfl, rfl, HKI, HBB, HBR⟩ := hrel
  obtain ⟨wo, rfl⟩ : ∃ wo : World, wo = wr := ⟨_, rfl⟩
  have f32 := (blk_cell (blk_below HK3.out HBR.out) 32).trans HK32.out
  by_cases hi : i < p.b.length
  ·obtain ⟨e1, e2⟩ := ltY hi
   have e3 : (0 ≤ (i : Int)) = True := by simp
   have e4 := wr1 (i := i) (by have := HFF.out.1; omega)
   obtain ⟨x, hx⟩ : ∃ x, p.b.getD i [] = x := ⟨_, rfl⟩
   obtain ⟨ad, B_, cb_, hA, _⟩ := bat_at HC3.out hi x hx
   subst hA
   obtain ⟨hsl, hC1⟩ := bat_slice (Kd.C_below HC3.out HBR.out) HPL.out hi x hx
   have HB81 : Aside0 (Try.prog.built 81 [(1, .slice (some (ad.add i)) 1 (c - i))] = some (planC ⟨z32, [x]⟩ (some (ad.add i)) (c - i)).toArray) := ⟨built81 _ _ _⟩
   have HM1 := am (mayp_call ⟨z32, [x]⟩ (some (ad.add i)) (c - i) wo rfl (by show 1 ≤ c - i; have := HPL.out; omega) hC1 (plan_fit hC1))
   have HAT := am (all_take (fun x => mayPl ⟨z32, [x]⟩) p.b i hi [] x hx)
   have HI2 := am hi
   obtain ⟨p1, hp1⟩ : ∃ p1, (planC ⟨z32, [x]⟩ (some (ad.add i)) (c - i)).toArray = p1 := ⟨_, rfl⟩
   obtain ⟨rx, hrx⟩ : ∃ rx, mayPl ⟨z32, [x]⟩ = rx := ⟨_, rfl⟩
   have HRX := am hrx
   rw [hp1] at HB81 HM1
   rw [hrx] at HM1
   clear hi hx hC1 hp1 hrx
   go_wp2_with (first
    | ((with_reducible refine gate_dst (N := 48) rfl ?_); refine wpList_build_cells rfl 81 _ rfl p1 ?hb ?_; case hb => (simp only [List.map_toArray, List.map_cons, List.map_nil]; exact HB81.out))
    | fail)
   refine HM1.out.mono ?_
   rintro e_ wa ⟨rfl, hba⟩
   have HBA := am (below_step HBR.out hba)
   clear hba f32 hsl
   cases bb
   ·go_wp2_with fail
    go_roundg (p.b.length - (i + 1))
    case measure => have := HKI.out; have := HI2.out; omega
    case rel => exact ⟨i + 1, false, by first | rfl | (simp [e4]; done), rfl, ⟨by have := HI2.out; omega⟩, ⟨by rw [HAT.out, ← Bool.and_assoc, ← HBB.out]; rfl⟩, HBA⟩
   ·go_wp2_with fail
    go_roundg (p.b.length - (i + 1))
    case measure => have := HKI.out; have := HI2.out; omega
    case rel => exact ⟨i + 1, rx, by first | rfl | (simp [e4]; done), rfl, ⟨by have := HI2.out; omega⟩, ⟨by rw [HAT.out, ← Bool.and_assoc, ← HBB.out, HRX.out]; rfl⟩, HBA⟩
  ·obtain ⟨e1, e2⟩ := ltN hi
   have hil : i = p.b.length := by have := HKI.out; omega
   obtain rfl : bb = r1 := by
    rw [HBB.out, hil, List.take_length, ← HB16.out, ← HR1.out, may_all p]
   have HCH := am (Kd.C_below (hdrN_in HC3.out) HBR.out)
   clear hi hil HBB
   go_wp2_with (first
    | ((with_reducible refine gate_builtin (b := .append) (xs := #[.const (.slice none 0 0), .tmp 55]) rfl ?_); at_builtin; refine Kd.R_append_rows (hdrN w3) (w0 := w3) w3.heap.size rfl _ _ 79 92 (.slice none 0 0) 24 rfl Try.underlying79 info92 rfl (by show 0 < 1; decide) (by decide) (.slice none 0 0) ([] : List (List OpT)) p.b A p.b.length c (fun _ => True) (fun _ => False) rfl rfl (Kd.R_nil _ _ _ _ _) HCH.out (fun _ _ h => h) (fun _ h => h.elim) (fun _ _ => trivial) HBR.out HBR.out.size (by have := HFF.out.1; simp only [List.length_nil]; omega) ?_; intro v7 w7 hR7 hB7 hg7 hat7; clear hg7 hat7; obtain ⟨A7, c7, rfl⟩ := Kd.R_slice hR7; simp only [List.nil_append] at hR7 ⊢; have HR7 := am hR7; have HB7 := am hB7; clear hR7 hB7)
    | ((with_reducible refine gate_builtin (b := .append) (xs := #[.tmp 56, .tmp 58]) rfl ?_); at_builtin; refine Kd.R_append_rows (hdrN w3) (w0 := w3) w3.heap.size rfl _ _ 79 92 (.slice none 0 0) 24 rfl Try.underlying79 info92 rfl (by show 0 < 1; decide) (by decide) (.slice A7 p.b.length c7) p.b [l] (some ⟨w7.heap.size, 0, none⟩) 1 1 (fun _ => True) (fun _ => False) rfl rfl (Kd.R_alloc HR7.out _) (hdrN_one HLL.out HL3.out ((blk_cell (blk_new w7 _) 0).trans rfl)) (fun _ _ h => h) (fun _ h => h.elim) (fun _ _ => trivial) (below_alloc HB7.out _) (below_alloc HB7.out _).size (by have := HFF.out.1; omega) ?_; intro v8 w8 hR8 hB8 hg8 hat8; clear hg8 hat8; obtain ⟨A8, c8, rfl⟩ := Kd.R_slice hR8; have HR8 := am hR8; have HB8 := am hB8; have hst8 := plan_store w8 ⟨z32, p.b ++ [l]⟩ A8 c8 rfl; have hsz8 := planC_size (p := ⟨z32, p.b ++ [l]⟩) rfl A8 c8; have HI8 := am (planInfo (p := ⟨z32, p.b ++ [l]⟩) rfl A8 c8); have HX8 : Aside0 (Try.prog.built 81 [(1, .slice A8 (p.b ++ [l]).length c8)] = some (planC ⟨z32, p.b ++ [l]⟩ A8 c8).toArray) := ⟨built81 _ _ _⟩; obtain ⟨p8, hp8⟩ : ∃ p8, (planC ⟨z32, p.b ++ [l]⟩ A8 c8).toArray = p8 := ⟨_, rfl⟩; have HP8 := am hp8; rw [hp8] at hst8 hsz8 HI8 HX8; have HN8 := am (blk_new w8 (.cells p8 81)); clear hR8 hB8 hp8)
    | ((with_reducible refine gate_dst (N := 60) rfl ?_); refine wpList_build_cells rfl 81 _ rfl p8 ?hb ?_; case hb => (simp only [List.map_toArray, List.map_cons, List.map_nil]; exact HX8.out))
    | ((with_reducible refine gate_dst (N := 65) rfl ?_); refine wpList_load_row_g (by rfl) 81 (.tmp 12) rfl w8.heap.size rfl 81 p8 (0, 0) _ HN8.out Try.underlying81 rfl HI8.out ?_)
    | fail)
   have hrd := Kd.R_reads' HR8.out
   have hC8 := hdrN_out hrd.2.2 HB8.out
   have hm8 := mayp_call ⟨z32, p.b ++ [l]⟩ A8 c8 _ rfl hrd.2.1 (Kd.C_alloc hC8 (.cells p8 81)) (plan_fit hC8)
   rw [HP8.out] at hm8
   have HBL := am (below_step HB3.out (below_alloc HB8.out (.cells p8 81)))
   refine hm8.mono ?_
   rintro e_ w9 ⟨rfl, hb9⟩
   have HB9 := am (below_step HBL.out hb9)
   clear hb9 hrd hC8 hm8
   cases hmw : mayPl ⟨z32, p.b ++ [l]⟩
   ·clear hmw
    go_wp2_with fail
    go_ret
    exact ⟨by first | rfl | simp, HB9.out⟩
   ·obtain ⟨l1, l20, hmp⟩ := may_with hmw
    obtain rfl : bb = true := by rw [← HR1.out, hmp]
    have m1 : decide ((l.length : Int) ≥ 1) = true := decide_eq_true (by omega)
    have m2 : decide ((l.length : Int) ≤ 20) = true := decide_eq_true (by omega)
    have m3 : decide (1 ≤ l.length) = true := decide_eq_true l1
    have m4 : decide (l.length ≤ 20) = true := decide_eq_true l20
    clear hmw l1 l20 hmp
    go_wp2_with fail
    go_ret
    exact ⟨by first | rfl | simp, HB9.out⟩
theorem rolodexlaw18_CodeBatch.walk (m : PlanT) (A : Option Addr) (c : Nat) (B : Option Addr) (len cl : Nat) (l : List OpT) (w : World) (ok : PlanOk m) (hc : m.b.length ≤ c) (hC : Kd.C batK w A m.b.length m.b) (hn : l.length = len) (hcl : len ≤ cl) (hL : Kd.C opK w B len l) (hok : ∀ s ∈ l, OpOk s) :
  Calls Try.prog 29 #[.agg (planC m A c).toArray, .slice B len cl] w fun e w' => e = .returned (.bool true) ∧ Below w.heap.size w w' := by
 subst hn
 exact cbatch_main m A c w l B cl ok hc hC hcl hL
end
end Go.Proofs.Ytchaegfdcdlfaaa.X
namespace Go.Proofs.Ytchaegfdcdlfaaa.codeBatch
section
open Go.ChangeShapes Go.WideShapes Go.ChangeAt Go.RowKit
open Go.ChangeMaps (open_string shut_string)
theorem own : ownKnob Try.prog.godebug = none := by kernel_rfl
theorem laidOut : laidOutB Try.prog = true := by kernel_rfl
theorem lifted (os : Os) (started : os.Started) (H : Type) (enc : TypeId × Value → H) :
  ReturnsInHanded {} Try.checked os 29 .any (Rows.codeBatchSpec.pre6 enc Try.prog Try.f29 Rows.codeBatchRow.domain false) (Rows.codeBatchSpec.post enc Try.prog Try.f29 false true false false) := by
 refine returnsInHanded_of_change_sized (C := Try.checked) own started (by kernel_rfl) Try.func29
  (ChangeSpec.witness6 (enc := enc) (C := Try.checked) false ⟨#[], #[.agg #[.int .u8 0, .int .u8 0, .int .u8 0, .int .u8 0, .int .u8 0, .int .u8 0, .int .u8 0, .int .u8 0, .int .u8 0, .int .u8 0, .int .u8 0, .int .u8 0, .int .u8 0, .int .u8 0, .int .u8 0, .int .u8 0, .int .u8 0, .int .u8 0, .int .u8 0, .int .u8 0, .int .u8 0, .int .u8 0, .int .u8 0, .int .u8 0, .int .u8 0, .int .u8 0, .int .u8 0, .int .u8 0, .int .u8 0, .int .u8 0, .int .u8 0, .int .u8 0, .slice none 0 0], .slice none 0 0], []⟩ 8 (by kernel_rfl) (by kernel_rfl) (by kernel_rfl) (by kernel_rfl)) ?_
 intro W base args ds gs before hval0 hW hcnd hsz0 _
 have hsz : (DataW.weightsEach Try.prog (Try.f29.params.toList ++ Rows.codeBatchSpec.plain.varTypes Try.prog) (ds ++ gs)).all (· ≤ reachBytes) = true := hsz0
 have hval : ∀ (j : Nat) t v, Try.f29.params[j]? = some t → args[j]? = some v → Value.okWide Try.prog W .any base t v := hval0
 have hW' := hW
 obtain ⟨p, q, hA0, hV, rfl, hfz, hnd⟩ := hW
 have hA : DataW.TrodAll enc Try.prog W 0 (fun _ => true) true Try.f29.params.toList args.toList ds p := hA0
 rw [Try.params29] at hA hval hsz
 obtain ⟨v0, vs0, d0, ds0, p0, q0, hargs, rfl, rfl, h0, r0⟩ := trodAll_cons hA
 obtain ⟨v1, vs1, d1, ds1, p1, q1, rfl, rfl, rfl, h1, r1⟩ := trodAll_cons r0
 obtain ⟨rfl, rfl, rfl⟩ := trodAll_nil r1
 obtain rfl : args = #[v0, v1] := by cases args; simp_all
 obtain ⟨rfl, rfl⟩ := trodVars_none hV
 have k0 := h0
 have lt0 : ∀ x ∈ p0, x.block < W.heap.size := by obtain ⟨m, hm⟩ := k0; exact DataW.trod_lt m _ _ _ hm
 obtain ⟨l0, a0, c0, rfl, o0, n0, b0⟩ := X.open_plan (hval 0 81 v0 rfl rfl) h0
 obtain ⟨a1, len1, cap1, rfl⟩ := okWide_slice Try.underlying92 (hval 1 92 v1 rfl rfl)
 have k1 := h1
 have lt1 : ∀ x ∈ p1, x.block < W.heap.size := by obtain ⟨m, hm⟩ := k1; exact DataW.trod_lt m _ _ _ hm
 obtain ⟨l1, n1, c1, b1, o1⟩ := X.open_ops h1
 clear hA0 hval0 hsz0 hsz
 refine (X.rolodexlaw18_CodeBatch.walk l0 a0 c0 a1 len1 cap1 l1 W o0 n0 b0 n1 c1 b1 o1).mono fun e W' ⟨he, bel⟩ => ?_
 subst he
 exact ⟨_, rfl, _, _, _, [], _, [], hW', trodAll_mk1 (shut_bool Try.underlying4 _), (trodAll_cons_mk (Below.trod laidOut (by kernel_rfl) (of_decide_eq_true (by kernel_rfl)) k0 bel lt0) (trodAll_cons_mk (Below.trod laidOut (by kernel_rfl) (of_decide_eq_true (by kernel_rfl)) k1 bel lt1) trodAll_mk0)), rfl, bel.frame _, fun h => by cases h⟩
theorem clos0 : (J.closT Try.prog 185 [29] []).isSome = true := by kernel_rfl
theorem clos1 : Try.prog.closure 29 = (J.closT Try.prog 185 [29] []).getD [] := J.clos_eq (of_decide_eq_true (by kernel_rfl)) clos0
theorem fact1 : Try.prog.inPlace 29 = [] := by unfold Program.inPlace; rw [clos1]; kernel_rfl
theorem fact2 : Try.prog.unfollowed 29 = true := by unfold Program.unfollowed; rw [clos1]; kernel_rfl
theorem fact3 : Try.prog.recurses 29 = true := by unfold Program.recurses; rw [fact2]; rfl
theorem fact4 : Try.prog.varsNamed 29 = [] := by unfold Program.varsNamed; rw [clos1]; kernel_rfl
theorem facts : joinedFacts Try.prog 29 Try.f29 Rows.codeBatchSpec Rows.codeBatchRow = true := by
 unfold joinedFacts
 simp only [Bool.and_eq_true]
 repeat' apply And.intro
 all_goals first | (with_reducible exact J.mayEnter) | (rw [J.liftsFinal]; kernel_rfl) | (rw [J.make]; kernel_rfl) | (rw [fact1]; kernel_rfl) | (rw [fact2]; kernel_rfl) | (rw [fact3]; kernel_rfl) | (rw [fact4]; kernel_rfl) | kernel_rfl
theorem over : Rows.codeBatchRow.holds Try.pinned (OpenSpec.ofChange Rows.codeBatchSpec) :=
 OpenClaim.holds_of_wide 29 Try.f29 rfl rfl rfl rfl rfl rfl rfl ⟨rfl, rfl, rfl, rfl, rfl⟩ rfl rfl rfl rfl rfl (by kernel_rfl) Try.func29 facts
  (of_decide_eq_true (by kernel_rfl)) (by unfold Func.isWrapper; first | (rw [if_pos (by decide +kernel)]; kernel_rfl) | (rw [if_neg (by decide +kernel)]; exact ⟨rfl, rfl⟩))
  (fun os started H enc _ => lifted os started H enc)
theorem proved : Rows.CodeBatchSaid := over
end
end Go.Proofs.Ytchaegfdcdlfaaa.codeBatch
namespace Go.Proofs.Ytchaegfdcdlfaaa
theorem codeBatch_holds : Rows.CodeBatchSaid := codeBatch.proved
end Go.Proofs.Ytchaegfdcdlfaaa
