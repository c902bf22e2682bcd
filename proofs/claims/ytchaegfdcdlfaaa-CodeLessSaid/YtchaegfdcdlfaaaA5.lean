/- Texts of this claim, what it reaches -/
import Derived.Test.YtchaegfdcdlfaaaA4
set_option linter.unusedVariables false
set_option linter.unusedSimpArgs false
set_option maxRecDepth 100000
namespace Go.Proofs.Ytchaegfdcdlfaaa.X
section
open Go.RowKit Go.Proofs.YtchaegfdcdlfaaaW.PrintWords Go.Proofs.YtchaegfdcdlfaaaW.PrintLast Go.Proofs.YtchaegfdcdlfaaaW.PrintMore
attribute [local go_sem] max2_int min2_int max_two min_two max_three min_three max_four min_four
def delta_Put.l0 : Nat → List Int → List (S67) → Int → Int → Option (List Int × Bool)
 | 0, _, _, _, _ => none
 | k + 1, x4, x14, x15, x16 => if x16 < x15 then (if 0 ≤ x16 then (if x16 < (x14.length : Int) then (if (rd_T67 x14 x16).f0 = true then ((wire_Put.f k (IntKind.u64.wrap ((rd_T67 x14 x16).f1))).bind fun t387 => ((wire_Put.f k (IntKind.u64.wrap ((rd_T67 x14 x16).f2))).bind fun t390 => ((slices_Concat_byte_byte.f k (([x4, (([1] : List Int)), t387, t390] : List (List Int)))).bind fun t396 => (delta_Put.l0 k t396 x14 x15 (wrap64 (x16 + 1)))))) else ((wire_Text.f k ((rd_T67 x14 x16).f3)).bind fun t402 => ((slices_Concat_byte_byte.f k (([x4, (([0] : List Int)), t402] : List (List Int)))).bind fun t408 => (delta_Put.l0 k t408 x14 x15 (wrap64 (x16 + 1)))))) else (none)) else (none)) else (some (x4, true))
def delta_Put.f (k : Nat) (l0 : List (S67)) : Option (List Int × Bool) := (delta_May.f k l0).bind fun t378 => (if t378 = true then ((wire_Put.f k (IntKind.u64.wrap ((l0.length : Int)))).bind fun t379 => (delta_Put.l0 k t379 l0 (l0.length : Int) 0)) else (some (([] : List Int), false)))
def delta_Put.T8 : Bool × List (List Nat × List Nat) := (true, [([], []), ([], []), ([], []), ([2], [2]), ([3], [3]), ([4], [4]), ([], []), ([6], [6]), ([7], [7]), ([8, 5], [8]), ([0, 1, 5, 9], [0, 1, 5, 9]), ([10, 9], [10]), ([11, 11, 0, 1, 2, 3, 4, 5, 6, 7, 8, 9, 10, 11], [0, 11])])
def delta_Put.B8 : List Nat := [0, 0, 0, 4, 12, 28, 0, 64, 192, 508, 1023, 2047, 4095]
theorem delta_Put.tab8 : rtab .any (opsOf Try.f50 8) = delta_Put.T8 := by kernel_rfl
theorem delta_Put.bits8 : waitsOk delta_Put.T8.2 delta_Put.B8 = true := by kernel_rfl
set_option maxHeartbeats 8000000 in
theorem delta_Put.calls (k : Nat) (A0 : Option Addr) (c0 : Nat) (l0 : List (S67)) (r1 : List Int) (r2 : Bool) (w : World) (hr0 : Kd.C k67 w A0 l0.length l0) (hc0 : l0.length ≤ c0) (h : delta_Put.f k l0 = some (r1, r2)) :
  Calls Try.prog 50 #[.slice A0 l0.length c0] w fun e w' => ∃ v0_ : Value, e = .returned (.tuple #[v0_, .bool r2]) ∧ Kd.R (Kd.int .u8) 5 w' w.heap.size (fun _ => True) v0_ r1 ∧ Below w.heap.size w w' := by
 have hu67 := Try.underlying67
 have HR0 := am hr0
 have HC0 := am hc0
 clear hr0 hc0
 have HB := am (Below.refl w.heap.size w)
 have H : ((delta_May.f k l0).bind fun t378 => (if t378 = true then ((wire_Put.f k (IntKind.u64.wrap ((l0.length : Int)))).bind fun t379 => (delta_Put.l0 k t379 l0 (l0.length : Int) 0)) else (some (([] : List Int), false)))) = some (r1, r2) := h
 clear h
 replace H := Option.bind_eq_some_iff.mp H
 obtain ⟨t378, A20, H⟩ := H
 replace H : (if t378 = true then ((wire_Put.f k (IntKind.u64.wrap ((l0.length : Int)))).bind fun t379 => (delta_Put.l0 k t379 l0 (l0.length : Int) 0)) else (some (([] : List Int), false))) = some (r1, r2) := H
 have A2 := am A20
 clear A20
 by_cases c3 : t378 = true
 ·subst c3
  have H1 : ((wire_Put.f k (IntKind.u64.wrap ((l0.length : Int)))).bind fun t379 => (delta_Put.l0 k t379 l0 (l0.length : Int) 0)) = some (r1, r2) := by rw [if_pos rfl] at H; exact H
  clear H
  have H := H1
  clear H1
  replace H := Option.bind_eq_some_iff.mp H
  obtain ⟨t379, A40, H⟩ := H
  replace H : (delta_Put.l0 k t379 l0 (l0.length : Int) 0) = some (r1, r2) := H
  have A4 := am A40
  clear A40
  have H' := am H
  clear H
  go_enter Try.func50, Try.ntmps50
  go_wp2_with (first | ((with_reducible refine gate_callee (f := 57) rfl ?_); refine goesL_ (some 8) rfl rfl Try.func57 (by kernel_rfl) rfl #[.slice A0 l0.length c0] rfl (by (try simp only [List.map_toArray, List.map_cons, List.map_nil]); first | done | rfl | (simp only [List.length_drop, List.length_take]; rfl)) ?_; (with_reducible refine (delta_May.calls k _ _ l0 true _ ?side1 ?side2 A2.out).mono ?_); (case side1 => repeat (first | exact HR0.out | (with_reducible refine Kd.C_alloc ?_ _) | (with_reducible refine Kd.C_drewN ?_ _) | (with_reducible refine Kd.C_drew ?_))); (case side2 => exact HC0.out); rintro e w5 ⟨rfl, hb⟩; refine ⟨_, rfl, ?_⟩; have n0_ := am (below_step (bw HB.out) hb); clear HB; have HB := n0_; clear n0_; (try clear hb); (try clear hb2); (try clear hk); (try clear hi)) | ((with_reducible refine gate_callee (f := 84) rfl ?_); refine goesL_ (some 13) rfl rfl Try.func84 (by kernel_rfl) rfl #[.int .u64 (IntKind.u64.wrap ((l0.length : Int)))] rfl (by (try simp only [List.map_toArray, List.map_cons, List.map_nil]); first | done | rfl | (simp only [List.length_drop, List.length_take]; rfl)) ?_; (with_reducible refine (wire_Put.calls k (IntKind.u64.wrap ((l0.length : Int))) t379 _ A4.out).mono ?_); rintro e w6 ⟨v380, rfl, ho0, hb⟩; refine ⟨_, rfl, ?_⟩; have n0_ := am (Kd.R_lower ho0 (below_size (bw HB.out))); have n1_ := am (below_step (bw HB.out) hb); clear HB; have HO381 := n0_; have HB := n1_; clear n0_ n1_; (try clear hb); (try clear hb2); (try clear hk); (try clear hi); (try clear ho0)))
  go_loopg [4, 16] k (fun kq v4 v16 w' => ∃ (x4_1 : List Int) (x16_1 : Int), v16 = .int .i64 x16_1 ∧ Aside0 (delta_Put.l0 kq x4_1 l0 (l0.length : Int) x16_1 = some (r1, r2)) ∧ Aside0 (kq ≤ k) ∧ Aside0 (Kd.R (Kd.int .u8) 5 w' w.heap.size (fun _ => True) v4 x4_1) ∧ Aside0 (Below w.heap.size w w'))
  case atStart => exact ⟨(t379), (0), (by first | rfl | (simp; done) | (simp [*]; done)), H', ⟨Nat.le_refl _⟩, ⟨rr HO381.out⟩, ⟨bw HB.out⟩⟩
  case round =>
   clear H'
   try clear p2
   try clear c3
   try clear c5
   obtain ⟨x4_1, x16_1, rfl, HA, HK1, HO_4, HB⟩ := hrel
   cases gk with
   | zero => exact absurd HA.out (by simp [delta_Put.l0])
   | succ k1 =>
    have H := HA.out
    clear HA
    simp only [delta_Put.l0] at H
    by_cases c7 : x16_1 < (l0.length : Int)
    ·rw [if_pos c7] at H
     have c7b0 : decide (x16_1 < (l0.length : Int)) = true := decide_eq_true c7
     clear c7
     by_cases c8 : 0 ≤ x16_1
     ·rw [if_pos c8] at H
      have c8b0 : decide (0 ≤ x16_1) = true := decide_eq_true c8
      clear c8
      by_cases c9 : x16_1 < (l0.length : Int)
      ·rw [if_pos c9] at H
       have c9b0 : decide (x16_1 < (l0.length : Int)) = true := decide_eq_true c9
       clear c9
       obtain ⟨bq10, hbq10⟩ : ∃ b_ : Bool, b_ = ((rd_T67 l0 x16_1).f0) := ⟨_, rfl⟩
       replace H : (if bq10 = true then ((wire_Put.f k1 (IntKind.u64.wrap ((rd_T67 l0 x16_1).f1))).bind fun t387 => ((wire_Put.f k1 (IntKind.u64.wrap ((rd_T67 l0 x16_1).f2))).bind fun t390 => ((slices_Concat_byte_byte.f k1 (([x4_1, (([1] : List Int)), t387, t390] : List (List Int)))).bind fun t396 => (delta_Put.l0 k1 t396 l0 (l0.length : Int) (wrap64 (x16_1 + 1)))))) else ((wire_Text.f k1 ((rd_T67 l0 x16_1).f3)).bind fun t402 => ((slices_Concat_byte_byte.f k1 (([x4_1, (([0] : List Int)), t402] : List (List Int)))).bind fun t408 => (delta_Put.l0 k1 t408 l0 (l0.length : Int) (wrap64 (x16_1 + 1)))))) = some (r1, r2) := by rw [← hbq10] at H; exact H
       have Nbq10 := am hbq10
       clear hbq10
       by_cases c11 : bq10 = true
       ·subst c11
        have H1 : ((wire_Put.f k1 (IntKind.u64.wrap ((rd_T67 l0 x16_1).f1))).bind fun t387 => ((wire_Put.f k1 (IntKind.u64.wrap ((rd_T67 l0 x16_1).f2))).bind fun t390 => ((slices_Concat_byte_byte.f k1 (([x4_1, (([1] : List Int)), t387, t390] : List (List Int)))).bind fun t396 => (delta_Put.l0 k1 t396 l0 (l0.length : Int) (wrap64 (x16_1 + 1)))))) = some (r1, r2) := by rw [if_pos rfl] at H; exact H
        clear H
        have H := H1
        clear H1
        obtain ⟨y384, hy384⟩ : ∃ y_ : List Int, y_ = (([1] : List Int)) := ⟨_, rfl⟩
        replace H : ((wire_Put.f k1 (IntKind.u64.wrap ((rd_T67 l0 x16_1).f1))).bind fun t387 => ((wire_Put.f k1 (IntKind.u64.wrap ((rd_T67 l0 x16_1).f2))).bind fun t390 => ((slices_Concat_byte_byte.f k1 (([x4_1, y384, t387, t390] : List (List Int)))).bind fun t396 => (delta_Put.l0 k1 t396 l0 (l0.length : Int) (wrap64 (x16_1 + 1)))))) = some (r1, r2) := by first | (rw [hy384]; with_reducible exact H) | (have H2_ := (Option.bind_some _ _).symm.trans H; rw [hy384]; with_reducible exact H2_) | (have H2_ := (Option.bind_some _ _).symm.trans H; with_reducible exact H2_) | with_reducible exact H | (rw [hy384]; exact H) | exact H
        have Ny384 := am hy384
        clear hy384
        replace H := Option.bind_eq_some_iff.mp H
        obtain ⟨t387, A120, H⟩ := H
        replace H : ((wire_Put.f k1 (IntKind.u64.wrap ((rd_T67 l0 x16_1).f2))).bind fun t390 => ((slices_Concat_byte_byte.f k1 (([x4_1, y384, t387, t390] : List (List Int)))).bind fun t396 => (delta_Put.l0 k1 t396 l0 (l0.length : Int) (wrap64 (x16_1 + 1))))) = some (r1, r2) := H
        have A12 := am A120
        clear A120
        replace H := Option.bind_eq_some_iff.mp H
        obtain ⟨t390, A130, H⟩ := H
        replace H : ((slices_Concat_byte_byte.f k1 (([x4_1, y384, t387, t390] : List (List Int)))).bind fun t396 => (delta_Put.l0 k1 t396 l0 (l0.length : Int) (wrap64 (x16_1 + 1)))) = some (r1, r2) := H
        have A13 := am A130
        clear A130
        obtain ⟨y393, hy393⟩ : ∃ y_ : List (List Int), y_ = (([x4_1, y384, t387, t390] : List (List Int))) := ⟨_, rfl⟩
        replace H : ((slices_Concat_byte_byte.f k1 y393).bind fun t396 => (delta_Put.l0 k1 t396 l0 (l0.length : Int) (wrap64 (x16_1 + 1)))) = some (r1, r2) := by first | (rw [hy393]; with_reducible exact H) | (have H2_ := (Option.bind_some _ _).symm.trans H; rw [hy393]; with_reducible exact H2_) | (have H2_ := (Option.bind_some _ _).symm.trans H; with_reducible exact H2_) | with_reducible exact H | (rw [hy393]; exact H) | exact H
        have Ny393 := am hy393
        clear hy393
        replace H := Option.bind_eq_some_iff.mp H
        obtain ⟨t396, A140, H⟩ := H
        replace H : (delta_Put.l0 k1 t396 l0 (l0.length : Int) (wrap64 (x16_1 + 1))) = some (r1, r2) := H
        have A14 := am A140
        clear A140
        have H' := am H
        clear H
        have p382 : 0 ≤ (x16_1 : Int) := of_decide_eq_true (by first | (with_reducible assumption) | assumption)
        have q382 : x16_1 < (l0.length : Int) := of_decide_eq_true (by first | (with_reducible assumption) | assumption)
        obtain ⟨ad382, e382, hx382_0, hx382_1, hx382_2, hx382_3⟩ := at_T67 HR0.out x16_1 p382 q382
        (try rw [← Nbq10.out] at hx382_0)
        cases e382
        replace hx382_0 := (HB.out.cell (World.block_lt_of_cell? w _ hx382_0)).trans hx382_0
        replace hx382_1 := (HB.out.cell (World.block_lt_of_cell? w _ hx382_1)).trans hx382_1
        replace hx382_2 := (HB.out.cell (World.block_lt_of_cell? w _ hx382_2)).trans hx382_2
        replace hx382_3 := (HB.out.cell (World.block_lt_of_cell? w _ hx382_3)).trans hx382_3
        replace p382 := eq_true p382
        replace q382 := eq_true q382
        try go_wp2_with (first | ((with_reducible refine gate_dst (N := 6) rfl ?_); refine box_event ?hg (N := 6) ?hd (cs := #[.bool false, .int .i64 0, .int .i64 0, .string (⟨#[]⟩ : ByteArray)]) (t := 67) ?hr ?_; (case hd => rfl); (case hg => rfl); (case hr => first | (go_simp; done) | (go_simp; rfl)); intro gb383 hg w15 hbox hb; have n0_ := am (Kd.R_below (rr HO_4.out) hb); have n1_ := am (below_step (bw HB.out) hb); have n2_ := am (hbox); have n3_ := am ((by rw [hg]; exact (below_size (bw HB.out)) : w.heap.size ≤ gb383)); have n4_ := am ((by rw [hg]; exact (below_size (bw HB.out)) : w.heap.size ≤ gb383)); clear HO_4; clear HB; have HO_4 := n0_; have HB := n1_; have BK383 := n2_; have GW383 := n3_; have GE383 := n4_; clear n0_ n1_ n2_ n3_ n4_; clear hb hbox hg; have hcz16_0 : w15.cell? ⟨gb383, 0, none⟩ = some (.bool false) := (blk_cell BK383.out 0).trans rfl; have hcz16_1 : w15.cell? ⟨gb383, 1, none⟩ = some (.int .i64 0) := (blk_cell BK383.out 1).trans rfl; have hcz16_2 : w15.cell? ⟨gb383, 2, none⟩ = some (.int .i64 0) := (blk_cell BK383.out 2).trans rfl; have hcz16_3 : w15.cell? ⟨gb383, 3, none⟩ = some (.string (⟨#[]⟩ : ByteArray)) := (blk_cell BK383.out 3).trans rfl; have hfz16_0 := blk_frozen BK383.out 0; have hfz16_1 := blk_frozen BK383.out 1; have hfz16_2 := blk_frozen BK383.out 2; have hfz16_3 := blk_frozen BK383.out 3))
        have n0_ : Aside0 (Kd.R (Kd.int .u8) 5 ((((w15.setCell ⟨gb383, 0, none⟩ (.bool true)).setCell ⟨gb383, 1, none⟩ (.int .i64 ((rd_T67 l0 x16_1).f1))).setCell ⟨gb383, 2, none⟩ (.int .i64 ((rd_T67 l0 x16_1).f2))).setCell ⟨gb383, 3, none⟩ (.string ((rd_T67 l0 x16_1).f3))) w.heap.size (fun _ => True) u4 x4_1) := ⟨by (with_reducible repeat (first | apply Kd.R_alloc | apply Kd.R_drewN | apply Kd.R_drew)); exact Kd.R_mono (Kd.R_far (p := ⟨gb383, 3, none⟩) (Kd.R_far (p := ⟨gb383, 2, none⟩) (Kd.R_far (p := ⟨gb383, 1, none⟩) (Kd.R_far (p := ⟨gb383, 0, none⟩) (Kd.R_types HO_4.out BK383.out (by decide)) (fun _ hk => by first | trivial | exact hk | exact ⟨hk.2, hk.1⟩ | exact ⟨hk.2, hk.1.2⟩ | exact hk.2 | exact hk.1 | exact hk.1.2) (.bool true)) (fun _ hk => by first | trivial | exact hk | exact ⟨hk.2, hk.1⟩ | exact ⟨hk.2, hk.1.2⟩ | exact hk.2 | exact hk.1 | exact hk.1.2) (.int .i64 ((rd_T67 l0 x16_1).f1))) (fun _ hk => by first | trivial | exact hk | exact ⟨hk.2, hk.1⟩ | exact ⟨hk.2, hk.1.2⟩ | exact hk.2 | exact hk.1 | exact hk.1.2) (.int .i64 ((rd_T67 l0 x16_1).f2))) (fun _ hk => by first | trivial | exact hk | exact ⟨hk.2, hk.1⟩ | exact ⟨hk.2, hk.1.2⟩ | exact hk.2 | exact hk.1 | exact hk.1.2) (.string ((rd_T67 l0 x16_1).f3))) (fun _ hk => trivial)⟩
        have n1_ : Aside0 (((((w15.setCell ⟨gb383, 0, none⟩ (.bool true)).setCell ⟨gb383, 1, none⟩ (.int .i64 ((rd_T67 l0 x16_1).f1))).setCell ⟨gb383, 2, none⟩ (.int .i64 ((rd_T67 l0 x16_1).f2))).setCell ⟨gb383, 3, none⟩ (.string ((rd_T67 l0 x16_1).f3))).heap[gb383]? = some (.cells #[.bool true, .int .i64 ((rd_T67 l0 x16_1).f1), .int .i64 ((rd_T67 l0 x16_1).f2), .string ((rd_T67 l0 x16_1).f3)] 67 (0, 0))) := ⟨by (with_reducible repeat (first | refine blk_drewN ?_ _ | refine blk_drew ?_ | refine blk_alloc ?_ _)); refine blk_put (cs := #[.bool true, .int .i64 ((rd_T67 l0 x16_1).f1), .int .i64 ((rd_T67 l0 x16_1).f2), .string (⟨#[]⟩ : ByteArray)]) ?_ 3 _ rfl; (with_reducible repeat (first | refine blk_drewN ?_ _ | refine blk_drew ?_ | refine blk_alloc ?_ _)); refine blk_put (cs := #[.bool true, .int .i64 ((rd_T67 l0 x16_1).f1), .int .i64 0, .string (⟨#[]⟩ : ByteArray)]) ?_ 2 _ rfl; (with_reducible repeat (first | refine blk_drewN ?_ _ | refine blk_drew ?_ | refine blk_alloc ?_ _)); refine blk_put (cs := #[.bool true, .int .i64 0, .int .i64 0, .string (⟨#[]⟩ : ByteArray)]) ?_ 1 _ rfl; (with_reducible repeat (first | refine blk_drewN ?_ _ | refine blk_drew ?_ | refine blk_alloc ?_ _)); refine blk_put (cs := #[.bool false, .int .i64 0, .int .i64 0, .string (⟨#[]⟩ : ByteArray)]) ?_ 0 _ rfl; (with_reducible repeat (first | refine blk_drewN ?_ _ | refine blk_drew ?_ | refine blk_alloc ?_ _)); exact BK383.out⟩
        have n2_ : Aside0 (Below w.heap.size w ((((w15.setCell ⟨gb383, 0, none⟩ (.bool true)).setCell ⟨gb383, 1, none⟩ (.int .i64 ((rd_T67 l0 x16_1).f1))).setCell ⟨gb383, 2, none⟩ (.int .i64 ((rd_T67 l0 x16_1).f2))).setCell ⟨gb383, 3, none⟩ (.string ((rd_T67 l0 x16_1).f3)))) := ⟨by repeat (first | (with_reducible first | exact HB.out | apply below_alloc | apply pw_below_drewN | apply below_drew1 | refine below_set ?_ GE383.out) | exact HB.out)⟩
        (try clear HO_4)
        (try clear BK383)
        (try clear HB)
        generalize ((((w15.setCell ⟨gb383, 0, none⟩ (.bool true)).setCell ⟨gb383, 1, none⟩ (.int .i64 ((rd_T67 l0 x16_1).f1))).setCell ⟨gb383, 2, none⟩ (.int .i64 ((rd_T67 l0 x16_1).f2))).setCell ⟨gb383, 3, none⟩ (.string ((rd_T67 l0 x16_1).f3))) = w17 at n0_ n1_ n2_ ⊢
        have HO_4 := n0_
        have BK383 := n1_
        have HB := n2_
        clear n0_ n1_ n2_
        have n0_ := am (Kd.R_drew HO_4.out)
        have n1_ := am (blk_drew BK383.out)
        have n2_ := am (below_drew1 HB.out)
        clear HO_4
        clear BK383
        clear HB
        have HO_4 := n0_
        have BK383 := n1_
        have HB := n2_
        clear n0_ n1_ n2_
        refine start_ (n := 13) (S := fun w' => True) (ds := []) #[false, false, false, false, false, false, false, false, false, false, false, false, false] (by kernel_rfl) rfl rfl trivial (fun hHeld => ?_); refine with_tabW delta_Put.tab8 delta_Put.bits8 (fun HT_ HW_ => ?_)
        generalize w17.drew = w18 at HO_4 BK383 HB hHeld ⊢
        refine pure_ (i := 0) (N := some 22) (v := ?_) (a' := ?_) #[true, false, false, false, false, false, false, false, false, false, false, false, false] rfl rfl (any_of HT_.out (by kernel_rfl)) (fun _ _ _ h => h) (Or.inl ⟨by rfl, ?_⟩) ?_ ?_
        rotate_left
        ·intro w'
         go_simp
         with_reducible rfl
        rotate_left
        ·simp only [Act.put, List.setIfInBounds_toArray, List.set_cons_zero, List.set_cons_succ, i64_w, i32_w]
         rfl
        refine pure_ (i := 2) (N := some 24) (v := ?_) (a' := ?_) #[true, false, true, false, false, false, false, false, false, false, false, false, false] rfl rfl (any_of HT_.out (by kernel_rfl)) (fun _ _ _ h => h) (Or.inl ⟨by rfl, ?_⟩) ?_ ?_
        rotate_left
        ·intro w'
         go_simp
         with_reducible rfl
        rotate_left
        ·simp only [Act.put, List.setIfInBounds_toArray, List.set_cons_zero, List.set_cons_succ, i64_w, i32_w]
         rfl
        refine pure_ (i := 6) (N := some 28) (v := ?_) (a' := ?_) #[true, false, true, false, false, false, true, false, false, false, false, false, false] rfl rfl (any_of HT_.out (by kernel_rfl)) (fun _ _ _ h => h) (Or.inl ⟨by rfl, ?_⟩) ?_ ?_
        rotate_left
        ·intro w'
         go_simp
         with_reducible rfl
        rotate_left
        ·simp only [Act.put, List.setIfInBounds_toArray, List.set_cons_zero, List.set_cons_succ, i64_w, i32_w]
         rfl
        refine inv_at [1, 3, 4, 5, 7, 8, 9, 10, 11, 12] (fun a0_ b a w' => ∃ (v385 : Value) (v388 : Value) (v391 : Value) (v394 : Value) (v397 : Value) (m12_ : Value), a = putSel a0_ b [(1, 23, v385), (3, 25, .int .i64 ((rd_T67 l0 x16_1).f1)), (4, 26, .int .u64 (IntKind.u64.wrap ((rd_T67 l0 x16_1).f1))), (5, 27, v388), (7, 29, .int .i64 ((rd_T67 l0 x16_1).f2)), (8, 30, .int .u64 (IntKind.u64.wrap ((rd_T67 l0 x16_1).f2))), (9, 31, v391), (10, 32, v394), (11, 33, v397), (12, 4, m12_)] ∧ (b 10 = false → Kd.R (Kd.int .u8) 5 w' w.heap.size (fun _ => True) u4 x4_1) ∧ (w'.heap[gb383]? = some (.cells #[.bool true, .int .i64 ((rd_T67 l0 x16_1).f1), .int .i64 ((rd_T67 l0 x16_1).f2), .string ((rd_T67 l0 x16_1).f3)] 67 (0, 0))) ∧ (Below w.heap.size w w') ∧ (b 1 = true → b 10 = false → Kd.R (Kd.int .u8) 5 w' w.heap.size (fun k_ => some k_ ≠ (u4 : Value).ownBlock) v385 y384) ∧ (b 5 = true → b 10 = false → Kd.R (Kd.int .u8) 5 w' w.heap.size (fun k_ => some k_ ≠ (u4 : Value).ownBlock) v388 t387) ∧ (b 9 = true → b 10 = false → Kd.R (Kd.int .u8) 5 w' w.heap.size (fun k_ => some k_ ≠ (u4 : Value).ownBlock) v391 t390) ∧ (b 10 = true → Kd.N (Kd.slice 5 (Kd.int .u8)) 40 w' w.heap.size (fun k_ => k_ ≠ gb383) v394 y393) ∧ (b 11 = true → Kd.R (Kd.int .u8) 5 w' w.heap.size (fun _ => True) v397 t396) ∧ (b 12 = true → (m12_ : Value) = v397)) HT_.out HW_.out (by kernel_rfl) (by kernel_rfl) ?_ ?_ ?_
        ·exact ⟨.bool false, .bool false, .bool false, .bool false, .bool false, .bool false, by simp only [putSel, Bool.false_eq_true, if_false], fun _ => HO_4.out, BK383.out, HB.out, fun h_ => absurd h_ (by decide), fun h_ => absurd h_ (by decide), fun h_ => absurd h_ (by decide), fun h_ => absurd h_ (by decide), fun h_ => absurd h_ (by decide), fun h_ => absurd h_ (by decide)⟩
        ·skip
         clear BK383 HB HO_4
         refine steps_cons ?_ ?_
         ·rintro b a w' ⟨v385, v388, v391, v394, v397, m12_, ha, Q_HO_4, Q_BK383, Q_HB, Q_HO386, Q_HO389, Q_HO392, Q_HO395, Q_HO398, Q_X12_⟩ hb_ hon hoff
          refine ⟨_, rfl, fun K hK => ?_⟩
          replace ha := am ha
          have HO_4 := am (Q_HO_4 (hoff 10 (by kernel_rfl)))
          have BK383 := am Q_BK383
          have HB := am Q_HB
          refine Kd.R_lit_step (Kd.int .u8) _ 5 ?hg (N := 23) ?hd (xs := ([1] : List Int)) (inner := [.int .u8 1]) (ok := fun _ => True) (okp := fun _ => True) ?hr ?hp (fun _ hk => hk) trivial (Below.refl _ _) (Nat.le_refl _) (by simp) ?_; (case hd => rfl); (case hg => rfl); (case hr => first | (go_simp; done) | (go_simp; rfl)); (case hp => exact (Reps.one (show Kd.M (Kd.int .u8) _ _ _ 1 [.int .u8 1] from rfl) (Reps.none _ _)))
          intro v385 w19 ho20 hb hg_ hnew_
          clear hg_ hnew_
          (first | rw [← Ny384.out] at ho20 | (simp only [Int.reduceToNat] at ho20; rw [← Ny384.out] at ho20))
          have n0_ := am (Kd.R_elder' (rr HO_4.out) (Kd.R_base ho20) hb)
          have n1_ := am (Kd.R_lower (Kd.R_new' ho20 (Kd.R_lt (rr HO_4.out))) (below_size (by repeat (first | (with_reducible first | exact HB.out | apply below_alloc | apply pw_below_drewN | apply below_drew1 | refine below_set ?_ GE383.out) | exact HB.out))))
          have n2_ := am (blk_below (g := gb383) (o := .cells #[.bool true, .int .i64 ((rd_T67 l0 x16_1).f1), .int .i64 ((rd_T67 l0 x16_1).f2), .string ((rd_T67 l0 x16_1).f3)] 67 (0, 0)) (bk BK383.out) hb)
          have n3_ := am (below_step (by repeat (first | (with_reducible first | exact HB.out | apply below_alloc | apply pw_below_drewN | apply below_drew1 | refine below_set ?_ GE383.out) | exact HB.out)) hb)
          have z_HO389 := fun (h0_ : b 5 = true) (h1_ : b 10 = false) => (show Kd.R (Kd.int .u8) 5 w19 w.heap.size (fun k_ => some k_ ≠ (u4 : Value).ownBlock) v388 t387 from by first | exact (Kd.R_elder' (by (with_reducible repeat (first | apply Kd.R_alloc | apply Kd.R_drewN | apply Kd.R_drew)); exact (Q_HO389 h0_ h1_)) (Kd.R_base ho20) hb) | exact Kd.R_mono (Kd.R_elder' (by (with_reducible repeat (first | apply Kd.R_alloc | apply Kd.R_drewN | apply Kd.R_drew)); exact (Q_HO389 h0_ h1_)) (Kd.R_base ho20) hb) (fun _ h_ => by first | trivial | exact h_ | exact h_.1))
          have z_HO392 := fun (h0_ : b 9 = true) (h1_ : b 10 = false) => (show Kd.R (Kd.int .u8) 5 w19 w.heap.size (fun k_ => some k_ ≠ (u4 : Value).ownBlock) v391 t390 from by first | exact (Kd.R_elder' (by (with_reducible repeat (first | apply Kd.R_alloc | apply Kd.R_drewN | apply Kd.R_drew)); exact (Q_HO392 h0_ h1_)) (Kd.R_base ho20) hb) | exact Kd.R_mono (Kd.R_elder' (by (with_reducible repeat (first | apply Kd.R_alloc | apply Kd.R_drewN | apply Kd.R_drew)); exact (Q_HO392 h0_ h1_)) (Kd.R_base ho20) hb) (fun _ h_ => by first | trivial | exact h_ | exact h_.1))
          clear HO_4
          clear BK383
          clear HB
          have HO_4 := n0_
          have HO386 := n1_
          have BK383 := n2_
          have HB := n3_
          clear n0_ n1_ n2_ n3_
          clear hb ho20
          refine hK.out _ _ ⟨v385, v388, v391, v394, v397, m12_, (by rw [ha.out]; exact putSel_upk 0 hb_ rfl rfl rfl), fun _ => (by (with_reducible repeat (first | apply Kd.R_alloc | apply Kd.R_drewN | apply Kd.R_drew)); exact Kd.R_mono HO_4.out (fun _ hk => by first | trivial | exact hk | exact ⟨hk.2, hk.1⟩ | exact ⟨hk.2, hk.1.2⟩ | exact hk.2 | exact hk.1 | exact hk.1.2)), (bk BK383.out), (by repeat (first | (with_reducible first | exact HB.out | apply below_alloc | apply pw_below_drewN | apply below_drew1 | refine below_set ?_ GE383.out) | exact HB.out)), fun _ _ => (by (with_reducible repeat (first | apply Kd.R_alloc | apply Kd.R_drewN | apply Kd.R_drew)); exact Kd.R_mono HO386.out (fun _ hk => by first | trivial | exact hk | exact ⟨hk.2, hk.1⟩ | exact ⟨hk.2, hk.1.2⟩ | exact hk.2 | exact hk.1 | exact hk.1.2)), z_HO389, z_HO392, fun h0_ => absurd ((hoff 10 (by kernel_rfl)).symm.trans h0_) (by decide), fun h0_ => absurd ((hoff 11 (by kernel_rfl)).symm.trans h0_) (by decide), fun h0_ => absurd ((hoff 12 (by kernel_rfl)).symm.trans h0_) (by decide)⟩
         refine steps_cons ?_ ?_
         ·rintro b a w' ⟨v385, v388, v391, v394, v397, m12_, ha, Q_HO_4, Q_BK383, Q_HB, Q_HO386, Q_HO389, Q_HO392, Q_HO395, Q_HO398, Q_X12_⟩ hb_ hon hoff
          refine ⟨_, rfl, fun K hK => ?_⟩
          have e24 : a.tmps[24]? = some (.pointer (some ⟨gb383, 1, none⟩)) := by rw [ha]; exact (putSel_off rfl).trans rfl
          replace ha := am ha
          have HO_4 := am (Q_HO_4 (hoff 10 (by kernel_rfl)))
          have BK383 := am Q_BK383
          have HB := am Q_HB
          have hc0_ : w'.cell? ⟨gb383, 0, none⟩ = some (.bool true) := (blk_cell BK383.out 0).trans rfl
          have hc1_ : w'.cell? ⟨gb383, 1, none⟩ = some (.int .i64 ((rd_T67 l0 x16_1).f1)) := (blk_cell BK383.out 1).trans rfl
          have hc2_ : w'.cell? ⟨gb383, 2, none⟩ = some (.int .i64 ((rd_T67 l0 x16_1).f2)) := (blk_cell BK383.out 2).trans rfl
          have hc3_ : w'.cell? ⟨gb383, 3, none⟩ = some (.string ((rd_T67 l0 x16_1).f3)) := (blk_cell BK383.out 3).trans rfl
          refine value_ (w1 := w') (v := .int .i64 ((rd_T67 l0 x16_1).f1)) (by rfl) rfl ?_ ?_
          ·go_simp
           (try simp only [i64_w])
           try rfl
          refine hK.out _ _ ⟨v385, v388, v391, v394, v397, m12_, (by rw [ha.out]; exact putSel_upk 1 hb_ rfl rfl rfl), Q_HO_4, Q_BK383, Q_HB, Q_HO386, fun h0_ _ => absurd ((hoff 5 (by kernel_rfl)).symm.trans h0_) (by decide), fun h0_ _ => absurd ((hoff 9 (by kernel_rfl)).symm.trans h0_) (by decide), fun h0_ => absurd ((hoff 10 (by kernel_rfl)).symm.trans h0_) (by decide), fun h0_ => absurd ((hoff 11 (by kernel_rfl)).symm.trans h0_) (by decide), fun h0_ => absurd ((hoff 12 (by kernel_rfl)).symm.trans h0_) (by decide)⟩
         refine steps_cons ?_ ?_
         ·rintro b a w' ⟨v385, v388, v391, v394, v397, m12_, ha, Q_HO_4, Q_BK383, Q_HB, Q_HO386, Q_HO389, Q_HO392, Q_HO395, Q_HO398, Q_X12_⟩ hb_ hon hoff
          refine ⟨_, rfl, fun K hK => ?_⟩
          have e25 : a.tmps[25]? = some (.int .i64 ((rd_T67 l0 x16_1).f1)) := by rw [ha]; exact putSel_on (e := (3, 25, .int .i64 ((rd_T67 l0 x16_1).f1))) 1 rfl rfl (hon 3 (by kernel_rfl)) rfl
          replace ha := am ha
          have HO_4 := am (Q_HO_4 (hoff 10 (by kernel_rfl)))
          have BK383 := am Q_BK383
          have HB := am Q_HB
          refine value_ (w1 := w') (v := .int .u64 (IntKind.u64.wrap ((rd_T67 l0 x16_1).f1))) (by rfl) rfl ?_ ?_
          ·go_simp
           (try simp only [i64_w])
           try rfl
          refine hK.out _ _ ⟨v385, v388, v391, v394, v397, m12_, (by rw [ha.out]; exact putSel_upk 2 hb_ rfl rfl rfl), Q_HO_4, Q_BK383, Q_HB, Q_HO386, fun h0_ _ => absurd ((hoff 5 (by kernel_rfl)).symm.trans h0_) (by decide), fun h0_ _ => absurd ((hoff 9 (by kernel_rfl)).symm.trans h0_) (by decide), fun h0_ => absurd ((hoff 10 (by kernel_rfl)).symm.trans h0_) (by decide), fun h0_ => absurd ((hoff 11 (by kernel_rfl)).symm.trans h0_) (by decide), fun h0_ => absurd ((hoff 12 (by kernel_rfl)).symm.trans h0_) (by decide)⟩
         refine steps_cons ?_ ?_
         ·rintro b a w' ⟨v385, v388, v391, v394, v397, m12_, ha, Q_HO_4, Q_BK383, Q_HB, Q_HO386, Q_HO389, Q_HO392, Q_HO395, Q_HO398, Q_X12_⟩ hb_ hon hoff
          refine ⟨_, rfl, fun K hK => ?_⟩
          have e26 : a.tmps[26]? = some (.int .u64 (IntKind.u64.wrap ((rd_T67 l0 x16_1).f1))) := by rw [ha]; exact putSel_on (e := (4, 26, .int .u64 (IntKind.u64.wrap ((rd_T67 l0 x16_1).f1)))) 2 rfl rfl (hon 4 (by kernel_rfl)) rfl
          replace ha := am ha
          have HO_4 := am (Q_HO_4 (hoff 10 (by kernel_rfl)))
          have BK383 := am Q_BK383
          have HB := am Q_HB
          refine goes_ Try.func84 (by kernel_rfl) rfl #[.int .u64 (IntKind.u64.wrap ((rd_T67 l0 x16_1).f1))] (by rfl) rfl rfl (by first | (simp only [List.map_toArray, List.map_cons, List.map_nil, Act.eval, Array.getD_eq_getD_getElem?, Option.getD_some, e26]; done) | (simp only [List.map_toArray, List.map_cons, List.map_nil, Act.eval, Array.getD_eq_getD_getElem?, Option.getD_some, e26]; rfl)) ?_
          with_reducible refine (wire_Put.calls k1 (IntKind.u64.wrap ((rd_T67 l0 x16_1).f1)) t387 _ A12.out).mono ?_
          rintro e w19 ⟨v388, rfl, ho0, hb⟩
          refine ⟨_, rfl, ?_⟩
          have n0_ := am (Kd.R_elder' (rr HO_4.out) (Kd.R_base ho0) hb)
          have n1_ := am (Kd.R_lower (Kd.R_new' ho0 (Kd.R_lt (rr HO_4.out))) (below_size (by repeat (first | (with_reducible first | exact HB.out | apply below_alloc | apply pw_below_drewN | apply below_drew1 | refine below_set ?_ GE383.out) | exact HB.out))))
          have n2_ := am (blk_below (g := gb383) (o := .cells #[.bool true, .int .i64 ((rd_T67 l0 x16_1).f1), .int .i64 ((rd_T67 l0 x16_1).f2), .string ((rd_T67 l0 x16_1).f3)] 67 (0, 0)) (bk BK383.out) hb)
          have n3_ := am (below_step (by repeat (first | (with_reducible first | exact HB.out | apply below_alloc | apply pw_below_drewN | apply below_drew1 | refine below_set ?_ GE383.out) | exact HB.out)) hb)
          have z_HO386 := fun (h0_ : b 1 = true) (h1_ : b 10 = false) => (show Kd.R (Kd.int .u8) 5 w19 w.heap.size (fun k_ => some k_ ≠ (u4 : Value).ownBlock) v385 y384 from by first | exact (Kd.R_elder' (by (with_reducible repeat (first | apply Kd.R_alloc | apply Kd.R_drewN | apply Kd.R_drew)); exact (Q_HO386 h0_ h1_)) (Kd.R_base ho0) hb) | exact Kd.R_mono (Kd.R_elder' (by (with_reducible repeat (first | apply Kd.R_alloc | apply Kd.R_drewN | apply Kd.R_drew)); exact (Q_HO386 h0_ h1_)) (Kd.R_base ho0) hb) (fun _ h_ => by first | trivial | exact h_ | exact h_.1))
          clear HO_4
          clear BK383
          clear HB
          have HO_4 := n0_
          have HO389 := n1_
          have BK383 := n2_
          have HB := n3_
          clear n0_ n1_ n2_ n3_
          (try clear hb)
          (try clear hb2)
          (try clear hk)
          (try clear hi)
          (try clear ho0)
          refine hK.out _ _ ⟨v385, v388, v391, v394, v397, m12_, (by rw [ha.out]; exact putSel_upk 3 hb_ rfl rfl rfl), fun _ => (by (with_reducible repeat (first | apply Kd.R_alloc | apply Kd.R_drewN | apply Kd.R_drew)); exact Kd.R_mono HO_4.out (fun _ hk => by first | trivial | exact hk | exact ⟨hk.2, hk.1⟩ | exact ⟨hk.2, hk.1.2⟩ | exact hk.2 | exact hk.1 | exact hk.1.2)), (bk BK383.out), (by repeat (first | (with_reducible first | exact HB.out | apply below_alloc | apply pw_below_drewN | apply below_drew1 | refine below_set ?_ GE383.out) | exact HB.out)), z_HO386, fun _ _ => (by (with_reducible repeat (first | apply Kd.R_alloc | apply Kd.R_drewN | apply Kd.R_drew)); exact Kd.R_mono HO389.out (fun _ hk => by first | trivial | exact hk | exact ⟨hk.2, hk.1⟩ | exact ⟨hk.2, hk.1.2⟩ | exact hk.2 | exact hk.1 | exact hk.1.2)), fun h0_ _ => absurd ((hoff 9 (by kernel_rfl)).symm.trans h0_) (by decide), fun h0_ => absurd ((hoff 10 (by kernel_rfl)).symm.trans h0_) (by decide), fun h0_ => absurd ((hoff 11 (by kernel_rfl)).symm.trans h0_) (by decide), fun h0_ => absurd ((hoff 12 (by kernel_rfl)).symm.trans h0_) (by decide)⟩
         refine steps_cons ?_ ?_
         ·rintro b a w' ⟨v385, v388, v391, v394, v397, m12_, ha, Q_HO_4, Q_BK383, Q_HB, Q_HO386, Q_HO389, Q_HO392, Q_HO395, Q_HO398, Q_X12_⟩ hb_ hon hoff
          refine ⟨_, rfl, fun K hK => ?_⟩
          have e28 : a.tmps[28]? = some (.pointer (some ⟨gb383, 2, none⟩)) := by rw [ha]; exact (putSel_off rfl).trans rfl
          replace ha := am ha
          have HO_4 := am (Q_HO_4 (hoff 10 (by kernel_rfl)))
          have BK383 := am Q_BK383
          have HB := am Q_HB
          have hc0_ : w'.cell? ⟨gb383, 0, none⟩ = some (.bool true) := (blk_cell BK383.out 0).trans rfl
          have hc1_ : w'.cell? ⟨gb383, 1, none⟩ = some (.int .i64 ((rd_T67 l0 x16_1).f1)) := (blk_cell BK383.out 1).trans rfl
          have hc2_ : w'.cell? ⟨gb383, 2, none⟩ = some (.int .i64 ((rd_T67 l0 x16_1).f2)) := (blk_cell BK383.out 2).trans rfl
          have hc3_ : w'.cell? ⟨gb383, 3, none⟩ = some (.string ((rd_T67 l0 x16_1).f3)) := (blk_cell BK383.out 3).trans rfl
          refine value_ (w1 := w') (v := .int .i64 ((rd_T67 l0 x16_1).f2)) (by rfl) rfl ?_ ?_
          ·go_simp
           (try simp only [i64_w])
           try rfl
          refine hK.out _ _ ⟨v385, v388, v391, v394, v397, m12_, (by rw [ha.out]; exact putSel_upk 4 hb_ rfl rfl rfl), Q_HO_4, Q_BK383, Q_HB, Q_HO386, Q_HO389, fun h0_ _ => absurd ((hoff 9 (by kernel_rfl)).symm.trans h0_) (by decide), fun h0_ => absurd ((hoff 10 (by kernel_rfl)).symm.trans h0_) (by decide), fun h0_ => absurd ((hoff 11 (by kernel_rfl)).symm.trans h0_) (by decide), fun h0_ => absurd ((hoff 12 (by kernel_rfl)).symm.trans h0_) (by decide)⟩
         refine steps_cons ?_ ?_
         ·rintro b a w' ⟨v385, v388, v391, v394, v397, m12_, ha, Q_HO_4, Q_BK383, Q_HB, Q_HO386, Q_HO389, Q_HO392, Q_HO395, Q_HO398, Q_X12_⟩ hb_ hon hoff
          refine ⟨_, rfl, fun K hK => ?_⟩
          have e29 : a.tmps[29]? = some (.int .i64 ((rd_T67 l0 x16_1).f2)) := by rw [ha]; exact putSel_on (e := (7, 29, .int .i64 ((rd_T67 l0 x16_1).f2))) 4 rfl rfl (hon 7 (by kernel_rfl)) rfl
          replace ha := am ha
          have HO_4 := am (Q_HO_4 (hoff 10 (by kernel_rfl)))
          have BK383 := am Q_BK383
          have HB := am Q_HB
          refine value_ (w1 := w') (v := .int .u64 (IntKind.u64.wrap ((rd_T67 l0 x16_1).f2))) (by rfl) rfl ?_ ?_
          ·go_simp
           (try simp only [i64_w])
           try rfl
          refine hK.out _ _ ⟨v385, v388, v391, v394, v397, m12_, (by rw [ha.out]; exact putSel_upk 5 hb_ rfl rfl rfl), Q_HO_4, Q_BK383, Q_HB, Q_HO386, Q_HO389, fun h0_ _ => absurd ((hoff 9 (by kernel_rfl)).symm.trans h0_) (by decide), fun h0_ => absurd ((hoff 10 (by kernel_rfl)).symm.trans h0_) (by decide), fun h0_ => absurd ((hoff 11 (by kernel_rfl)).symm.trans h0_) (by decide), fun h0_ => absurd ((hoff 12 (by kernel_rfl)).symm.trans h0_) (by decide)⟩
         refine steps_cons ?_ ?_
         ·rintro b a w' ⟨v385, v388, v391, v394, v397, m12_, ha, Q_HO_4, Q_BK383, Q_HB, Q_HO386, Q_HO389, Q_HO392, Q_HO395, Q_HO398, Q_X12_⟩ hb_ hon hoff
          refine ⟨_, rfl, fun K hK => ?_⟩
          have e30 : a.tmps[30]? = some (.int .u64 (IntKind.u64.wrap ((rd_T67 l0 x16_1).f2))) := by rw [ha]; exact putSel_on (e := (8, 30, .int .u64 (IntKind.u64.wrap ((rd_T67 l0 x16_1).f2)))) 5 rfl rfl (hon 8 (by kernel_rfl)) rfl
          replace ha := am ha
          have HO_4 := am (Q_HO_4 (hoff 10 (by kernel_rfl)))
          have BK383 := am Q_BK383
          have HB := am Q_HB
          have HO389 := am (Q_HO389 (hon 5 (by kernel_rfl)) (hoff 10 (by kernel_rfl)))
          refine goes_ Try.func84 (by kernel_rfl) rfl #[.int .u64 (IntKind.u64.wrap ((rd_T67 l0 x16_1).f2))] (by rfl) rfl rfl (by first | (simp only [List.map_toArray, List.map_cons, List.map_nil, Act.eval, Array.getD_eq_getD_getElem?, Option.getD_some, e30]; done) | (simp only [List.map_toArray, List.map_cons, List.map_nil, Act.eval, Array.getD_eq_getD_getElem?, Option.getD_some, e30]; rfl)) ?_
          with_reducible refine (wire_Put.calls k1 (IntKind.u64.wrap ((rd_T67 l0 x16_1).f2)) t390 _ A13.out).mono ?_
          rintro e w21 ⟨v391, rfl, ho0, hb⟩
          refine ⟨_, rfl, ?_⟩
          have n0_ := am (Kd.R_elder' (rr HO_4.out) (Kd.R_base ho0) hb)
          have n1_ := am (Kd.R_elder' (rr HO389.out) (Kd.R_base ho0) hb)
          have n2_ := am (Kd.R_lower (Kd.R_new' (Kd.R_new' ho0 (Kd.R_lt (rr HO_4.out))) (Kd.R_lt (rr HO389.out))) (below_size (by repeat (first | (with_reducible first | exact HB.out | apply below_alloc | apply pw_below_drewN | apply below_drew1 | refine below_set ?_ GE383.out) | exact HB.out))))
          have n3_ := am (blk_below (g := gb383) (o := .cells #[.bool true, .int .i64 ((rd_T67 l0 x16_1).f1), .int .i64 ((rd_T67 l0 x16_1).f2), .string ((rd_T67 l0 x16_1).f3)] 67 (0, 0)) (bk BK383.out) hb)
          have n4_ := am (below_step (by repeat (first | (with_reducible first | exact HB.out | apply below_alloc | apply pw_below_drewN | apply below_drew1 | refine below_set ?_ GE383.out) | exact HB.out)) hb)
          have z_HO386 := fun (h0_ : b 1 = true) (h1_ : b 10 = false) => (show Kd.R (Kd.int .u8) 5 w21 w.heap.size (fun k_ => some k_ ≠ (u4 : Value).ownBlock) v385 y384 from by first | exact (Kd.R_elder' (by (with_reducible repeat (first | apply Kd.R_alloc | apply Kd.R_drewN | apply Kd.R_drew)); exact (Q_HO386 h0_ h1_)) (Kd.R_base ho0) hb) | exact Kd.R_mono (Kd.R_elder' (by (with_reducible repeat (first | apply Kd.R_alloc | apply Kd.R_drewN | apply Kd.R_drew)); exact (Q_HO386 h0_ h1_)) (Kd.R_base ho0) hb) (fun _ h_ => by first | trivial | exact h_ | exact h_.1))
          clear HO_4
          clear HO389
          clear BK383
          clear HB
          have HO_4 := n0_
          have HO389 := n1_
          have HO392 := n2_
          have BK383 := n3_
          have HB := n4_
          clear n0_ n1_ n2_ n3_ n4_
          (try clear hb)
          (try clear hb2)
          (try clear hk)
          (try clear hi)
          (try clear ho0)
          refine hK.out _ _ ⟨v385, v388, v391, v394, v397, m12_, (by rw [ha.out]; exact putSel_upk 6 hb_ rfl rfl rfl), fun _ => (by (with_reducible repeat (first | apply Kd.R_alloc | apply Kd.R_drewN | apply Kd.R_drew)); exact Kd.R_mono HO_4.out (fun _ hk => by first | trivial | exact hk | exact ⟨hk.2, hk.1⟩ | exact ⟨hk.2, hk.1.2⟩ | exact hk.2 | exact hk.1 | exact hk.1.2)), (bk BK383.out), (by repeat (first | (with_reducible first | exact HB.out | apply below_alloc | apply pw_below_drewN | apply below_drew1 | refine below_set ?_ GE383.out) | exact HB.out)), z_HO386, fun _ _ => (by (with_reducible repeat (first | apply Kd.R_alloc | apply Kd.R_drewN | apply Kd.R_drew)); exact Kd.R_mono HO389.out (fun _ hk => by first | trivial | exact hk | exact ⟨hk.2, hk.1⟩ | exact ⟨hk.2, hk.1.2⟩ | exact hk.2 | exact hk.1 | exact hk.1.2)), fun _ _ => (by (with_reducible repeat (first | apply Kd.R_alloc | apply Kd.R_drewN | apply Kd.R_drew)); exact Kd.R_mono HO392.out (fun _ hk => by first | trivial | exact hk | exact ⟨hk.2, hk.1⟩ | exact ⟨hk.2, hk.1.2⟩ | exact hk.2 | exact hk.1 | exact hk.1.2)), fun h0_ => absurd ((hoff 10 (by kernel_rfl)).symm.trans h0_) (by decide), fun h0_ => absurd ((hoff 11 (by kernel_rfl)).symm.trans h0_) (by decide), fun h0_ => absurd ((hoff 12 (by kernel_rfl)).symm.trans h0_) (by decide)⟩
         refine steps_cons ?_ ?_
         ·rintro b a w' ⟨v385, v388, v391, v394, v397, m12_, ha, Q_HO_4, Q_BK383, Q_HB, Q_HO386, Q_HO389, Q_HO392, Q_HO395, Q_HO398, Q_X12_⟩ hb_ hon hoff
          refine ⟨_, rfl, fun K hK => ?_⟩
          have e22 : a.tmps[22]? = some u4 := by rw [ha]; exact (putSel_off rfl).trans rfl
          have e23 : a.tmps[23]? = some (v385) := by rw [ha]; exact putSel_on (e := (1, 23, v385)) 0 rfl rfl (hon 1 (by kernel_rfl)) rfl
          have e27 : a.tmps[27]? = some (v388) := by rw [ha]; exact putSel_on (e := (5, 27, v388)) 3 rfl rfl (hon 5 (by kernel_rfl)) rfl
          have e31 : a.tmps[31]? = some (v391) := by rw [ha]; exact putSel_on (e := (9, 31, v391)) 6 rfl rfl (hon 9 (by kernel_rfl)) rfl
          replace ha := am ha
          have HO_4 := am (Q_HO_4 hb_)
          have BK383 := am Q_BK383
          have HB := am Q_HB
          have HO386 := am (Q_HO386 (hon 1 (by kernel_rfl)) hb_)
          have HO389 := am (Q_HO389 (hon 5 (by kernel_rfl)) hb_)
          have HO392 := am (Q_HO392 (hon 9 (by kernel_rfl)) hb_)
          obtain ⟨Ao24, co24, eo24⟩ := Kd.R_slice HO_4.out
          (first | subst eo24 | (injection eo24 with f1_ f2_ f3_; have f4_ := f1_.symm; have f5_ := f3_.symm; clear f1_ f2_ f3_; subst f4_; subst f5_))
          obtain ⟨Ao25, co25, eo25⟩ := Kd.R_slice HO386.out
          (first | subst eo25 | (injection eo25 with f1_ f2_ f3_; have f4_ := f1_.symm; have f5_ := f3_.symm; clear f1_ f2_ f3_; subst f4_; subst f5_))
          obtain ⟨Ao26, co26, eo26⟩ := Kd.R_slice HO389.out
          (first | subst eo26 | (injection eo26 with f1_ f2_ f3_; have f4_ := f1_.symm; have f5_ := f3_.symm; clear f1_ f2_ f3_; subst f4_; subst f5_))
          obtain ⟨Ao27, co27, eo27⟩ := Kd.R_slice HO392.out
          (first | subst eo27 | (injection eo27 with f1_ f2_ f3_; have f4_ := f1_.symm; have f5_ := f3_.symm; clear f1_ f2_ f3_; subst f4_; subst f5_))
          refine Kd.N_lit_step (Kd.slice 5 (Kd.int .u8)) _ 40 ?hg (N' := 32) ?hd (xs := ([x4_1, y384, t387, t390] : List (List Int))) (inner := [.slice Ao24 x4_1.length co24, .slice Ao25 y384.length co25, .slice Ao26 t387.length co26, .slice Ao27 t390.length co27]) (ok := (fun k_ => k_ ≠ gb383)) (okp := (fun k_ => k_ ≠ gb383)) ?hr ?hp (fun _ hk => hk) ((show ∀ k_, w'.heap.size ≤ k_ → (fun k_ => k_ ≠ gb383) k_ from fun k_ hk => Kd.freshB (g := gb383) (o := .cells #[.bool true, .int .i64 ((rd_T67 l0 x16_1).f1), .int .i64 ((rd_T67 l0 x16_1).f2), .string ((rd_T67 l0 x16_1).f3)] 67 (0, 0)) (bk BK383.out) k_ hk) _ (Nat.le_refl _)) (Below.refl _ _) (Nat.le_refl _) (by simp) ?_; (case hd => rfl); (case hg => rfl); (case hr => first | (go_simp; done) | (go_simp; rfl)); (case hp => exact (Reps.one (show Kd.FK (Kd.slice 5 (Kd.int .u8)) _ _ x4_1 [.slice Ao24 x4_1.length co24] from (Kd.FK_slice_mk (Kd.R_reads' (Kd.R_mono (ok' := (fun k_ => k_ ≠ gb383)) (Kd.R_types (HO_4.out) BK383.out (by decide)) (fun k_ hk => hk.2))).2.1 (Kd.R_F (Kd.R_mono (ok' := (fun k_ => k_ ≠ gb383)) (Kd.R_types (HO_4.out) BK383.out (by decide)) (fun k_ hk => hk.2))))) (Reps.one (show Kd.FK (Kd.slice 5 (Kd.int .u8)) _ _ y384 [.slice Ao25 y384.length co25] from (Kd.FK_slice_mk (Kd.R_reads' (Kd.R_mono (ok' := (fun k_ => k_ ≠ gb383)) (Kd.R_types (HO386.out) BK383.out (by decide)) (fun k_ hk => hk.2))).2.1 (Kd.R_F (Kd.R_mono (ok' := (fun k_ => k_ ≠ gb383)) (Kd.R_types (HO386.out) BK383.out (by decide)) (fun k_ hk => hk.2))))) (Reps.one (show Kd.FK (Kd.slice 5 (Kd.int .u8)) _ _ t387 [.slice Ao26 t387.length co26] from (Kd.FK_slice_mk (Kd.R_reads' (Kd.R_mono (ok' := (fun k_ => k_ ≠ gb383)) (Kd.R_types (HO389.out) BK383.out (by decide)) (fun k_ hk => hk.2))).2.1 (Kd.R_F (Kd.R_mono (ok' := (fun k_ => k_ ≠ gb383)) (Kd.R_types (HO389.out) BK383.out (by decide)) (fun k_ hk => hk.2))))) (Reps.one (show Kd.FK (Kd.slice 5 (Kd.int .u8)) _ _ t390 [.slice Ao27 t390.length co27] from (Kd.FK_slice_mk (Kd.R_reads' (Kd.R_mono (ok' := (fun k_ => k_ ≠ gb383)) (Kd.R_types (HO392.out) BK383.out (by decide)) (fun k_ hk => hk.2))).2.1 (Kd.R_F (Kd.R_mono (ok' := (fun k_ => k_ ≠ gb383)) (Kd.R_types (HO392.out) BK383.out (by decide)) (fun k_ hk => hk.2))))) (Reps.none _ _))))))
          intro v394 w28 ho29 hb hg_ hnew_
          clear hg_ hnew_
          (first | rw [← Ny393.out] at ho29 | (simp only [Int.reduceToNat] at ho29; rw [← Ny393.out] at ho29))
          have n0_ := am (Kd.N_lower ho29 (below_size (by repeat (first | (with_reducible first | exact HB.out | apply below_alloc | apply pw_below_drewN | apply below_drew1 | refine below_set ?_ GE383.out) | exact HB.out))))
          have n1_ := am (blk_below (g := gb383) (o := .cells #[.bool true, .int .i64 ((rd_T67 l0 x16_1).f1), .int .i64 ((rd_T67 l0 x16_1).f2), .string ((rd_T67 l0 x16_1).f3)] 67 (0, 0)) (bk BK383.out) hb)
          have n2_ := am (below_step (by repeat (first | (with_reducible first | exact HB.out | apply below_alloc | apply pw_below_drewN | apply below_drew1 | refine below_set ?_ GE383.out) | exact HB.out)) hb)
          clear BK383
          clear HB
          clear HO386
          clear HO389
          clear HO392
          clear HO_4
          have HO395 := n0_
          have BK383 := n1_
          have HB := n2_
          clear n0_ n1_ n2_
          clear hb ho29
          refine hK.out _ _ ⟨.slice Ao25 y384.length co25, .slice Ao26 t387.length co26, .slice Ao27 t390.length co27, v394, v397, m12_, (by rw [ha.out]; exact putSel_upk 7 hb_ rfl rfl rfl), fun h0_ => absurd ((up_self b 10).symm.trans h0_) (by decide), (bk BK383.out), (by repeat (first | (with_reducible first | exact HB.out | apply below_alloc | apply pw_below_drewN | apply below_drew1 | refine below_set ?_ GE383.out) | exact HB.out)), fun _ h1_ => absurd ((up_self b 10).symm.trans h1_) (by decide), fun _ h1_ => absurd ((up_self b 10).symm.trans h1_) (by decide), fun _ h1_ => absurd ((up_self b 10).symm.trans h1_) (by decide), fun _ => (by (with_reducible repeat (first | apply Kd.N_alloc | apply Kd.N_drewN | apply Kd.N_drew)); exact HO395.out), fun h0_ => absurd ((hoff 11 (by kernel_rfl)).symm.trans h0_) (by decide), fun h0_ => absurd ((hoff 12 (by kernel_rfl)).symm.trans h0_) (by decide)⟩
         refine steps_cons ?_ ?_
         ·rintro b a w' ⟨v385, v388, v391, v394, v397, m12_, ha, Q_HO_4, Q_BK383, Q_HB, Q_HO386, Q_HO389, Q_HO392, Q_HO395, Q_HO398, Q_X12_⟩ hb_ hon hoff
          refine ⟨_, rfl, fun K hK => ?_⟩
          have e32 : a.tmps[32]? = some (v394) := by rw [ha]; exact putSel_on (e := (10, 32, v394)) 7 rfl rfl (hon 10 (by kernel_rfl)) rfl
          replace ha := am ha
          have BK383 := am Q_BK383
          have HB := am Q_HB
          have HO395 := am (Q_HO395 (hon 10 (by kernel_rfl)))
          obtain ⟨Ao30, co30, eo30⟩ := Kd.N_slice HO395.out
          (first | subst eo30 | (injection eo30 with f1_ f2_ f3_; have f4_ := f1_.symm; have f5_ := f3_.symm; clear f1_ f2_ f3_; subst f4_; subst f5_))
          refine goes_ Try.func83 (by kernel_rfl) rfl #[.slice Ao30 y393.length co30] (by rfl) rfl rfl (by first | (simp only [List.map_toArray, List.map_cons, List.map_nil, Act.eval, Array.getD_eq_getD_getElem?, Option.getD_some, e32]; done) | (simp only [List.map_toArray, List.map_cons, List.map_nil, Act.eval, Array.getD_eq_getD_getElem?, Option.getD_some, e32]; rfl)) ?_
          with_reducible refine (slices_Concat_byte_byte.calls k1 _ _ y393 t396 _ ?side1 ?side2 A14.out).mono ?_
          (case side1 => repeat (first | exact (Kd.N_reads' HO395.out).2.2 | (with_reducible refine Kd.C_alloc ?_ _) | (with_reducible refine Kd.C_drewN ?_ _) | (with_reducible refine Kd.C_drew ?_)))
          (case side2 => exact (Kd.N_reads' HO395.out).2.1)
          rintro e w31 ⟨v397, rfl, ho0, hb⟩
          refine ⟨_, rfl, ?_⟩
          have n0_ := am (Kd.N_elder' (by (with_reducible repeat (first | apply Kd.N_alloc | apply Kd.N_drewN | apply Kd.N_drew)); exact HO395.out) (Kd.R_base ho0) hb)
          have n1_ := am (Kd.R_lower ho0 (below_size (by repeat (first | (with_reducible first | exact HB.out | apply below_alloc | apply pw_below_drewN | apply below_drew1 | refine below_set ?_ GE383.out) | exact HB.out))))
          have n2_ := am (blk_below (g := gb383) (o := .cells #[.bool true, .int .i64 ((rd_T67 l0 x16_1).f1), .int .i64 ((rd_T67 l0 x16_1).f2), .string ((rd_T67 l0 x16_1).f3)] 67 (0, 0)) (bk BK383.out) hb)
          have n3_ := am (below_step (by repeat (first | (with_reducible first | exact HB.out | apply below_alloc | apply pw_below_drewN | apply below_drew1 | refine below_set ?_ GE383.out) | exact HB.out)) hb)
          clear HO395
          clear BK383
          clear HB
          have HO395 := n0_
          have HO398 := n1_
          have BK383 := n2_
          have HB := n3_
          clear n0_ n1_ n2_ n3_
          (try clear hb)
          (try clear hb2)
          (try clear hk)
          (try clear hi)
          (try clear ho0)
          refine hK.out _ _ ⟨v385, v388, v391, .slice Ao30 y393.length co30, v397, m12_, (by rw [ha.out]; exact putSel_upk 8 hb_ rfl rfl rfl), fun h0_ => absurd ((hon 10 (by kernel_rfl)).symm.trans h0_) (by decide), (bk BK383.out), (by repeat (first | (with_reducible first | exact HB.out | apply below_alloc | apply pw_below_drewN | apply below_drew1 | refine below_set ?_ GE383.out) | exact HB.out)), fun _ h1_ => absurd ((hon 10 (by kernel_rfl)).symm.trans h1_) (by decide), fun _ h1_ => absurd ((hon 10 (by kernel_rfl)).symm.trans h1_) (by decide), fun _ h1_ => absurd ((hon 10 (by kernel_rfl)).symm.trans h1_) (by decide), fun _ => (by (with_reducible repeat (first | apply Kd.N_alloc | apply Kd.N_drewN | apply Kd.N_drew)); exact Kd.N_mono HO395.out (fun _ hk => by first | trivial | exact hk | exact ⟨hk.2, hk.1⟩ | exact ⟨hk.2, hk.1.2⟩ | exact hk.2 | exact hk.1 | exact hk.1.2)), fun _ => (rr HO398.out), fun h0_ => absurd ((hoff 12 (by kernel_rfl)).symm.trans h0_) (by decide)⟩
         refine steps_cons ?_ ?_
         ·rintro b a w' ⟨v385, v388, v391, v394, v397, m12_, ha, Q_HO_4, Q_BK383, Q_HB, Q_HO386, Q_HO389, Q_HO392, Q_HO395, Q_HO398, Q_X12_⟩ hb_ hon hoff
          refine ⟨_, rfl, fun K hK => ?_⟩
          have e33 : a.tmps[33]? = some (v397) := by rw [ha]; exact putSel_on (e := (11, 33, v397)) 8 rfl rfl (hon 11 (by kernel_rfl)) rfl
          replace ha := am ha
          have BK383 := am Q_BK383
          have HB := am Q_HB
          have HO395 := am (Q_HO395 (hon 10 (by kernel_rfl)))
          have HO398 := am (Q_HO398 (hon 11 (by kernel_rfl)))
          refine value_ (w1 := w') (v := v397) (by rfl) rfl ?_ ?_
          ·go_simp
           (try simp only [i64_w])
           try rfl
          refine hK.out _ _ ⟨v385, v388, v391, v394, v397, (v397), (by rw [ha.out]; exact putSel_upk 9 hb_ rfl rfl rfl), fun h0_ => absurd ((hon 10 (by kernel_rfl)).symm.trans h0_) (by decide), Q_BK383, Q_HB, fun _ h1_ => absurd ((hon 10 (by kernel_rfl)).symm.trans h1_) (by decide), fun _ h1_ => absurd ((hon 10 (by kernel_rfl)).symm.trans h1_) (by decide), fun _ h1_ => absurd ((hon 10 (by kernel_rfl)).symm.trans h1_) (by decide), Q_HO395, Q_HO398, fun _ => rfl⟩
         exact steps_nil
        rintro b a w31 hall ⟨v385, v388, v391, v394, v397, m12_, ha, Q_HO_4, Q_BK383, Q_HB, Q_HO386, Q_HO389, Q_HO392, Q_HO395, Q_HO398, Q_X12_⟩
        clear BK383 HB HO_4
        have hb1_ := hall 1 (by kernel_rfl)
        have hb3_ := hall 3 (by kernel_rfl)
        have hb4_ := hall 4 (by kernel_rfl)
        have hb5_ := hall 5 (by kernel_rfl)
        have hb7_ := hall 7 (by kernel_rfl)
        have hb8_ := hall 8 (by kernel_rfl)
        have hb9_ := hall 9 (by kernel_rfl)
        have hb10_ := hall 10 (by kernel_rfl)
        have hb11_ := hall 11 (by kernel_rfl)
        have hb12_ := hall 12 (by kernel_rfl)
        subst ha
        obtain rfl := Q_X12_ hb12_
        simp only [putSel, hb1_, hb3_, hb4_, hb5_, hb7_, hb8_, hb9_, hb10_, hb11_, hb12_, if_true, Act.put, List.setIfInBounds_toArray, List.set_cons_zero, List.set_cons_succ]
        clear Q_HO_4
        have BK383 := am Q_BK383
        clear Q_BK383
        have HB := am Q_HB
        clear Q_HB
        clear Q_HO386
        clear Q_HO389
        clear Q_HO392
        have HO395 := am (Q_HO395 hb10_)
        clear Q_HO395
        have HO398 := am (Q_HO398 hb11_)
        clear Q_HO398
        clear hall hb1_ hb3_ hb4_ hb5_ hb7_ hb8_ hb9_ hb10_ hb11_ hb12_
        try go_wp2
        go_roundg k1
        case measure => have := HK1.out; omega
        case rel => exact ⟨(t396), (wrap64 (x16_1 + 1)), (by first | rfl | (simp; done) | (simp [*]; done)), H', ⟨by have := HK1.out; omega⟩, ⟨rr HO398.out⟩, ⟨by repeat (first | (with_reducible first | exact HB.out | apply below_alloc | apply pw_below_drewN | apply below_drew1 | refine below_set ?_ GE383.out) | exact HB.out)⟩⟩
       ·replace c11 := Bool.eq_false_iff.mpr c11
        subst c11
        have H1 : ((wire_Text.f k1 ((rd_T67 l0 x16_1).f3)).bind fun t402 => ((slices_Concat_byte_byte.f k1 (([x4_1, (([0] : List Int)), t402] : List (List Int)))).bind fun t408 => (delta_Put.l0 k1 t408 l0 (l0.length : Int) (wrap64 (x16_1 + 1))))) = some (r1, r2) := by rw [if_neg (show ¬ (false = true) by decide)] at H; exact H
        clear H
        have H := H1
        clear H1
        obtain ⟨y399, hy399⟩ : ∃ y_ : List Int, y_ = (([0] : List Int)) := ⟨_, rfl⟩
        replace H : ((wire_Text.f k1 ((rd_T67 l0 x16_1).f3)).bind fun t402 => ((slices_Concat_byte_byte.f k1 (([x4_1, y399, t402] : List (List Int)))).bind fun t408 => (delta_Put.l0 k1 t408 l0 (l0.length : Int) (wrap64 (x16_1 + 1))))) = some (r1, r2) := by first | (rw [hy399]; with_reducible exact H) | (have H2_ := (Option.bind_some _ _).symm.trans H; rw [hy399]; with_reducible exact H2_) | (have H2_ := (Option.bind_some _ _).symm.trans H; with_reducible exact H2_) | with_reducible exact H | (rw [hy399]; exact H) | exact H
        have Ny399 := am hy399
        clear hy399
        replace H := Option.bind_eq_some_iff.mp H
        obtain ⟨t402, A320, H⟩ := H
        replace H : ((slices_Concat_byte_byte.f k1 (([x4_1, y399, t402] : List (List Int)))).bind fun t408 => (delta_Put.l0 k1 t408 l0 (l0.length : Int) (wrap64 (x16_1 + 1)))) = some (r1, r2) := H
        have A32 := am A320
        clear A320
        obtain ⟨y405, hy405⟩ : ∃ y_ : List (List Int), y_ = (([x4_1, y399, t402] : List (List Int))) := ⟨_, rfl⟩
        replace H : ((slices_Concat_byte_byte.f k1 y405).bind fun t408 => (delta_Put.l0 k1 t408 l0 (l0.length : Int) (wrap64 (x16_1 + 1)))) = some (r1, r2) := by first | (rw [hy405]; with_reducible exact H) | (have H2_ := (Option.bind_some _ _).symm.trans H; rw [hy405]; with_reducible exact H2_) | (have H2_ := (Option.bind_some _ _).symm.trans H; with_reducible exact H2_) | with_reducible exact H | (rw [hy405]; exact H) | exact H
        have Ny405 := am hy405
        clear hy405
        replace H := Option.bind_eq_some_iff.mp H
        obtain ⟨t408, A330, H⟩ := H
        replace H : (delta_Put.l0 k1 t408 l0 (l0.length : Int) (wrap64 (x16_1 + 1))) = some (r1, r2) := H
        have A33 := am A330
        clear A330
        have H' := am H
        clear H
        have p382 : 0 ≤ (x16_1 : Int) := of_decide_eq_true (by first | (with_reducible assumption) | assumption)
        have q382 : x16_1 < (l0.length : Int) := of_decide_eq_true (by first | (with_reducible assumption) | assumption)
        obtain ⟨ad382, e382, hx382_0, hx382_1, hx382_2, hx382_3⟩ := at_T67 HR0.out x16_1 p382 q382
        (try rw [← Nbq10.out] at hx382_0)
        cases e382
        replace hx382_0 := (HB.out.cell (World.block_lt_of_cell? w _ hx382_0)).trans hx382_0
        replace hx382_1 := (HB.out.cell (World.block_lt_of_cell? w _ hx382_1)).trans hx382_1
        replace hx382_2 := (HB.out.cell (World.block_lt_of_cell? w _ hx382_2)).trans hx382_2
        replace hx382_3 := (HB.out.cell (World.block_lt_of_cell? w _ hx382_3)).trans hx382_3
        replace p382 := eq_true p382
        replace q382 := eq_true q382
        go_wp2_with (first | ((with_reducible refine gate_dst (N := 6) rfl ?_); refine box_event ?hg (N := 6) ?hd (cs := #[.bool false, .int .i64 0, .int .i64 0, .string (⟨#[]⟩ : ByteArray)]) (t := 67) ?hr ?_; (case hd => rfl); (case hg => rfl); (case hr => first | (go_simp; done) | (go_simp; rfl)); intro gb383 hg w34 hbox hb; have n0_ := am (Kd.R_below (rr HO_4.out) hb); have n1_ := am (below_step (bw HB.out) hb); have n2_ := am (hbox); have n3_ := am ((by rw [hg]; exact (below_size (bw HB.out)) : w.heap.size ≤ gb383)); have n4_ := am ((by rw [hg]; exact (below_size (bw HB.out)) : w.heap.size ≤ gb383)); clear HO_4; clear HB; have HO_4 := n0_; have HB := n1_; have BK383 := n2_; have GW383 := n3_; have GE383 := n4_; clear n0_ n1_ n2_ n3_ n4_; clear hb hbox hg; have hcz35_0 : w34.cell? ⟨gb383, 0, none⟩ = some (.bool false) := (blk_cell BK383.out 0).trans rfl; have hcz35_1 : w34.cell? ⟨gb383, 1, none⟩ = some (.int .i64 0) := (blk_cell BK383.out 1).trans rfl; have hcz35_2 : w34.cell? ⟨gb383, 2, none⟩ = some (.int .i64 0) := (blk_cell BK383.out 2).trans rfl; have hcz35_3 : w34.cell? ⟨gb383, 3, none⟩ = some (.string (⟨#[]⟩ : ByteArray)) := (blk_cell BK383.out 3).trans rfl; have hfz35_0 := blk_frozen BK383.out 0; have hfz35_1 := blk_frozen BK383.out 1; have hfz35_2 := blk_frozen BK383.out 2; have hfz35_3 := blk_frozen BK383.out 3) | ((with_reducible refine gate_dst (N := 35) rfl ?_); refine Kd.R_lit (Kd.int .u8) _ 5 ?hg (N := 35) ?hd (xs := ([0] : List Int)) (inner := [.int .u8 0]) (ok := fun _ => True) (okp := fun _ => True) ?hr ?hp (fun _ hk => hk) trivial (Below.refl _ _) (Nat.le_refl _) (by simp) ?_; (case hd => rfl); (case hg => rfl); (case hr => first | (go_simp; done) | (go_simp; rfl)); (case hp => exact (Reps.one (show Kd.M (Kd.int .u8) _ _ _ 0 [.int .u8 0] from rfl) (Reps.none _ _))); intro v400 w36 ho37 hb hg_ hnew_; clear hg_ hnew_; (first | rw [← Ny399.out] at ho37 | (simp only [Int.reduceToNat] at ho37; rw [← Ny399.out] at ho37)); have n0_ := am (Kd.R_elder' (by (with_reducible repeat (first | apply Kd.R_alloc | apply Kd.R_drewN | apply Kd.R_drew)); exact (Kd.R_mono (Kd.R_far (p := ⟨gb383, 3, none⟩) (Kd.R_far (p := ⟨gb383, 2, none⟩) (Kd.R_far (p := ⟨gb383, 1, none⟩) (Kd.R_far (p := ⟨gb383, 0, none⟩) (Kd.R_types HO_4.out BK383.out (by decide)) (fun _ hk => by first | trivial | exact hk | exact ⟨hk.2, hk.1⟩ | exact ⟨hk.2, hk.1.2⟩ | exact hk.2 | exact hk.1 | exact hk.1.2) (.bool false)) (fun _ hk => by first | trivial | exact hk | exact ⟨hk.2, hk.1⟩ | exact ⟨hk.2, hk.1.2⟩ | exact hk.2 | exact hk.1 | exact hk.1.2) (.int .i64 ((rd_T67 l0 x16_1).f1))) (fun _ hk => by first | trivial | exact hk | exact ⟨hk.2, hk.1⟩ | exact ⟨hk.2, hk.1.2⟩ | exact hk.2 | exact hk.1 | exact hk.1.2) (.int .i64 ((rd_T67 l0 x16_1).f2))) (fun _ hk => by first | trivial | exact hk | exact ⟨hk.2, hk.1⟩ | exact ⟨hk.2, hk.1.2⟩ | exact hk.2 | exact hk.1 | exact hk.1.2) (.string ((rd_T67 l0 x16_1).f3))) (fun _ h_ => h_.1))) (Kd.R_base ho37) hb); have n1_ := am (Kd.R_lower (Kd.R_new' ho37 (Kd.R_lt (by (with_reducible repeat (first | apply Kd.R_alloc | apply Kd.R_drewN | apply Kd.R_drew)); exact (Kd.R_mono (Kd.R_far (p := ⟨gb383, 3, none⟩) (Kd.R_far (p := ⟨gb383, 2, none⟩) (Kd.R_far (p := ⟨gb383, 1, none⟩) (Kd.R_far (p := ⟨gb383, 0, none⟩) (Kd.R_types HO_4.out BK383.out (by decide)) (fun _ hk => by first | trivial | exact hk | exact ⟨hk.2, hk.1⟩ | exact ⟨hk.2, hk.1.2⟩ | exact hk.2 | exact hk.1 | exact hk.1.2) (.bool false)) (fun _ hk => by first | trivial | exact hk | exact ⟨hk.2, hk.1⟩ | exact ⟨hk.2, hk.1.2⟩ | exact hk.2 | exact hk.1 | exact hk.1.2) (.int .i64 ((rd_T67 l0 x16_1).f1))) (fun _ hk => by first | trivial | exact hk | exact ⟨hk.2, hk.1⟩ | exact ⟨hk.2, hk.1.2⟩ | exact hk.2 | exact hk.1 | exact hk.1.2) (.int .i64 ((rd_T67 l0 x16_1).f2))) (fun _ hk => by first | trivial | exact hk | exact ⟨hk.2, hk.1⟩ | exact ⟨hk.2, hk.1.2⟩ | exact hk.2 | exact hk.1 | exact hk.1.2) (.string ((rd_T67 l0 x16_1).f3))) (fun _ h_ => h_.1))))) (below_size (by repeat (first | (with_reducible first | exact HB.out | apply below_alloc | apply pw_below_drewN | apply below_drew1 | refine below_set ?_ GE383.out) | exact HB.out)))); have n2_ := am (blk_below (g := gb383) (o := .cells #[.bool false, .int .i64 ((rd_T67 l0 x16_1).f1), .int .i64 ((rd_T67 l0 x16_1).f2), .string ((rd_T67 l0 x16_1).f3)] 67 (0, 0)) (by (with_reducible repeat (first | refine blk_drewN ?_ _ | refine blk_drew ?_ | refine blk_alloc ?_ _)); refine blk_put (cs := #[.bool false, .int .i64 ((rd_T67 l0 x16_1).f1), .int .i64 ((rd_T67 l0 x16_1).f2), .string (⟨#[]⟩ : ByteArray)]) ?_ 3 _ rfl; (with_reducible repeat (first | refine blk_drewN ?_ _ | refine blk_drew ?_ | refine blk_alloc ?_ _)); refine blk_put (cs := #[.bool false, .int .i64 ((rd_T67 l0 x16_1).f1), .int .i64 0, .string (⟨#[]⟩ : ByteArray)]) ?_ 2 _ rfl; (with_reducible repeat (first | refine blk_drewN ?_ _ | refine blk_drew ?_ | refine blk_alloc ?_ _)); refine blk_put (cs := #[.bool false, .int .i64 0, .int .i64 0, .string (⟨#[]⟩ : ByteArray)]) ?_ 1 _ rfl; (with_reducible repeat (first | refine blk_drewN ?_ _ | refine blk_drew ?_ | refine blk_alloc ?_ _)); refine blk_put (cs := #[.bool false, .int .i64 0, .int .i64 0, .string (⟨#[]⟩ : ByteArray)]) ?_ 0 _ rfl; (with_reducible repeat (first | refine blk_drewN ?_ _ | refine blk_drew ?_ | refine blk_alloc ?_ _)); exact BK383.out) hb); have n3_ := am (below_step (by repeat (first | (with_reducible first | exact HB.out | apply below_alloc | apply pw_below_drewN | apply below_drew1 | refine below_set ?_ GE383.out) | exact HB.out)) hb); clear HO_4; clear BK383; clear HB; have HO_4 := n0_; have HO401 := n1_; have BK383 := n2_; have HB := n3_; clear n0_ n1_ n2_ n3_; clear hb ho37; have hcz38_0 : w36.cell? ⟨gb383, 0, none⟩ = some (.bool false) := (blk_cell BK383.out 0).trans rfl; have hcz38_1 : w36.cell? ⟨gb383, 1, none⟩ = some (.int .i64 ((rd_T67 l0 x16_1).f1)) := (blk_cell BK383.out 1).trans rfl; have hcz38_2 : w36.cell? ⟨gb383, 2, none⟩ = some (.int .i64 ((rd_T67 l0 x16_1).f2)) := (blk_cell BK383.out 2).trans rfl; have hcz38_3 : w36.cell? ⟨gb383, 3, none⟩ = some (.string ((rd_T67 l0 x16_1).f3)) := (blk_cell BK383.out 3).trans rfl; have hfz38_0 := blk_frozen BK383.out 0; have hfz38_1 := blk_frozen BK383.out 1; have hfz38_2 := blk_frozen BK383.out 2; have hfz38_3 := blk_frozen BK383.out 3) | ((with_reducible refine gate_callee (f := 93) rfl ?_); refine goesL_ (some 38) rfl rfl Try.func93 (by kernel_rfl) rfl #[.string ((rd_T67 l0 x16_1).f3)] rfl (by (try simp only [List.map_toArray, List.map_cons, List.map_nil]); first | done | rfl | (simp only [List.length_drop, List.length_take]; rfl)) ?_; (with_reducible refine (wire_Text.calls k1 ((rd_T67 l0 x16_1).f3) t402 _ A32.out).mono ?_); rintro e w39 ⟨v403, rfl, ho0, hb⟩; refine ⟨_, rfl, ?_⟩; have n0_ := am (Kd.R_elder' (rr HO_4.out) (Kd.R_base ho0) hb); have n1_ := am (Kd.R_elder' (rr HO401.out) (Kd.R_base ho0) hb); have n2_ := am (Kd.R_lower (Kd.R_new' (Kd.R_new' ho0 (Kd.R_lt (rr HO_4.out))) (Kd.R_lt (rr HO401.out))) (below_size (by repeat (first | (with_reducible first | exact HB.out | apply below_alloc | apply pw_below_drewN | apply below_drew1 | refine below_set ?_ GE383.out) | exact HB.out)))); have n3_ := am (blk_below (g := gb383) (o := .cells #[.bool false, .int .i64 ((rd_T67 l0 x16_1).f1), .int .i64 ((rd_T67 l0 x16_1).f2), .string ((rd_T67 l0 x16_1).f3)] 67 (0, 0)) (bk BK383.out) hb); have n4_ := am (below_step (by repeat (first | (with_reducible first | exact HB.out | apply below_alloc | apply pw_below_drewN | apply below_drew1 | refine below_set ?_ GE383.out) | exact HB.out)) hb); clear HO_4; clear HO401; clear BK383; clear HB; have HO_4 := n0_; have HO401 := n1_; have HO404 := n2_; have BK383 := n3_; have HB := n4_; clear n0_ n1_ n2_ n3_ n4_; (try clear hb); (try clear hb2); (try clear hk); (try clear hi); (try clear ho0); obtain ⟨Ao40, co40, eo40⟩ := Kd.R_slice HO_4.out; subst eo40; obtain ⟨Ao41, co41, eo41⟩ := Kd.R_slice HO401.out; subst eo41; obtain ⟨Ao42, co42, eo42⟩ := Kd.R_slice HO404.out; subst eo42) | ((with_reducible refine gate_dst (N := 39) rfl ?_); refine Kd.N_lit (Kd.slice 5 (Kd.int .u8)) _ 40 ?hg (N' := 39) ?hd (xs := ([x4_1, y399, t402] : List (List Int))) (inner := [.slice Ao40 x4_1.length co40, .slice Ao41 y399.length co41, .slice Ao42 t402.length co42]) (ok := (fun k_ => k_ ≠ gb383)) (okp := (fun k_ => k_ ≠ gb383)) ?hr ?hp (fun _ hk => hk) ((show ∀ k_, w39.heap.size ≤ k_ → (fun k_ => k_ ≠ gb383) k_ from fun k_ hk => Kd.freshB (g := gb383) (o := .cells #[.bool false, .int .i64 ((rd_T67 l0 x16_1).f1), .int .i64 ((rd_T67 l0 x16_1).f2), .string ((rd_T67 l0 x16_1).f3)] 67 (0, 0)) (bk BK383.out) k_ hk) _ (Nat.le_refl _)) (Below.refl _ _) (Nat.le_refl _) (by simp) ?_; (case hd => rfl); (case hg => rfl); (case hr => first | (go_simp; done) | (go_simp; rfl)); (case hp => exact (Reps.one (show Kd.FK (Kd.slice 5 (Kd.int .u8)) _ _ x4_1 [.slice Ao40 x4_1.length co40] from (Kd.FK_slice_mk (Kd.R_reads' (Kd.R_mono (ok' := (fun k_ => k_ ≠ gb383)) (Kd.R_types (HO_4.out) BK383.out (by decide)) (fun k_ hk => hk.2))).2.1 (Kd.R_F (Kd.R_mono (ok' := (fun k_ => k_ ≠ gb383)) (Kd.R_types (HO_4.out) BK383.out (by decide)) (fun k_ hk => hk.2))))) (Reps.one (show Kd.FK (Kd.slice 5 (Kd.int .u8)) _ _ y399 [.slice Ao41 y399.length co41] from (Kd.FK_slice_mk (Kd.R_reads' (Kd.R_mono (ok' := (fun k_ => k_ ≠ gb383)) (Kd.R_types (HO401.out) BK383.out (by decide)) (fun k_ hk => hk.2))).2.1 (Kd.R_F (Kd.R_mono (ok' := (fun k_ => k_ ≠ gb383)) (Kd.R_types (HO401.out) BK383.out (by decide)) (fun k_ hk => hk.2))))) (Reps.one (show Kd.FK (Kd.slice 5 (Kd.int .u8)) _ _ t402 [.slice Ao42 t402.length co42] from (Kd.FK_slice_mk (Kd.R_reads' (Kd.R_mono (ok' := (fun k_ => k_ ≠ gb383)) (Kd.R_types (HO404.out) BK383.out (by decide)) (fun k_ hk => hk.2))).2.1 (Kd.R_F (Kd.R_mono (ok' := (fun k_ => k_ ≠ gb383)) (Kd.R_types (HO404.out) BK383.out (by decide)) (fun k_ hk => hk.2))))) (Reps.none _ _))))); intro v406 w43 ho44 hb hg_ hnew_; clear hg_ hnew_; (first | rw [← Ny405.out] at ho44 | (simp only [Int.reduceToNat] at ho44; rw [← Ny405.out] at ho44)); have n0_ := am (Kd.N_lower ho44 (below_size (by repeat (first | (with_reducible first | exact HB.out | apply below_alloc | apply pw_below_drewN | apply below_drew1 | refine below_set ?_ GE383.out) | exact HB.out)))); have n1_ := am (blk_below (g := gb383) (o := .cells #[.bool false, .int .i64 ((rd_T67 l0 x16_1).f1), .int .i64 ((rd_T67 l0 x16_1).f2), .string ((rd_T67 l0 x16_1).f3)] 67 (0, 0)) (bk BK383.out) hb); have n2_ := am (below_step (by repeat (first | (with_reducible first | exact HB.out | apply below_alloc | apply pw_below_drewN | apply below_drew1 | refine below_set ?_ GE383.out) | exact HB.out)) hb); clear BK383; clear HB; clear HO401; clear HO404; clear HO_4; have HO407 := n0_; have BK383 := n1_; have HB := n2_; clear n0_ n1_ n2_; clear hb ho44; obtain ⟨Ao45, co45, eo45⟩ := Kd.N_slice HO407.out; subst eo45) | ((with_reducible refine gate_callee (f := 83) rfl ?_); refine goesL_ (some 40) rfl rfl Try.func83 (by kernel_rfl) rfl #[.slice Ao45 y405.length co45] rfl (by (try simp only [List.map_toArray, List.map_cons, List.map_nil]); first | done | rfl | (simp only [List.length_drop, List.length_take]; rfl)) ?_; (with_reducible refine (slices_Concat_byte_byte.calls k1 _ _ y405 t408 _ ?side1 ?side2 A33.out).mono ?_); (case side1 => repeat (first | exact (Kd.N_reads' HO407.out).2.2 | (with_reducible refine Kd.C_alloc ?_ _) | (with_reducible refine Kd.C_drewN ?_ _) | (with_reducible refine Kd.C_drew ?_))); (case side2 => exact (Kd.N_reads' HO407.out).2.1); rintro e w46 ⟨v409, rfl, ho0, hb⟩; refine ⟨_, rfl, ?_⟩; have n0_ := am (Kd.N_elder' (by (with_reducible repeat (first | apply Kd.N_alloc | apply Kd.N_drewN | apply Kd.N_drew)); exact HO407.out) (Kd.R_base ho0) hb); have n1_ := am (Kd.R_lower ho0 (below_size (by repeat (first | (with_reducible first | exact HB.out | apply below_alloc | apply pw_below_drewN | apply below_drew1 | refine below_set ?_ GE383.out) | exact HB.out)))); have n2_ := am (blk_below (g := gb383) (o := .cells #[.bool false, .int .i64 ((rd_T67 l0 x16_1).f1), .int .i64 ((rd_T67 l0 x16_1).f2), .string ((rd_T67 l0 x16_1).f3)] 67 (0, 0)) (bk BK383.out) hb); have n3_ := am (below_step (by repeat (first | (with_reducible first | exact HB.out | apply below_alloc | apply pw_below_drewN | apply below_drew1 | refine below_set ?_ GE383.out) | exact HB.out)) hb); clear HO407; clear BK383; clear HB; have HO407 := n0_; have HO410 := n1_; have BK383 := n2_; have HB := n3_; clear n0_ n1_ n2_ n3_; (try clear hb); (try clear hb2); (try clear hk); (try clear hi); (try clear ho0)))
        go_roundg k1
        case measure => have := HK1.out; omega
        case rel => exact ⟨(t408), (wrap64 (x16_1 + 1)), (by first | rfl | (simp; done) | (simp [*]; done)), H', ⟨by have := HK1.out; omega⟩, ⟨rr HO410.out⟩, ⟨by repeat (first | (with_reducible first | exact HB.out | apply below_alloc | apply pw_below_drewN | apply below_drew1 | refine below_set ?_ GE383.out) | exact HB.out)⟩⟩
      ·rw [if_neg c9] at H
       exact absurd H (by simp)
     ·rw [if_neg c8] at H
      exact absurd H (by simp)
    ·rw [if_neg c7] at H
     have c7b0 : decide (x16_1 < (l0.length : Int)) = false := decide_eq_false c7
     clear c7
     simp only [Option.some.injEq, Prod.mk.injEq] at H
     obtain ⟨rfl, rfl⟩ := H
     go_wp2
     go_ret2
     exact ⟨_, by first | rfl | (simp [errW_none, errW_some] <;> rfl) | (simp [*, errW_none, errW_some] <;> rfl), by (with_reducible repeat (first | apply Kd.R_alloc | apply Kd.R_drewN | apply Kd.R_drew)); exact HO_4.out, bw HB.out⟩
 ·replace c3 := Bool.eq_false_iff.mpr c3
  subst c3
  have H1 : (some (([] : List Int), false)) = some (r1, r2) := by rw [if_neg (show ¬ (false = true) by decide)] at H; exact H
  clear H
  have H := H1
  clear H1
  simp only [Option.some.injEq, Prod.mk.injEq] at H
  obtain ⟨rfl, rfl⟩ := H
  go_enter Try.func50, Try.ntmps50
  go_wp2_with (first | ((with_reducible refine gate_callee (f := 57) rfl ?_); refine goesL_ (some 8) rfl rfl Try.func57 (by kernel_rfl) rfl #[.slice A0 l0.length c0] rfl (by (try simp only [List.map_toArray, List.map_cons, List.map_nil]); first | done | rfl | (simp only [List.length_drop, List.length_take]; rfl)) ?_; (with_reducible refine (delta_May.calls k _ _ l0 false _ ?side1 ?side2 A2.out).mono ?_); (case side1 => repeat (first | exact HR0.out | (with_reducible refine Kd.C_alloc ?_ _) | (with_reducible refine Kd.C_drewN ?_ _) | (with_reducible refine Kd.C_drew ?_))); (case side2 => exact HC0.out); rintro e w47 ⟨rfl, hb⟩; refine ⟨_, rfl, ?_⟩; have n0_ := am (below_step (bw HB.out) hb); clear HB; have HB := n0_; clear n0_; (try clear hb); (try clear hb2); (try clear hk); (try clear hi)))
  go_ret2
  exact ⟨_, by first | rfl | (simp [errW_none, errW_some] <;> rfl) | (simp [*, errW_none, errW_some] <;> rfl), by first | exact Kd.R_nil _ _ _ _ _ | exact Kd.N_nil _ _ _ _ _ | exact Kd.V_nil _ _ _ _ _ | exact Kd.Q_nil _ _ _ _ _ | exact Kd.S_nil _ _ _ _ _, bw HB.out⟩
def delta_piece.j0 : Nat → List Int → Bool → Bool → Int → Int → ByteArray → Option (Bool × Int × Int × ByteArray × Int × Bool)
 | 0, _, _, _, _, _, _ => none
 | k + 1, x0, x15, x418000, x418001, x418002, x418003 => if x15 = true then (some (x418000, x418001, x418002, x418003, 0, false)) else (if 0 < (x0.length : Int) then (if (rd x0 0) = 0 then (if 1 ≤ (x0.length : Int) then ((wire_Read.f k (x0.drop 1) 200).bind fun bt421 => (some (false, 0, 0, bt421.1, wrap64 (bt421.2.1 + 1), bt421.2.2))) else (none)) else (if 1 ≤ (x0.length : Int) then ((wire_Get.f k (x0.drop 1)).bind fun bt425 => (if 0 ≤ (wrap64 (1 + bt425.2.1)) then (if (wrap64 (1 + bt425.2.1)) ≤ (x0.length : Int) then ((wire_Get.f k (x0.drop ((wrap64 (1 + bt425.2.1)) : Int).toNat)).bind fun bt429 => (if bt425.2.2 = true then (if bt429.2.2 = true then (if bt425.1 > 200 then (some (x418000, x418001, x418002, x418003, 0, false)) else (if bt429.1 > 200 then (some (x418000, x418001, x418002, x418003, 0, false)) else (some (true, wrap64 (bt425.1), wrap64 (bt429.1), (⟨#[]⟩ : ByteArray), wrap64 ((wrap64 (1 + bt425.2.1)) + bt429.2.1), true)))) else (some (x418000, x418001, x418002, x418003, 0, false))) else (some (x418000, x418001, x418002, x418003, 0, false)))) else (none)) else (none))) else (none))) else (none))
def delta_piece.f (k : Nat) (l0 : List Int) : Option (Bool × Int × Int × ByteArray × Int × Bool) := if (l0.length : Int) = 0 then (delta_piece.j0 k l0 true false 0 0 (⟨#[]⟩ : ByteArray)) else (if 0 < (l0.length : Int) then (delta_piece.j0 k l0 (decide ((rd l0 0) > 1)) false 0 0 (⟨#[]⟩ : ByteArray)) else (none))
set_option maxHeartbeats 8000000 in
theorem delta_piece.calls (k : Nat) (A0 : Option Addr) (c0 : Nat) (l0 : List Int) (r1 : Bool) (r2 : Int) (r3 : Int) (r4 : ByteArray) (r5 : Int) (r6 : Bool) (w : World) (hr0 : Kd.C (Kd.int .u8) w A0 l0.length l0) (hc0 : l0.length ≤ c0) (h : delta_piece.f k l0 = some (r1, r2, r3, r4, r5, r6)) :
  Calls Try.prog 95 #[.slice A0 l0.length c0] w fun e w' => e = .returned (.tuple #[.agg #[.bool r1, .int .i64 r2, .int .i64 r3, .string r4], .int .i64 r5, .bool r6]) ∧ Below w.heap.size w w' := by
 have hu67 := Try.underlying67
 have HR0 := am hr0
 have HC0 := am hc0
 clear hr0 hc0
 have HB := am (Below.refl w.heap.size w)
 have H : (if (l0.length : Int) = 0 then (delta_piece.j0 k l0 true false 0 0 (⟨#[]⟩ : ByteArray)) else (if 0 < (l0.length : Int) then (delta_piece.j0 k l0 (decide ((rd l0 0) > 1)) false 0 0 (⟨#[]⟩ : ByteArray)) else (none))) = some (r1, r2, r3, r4, r5, r6) := h
 clear h
 have HC2 := am H
 clear H
 go_enter Try.func95, Try.ntmps95
 go_upto_region 2 with (first | ((with_reducible refine gate_dst (N := 2) rfl ?_); refine box_event ?hg (N := 2) ?hd (cs := #[.bool false, .int .i64 0, .int .i64 0, .string (⟨#[]⟩ : ByteArray)]) (t := 67) ?hr ?_; (case hd => rfl); (case hg => rfl); (case hr => first | (go_simp; done) | (go_simp; rfl)); intro gb416 hg w3 hbox hb; have n0_ := am (below_step (bw HB.out) hb); have n1_ := am (hbox); have n2_ := am ((by rw [hg]; exact (below_size (bw HB.out)) : w.heap.size ≤ gb416)); have n3_ := am ((by rw [hg]; exact (below_size (bw HB.out)) : w.heap.size ≤ gb416)); clear HB; have HB := n0_; have BK416 := n1_; have GW416 := n2_; have GE416 := n3_; clear n0_ n1_ n2_ n3_; clear hb hbox hg) | ((with_reducible refine gate_dst (N := 5) rfl ?_); refine box_event ?hg (N := 5) ?hd (cs := #[.bool false, .int .i64 0, .int .i64 0, .string (⟨#[]⟩ : ByteArray)]) (t := 67) ?hr ?_; (case hd => rfl); (case hg => rfl); (case hr => first | (go_simp; done) | (go_simp; rfl)); intro gb417 hg w4 hbox hb; have n0_ := am (blk_below (g := gb416) (o := .cells #[.bool false, .int .i64 0, .int .i64 0, .string (⟨#[]⟩ : ByteArray)] 67 (0, 0)) (bk BK416.out) hb); have n1_ := am (below_step (by repeat (first | (with_reducible first | exact HB.out | apply below_alloc | apply pw_below_drewN | apply below_drew1 | refine below_set ?_ GE416.out) | exact HB.out)) hb); have n2_ := am (hbox); have n3_ := am ((by rw [hg]; exact (below_size (by repeat (first | (with_reducible first | exact HB.out | apply below_alloc | apply pw_below_drewN | apply below_drew1 | refine below_set ?_ GE416.out) | exact HB.out))) : w.heap.size ≤ gb417)); have n4_ := am ((by rw [hg]; exact (below_size (by repeat (first | (with_reducible first | exact HB.out | apply below_alloc | apply pw_below_drewN | apply below_drew1 | refine below_set ?_ GE416.out) | exact HB.out))) : w.heap.size ≤ gb417)); have n5_ := am ((by rw [hg]; exact Nat.ne_of_lt (blk_lt (g := gb416) (o := .cells #[.bool false, .int .i64 0, .int .i64 0, .string (⟨#[]⟩ : ByteArray)] 67 (0, 0)) (bk BK416.out)) : gb416 ≠ gb417)); have n6_ := am ((by rw [hg]; exact Nat.ne_of_gt (blk_lt (g := gb416) (o := .cells #[.bool false, .int .i64 0, .int .i64 0, .string (⟨#[]⟩ : ByteArray)] 67 (0, 0)) (bk BK416.out)) : gb417 ≠ gb416)); clear BK416; clear HB; have BK416 := n0_; have HB := n1_; have BK417 := n2_; have GW417 := n3_; have GE417 := n4_; have NB416_417 := n5_; have NB417_416 := n6_; clear n0_ n1_ n2_ n3_ n4_ n5_ n6_; clear hb hbox hg))
 (try simp only [Act.put, List.setIfInBounds_toArray, List.set_cons_zero, List.set_cons_succ])
 go_cut [15] (fun v15 wc => ∃ (kq : Nat) (x15_1 : Bool), v15 = .bool x15_1 ∧ Aside0 (delta_piece.j0 kq l0 x15_1 false 0 0 (⟨#[]⟩ : ByteArray) = some (r1, r2, r3, r4, r5, r6)) ∧ Aside0 (kq ≤ k) ∧ Aside0 (wc.heap[gb416]? = some (.cells #[.bool false, .int .i64 0, .int .i64 0, .string (⟨#[]⟩ : ByteArray)] 67 (0, 0))) ∧ Aside0 (wc.heap[gb417]? = some (.cells #[.bool false, .int .i64 0, .int .i64 0, .string (⟨#[]⟩ : ByteArray)] 67 (0, 0))) ∧ Aside0 (Below w.heap.size w wc))
 case first =>
  have H := HC2.out
  clear HC2
  by_cases c5 : (l0.length : Int) = 0
  ·rw [if_pos c5] at H
   have c5b0 : ((l0.length : Int) == 0) = true := beq_iff_eq.mpr c5
   have c5b1 : ((l0.length : Int) != 0) = false := bne_eq_false_iff_eq.mpr c5
   clear c5
   (first | rw [c5b0] | (simp only [i64_w, i32_w]; rw [c5b0]) | skip)
   have H' := am H
   clear H
   go_wp2
   go_meet
   case rel => exact ⟨_, (true), (by first | rfl | (simp; done) | (simp [*]; done)), H', ⟨by first | omega | exact Nat.le_refl _⟩, ⟨bk BK416.out⟩, ⟨bk BK417.out⟩, ⟨by repeat (first | (with_reducible first | exact HB.out | apply below_alloc | apply pw_below_drewN | apply below_drew1 | refine below_set ?_ GE416.out | refine below_set ?_ GE417.out) | exact HB.out)⟩⟩
  ·rw [if_neg c5] at H
   have c5b0 : ((l0.length : Int) == 0) = false := beq_eq_false_iff_ne.mpr c5
   have c5b1 : ((l0.length : Int) != 0) = true := bne_iff_ne.mpr c5
   have c5b2 : ¬ (l0 = []) := fun h_ => c5 (by rw [h_]; rfl)
   (first | rw [c5b0] | (simp only [i64_w, i32_w]; rw [c5b0]) | skip)
   by_cases c6 : 0 < (l0.length : Int)
   ·rw [if_pos c6] at H
    have c6b0 : decide (0 < (l0.length : Int)) = true := decide_eq_true c6
    have c6b1 : decide (0 < l0.length) = true := decide_eq_true (by omega)
    clear c6
    have H' := am H
    clear H
    have p418 : 0 ≤ (0 : Int) := (by omega)
    have q418 : 0 < (l0.length : Int) := of_decide_eq_true (by first | (with_reducible assumption) | assumption)
    obtain ⟨ad418, e418, hx418_0⟩ := Kd.at_int HR0.out 0 p418 q418
    cases e418
    have qi418 : (0 < l0.length) = True := eq_true (by omega)
    (try rw [show ((0 : Int)).toNat = 0 from rfl] at hx418_0)
    (try rw [Addr.add_zero'] at hx418_0)
    replace hx418_0 := (HB.out.cell (World.block_lt_of_cell? w _ hx418_0)).trans hx418_0
    replace p418 := eq_true p418
    replace q418 := eq_true q418
    go_wp2
    go_meet
    case rel => exact ⟨_, (decide ((rd l0 0) > 1)), (by first | rfl | (simp; done) | (simp [*]; done)), H', ⟨by first | omega | exact Nat.le_refl _⟩, ⟨bk BK416.out⟩, ⟨bk BK417.out⟩, ⟨by repeat (first | (with_reducible first | exact HB.out | apply below_alloc | apply pw_below_drewN | apply below_drew1 | refine below_set ?_ GE416.out | refine below_set ?_ GE417.out) | exact HB.out)⟩⟩
   ·rw [if_neg c6] at H
    exact absurd H (by simp)
 case rest =>
  clear HC2
  try clear p2
  try clear p4
  try clear q4
  try clear hx4
  try clear qi4
  try clear c5
  try clear c5b0
  try clear c5b1
  try clear c5b2
  try clear c6
  try clear c6b0
  try clear c6b1
  try clear hx418_0
  try clear p418
  try clear q418
  obtain ⟨kq, x15_1, rfl, HA, HJ1, BK416, BK417, HB⟩ := hcut
  cases kq with
  | zero => exact absurd HA.out (by simp [delta_piece.j0])
  | succ kj1 =>
   have H := HA.out
   clear HA
   simp only [delta_piece.j0] at H
   by_cases c7 : x15_1 = true
   ·subst c7
    have H1 : (some (false, 0, 0, (⟨#[]⟩ : ByteArray), 0, false)) = some (r1, r2, r3, r4, r5, r6) := by rw [if_pos rfl] at H; exact H
    clear H
    have H := H1
    clear H1
    simp only [Option.some.injEq, Prod.mk.injEq] at H
    obtain ⟨rfl, rfl, rfl, rfl, rfl, rfl⟩ := H
    have hnb8 := NB417_416.out
    have hnc8 := NB416_417.out
    have hcz9_0 : wc.cell? ⟨gb417, 0, none⟩ = some (.bool false) := (blk_cell BK417.out 0).trans rfl
    have hcz9_1 : wc.cell? ⟨gb417, 1, none⟩ = some (.int .i64 0) := (blk_cell BK417.out 1).trans rfl
    have hcz9_2 : wc.cell? ⟨gb417, 2, none⟩ = some (.int .i64 0) := (blk_cell BK417.out 2).trans rfl
    have hcz9_3 : wc.cell? ⟨gb417, 3, none⟩ = some (.string (⟨#[]⟩ : ByteArray)) := (blk_cell BK417.out 3).trans rfl
    have hfz9_0 := blk_frozen BK417.out 0
    have hfz9_1 := blk_frozen BK417.out 1
    have hfz9_2 := blk_frozen BK417.out 2
    have hfz9_3 := blk_frozen BK417.out 3
    have hcz10_0 : wc.cell? ⟨gb416, 0, none⟩ = some (.bool false) := (blk_cell BK416.out 0).trans rfl
    have hcz10_1 : wc.cell? ⟨gb416, 1, none⟩ = some (.int .i64 0) := (blk_cell BK416.out 1).trans rfl
    have hcz10_2 : wc.cell? ⟨gb416, 2, none⟩ = some (.int .i64 0) := (blk_cell BK416.out 2).trans rfl
    have hcz10_3 : wc.cell? ⟨gb416, 3, none⟩ = some (.string (⟨#[]⟩ : ByteArray)) := (blk_cell BK416.out 3).trans rfl
    have hfz10_0 := blk_frozen BK416.out 0
    have hfz10_1 := blk_frozen BK416.out 1
    have hfz10_2 := blk_frozen BK416.out 2
    have hfz10_3 := blk_frozen BK416.out 3
    go_wp2
    refine bodyPost_ret (results_ctt rfl _ _ gb416 67 #[.bool false, .int .i64 0, .int .i64 0, .string (⟨#[]⟩ : ByteArray)] (0, 0) _ rfl (by (with_reducible repeat (first | refine blk_drewN ?_ _ | refine blk_drew ?_ | refine blk_alloc ?_ _)); refine blk_put (cs := #[.bool false, .int .i64 0, .int .i64 0, .string (⟨#[]⟩ : ByteArray)]) ?_ 3 _ rfl; (with_reducible repeat (first | refine blk_drewN ?_ _ | refine blk_drew ?_ | refine blk_alloc ?_ _)); refine blk_put (cs := #[.bool false, .int .i64 0, .int .i64 0, .string (⟨#[]⟩ : ByteArray)]) ?_ 2 _ rfl; (with_reducible repeat (first | refine blk_drewN ?_ _ | refine blk_drew ?_ | refine blk_alloc ?_ _)); refine blk_put (cs := #[.bool false, .int .i64 0, .int .i64 0, .string (⟨#[]⟩ : ByteArray)]) ?_ 1 _ rfl; (with_reducible repeat (first | refine blk_drewN ?_ _ | refine blk_drew ?_ | refine blk_alloc ?_ _)); refine blk_put (cs := #[.bool false, .int .i64 0, .int .i64 0, .string (⟨#[]⟩ : ByteArray)]) ?_ 0 _ rfl; (with_reducible repeat (first | refine blk_drewN ?_ _ | refine blk_drew ?_ | refine blk_alloc ?_ _)); exact BK416.out) Try.underlying67 rfl (by kernel_rfl)) rfl ?_
    exact ⟨by first | rfl | (simp [errW_none, errW_some] <;> rfl) | (simp [*, errW_none, errW_some] <;> rfl), by repeat (first | (with_reducible first | exact HB.out | apply below_alloc | apply pw_below_drewN | apply below_drew1 | refine below_set ?_ GE416.out | refine below_set ?_ GE417.out) | exact HB.out)⟩
   ·replace c7 := Bool.eq_false_iff.mpr c7
    subst c7
    have H1 : (if 0 < (l0.length : Int) then (if (rd l0 0) = 0 then (if 1 ≤ (l0.length : Int) then ((wire_Read.f kj1 (l0.drop 1) 200).bind fun bt421 => (some (false, 0, 0, bt421.1, wrap64 (bt421.2.1 + 1), bt421.2.2))) else (none)) else (if 1 ≤ (l0.length : Int) then ((wire_Get.f kj1 (l0.drop 1)).bind fun bt425 => (if 0 ≤ (wrap64 (1 + bt425.2.1)) then (if (wrap64 (1 + bt425.2.1)) ≤ (l0.length : Int) then ((wire_Get.f kj1 (l0.drop ((wrap64 (1 + bt425.2.1)) : Int).toNat)).bind fun bt429 => (if bt425.2.2 = true then (if bt429.2.2 = true then (if bt425.1 > 200 then (some (false, 0, 0, (⟨#[]⟩ : ByteArray), 0, false)) else (if bt429.1 > 200 then (some (false, 0, 0, (⟨#[]⟩ : ByteArray), 0, false)) else (some (true, wrap64 (bt425.1), wrap64 (bt429.1), (⟨#[]⟩ : ByteArray), wrap64 ((wrap64 (1 + bt425.2.1)) + bt429.2.1), true)))) else (some (false, 0, 0, (⟨#[]⟩ : ByteArray), 0, false))) else (some (false, 0, 0, (⟨#[]⟩ : ByteArray), 0, false)))) else (none)) else (none))) else (none))) else (none)) = some (r1, r2, r3, r4, r5, r6) := by rw [if_neg (show ¬ (false = true) by decide)] at H; exact H
    clear H
    have H := H1
    clear H1
    by_cases c11 : 0 < (l0.length : Int)
    ·rw [if_pos c11] at H
     have c11b0 : decide (0 < (l0.length : Int)) = true := decide_eq_true c11
     have c11b1 : decide (0 < l0.length) = true := decide_eq_true (by omega)
     clear c11
     by_cases c12 : (rd l0 0) = 0
     ·rw [if_pos c12] at H
      have c12b0 : ((rd l0 0) == 0) = true := beq_iff_eq.mpr c12
      have c12b1 : ((rd l0 0) != 0) = false := bne_eq_false_iff_eq.mpr c12
      clear c12
      by_cases c13 : 1 ≤ (l0.length : Int)
      ·rw [if_pos c13] at H
       have c13b0 := eq_true c13
       have c13b1 : decide (1 ≤ (l0.length : Int)) = true := decide_eq_true c13
       clear c13
       replace H := Option.bind_eq_some_iff.mp H
       obtain ⟨⟨t421, t422, t423⟩, A140, H⟩ := H
       replace H : (some (false, 0, 0, t421, wrap64 (t422 + 1), t423)) = some (r1, r2, r3, r4, r5, r6) := H
       have A14 := am A140
       clear A140
       simp only [Option.some.injEq, Prod.mk.injEq] at H
       obtain ⟨rfl, rfl, rfl, rfl, rfl, rfl⟩ := H
       have p419 : 0 ≤ (0 : Int) := (by omega)
       have q419 : 0 < (l0.length : Int) := of_decide_eq_true (by first | (with_reducible assumption) | assumption)
       obtain ⟨ad419, e419, hx419_0⟩ := Kd.at_int HR0.out 0 p419 q419
       cases e419
       have qi419 : (0 < l0.length) = True := eq_true (by omega)
       (try rw [show ((0 : Int)).toNat = 0 from rfl] at hx419_0)
       (try rw [Addr.add_zero'] at hx419_0)
       replace hx419_0 := (HB.out.cell (World.block_lt_of_cell? w _ hx419_0)).trans hx419_0
       replace p419 := eq_true p419
       replace q419 := eq_true q419
       obtain ⟨i015, hi015, _, hsz15, _⟩ := info_parts info5
       obtain ⟨A15, hcut15, hA15, hC15⟩ := print_drop_of (P := Try.prog) (Value.int .u8) 0 40 5 .i64 Try.underlying40 hi015 hsz15 (some ad419) c0 l0 1 (by omega) (of_decide_eq_true (by first | (with_reducible assumption) | assumption)) HC0.out
       have HR420 := am (Kd.C_of_reads (h1 := fun _ => rfl) (hA15 _ (Kd.reads_of_C HR0.out)))
       have HC420 := am hC15
       clear hA15 hC15 hi015 hsz15
       go_wp2_with (first | ((with_reducible refine gate_callee (f := 143) rfl ?_); refine goesL_ (some 34) rfl rfl Try.func143 (by kernel_rfl) rfl #[.slice A15 (l0.drop 1).length (c0 - 1), .int .i64 200] rfl (by (try simp only [List.map_toArray, List.map_cons, List.map_nil]); first | done | (rw [show (l0.drop 1).length = (l0.length - 1) from List.length_drop] <;> rfl) | rfl | (simp only [List.length_drop, List.length_take]; rfl)) ?_; (with_reducible refine (wire_Read.calls kj1 _ _ (l0.drop 1) 200 t421 t422 t423 _ ?side1 ?side2 A14.out).mono ?_); (case side1 => repeat (first | exact (Kd.C_below HR420.out HB.out) | (with_reducible refine Kd.C_alloc ?_ _) | (with_reducible refine Kd.C_drewN ?_ _) | (with_reducible refine Kd.C_drew ?_))); (case side2 => exact HC420.out); rintro e w16 ⟨rfl, hb⟩; refine ⟨_, rfl, ?_⟩; have n0_ := am (blk_below (g := gb416) (o := .cells #[.bool false, .int .i64 0, .int .i64 0, .string (⟨#[]⟩ : ByteArray)] 67 (0, 0)) (bk BK416.out) hb); have n1_ := am (blk_below (g := gb417) (o := .cells #[.bool false, .int .i64 0, .int .i64 0, .string (⟨#[]⟩ : ByteArray)] 67 (0, 0)) (bk BK417.out) hb); have n2_ := am (below_step (by repeat (first | (with_reducible first | exact HB.out | apply below_alloc | apply pw_below_drewN | apply below_drew1 | refine below_set ?_ GE416.out | refine below_set ?_ GE417.out) | exact HB.out)) hb); clear BK416; clear BK417; clear HB; have BK416 := n0_; have BK417 := n1_; have HB := n2_; clear n0_ n1_ n2_; (try clear hb); (try clear hb2); (try clear hk); (try clear hi); have hnb17 := NB416_417.out; have hnc17 := NB417_416.out; have hcz18_0 : w16.cell? ⟨gb416, 0, none⟩ = some (.bool false) := (blk_cell BK416.out 0).trans rfl; have hcz18_1 : w16.cell? ⟨gb416, 1, none⟩ = some (.int .i64 0) := (blk_cell BK416.out 1).trans rfl; have hcz18_2 : w16.cell? ⟨gb416, 2, none⟩ = some (.int .i64 0) := (blk_cell BK416.out 2).trans rfl; have hcz18_3 : w16.cell? ⟨gb416, 3, none⟩ = some (.string (⟨#[]⟩ : ByteArray)) := (blk_cell BK416.out 3).trans rfl; have hfz18_0 := blk_frozen BK416.out 0; have hfz18_1 := blk_frozen BK416.out 1; have hfz18_2 := blk_frozen BK416.out 2; have hfz18_3 := blk_frozen BK416.out 3))
       refine bodyPost_ret (results_ctt rfl _ _ gb416 67 #[.bool false, .int .i64 0, .int .i64 0, .string t421] (0, 0) _ rfl (by (with_reducible repeat (first | refine blk_drewN ?_ _ | refine blk_drew ?_ | refine blk_alloc ?_ _)); refine blk_put (cs := #[.bool false, .int .i64 0, .int .i64 0, .string (⟨#[]⟩ : ByteArray)]) ?_ 3 _ rfl; (with_reducible repeat (first | refine blk_drewN ?_ _ | refine blk_drew ?_ | refine blk_alloc ?_ _)); refine blk_put (cs := #[.bool false, .int .i64 0, .int .i64 0, .string (⟨#[]⟩ : ByteArray)]) ?_ 2 _ rfl; (with_reducible repeat (first | refine blk_drewN ?_ _ | refine blk_drew ?_ | refine blk_alloc ?_ _)); refine blk_put (cs := #[.bool false, .int .i64 0, .int .i64 0, .string (⟨#[]⟩ : ByteArray)]) ?_ 1 _ rfl; (with_reducible repeat (first | refine blk_drewN ?_ _ | refine blk_drew ?_ | refine blk_alloc ?_ _)); refine blk_put (cs := #[.bool false, .int .i64 0, .int .i64 0, .string (⟨#[]⟩ : ByteArray)]) ?_ 0 _ rfl; (with_reducible repeat (first | refine blk_drewN ?_ _ | refine blk_drew ?_ | refine blk_alloc ?_ _)); exact BK416.out) Try.underlying67 rfl (by kernel_rfl)) rfl ?_
       exact ⟨by first | rfl | (simp [errW_none, errW_some] <;> rfl) | (simp [*, errW_none, errW_some] <;> rfl), by repeat (first | (with_reducible first | exact HB.out | apply below_alloc | apply pw_below_drewN | apply below_drew1 | refine below_set ?_ GE416.out | refine below_set ?_ GE417.out) | exact HB.out)⟩
      ·rw [if_neg c13] at H
       exact absurd H (by simp)
     ·rw [if_neg c12] at H
      have c12b0 : ((rd l0 0) == 0) = false := beq_eq_false_iff_ne.mpr c12
      have c12b1 : ((rd l0 0) != 0) = true := bne_iff_ne.mpr c12
      by_cases c19 : 1 ≤ (l0.length : Int)
      ·rw [if_pos c19] at H
       have c19b0 := eq_true c19
       have c19b1 : decide (1 ≤ (l0.length : Int)) = true := decide_eq_true c19
       clear c19
       replace H := Option.bind_eq_some_iff.mp H
       obtain ⟨⟨t425, t426, t427⟩, A200, H⟩ := H
       replace H : (if 0 ≤ (wrap64 (1 + t426)) then (if (wrap64 (1 + t426)) ≤ (l0.length : Int) then ((wire_Get.f kj1 (l0.drop ((wrap64 (1 + t426)) : Int).toNat)).bind fun bt429 => (if t427 = true then (if bt429.2.2 = true then (if t425 > 200 then (some (false, 0, 0, (⟨#[]⟩ : ByteArray), 0, false)) else (if bt429.1 > 200 then (some (false, 0, 0, (⟨#[]⟩ : ByteArray), 0, false)) else (some (true, wrap64 (t425), wrap64 (bt429.1), (⟨#[]⟩ : ByteArray), wrap64 ((wrap64 (1 + t426)) + bt429.2.1), true)))) else (some (false, 0, 0, (⟨#[]⟩ : ByteArray), 0, false))) else (some (false, 0, 0, (⟨#[]⟩ : ByteArray), 0, false)))) else (none)) else (none)) = some (r1, r2, r3, r4, r5, r6) := H
       have A20 := am A200
       clear A200
       obtain ⟨ji21, hji21⟩ : ∃ j_ : Int, (wrap64 (1 + t426)) = j_ := ⟨_, rfl⟩
       replace H : (if 0 ≤ (ji21) then (if (ji21) ≤ (l0.length : Int) then ((wire_Get.f kj1 (l0.drop ((ji21) : Int).toNat)).bind fun bt429 => (if t427 = true then (if bt429.2.2 = true then (if t425 > 200 then (some (false, 0, 0, (⟨#[]⟩ : ByteArray), 0, false)) else (if bt429.1 > 200 then (some (false, 0, 0, (⟨#[]⟩ : ByteArray), 0, false)) else (some (true, wrap64 (t425), wrap64 (bt429.1), (⟨#[]⟩ : ByteArray), wrap64 ((ji21) + bt429.2.1), true)))) else (some (false, 0, 0, (⟨#[]⟩ : ByteArray), 0, false))) else (some (false, 0, 0, (⟨#[]⟩ : ByteArray), 0, false)))) else (none)) else (none)) = some (r1, r2, r3, r4, r5, r6) := by first | (rw [hji21] at H; exact H) | (simp only [hji21] at H ⊢; exact H)
       (try rw [hji21] at A20)
       have hji21w : (IntKind.i64.wrap (1 + t426)) = ji21 := (i64_w _).trans hji21
       by_cases c22 : 0 ≤ (ji21)
       ·rw [if_pos c22] at H
        have c22b0 := eq_true c22
        have c22b1 : decide (0 ≤ (ji21)) = true := decide_eq_true c22
        clear c22
        by_cases c23 : (ji21) ≤ (l0.length : Int)
        ·rw [if_pos c23] at H
         have c23b0 := eq_true c23
         have c23b1 : decide ((ji21) ≤ (l0.length : Int)) = true := decide_eq_true c23
         clear c23
         replace H := Option.bind_eq_some_iff.mp H
         obtain ⟨⟨t429, t430, t431⟩, A240, H⟩ := H
         replace H : (if t427 = true then (if t431 = true then (if t425 > 200 then (some (false, 0, 0, (⟨#[]⟩ : ByteArray), 0, false)) else (if t429 > 200 then (some (false, 0, 0, (⟨#[]⟩ : ByteArray), 0, false)) else (some (true, wrap64 (t425), wrap64 (t429), (⟨#[]⟩ : ByteArray), wrap64 ((ji21) + t430), true)))) else (some (false, 0, 0, (⟨#[]⟩ : ByteArray), 0, false))) else (some (false, 0, 0, (⟨#[]⟩ : ByteArray), 0, false))) = some (r1, r2, r3, r4, r5, r6) := H
         have A24 := am A240
         clear A240
         by_cases c25 : t427 = true
         ·subst c25
          have H1 : (if t431 = true then (if t425 > 200 then (some (false, 0, 0, (⟨#[]⟩ : ByteArray), 0, false)) else (if t429 > 200 then (some (false, 0, 0, (⟨#[]⟩ : ByteArray), 0, false)) else (some (true, wrap64 (t425), wrap64 (t429), (⟨#[]⟩ : ByteArray), wrap64 ((ji21) + t430), true)))) else (some (false, 0, 0, (⟨#[]⟩ : ByteArray), 0, false))) = some (r1, r2, r3, r4, r5, r6) := by rw [if_pos rfl] at H; exact H
          clear H
          have H := H1
          clear H1
          by_cases c26 : t431 = true
          ·subst c26
           have H1 : (if t425 > 200 then (some (false, 0, 0, (⟨#[]⟩ : ByteArray), 0, false)) else (if t429 > 200 then (some (false, 0, 0, (⟨#[]⟩ : ByteArray), 0, false)) else (some (true, wrap64 (t425), wrap64 (t429), (⟨#[]⟩ : ByteArray), wrap64 ((ji21) + t430), true)))) = some (r1, r2, r3, r4, r5, r6) := by rw [if_pos rfl] at H; exact H
           clear H
           have H := H1
           clear H1
           by_cases c27 : t425 > 200
           ·rw [if_pos c27] at H
            have c27b0 : decide (200 < t425) = true := decide_eq_true c27
            clear c27
            simp only [Option.some.injEq, Prod.mk.injEq] at H
            obtain ⟨rfl, rfl, rfl, rfl, rfl, rfl⟩ := H
            have p419 : 0 ≤ (0 : Int) := (by omega)
            have q419 : 0 < (l0.length : Int) := of_decide_eq_true (by first | (with_reducible assumption) | assumption)
            obtain ⟨ad419, e419, hx419_0⟩ := Kd.at_int HR0.out 0 p419 q419
            cases e419
            have qi419 : (0 < l0.length) = True := eq_true (by omega)
            (try rw [show ((0 : Int)).toNat = 0 from rfl] at hx419_0)
            (try rw [Addr.add_zero'] at hx419_0)
            replace hx419_0 := (HB.out.cell (World.block_lt_of_cell? w _ hx419_0)).trans hx419_0
            replace p419 := eq_true p419
            replace q419 := eq_true q419
            obtain ⟨i028, hi028, _, hsz28, _⟩ := info_parts info5
            obtain ⟨A28, hcut28, hA28, hC28⟩ := print_drop_of (P := Try.prog) (Value.int .u8) 0 40 5 .i64 Try.underlying40 hi028 hsz28 (some ad419) c0 l0 1 (by omega) (of_decide_eq_true (by first | (with_reducible assumption) | assumption)) HC0.out
            have HR424 := am (Kd.C_of_reads (h1 := fun _ => rfl) (hA28 _ (Kd.reads_of_C HR0.out)))
            have HC424 := am hC28
            clear hA28 hC28 hi028 hsz28
            go_wp2_with (first | ((with_reducible refine gate_callee (f := 88) rfl ?_); refine goesL_ (some 46) rfl rfl Try.func88 (by kernel_rfl) rfl #[.slice A28 (l0.drop 1).length (c0 - 1)] rfl (by (try simp only [List.map_toArray, List.map_cons, List.map_nil]); first | done | (rw [show (l0.drop 1).length = (l0.length - 1) from List.length_drop] <;> rfl) | rfl | (simp only [List.length_drop, List.length_take]; rfl)) ?_; (with_reducible refine (wire_Get.calls kj1 _ _ (l0.drop 1) t425 t426 true _ ?side1 ?side2 A20.out).mono ?_); (case side1 => repeat (first | exact (Kd.C_below HR424.out HB.out) | (with_reducible refine Kd.C_alloc ?_ _) | (with_reducible refine Kd.C_drewN ?_ _) | (with_reducible refine Kd.C_drew ?_))); (case side2 => exact HC424.out); rintro e w' ⟨rfl, ⟨nd, rfl⟩⟩; refine ⟨_, rfl, ?_⟩; (try (rw [drewN_self wc]; generalize hq_ : World.drewN wc _ = wc; have n0_ : Aside0 (wc.heap[gb416]? = some (.cells #[.bool false, .int .i64 0, .int .i64 0, .string (⟨#[]⟩ : ByteArray)] 67 (0, 0))) := ⟨by rw [← hq_]; exact (bk BK416.out)⟩; have n1_ : Aside0 (wc.heap[gb417]? = some (.cells #[.bool false, .int .i64 0, .int .i64 0, .string (⟨#[]⟩ : ByteArray)] 67 (0, 0))) := ⟨by rw [← hq_]; exact (bk BK417.out)⟩; have n2_ : Aside0 (Below w.heap.size w wc) := ⟨by rw [← hq_]; exact (by repeat (first | (with_reducible first | exact HB.out | apply below_alloc | apply pw_below_drewN | apply below_drew1 | refine below_set ?_ GE416.out | refine below_set ?_ GE417.out) | exact HB.out))⟩; clear BK416 BK417 HB hq_; have BK416 := n0_; have BK417 := n1_; have HB := n2_; clear n0_ n1_ n2_)); obtain ⟨i029, hi029, _, hsz29, _⟩ := info_parts info5; obtain ⟨A29, hcut29, hA29, hC29⟩ := print_drop_of (P := Try.prog) (Value.int .u8) 0 40 5 .i64 Try.underlying40 hi029 hsz29 (some ad419) c0 l0 (ji21) (of_decide_eq_true (by first | (with_reducible assumption) | assumption)) (of_decide_eq_true (by first | (with_reducible assumption) | assumption)) HC0.out; have HR428 := am (Kd.C_of_reads (h1 := fun _ => rfl) (hA29 _ (Kd.reads_of_C HR0.out))); have HC428 := am hC29; clear hA29 hC29 hi029 hsz29) | ((with_reducible refine gate_callee (f := 88) rfl ?_); refine goesL_ (some 55) rfl rfl Try.func88 (by kernel_rfl) rfl #[.slice A29 (l0.drop ((ji21) : Int).toNat).length (c0 - (ji21).toNat)] rfl (by (try simp only [List.map_toArray, List.map_cons, List.map_nil]); first | done | (rw [show (l0.drop ((ji21) : Int).toNat).length = (l0.length - (ji21).toNat) from List.length_drop] <;> rfl) | (simp only [hji21]; rfl) | rfl | (simp only [List.length_drop, List.length_take]; rfl)) ?_; (with_reducible refine (wire_Get.calls kj1 _ _ (l0.drop ((ji21) : Int).toNat) t429 t430 true _ ?side1 ?side2 A24.out).mono ?_); (case side1 => repeat (first | exact (Kd.C_below HR428.out HB.out) | (with_reducible refine Kd.C_alloc ?_ _) | (with_reducible refine Kd.C_drewN ?_ _) | (with_reducible refine Kd.C_drew ?_))); (case side2 => exact HC428.out); rintro e w' ⟨rfl, ⟨nd, rfl⟩⟩; refine ⟨_, rfl, ?_⟩; (try (rw [drewN_self wc]; generalize hq_ : World.drewN wc _ = wc; have n0_ : Aside0 (wc.heap[gb416]? = some (.cells #[.bool false, .int .i64 0, .int .i64 0, .string (⟨#[]⟩ : ByteArray)] 67 (0, 0))) := ⟨by rw [← hq_]; exact (bk BK416.out)⟩; have n1_ : Aside0 (wc.heap[gb417]? = some (.cells #[.bool false, .int .i64 0, .int .i64 0, .string (⟨#[]⟩ : ByteArray)] 67 (0, 0))) := ⟨by rw [← hq_]; exact (bk BK417.out)⟩; have n2_ : Aside0 (Below w.heap.size w wc) := ⟨by rw [← hq_]; exact (by repeat (first | (with_reducible first | exact HB.out | apply below_alloc | apply pw_below_drewN | apply below_drew1 | refine below_set ?_ GE416.out | refine below_set ?_ GE417.out) | exact HB.out))⟩; clear BK416 BK417 HB hq_; have BK416 := n0_; have BK417 := n1_; have HB := n2_; clear n0_ n1_ n2_)); have hnb30 := NB417_416.out; have hnc30 := NB416_417.out; have hcz31_0 : wc.cell? ⟨gb417, 0, none⟩ = some (.bool false) := (blk_cell BK417.out 0).trans rfl; have hcz31_1 : wc.cell? ⟨gb417, 1, none⟩ = some (.int .i64 0) := (blk_cell BK417.out 1).trans rfl; have hcz31_2 : wc.cell? ⟨gb417, 2, none⟩ = some (.int .i64 0) := (blk_cell BK417.out 2).trans rfl; have hcz31_3 : wc.cell? ⟨gb417, 3, none⟩ = some (.string (⟨#[]⟩ : ByteArray)) := (blk_cell BK417.out 3).trans rfl; have hfz31_0 := blk_frozen BK417.out 0; have hfz31_1 := blk_frozen BK417.out 1; have hfz31_2 := blk_frozen BK417.out 2; have hfz31_3 := blk_frozen BK417.out 3; have hcz32_0 : wc.cell? ⟨gb416, 0, none⟩ = some (.bool false) := (blk_cell BK416.out 0).trans rfl; have hcz32_1 : wc.cell? ⟨gb416, 1, none⟩ = some (.int .i64 0) := (blk_cell BK416.out 1).trans rfl; have hcz32_2 : wc.cell? ⟨gb416, 2, none⟩ = some (.int .i64 0) := (blk_cell BK416.out 2).trans rfl; have hcz32_3 : wc.cell? ⟨gb416, 3, none⟩ = some (.string (⟨#[]⟩ : ByteArray)) := (blk_cell BK416.out 3).trans rfl; have hfz32_0 := blk_frozen BK416.out 0; have hfz32_1 := blk_frozen BK416.out 1; have hfz32_2 := blk_frozen BK416.out 2; have hfz32_3 := blk_frozen BK416.out 3))
            refine bodyPost_ret (results_ctt rfl _ _ gb416 67 #[.bool false, .int .i64 0, .int .i64 0, .string (⟨#[]⟩ : ByteArray)] (0, 0) _ rfl (by (with_reducible repeat (first | refine blk_drewN ?_ _ | refine blk_drew ?_ | refine blk_alloc ?_ _)); refine blk_put (cs := #[.bool false, .int .i64 0, .int .i64 0, .string (⟨#[]⟩ : ByteArray)]) ?_ 3 _ rfl; (with_reducible repeat (first | refine blk_drewN ?_ _ | refine blk_drew ?_ | refine blk_alloc ?_ _)); refine blk_put (cs := #[.bool false, .int .i64 0, .int .i64 0, .string (⟨#[]⟩ : ByteArray)]) ?_ 2 _ rfl; (with_reducible repeat (first | refine blk_drewN ?_ _ | refine blk_drew ?_ | refine blk_alloc ?_ _)); refine blk_put (cs := #[.bool false, .int .i64 0, .int .i64 0, .string (⟨#[]⟩ : ByteArray)]) ?_ 1 _ rfl; (with_reducible repeat (first | refine blk_drewN ?_ _ | refine blk_drew ?_ | refine blk_alloc ?_ _)); refine blk_put (cs := #[.bool false, .int .i64 0, .int .i64 0, .string (⟨#[]⟩ : ByteArray)]) ?_ 0 _ rfl; (with_reducible repeat (first | refine blk_drewN ?_ _ | refine blk_drew ?_ | refine blk_alloc ?_ _)); exact BK416.out) Try.underlying67 rfl (by kernel_rfl)) rfl ?_
            exact ⟨by first | rfl | (simp [errW_none, errW_some] <;> rfl) | (simp only [← hji21]; first | rfl | (simp [errW_none, errW_some] <;> rfl)) | (simp [*, errW_none, errW_some] <;> rfl), by repeat (first | (with_reducible first | exact HB.out | apply below_alloc | apply pw_below_drewN | apply below_drew1 | refine below_set ?_ GE416.out | refine below_set ?_ GE417.out) | exact HB.out)⟩
           ·rw [if_neg c27] at H
            have c27b0 : decide (200 < t425) = false := decide_eq_false c27
            clear c27
            by_cases c33 : t429 > 200
            ·rw [if_pos c33] at H
             have c33b0 : decide (200 < t429) = true := decide_eq_true c33
             clear c33
             simp only [Option.some.injEq, Prod.mk.injEq] at H
             obtain ⟨rfl, rfl, rfl, rfl, rfl, rfl⟩ := H
             have p419 : 0 ≤ (0 : Int) := (by omega)
             have q419 : 0 < (l0.length : Int) := of_decide_eq_true (by first | (with_reducible assumption) | assumption)
             obtain ⟨ad419, e419, hx419_0⟩ := Kd.at_int HR0.out 0 p419 q419
             cases e419
             have qi419 : (0 < l0.length) = True := eq_true (by omega)
             (try rw [show ((0 : Int)).toNat = 0 from rfl] at hx419_0)
             (try rw [Addr.add_zero'] at hx419_0)
             replace hx419_0 := (HB.out.cell (World.block_lt_of_cell? w _ hx419_0)).trans hx419_0
             replace p419 := eq_true p419
             replace q419 := eq_true q419
             obtain ⟨i034, hi034, _, hsz34, _⟩ := info_parts info5
             obtain ⟨A34, hcut34, hA34, hC34⟩ := print_drop_of (P := Try.prog) (Value.int .u8) 0 40 5 .i64 Try.underlying40 hi034 hsz34 (some ad419) c0 l0 1 (by omega) (of_decide_eq_true (by first | (with_reducible assumption) | assumption)) HC0.out
             have HR424 := am (Kd.C_of_reads (h1 := fun _ => rfl) (hA34 _ (Kd.reads_of_C HR0.out)))
             have HC424 := am hC34
             clear hA34 hC34 hi034 hsz34
             go_wp2_with (first | ((with_reducible refine gate_callee (f := 88) rfl ?_); refine goesL_ (some 46) rfl rfl Try.func88 (by kernel_rfl) rfl #[.slice A34 (l0.drop 1).length (c0 - 1)] rfl (by (try simp only [List.map_toArray, List.map_cons, List.map_nil]); first | done | (rw [show (l0.drop 1).length = (l0.length - 1) from List.length_drop] <;> rfl) | rfl | (simp only [List.length_drop, List.length_take]; rfl)) ?_; (with_reducible refine (wire_Get.calls kj1 _ _ (l0.drop 1) t425 t426 true _ ?side1 ?side2 A20.out).mono ?_); (case side1 => repeat (first | exact (Kd.C_below HR424.out HB.out) | (with_reducible refine Kd.C_alloc ?_ _) | (with_reducible refine Kd.C_drewN ?_ _) | (with_reducible refine Kd.C_drew ?_))); (case side2 => exact HC424.out); rintro e w' ⟨rfl, ⟨nd, rfl⟩⟩; refine ⟨_, rfl, ?_⟩; (try (rw [drewN_self wc]; generalize hq_ : World.drewN wc _ = wc; have n0_ : Aside0 (wc.heap[gb416]? = some (.cells #[.bool false, .int .i64 0, .int .i64 0, .string (⟨#[]⟩ : ByteArray)] 67 (0, 0))) := ⟨by rw [← hq_]; exact (bk BK416.out)⟩; have n1_ : Aside0 (wc.heap[gb417]? = some (.cells #[.bool false, .int .i64 0, .int .i64 0, .string (⟨#[]⟩ : ByteArray)] 67 (0, 0))) := ⟨by rw [← hq_]; exact (bk BK417.out)⟩; have n2_ : Aside0 (Below w.heap.size w wc) := ⟨by rw [← hq_]; exact (by repeat (first | (with_reducible first | exact HB.out | apply below_alloc | apply pw_below_drewN | apply below_drew1 | refine below_set ?_ GE416.out | refine below_set ?_ GE417.out) | exact HB.out))⟩; clear BK416 BK417 HB hq_; have BK416 := n0_; have BK417 := n1_; have HB := n2_; clear n0_ n1_ n2_)); obtain ⟨i035, hi035, _, hsz35, _⟩ := info_parts info5; obtain ⟨A35, hcut35, hA35, hC35⟩ := print_drop_of (P := Try.prog) (Value.int .u8) 0 40 5 .i64 Try.underlying40 hi035 hsz35 (some ad419) c0 l0 (ji21) (of_decide_eq_true (by first | (with_reducible assumption) | assumption)) (of_decide_eq_true (by first | (with_reducible assumption) | assumption)) HC0.out; have HR428 := am (Kd.C_of_reads (h1 := fun _ => rfl) (hA35 _ (Kd.reads_of_C HR0.out))); have HC428 := am hC35; clear hA35 hC35 hi035 hsz35) | ((with_reducible refine gate_callee (f := 88) rfl ?_); refine goesL_ (some 55) rfl rfl Try.func88 (by kernel_rfl) rfl #[.slice A35 (l0.drop ((ji21) : Int).toNat).length (c0 - (ji21).toNat)] rfl (by (try simp only [List.map_toArray, List.map_cons, List.map_nil]); first | done | (rw [show (l0.drop ((ji21) : Int).toNat).length = (l0.length - (ji21).toNat) from List.length_drop] <;> rfl) | (simp only [hji21]; rfl) | rfl | (simp only [List.length_drop, List.length_take]; rfl)) ?_; (with_reducible refine (wire_Get.calls kj1 _ _ (l0.drop ((ji21) : Int).toNat) t429 t430 true _ ?side1 ?side2 A24.out).mono ?_); (case side1 => repeat (first | exact (Kd.C_below HR428.out HB.out) | (with_reducible refine Kd.C_alloc ?_ _) | (with_reducible refine Kd.C_drewN ?_ _) | (with_reducible refine Kd.C_drew ?_))); (case side2 => exact HC428.out); rintro e w' ⟨rfl, ⟨nd, rfl⟩⟩; refine ⟨_, rfl, ?_⟩; (try (rw [drewN_self wc]; generalize hq_ : World.drewN wc _ = wc; have n0_ : Aside0 (wc.heap[gb416]? = some (.cells #[.bool false, .int .i64 0, .int .i64 0, .string (⟨#[]⟩ : ByteArray)] 67 (0, 0))) := ⟨by rw [← hq_]; exact (bk BK416.out)⟩; have n1_ : Aside0 (wc.heap[gb417]? = some (.cells #[.bool false, .int .i64 0, .int .i64 0, .string (⟨#[]⟩ : ByteArray)] 67 (0, 0))) := ⟨by rw [← hq_]; exact (bk BK417.out)⟩; have n2_ : Aside0 (Below w.heap.size w wc) := ⟨by rw [← hq_]; exact (by repeat (first | (with_reducible first | exact HB.out | apply below_alloc | apply pw_below_drewN | apply below_drew1 | refine below_set ?_ GE416.out | refine below_set ?_ GE417.out) | exact HB.out))⟩; clear BK416 BK417 HB hq_; have BK416 := n0_; have BK417 := n1_; have HB := n2_; clear n0_ n1_ n2_)); have hnb36 := NB417_416.out; have hnc36 := NB416_417.out; have hcz37_0 : wc.cell? ⟨gb417, 0, none⟩ = some (.bool false) := (blk_cell BK417.out 0).trans rfl; have hcz37_1 : wc.cell? ⟨gb417, 1, none⟩ = some (.int .i64 0) := (blk_cell BK417.out 1).trans rfl; have hcz37_2 : wc.cell? ⟨gb417, 2, none⟩ = some (.int .i64 0) := (blk_cell BK417.out 2).trans rfl; have hcz37_3 : wc.cell? ⟨gb417, 3, none⟩ = some (.string (⟨#[]⟩ : ByteArray)) := (blk_cell BK417.out 3).trans rfl; have hfz37_0 := blk_frozen BK417.out 0; have hfz37_1 := blk_frozen BK417.out 1; have hfz37_2 := blk_frozen BK417.out 2; have hfz37_3 := blk_frozen BK417.out 3; have hcz38_0 : wc.cell? ⟨gb416, 0, none⟩ = some (.bool false) := (blk_cell BK416.out 0).trans rfl; have hcz38_1 : wc.cell? ⟨gb416, 1, none⟩ = some (.int .i64 0) := (blk_cell BK416.out 1).trans rfl; have hcz38_2 : wc.cell? ⟨gb416, 2, none⟩ = some (.int .i64 0) := (blk_cell BK416.out 2).trans rfl; have hcz38_3 : wc.cell? ⟨gb416, 3, none⟩ = some (.string (⟨#[]⟩ : ByteArray)) := (blk_cell BK416.out 3).trans rfl; have hfz38_0 := blk_frozen BK416.out 0; have hfz38_1 := blk_frozen BK416.out 1; have hfz38_2 := blk_frozen BK416.out 2; have hfz38_3 := blk_frozen BK416.out 3))
             refine bodyPost_ret (results_ctt rfl _ _ gb416 67 #[.bool false, .int .i64 0, .int .i64 0, .string (⟨#[]⟩ : ByteArray)] (0, 0) _ rfl (by (with_reducible repeat (first | refine blk_drewN ?_ _ | refine blk_drew ?_ | refine blk_alloc ?_ _)); refine blk_put (cs := #[.bool false, .int .i64 0, .int .i64 0, .string (⟨#[]⟩ : ByteArray)]) ?_ 3 _ rfl; (with_reducible repeat (first | refine blk_drewN ?_ _ | refine blk_drew ?_ | refine blk_alloc ?_ _)); refine blk_put (cs := #[.bool false, .int .i64 0, .int .i64 0, .string (⟨#[]⟩ : ByteArray)]) ?_ 2 _ rfl; (with_reducible repeat (first | refine blk_drewN ?_ _ | refine blk_drew ?_ | refine blk_alloc ?_ _)); refine blk_put (cs := #[.bool false, .int .i64 0, .int .i64 0, .string (⟨#[]⟩ : ByteArray)]) ?_ 1 _ rfl; (with_reducible repeat (first | refine blk_drewN ?_ _ | refine blk_drew ?_ | refine blk_alloc ?_ _)); refine blk_put (cs := #[.bool false, .int .i64 0, .int .i64 0, .string (⟨#[]⟩ : ByteArray)]) ?_ 0 _ rfl; (with_reducible repeat (first | refine blk_drewN ?_ _ | refine blk_drew ?_ | refine blk_alloc ?_ _)); exact BK416.out) Try.underlying67 rfl (by kernel_rfl)) rfl ?_
             exact ⟨by first | rfl | (simp [errW_none, errW_some] <;> rfl) | (simp only [← hji21]; first | rfl | (simp [errW_none, errW_some] <;> rfl)) | (simp [*, errW_none, errW_some] <;> rfl), by repeat (first | (with_reducible first | exact HB.out | apply below_alloc | apply pw_below_drewN | apply below_drew1 | refine below_set ?_ GE416.out | refine below_set ?_ GE417.out) | exact HB.out)⟩
            ·rw [if_neg c33] at H
             have c33b0 : decide (200 < t429) = false := decide_eq_false c33
             clear c33
             simp only [Option.some.injEq, Prod.mk.injEq] at H
             obtain ⟨rfl, rfl, rfl, rfl, rfl, rfl⟩ := H
             have p419 : 0 ≤ (0 : Int) := (by omega)
             have q419 : 0 < (l0.length : Int) := of_decide_eq_true (by first | (with_reducible assumption) | assumption)
             obtain ⟨ad419, e419, hx419_0⟩ := Kd.at_int HR0.out 0 p419 q419
             cases e419
             have qi419 : (0 < l0.length) = True := eq_true (by omega)
             (try rw [show ((0 : Int)).toNat = 0 from rfl] at hx419_0)
             (try rw [Addr.add_zero'] at hx419_0)
             replace hx419_0 := (HB.out.cell (World.block_lt_of_cell? w _ hx419_0)).trans hx419_0
             replace p419 := eq_true p419
             replace q419 := eq_true q419
             obtain ⟨i039, hi039, _, hsz39, _⟩ := info_parts info5
             obtain ⟨A39, hcut39, hA39, hC39⟩ := print_drop_of (P := Try.prog) (Value.int .u8) 0 40 5 .i64 Try.underlying40 hi039 hsz39 (some ad419) c0 l0 1 (by omega) (of_decide_eq_true (by first | (with_reducible assumption) | assumption)) HC0.out
             have HR424 := am (Kd.C_of_reads (h1 := fun _ => rfl) (hA39 _ (Kd.reads_of_C HR0.out)))
             have HC424 := am hC39
             clear hA39 hC39 hi039 hsz39
             go_wp2_with (first | ((with_reducible refine gate_callee (f := 88) rfl ?_); refine goesL_ (some 46) rfl rfl Try.func88 (by kernel_rfl) rfl #[.slice A39 (l0.drop 1).length (c0 - 1)] rfl (by (try simp only [List.map_toArray, List.map_cons, List.map_nil]); first | done | (rw [show (l0.drop 1).length = (l0.length - 1) from List.length_drop] <;> rfl) | rfl | (simp only [List.length_drop, List.length_take]; rfl)) ?_; (with_reducible refine (wire_Get.calls kj1 _ _ (l0.drop 1) t425 t426 true _ ?side1 ?side2 A20.out).mono ?_); (case side1 => repeat (first | exact (Kd.C_below HR424.out HB.out) | (with_reducible refine Kd.C_alloc ?_ _) | (with_reducible refine Kd.C_drewN ?_ _) | (with_reducible refine Kd.C_drew ?_))); (case side2 => exact HC424.out); rintro e w' ⟨rfl, ⟨nd, rfl⟩⟩; refine ⟨_, rfl, ?_⟩; (try (rw [drewN_self wc]; generalize hq_ : World.drewN wc _ = wc; have n0_ : Aside0 (wc.heap[gb416]? = some (.cells #[.bool false, .int .i64 0, .int .i64 0, .string (⟨#[]⟩ : ByteArray)] 67 (0, 0))) := ⟨by rw [← hq_]; exact (bk BK416.out)⟩; have n1_ : Aside0 (wc.heap[gb417]? = some (.cells #[.bool false, .int .i64 0, .int .i64 0, .string (⟨#[]⟩ : ByteArray)] 67 (0, 0))) := ⟨by rw [← hq_]; exact (bk BK417.out)⟩; have n2_ : Aside0 (Below w.heap.size w wc) := ⟨by rw [← hq_]; exact (by repeat (first | (with_reducible first | exact HB.out | apply below_alloc | apply pw_below_drewN | apply below_drew1 | refine below_set ?_ GE416.out | refine below_set ?_ GE417.out) | exact HB.out))⟩; clear BK416 BK417 HB hq_; have BK416 := n0_; have BK417 := n1_; have HB := n2_; clear n0_ n1_ n2_)); obtain ⟨i040, hi040, _, hsz40, _⟩ := info_parts info5; obtain ⟨A40, hcut40, hA40, hC40⟩ := print_drop_of (P := Try.prog) (Value.int .u8) 0 40 5 .i64 Try.underlying40 hi040 hsz40 (some ad419) c0 l0 (ji21) (of_decide_eq_true (by first | (with_reducible assumption) | assumption)) (of_decide_eq_true (by first | (with_reducible assumption) | assumption)) HC0.out; have HR428 := am (Kd.C_of_reads (h1 := fun _ => rfl) (hA40 _ (Kd.reads_of_C HR0.out))); have HC428 := am hC40; clear hA40 hC40 hi040 hsz40) | ((with_reducible refine gate_callee (f := 88) rfl ?_); refine goesL_ (some 55) rfl rfl Try.func88 (by kernel_rfl) rfl #[.slice A40 (l0.drop ((ji21) : Int).toNat).length (c0 - (ji21).toNat)] rfl (by (try simp only [List.map_toArray, List.map_cons, List.map_nil]); first | done | (rw [show (l0.drop ((ji21) : Int).toNat).length = (l0.length - (ji21).toNat) from List.length_drop] <;> rfl) | (simp only [hji21]; rfl) | rfl | (simp only [List.length_drop, List.length_take]; rfl)) ?_; (with_reducible refine (wire_Get.calls kj1 _ _ (l0.drop ((ji21) : Int).toNat) t429 t430 true _ ?side1 ?side2 A24.out).mono ?_); (case side1 => repeat (first | exact (Kd.C_below HR428.out HB.out) | (with_reducible refine Kd.C_alloc ?_ _) | (with_reducible refine Kd.C_drewN ?_ _) | (with_reducible refine Kd.C_drew ?_))); (case side2 => exact HC428.out); rintro e w' ⟨rfl, ⟨nd, rfl⟩⟩; refine ⟨_, rfl, ?_⟩; (try (rw [drewN_self wc]; generalize hq_ : World.drewN wc _ = wc; have n0_ : Aside0 (wc.heap[gb416]? = some (.cells #[.bool false, .int .i64 0, .int .i64 0, .string (⟨#[]⟩ : ByteArray)] 67 (0, 0))) := ⟨by rw [← hq_]; exact (bk BK416.out)⟩; have n1_ : Aside0 (wc.heap[gb417]? = some (.cells #[.bool false, .int .i64 0, .int .i64 0, .string (⟨#[]⟩ : ByteArray)] 67 (0, 0))) := ⟨by rw [← hq_]; exact (bk BK417.out)⟩; have n2_ : Aside0 (Below w.heap.size w wc) := ⟨by rw [← hq_]; exact (by repeat (first | (with_reducible first | exact HB.out | apply below_alloc | apply pw_below_drewN | apply below_drew1 | refine below_set ?_ GE416.out | refine below_set ?_ GE417.out) | exact HB.out))⟩; clear BK416 BK417 HB hq_; have BK416 := n0_; have BK417 := n1_; have HB := n2_; clear n0_ n1_ n2_)); have hnb41 := NB416_417.out; have hnc41 := NB417_416.out; have hcz42_0 : wc.cell? ⟨gb416, 0, none⟩ = some (.bool false) := (blk_cell BK416.out 0).trans rfl; have hcz42_1 : wc.cell? ⟨gb416, 1, none⟩ = some (.int .i64 0) := (blk_cell BK416.out 1).trans rfl; have hcz42_2 : wc.cell? ⟨gb416, 2, none⟩ = some (.int .i64 0) := (blk_cell BK416.out 2).trans rfl; have hcz42_3 : wc.cell? ⟨gb416, 3, none⟩ = some (.string (⟨#[]⟩ : ByteArray)) := (blk_cell BK416.out 3).trans rfl; have hfz42_0 := blk_frozen BK416.out 0; have hfz42_1 := blk_frozen BK416.out 1; have hfz42_2 := blk_frozen BK416.out 2; have hfz42_3 := blk_frozen BK416.out 3))
             refine bodyPost_ret (results_ctt rfl _ _ gb416 67 #[.bool true, .int .i64 (wrap64 (t425)), .int .i64 (wrap64 (t429)), .string (⟨#[]⟩ : ByteArray)] (0, 0) _ rfl (by (with_reducible repeat (first | refine blk_drewN ?_ _ | refine blk_drew ?_ | refine blk_alloc ?_ _)); refine blk_put (cs := #[.bool true, .int .i64 (wrap64 (t425)), .int .i64 (wrap64 (t429)), .string (⟨#[]⟩ : ByteArray)]) ?_ 3 _ rfl; (with_reducible repeat (first | refine blk_drewN ?_ _ | refine blk_drew ?_ | refine blk_alloc ?_ _)); refine blk_put (cs := #[.bool true, .int .i64 (wrap64 (t425)), .int .i64 0, .string (⟨#[]⟩ : ByteArray)]) ?_ 2 _ rfl; (with_reducible repeat (first | refine blk_drewN ?_ _ | refine blk_drew ?_ | refine blk_alloc ?_ _)); refine blk_put (cs := #[.bool true, .int .i64 0, .int .i64 0, .string (⟨#[]⟩ : ByteArray)]) ?_ 1 _ rfl; (with_reducible repeat (first | refine blk_drewN ?_ _ | refine blk_drew ?_ | refine blk_alloc ?_ _)); refine blk_put (cs := #[.bool false, .int .i64 0, .int .i64 0, .string (⟨#[]⟩ : ByteArray)]) ?_ 0 _ rfl; (with_reducible repeat (first | refine blk_drewN ?_ _ | refine blk_drew ?_ | refine blk_alloc ?_ _)); exact BK416.out) Try.underlying67 rfl (by kernel_rfl)) rfl ?_
             exact ⟨by first | rfl | (simp [errW_none, errW_some] <;> rfl) | (simp only [← hji21]; first | rfl | (simp [errW_none, errW_some] <;> rfl)) | (simp [*, errW_none, errW_some] <;> rfl), by repeat (first | (with_reducible first | exact HB.out | apply below_alloc | apply pw_below_drewN | apply below_drew1 | refine below_set ?_ GE416.out | refine below_set ?_ GE417.out) | exact HB.out)⟩
          ·replace c26 := Bool.eq_false_iff.mpr c26
           subst c26
           have H1 : (some (false, 0, 0, (⟨#[]⟩ : ByteArray), 0, false)) = some (r1, r2, r3, r4, r5, r6) := by rw [if_neg (show ¬ (false = true) by decide)] at H; exact H
           clear H
           have H := H1
           clear H1
           simp only [Option.some.injEq, Prod.mk.injEq] at H
           obtain ⟨rfl, rfl, rfl, rfl, rfl, rfl⟩ := H
           have p419 : 0 ≤ (0 : Int) := (by omega)
           have q419 : 0 < (l0.length : Int) := of_decide_eq_true (by first | (with_reducible assumption) | assumption)
           obtain ⟨ad419, e419, hx419_0⟩ := Kd.at_int HR0.out 0 p419 q419
           cases e419
           have qi419 : (0 < l0.length) = True := eq_true (by omega)
           (try rw [show ((0 : Int)).toNat = 0 from rfl] at hx419_0)
           (try rw [Addr.add_zero'] at hx419_0)
           replace hx419_0 := (HB.out.cell (World.block_lt_of_cell? w _ hx419_0)).trans hx419_0
           replace p419 := eq_true p419
           replace q419 := eq_true q419
           obtain ⟨i043, hi043, _, hsz43, _⟩ := info_parts info5
           obtain ⟨A43, hcut43, hA43, hC43⟩ := print_drop_of (P := Try.prog) (Value.int .u8) 0 40 5 .i64 Try.underlying40 hi043 hsz43 (some ad419) c0 l0 1 (by omega) (of_decide_eq_true (by first | (with_reducible assumption) | assumption)) HC0.out
           have HR424 := am (Kd.C_of_reads (h1 := fun _ => rfl) (hA43 _ (Kd.reads_of_C HR0.out)))
           have HC424 := am hC43
           clear hA43 hC43 hi043 hsz43
           go_wp2_with (first | ((with_reducible refine gate_callee (f := 88) rfl ?_); refine goesL_ (some 46) rfl rfl Try.func88 (by kernel_rfl) rfl #[.slice A43 (l0.drop 1).length (c0 - 1)] rfl (by (try simp only [List.map_toArray, List.map_cons, List.map_nil]); first | done | (rw [show (l0.drop 1).length = (l0.length - 1) from List.length_drop] <;> rfl) | rfl | (simp only [List.length_drop, List.length_take]; rfl)) ?_; (with_reducible refine (wire_Get.calls kj1 _ _ (l0.drop 1) t425 t426 true _ ?side1 ?side2 A20.out).mono ?_); (case side1 => repeat (first | exact (Kd.C_below HR424.out HB.out) | (with_reducible refine Kd.C_alloc ?_ _) | (with_reducible refine Kd.C_drewN ?_ _) | (with_reducible refine Kd.C_drew ?_))); (case side2 => exact HC424.out); rintro e w' ⟨rfl, ⟨nd, rfl⟩⟩; refine ⟨_, rfl, ?_⟩; (try (rw [drewN_self wc]; generalize hq_ : World.drewN wc _ = wc; have n0_ : Aside0 (wc.heap[gb416]? = some (.cells #[.bool false, .int .i64 0, .int .i64 0, .string (⟨#[]⟩ : ByteArray)] 67 (0, 0))) := ⟨by rw [← hq_]; exact (bk BK416.out)⟩; have n1_ : Aside0 (wc.heap[gb417]? = some (.cells #[.bool false, .int .i64 0, .int .i64 0, .string (⟨#[]⟩ : ByteArray)] 67 (0, 0))) := ⟨by rw [← hq_]; exact (bk BK417.out)⟩; have n2_ : Aside0 (Below w.heap.size w wc) := ⟨by rw [← hq_]; exact (by repeat (first | (with_reducible first | exact HB.out | apply below_alloc | apply pw_below_drewN | apply below_drew1 | refine below_set ?_ GE416.out | refine below_set ?_ GE417.out) | exact HB.out))⟩; clear BK416 BK417 HB hq_; have BK416 := n0_; have BK417 := n1_; have HB := n2_; clear n0_ n1_ n2_)); obtain ⟨i044, hi044, _, hsz44, _⟩ := info_parts info5; obtain ⟨A44, hcut44, hA44, hC44⟩ := print_drop_of (P := Try.prog) (Value.int .u8) 0 40 5 .i64 Try.underlying40 hi044 hsz44 (some ad419) c0 l0 (ji21) (of_decide_eq_true (by first | (with_reducible assumption) | assumption)) (of_decide_eq_true (by first | (with_reducible assumption) | assumption)) HC0.out; have HR428 := am (Kd.C_of_reads (h1 := fun _ => rfl) (hA44 _ (Kd.reads_of_C HR0.out))); have HC428 := am hC44; clear hA44 hC44 hi044 hsz44) | ((with_reducible refine gate_callee (f := 88) rfl ?_); refine goesL_ (some 55) rfl rfl Try.func88 (by kernel_rfl) rfl #[.slice A44 (l0.drop ((ji21) : Int).toNat).length (c0 - (ji21).toNat)] rfl (by (try simp only [List.map_toArray, List.map_cons, List.map_nil]); first | done | (rw [show (l0.drop ((ji21) : Int).toNat).length = (l0.length - (ji21).toNat) from List.length_drop] <;> rfl) | (simp only [hji21]; rfl) | rfl | (simp only [List.length_drop, List.length_take]; rfl)) ?_; (with_reducible refine (wire_Get.calls kj1 _ _ (l0.drop ((ji21) : Int).toNat) t429 t430 false _ ?side1 ?side2 A24.out).mono ?_); (case side1 => repeat (first | exact (Kd.C_below HR428.out HB.out) | (with_reducible refine Kd.C_alloc ?_ _) | (with_reducible refine Kd.C_drewN ?_ _) | (with_reducible refine Kd.C_drew ?_))); (case side2 => exact HC428.out); rintro e w' ⟨rfl, ⟨nd, rfl⟩⟩; refine ⟨_, rfl, ?_⟩; (try (rw [drewN_self wc]; generalize hq_ : World.drewN wc _ = wc; have n0_ : Aside0 (wc.heap[gb416]? = some (.cells #[.bool false, .int .i64 0, .int .i64 0, .string (⟨#[]⟩ : ByteArray)] 67 (0, 0))) := ⟨by rw [← hq_]; exact (bk BK416.out)⟩; have n1_ : Aside0 (wc.heap[gb417]? = some (.cells #[.bool false, .int .i64 0, .int .i64 0, .string (⟨#[]⟩ : ByteArray)] 67 (0, 0))) := ⟨by rw [← hq_]; exact (bk BK417.out)⟩; have n2_ : Aside0 (Below w.heap.size w wc) := ⟨by rw [← hq_]; exact (by repeat (first | (with_reducible first | exact HB.out | apply below_alloc | apply pw_below_drewN | apply below_drew1 | refine below_set ?_ GE416.out | refine below_set ?_ GE417.out) | exact HB.out))⟩; clear BK416 BK417 HB hq_; have BK416 := n0_; have BK417 := n1_; have HB := n2_; clear n0_ n1_ n2_)); have hnb45 := NB417_416.out; have hnc45 := NB416_417.out; have hcz46_0 : wc.cell? ⟨gb417, 0, none⟩ = some (.bool false) := (blk_cell BK417.out 0).trans rfl; have hcz46_1 : wc.cell? ⟨gb417, 1, none⟩ = some (.int .i64 0) := (blk_cell BK417.out 1).trans rfl; have hcz46_2 : wc.cell? ⟨gb417, 2, none⟩ = some (.int .i64 0) := (blk_cell BK417.out 2).trans rfl; have hcz46_3 : wc.cell? ⟨gb417, 3, none⟩ = some (.string (⟨#[]⟩ : ByteArray)) := (blk_cell BK417.out 3).trans rfl; have hfz46_0 := blk_frozen BK417.out 0; have hfz46_1 := blk_frozen BK417.out 1; have hfz46_2 := blk_frozen BK417.out 2; have hfz46_3 := blk_frozen BK417.out 3; have hcz47_0 : wc.cell? ⟨gb416, 0, none⟩ = some (.bool false) := (blk_cell BK416.out 0).trans rfl; have hcz47_1 : wc.cell? ⟨gb416, 1, none⟩ = some (.int .i64 0) := (blk_cell BK416.out 1).trans rfl; have hcz47_2 : wc.cell? ⟨gb416, 2, none⟩ = some (.int .i64 0) := (blk_cell BK416.out 2).trans rfl; have hcz47_3 : wc.cell? ⟨gb416, 3, none⟩ = some (.string (⟨#[]⟩ : ByteArray)) := (blk_cell BK416.out 3).trans rfl; have hfz47_0 := blk_frozen BK416.out 0; have hfz47_1 := blk_frozen BK416.out 1; have hfz47_2 := blk_frozen BK416.out 2; have hfz47_3 := blk_frozen BK416.out 3))
           refine bodyPost_ret (results_ctt rfl _ _ gb416 67 #[.bool false, .int .i64 0, .int .i64 0, .string (⟨#[]⟩ : ByteArray)] (0, 0) _ rfl (by (with_reducible repeat (first | refine blk_drewN ?_ _ | refine blk_drew ?_ | refine blk_alloc ?_ _)); refine blk_put (cs := #[.bool false, .int .i64 0, .int .i64 0, .string (⟨#[]⟩ : ByteArray)]) ?_ 3 _ rfl; (with_reducible repeat (first | refine blk_drewN ?_ _ | refine blk_drew ?_ | refine blk_alloc ?_ _)); refine blk_put (cs := #[.bool false, .int .i64 0, .int .i64 0, .string (⟨#[]⟩ : ByteArray)]) ?_ 2 _ rfl; (with_reducible repeat (first | refine blk_drewN ?_ _ | refine blk_drew ?_ | refine blk_alloc ?_ _)); refine blk_put (cs := #[.bool false, .int .i64 0, .int .i64 0, .string (⟨#[]⟩ : ByteArray)]) ?_ 1 _ rfl; (with_reducible repeat (first | refine blk_drewN ?_ _ | refine blk_drew ?_ | refine blk_alloc ?_ _)); refine blk_put (cs := #[.bool false, .int .i64 0, .int .i64 0, .string (⟨#[]⟩ : ByteArray)]) ?_ 0 _ rfl; (with_reducible repeat (first | refine blk_drewN ?_ _ | refine blk_drew ?_ | refine blk_alloc ?_ _)); exact BK416.out) Try.underlying67 rfl (by kernel_rfl)) rfl ?_
           exact ⟨by first | rfl | (simp [errW_none, errW_some] <;> rfl) | (simp only [← hji21]; first | rfl | (simp [errW_none, errW_some] <;> rfl)) | (simp [*, errW_none, errW_some] <;> rfl), by repeat (first | (with_reducible first | exact HB.out | apply below_alloc | apply pw_below_drewN | apply below_drew1 | refine below_set ?_ GE416.out | refine below_set ?_ GE417.out) | exact HB.out)⟩
         ·replace c25 := Bool.eq_false_iff.mpr c25
          subst c25
          have H1 : (some (false, 0, 0, (⟨#[]⟩ : ByteArray), 0, false)) = some (r1, r2, r3, r4, r5, r6) := by rw [if_neg (show ¬ (false = true) by decide)] at H; exact H
          clear H
          have H := H1
          clear H1
          simp only [Option.some.injEq, Prod.mk.injEq] at H
          obtain ⟨rfl, rfl, rfl, rfl, rfl, rfl⟩ := H
          have p419 : 0 ≤ (0 : Int) := (by omega)
          have q419 : 0 < (l0.length : Int) := of_decide_eq_true (by first | (with_reducible assumption) | assumption)
          obtain ⟨ad419, e419, hx419_0⟩ := Kd.at_int HR0.out 0 p419 q419
          cases e419
          have qi419 : (0 < l0.length) = True := eq_true (by omega)
          (try rw [show ((0 : Int)).toNat = 0 from rfl] at hx419_0)
          (try rw [Addr.add_zero'] at hx419_0)
          replace hx419_0 := (HB.out.cell (World.block_lt_of_cell? w _ hx419_0)).trans hx419_0
          replace p419 := eq_true p419
          replace q419 := eq_true q419
          obtain ⟨i048, hi048, _, hsz48, _⟩ := info_parts info5
          obtain ⟨A48, hcut48, hA48, hC48⟩ := print_drop_of (P := Try.prog) (Value.int .u8) 0 40 5 .i64 Try.underlying40 hi048 hsz48 (some ad419) c0 l0 1 (by omega) (of_decide_eq_true (by first | (with_reducible assumption) | assumption)) HC0.out
          have HR424 := am (Kd.C_of_reads (h1 := fun _ => rfl) (hA48 _ (Kd.reads_of_C HR0.out)))
          have HC424 := am hC48
          clear hA48 hC48 hi048 hsz48
          go_wp2_with (first | ((with_reducible refine gate_callee (f := 88) rfl ?_); refine goesL_ (some 46) rfl rfl Try.func88 (by kernel_rfl) rfl #[.slice A48 (l0.drop 1).length (c0 - 1)] rfl (by (try simp only [List.map_toArray, List.map_cons, List.map_nil]); first | done | (rw [show (l0.drop 1).length = (l0.length - 1) from List.length_drop] <;> rfl) | rfl | (simp only [List.length_drop, List.length_take]; rfl)) ?_; (with_reducible refine (wire_Get.calls kj1 _ _ (l0.drop 1) t425 t426 false _ ?side1 ?side2 A20.out).mono ?_); (case side1 => repeat (first | exact (Kd.C_below HR424.out HB.out) | (with_reducible refine Kd.C_alloc ?_ _) | (with_reducible refine Kd.C_drewN ?_ _) | (with_reducible refine Kd.C_drew ?_))); (case side2 => exact HC424.out); rintro e w' ⟨rfl, ⟨nd, rfl⟩⟩; refine ⟨_, rfl, ?_⟩; (try (rw [drewN_self wc]; generalize hq_ : World.drewN wc _ = wc; have n0_ : Aside0 (wc.heap[gb416]? = some (.cells #[.bool false, .int .i64 0, .int .i64 0, .string (⟨#[]⟩ : ByteArray)] 67 (0, 0))) := ⟨by rw [← hq_]; exact (bk BK416.out)⟩; have n1_ : Aside0 (wc.heap[gb417]? = some (.cells #[.bool false, .int .i64 0, .int .i64 0, .string (⟨#[]⟩ : ByteArray)] 67 (0, 0))) := ⟨by rw [← hq_]; exact (bk BK417.out)⟩; have n2_ : Aside0 (Below w.heap.size w wc) := ⟨by rw [← hq_]; exact (by repeat (first | (with_reducible first | exact HB.out | apply below_alloc | apply pw_below_drewN | apply below_drew1 | refine below_set ?_ GE416.out | refine below_set ?_ GE417.out) | exact HB.out))⟩; clear BK416 BK417 HB hq_; have BK416 := n0_; have BK417 := n1_; have HB := n2_; clear n0_ n1_ n2_)); obtain ⟨i049, hi049, _, hsz49, _⟩ := info_parts info5; obtain ⟨A49, hcut49, hA49, hC49⟩ := print_drop_of (P := Try.prog) (Value.int .u8) 0 40 5 .i64 Try.underlying40 hi049 hsz49 (some ad419) c0 l0 (ji21) (of_decide_eq_true (by first | (with_reducible assumption) | assumption)) (of_decide_eq_true (by first | (with_reducible assumption) | assumption)) HC0.out; have HR428 := am (Kd.C_of_reads (h1 := fun _ => rfl) (hA49 _ (Kd.reads_of_C HR0.out))); have HC428 := am hC49; clear hA49 hC49 hi049 hsz49) | ((with_reducible refine gate_callee (f := 88) rfl ?_); refine goesL_ (some 55) rfl rfl Try.func88 (by kernel_rfl) rfl #[.slice A49 (l0.drop ((ji21) : Int).toNat).length (c0 - (ji21).toNat)] rfl (by (try simp only [List.map_toArray, List.map_cons, List.map_nil]); first | done | (rw [show (l0.drop ((ji21) : Int).toNat).length = (l0.length - (ji21).toNat) from List.length_drop] <;> rfl) | (simp only [hji21]; rfl) | rfl | (simp only [List.length_drop, List.length_take]; rfl)) ?_; (with_reducible refine (wire_Get.calls kj1 _ _ (l0.drop ((ji21) : Int).toNat) t429 t430 t431 _ ?side1 ?side2 A24.out).mono ?_); (case side1 => repeat (first | exact (Kd.C_below HR428.out HB.out) | (with_reducible refine Kd.C_alloc ?_ _) | (with_reducible refine Kd.C_drewN ?_ _) | (with_reducible refine Kd.C_drew ?_))); (case side2 => exact HC428.out); rintro e w' ⟨rfl, ⟨nd, rfl⟩⟩; refine ⟨_, rfl, ?_⟩; (try (rw [drewN_self wc]; generalize hq_ : World.drewN wc _ = wc; have n0_ : Aside0 (wc.heap[gb416]? = some (.cells #[.bool false, .int .i64 0, .int .i64 0, .string (⟨#[]⟩ : ByteArray)] 67 (0, 0))) := ⟨by rw [← hq_]; exact (bk BK416.out)⟩; have n1_ : Aside0 (wc.heap[gb417]? = some (.cells #[.bool false, .int .i64 0, .int .i64 0, .string (⟨#[]⟩ : ByteArray)] 67 (0, 0))) := ⟨by rw [← hq_]; exact (bk BK417.out)⟩; have n2_ : Aside0 (Below w.heap.size w wc) := ⟨by rw [← hq_]; exact (by repeat (first | (with_reducible first | exact HB.out | apply below_alloc | apply pw_below_drewN | apply below_drew1 | refine below_set ?_ GE416.out | refine below_set ?_ GE417.out) | exact HB.out))⟩; clear BK416 BK417 HB hq_; have BK416 := n0_; have BK417 := n1_; have HB := n2_; clear n0_ n1_ n2_)); have hnb50 := NB417_416.out; have hnc50 := NB416_417.out; have hcz51_0 : wc.cell? ⟨gb417, 0, none⟩ = some (.bool false) := (blk_cell BK417.out 0).trans rfl; have hcz51_1 : wc.cell? ⟨gb417, 1, none⟩ = some (.int .i64 0) := (blk_cell BK417.out 1).trans rfl; have hcz51_2 : wc.cell? ⟨gb417, 2, none⟩ = some (.int .i64 0) := (blk_cell BK417.out 2).trans rfl; have hcz51_3 : wc.cell? ⟨gb417, 3, none⟩ = some (.string (⟨#[]⟩ : ByteArray)) := (blk_cell BK417.out 3).trans rfl; have hfz51_0 := blk_frozen BK417.out 0; have hfz51_1 := blk_frozen BK417.out 1; have hfz51_2 := blk_frozen BK417.out 2; have hfz51_3 := blk_frozen BK417.out 3; have hcz52_0 : wc.cell? ⟨gb416, 0, none⟩ = some (.bool false) := (blk_cell BK416.out 0).trans rfl; have hcz52_1 : wc.cell? ⟨gb416, 1, none⟩ = some (.int .i64 0) := (blk_cell BK416.out 1).trans rfl; have hcz52_2 : wc.cell? ⟨gb416, 2, none⟩ = some (.int .i64 0) := (blk_cell BK416.out 2).trans rfl; have hcz52_3 : wc.cell? ⟨gb416, 3, none⟩ = some (.string (⟨#[]⟩ : ByteArray)) := (blk_cell BK416.out 3).trans rfl; have hfz52_0 := blk_frozen BK416.out 0; have hfz52_1 := blk_frozen BK416.out 1; have hfz52_2 := blk_frozen BK416.out 2; have hfz52_3 := blk_frozen BK416.out 3))
          refine bodyPost_ret (results_ctt rfl _ _ gb416 67 #[.bool false, .int .i64 0, .int .i64 0, .string (⟨#[]⟩ : ByteArray)] (0, 0) _ rfl (by (with_reducible repeat (first | refine blk_drewN ?_ _ | refine blk_drew ?_ | refine blk_alloc ?_ _)); refine blk_put (cs := #[.bool false, .int .i64 0, .int .i64 0, .string (⟨#[]⟩ : ByteArray)]) ?_ 3 _ rfl; (with_reducible repeat (first | refine blk_drewN ?_ _ | refine blk_drew ?_ | refine blk_alloc ?_ _)); refine blk_put (cs := #[.bool false, .int .i64 0, .int .i64 0, .string (⟨#[]⟩ : ByteArray)]) ?_ 2 _ rfl; (with_reducible repeat (first | refine blk_drewN ?_ _ | refine blk_drew ?_ | refine blk_alloc ?_ _)); refine blk_put (cs := #[.bool false, .int .i64 0, .int .i64 0, .string (⟨#[]⟩ : ByteArray)]) ?_ 1 _ rfl; (with_reducible repeat (first | refine blk_drewN ?_ _ | refine blk_drew ?_ | refine blk_alloc ?_ _)); refine blk_put (cs := #[.bool false, .int .i64 0, .int .i64 0, .string (⟨#[]⟩ : ByteArray)]) ?_ 0 _ rfl; (with_reducible repeat (first | refine blk_drewN ?_ _ | refine blk_drew ?_ | refine blk_alloc ?_ _)); exact BK416.out) Try.underlying67 rfl (by kernel_rfl)) rfl ?_
          exact ⟨by first | rfl | (simp [errW_none, errW_some] <;> rfl) | (simp only [← hji21]; first | rfl | (simp [errW_none, errW_some] <;> rfl)) | (simp [*, errW_none, errW_some] <;> rfl), by repeat (first | (with_reducible first | exact HB.out | apply below_alloc | apply pw_below_drewN | apply below_drew1 | refine below_set ?_ GE416.out | refine below_set ?_ GE417.out) | exact HB.out)⟩
        ·rw [if_neg c23] at H
         exact absurd H (by simp)
       ·rw [if_neg c22] at H
        exact absurd H (by simp)
      ·rw [if_neg c19] at H
       exact absurd H (by simp)
    ·rw [if_neg c11] at H
     exact absurd H (by simp)
mutual
def delta_Get.j0 : Nat → List Int → Int → Int → Bool → Option ((List (S67)) × Int × Bool)
 | 0, _, _, _, _ => none
 | k + 1, x0, x5, x6, x23 => if x23 = true then (some (([] : List (S67)), 0, false)) else (delta_Get.l0 k x0 x6 ([] : List (S67)) x5 0)
def delta_Get.l0 : Nat → List Int → Int → List (S67) → Int → Int → Option ((List (S67)) × Int × Bool)
 | 0, _, _, _, _, _ => none
 | k + 1, x0, x6, x8, x24, x25 => if x25 < x24 then (if 0 ≤ x6 then (if x6 ≤ (x0.length : Int) then ((delta_piece.f k (x0.drop (x6 : Int).toNat)).bind fun bt436 => (if bt436.2.2.2.2.2 = true then (if x8.length < 3518437208883 then (delta_Get.l0 k x0 (wrap64 (x6 + bt436.2.2.2.2.1)) (x8 ++ [(⟨bt436.1, bt436.2.1, bt436.2.2.1, bt436.2.2.2.1⟩ : S67)]) x24 (IntKind.u64.wrap (x25 + 1))) else (none)) else (some (([] : List (S67)), 0, false)))) else (none)) else (none)) else ((delta_May.f k x8).bind fun t446 => (if t446 = true then (some (x8, x6, true)) else (some (([] : List (S67)), 0, false))))
end
def delta_Get.f (k : Nat) (l0 : List Int) : Option ((List (S67)) × Int × Bool) := (wire_Get.f k l0).bind fun bt432 => (if bt432.2.2 = true then (delta_Get.j0 k l0 bt432.1 bt432.2.1 (decide (bt432.1 > 60))) else (delta_Get.j0 k l0 bt432.1 bt432.2.1 true))
set_option maxHeartbeats 8000000 in
theorem delta_Get.calls (k : Nat) (A0 : Option Addr) (c0 : Nat) (l0 : List Int) (r1 : List (S67)) (r2 : Int) (r3 : Bool) (w : World) (hr0 : Kd.C (Kd.int .u8) w A0 l0.length l0) (hc0 : l0.length ≤ c0) (h : delta_Get.f k l0 = some (r1, r2, r3)) :
  Calls Try.prog 52 #[.slice A0 l0.length c0] w fun e w' => ∃ v0_ : Value, e = .returned (.tuple #[v0_, .int .i64 r2, .bool r3]) ∧ Kd.R k67 67 w' w.heap.size (fun _ => True) v0_ r1 ∧ Below w.heap.size w w' := by
 have hu67 := Try.underlying67
 have HR0 := am hr0
 have HC0 := am hc0
 clear hr0 hc0
 have HB := am (Below.refl w.heap.size w)
 have H : ((wire_Get.f k l0).bind fun bt432 => (if bt432.2.2 = true then (delta_Get.j0 k l0 bt432.1 bt432.2.1 (decide (bt432.1 > 60))) else (delta_Get.j0 k l0 bt432.1 bt432.2.1 true))) = some (r1, r2, r3) := h
 clear h
 replace H := Option.bind_eq_some_iff.mp H
 obtain ⟨⟨t432, t433, t434⟩, A20, H⟩ := H
 replace H : (if t434 = true then (delta_Get.j0 k l0 t432 t433 (decide (t432 > 60))) else (delta_Get.j0 k l0 t432 t433 true)) = some (r1, r2, r3) := H
 have A2 := am A20
 clear A20
 have HC3 := am H
 clear H
 go_enter Try.func52, Try.ntmps52
 go_upto_region 2 with (first | ((with_reducible refine gate_callee (f := 88) rfl ?_); refine goesL_ (some 14) rfl rfl Try.func88 (by kernel_rfl) rfl #[.slice A0 l0.length c0] rfl (by (try simp only [List.map_toArray, List.map_cons, List.map_nil]); first | done | rfl | (simp only [List.length_drop, List.length_take]; rfl)) ?_; (with_reducible refine (wire_Get.calls k _ _ l0 t432 t433 t434 _ ?side1 ?side2 A2.out).mono ?_); (case side1 => repeat (first | exact HR0.out | (with_reducible refine Kd.C_alloc ?_ _) | (with_reducible refine Kd.C_drewN ?_ _) | (with_reducible refine Kd.C_drew ?_))); (case side2 => exact HC0.out); rintro e w' ⟨rfl, ⟨nd, rfl⟩⟩; refine ⟨_, rfl, ?_⟩))
 (try simp only [Act.put, List.setIfInBounds_toArray, List.set_cons_zero, List.set_cons_succ])
 go_cut [23] (fun v23 wc => ∃ (kq : Nat) (x23_2 : Bool), v23 = .bool x23_2 ∧ Aside0 (delta_Get.j0 kq l0 t432 t433 x23_2 = some (r1, r2, r3)) ∧ Aside0 (kq ≤ k) ∧ Aside0 (Below w.heap.size w wc))
 case first =>
  have H := HC3.out
  clear HC3
  by_cases c4 : t434 = true
  ·subst c4
   have H1 : (delta_Get.j0 k l0 t432 t433 (decide (t432 > 60))) = some (r1, r2, r3) := by rw [if_pos rfl] at H; exact H
   clear H
   have H := H1
   clear H1
   have H' := am H
   clear H
   go_wp2
   go_meet
   case rel => exact ⟨_, (decide (t432 > 60)), (by first | rfl | (simp; done) | (simp [*]; done)), H', ⟨by first | omega | exact Nat.le_refl _⟩, ⟨bw HB.out⟩⟩
  ·replace c4 := Bool.eq_false_iff.mpr c4
   subst c4
   have H1 : (delta_Get.j0 k l0 t432 t433 true) = some (r1, r2, r3) := by rw [if_neg (show ¬ (false = true) by decide)] at H; exact H
   clear H
   have H := H1
   clear H1
   have H' := am H
   clear H
   go_wp2
   go_meet
   case rel => exact ⟨_, (true), (by first | rfl | (simp; done) | (simp [*]; done)), H', ⟨by first | omega | exact Nat.le_refl _⟩, ⟨bw HB.out⟩⟩
 case rest =>
  clear HC3
  try clear p2
  try clear c4
  obtain ⟨kq, x23_2, rfl, HA, HJ2, HB⟩ := hcut
  cases kq with
  | zero => exact absurd HA.out (by simp [delta_Get.j0])
  | succ kj2 =>
   have H := HA.out
   clear HA
   simp only [delta_Get.j0] at H
   by_cases c5 : x23_2 = true
   ·subst c5
    have H1 : (some (([] : List (S67)), 0, false)) = some (r1, r2, r3) := by rw [if_pos rfl] at H; exact H
    clear H
    have H := H1
    clear H1
    simp only [Option.some.injEq, Prod.mk.injEq] at H
    obtain ⟨rfl, rfl, rfl⟩ := H
    go_wp2
    go_ret3
    exact ⟨_, by first | rfl | (simp [errW_none, errW_some] <;> rfl) | (simp [*, errW_none, errW_some] <;> rfl), by first | exact Kd.R_nil _ _ _ _ _ | exact Kd.N_nil _ _ _ _ _ | exact Kd.V_nil _ _ _ _ _ | exact Kd.Q_nil _ _ _ _ _ | exact Kd.S_nil _ _ _ _ _, bw HB.out⟩
   ·replace c5 := Bool.eq_false_iff.mpr c5
    subst c5
    have H1 : (delta_Get.l0 kj2 l0 t433 ([] : List (S67)) t432 0) = some (r1, r2, r3) := by rw [if_neg (show ¬ (false = true) by decide)] at H; exact H
    clear H
    have H := H1
    clear H1
    have H' := am H
    clear H
    go_wp2
    go_loopg [6, 8, 25] kj2 (fun kq v6 v8 v25 w' => ∃ (x6_2 : Int) (x8_2 : List (S67)) (x25_2 : Int), v6 = .int .i64 x6_2 ∧ v25 = .int .u64 x25_2 ∧ Aside0 (delta_Get.l0 kq l0 x6_2 x8_2 t432 x25_2 = some (r1, r2, r3)) ∧ Aside0 (kq ≤ kj2) ∧ Aside0 (Kd.R k67 67 w' w.heap.size (fun _ => True) v8 x8_2) ∧ Aside0 (Below w.heap.size w w'))
    case atStart => exact ⟨(t433), (([] : List (S67))), (0), (by first | rfl | (simp; done) | (simp [*]; done)), (by first | rfl | (simp; done) | (simp [*]; done)), H', ⟨Nat.le_refl _⟩, ⟨by first | exact Kd.R_nil _ _ _ _ _ | exact Kd.N_nil _ _ _ _ _ | exact Kd.V_nil _ _ _ _ _ | exact Kd.Q_nil _ _ _ _ _ | exact Kd.S_nil _ _ _ _ _⟩, ⟨bw HB.out⟩⟩
    case round =>
     clear H'
     try clear p2
     try clear c4
     try clear c5
     try clear p2
     obtain ⟨x6_2, x8_2, x25_2, rfl, rfl, HA, HK2, HO_8, HB⟩ := hrel
     cases gk with
     | zero => exact absurd HA.out (by simp [delta_Get.l0])
     | succ k2 =>
      have H := HA.out
      clear HA
      simp only [delta_Get.l0] at H
      by_cases c6 : x25_2 < t432
      ·rw [if_pos c6] at H
       have c6b0 : decide (x25_2 < t432) = true := decide_eq_true c6
       clear c6
       by_cases c7 : 0 ≤ x6_2
       ·rw [if_pos c7] at H
        have c7b0 := eq_true c7
        have c7b1 : decide (0 ≤ x6_2) = true := decide_eq_true c7
        clear c7
        by_cases c8 : x6_2 ≤ (l0.length : Int)
        ·rw [if_pos c8] at H
         have c8b0 := eq_true c8
         have c8b1 : decide (x6_2 ≤ (l0.length : Int)) = true := decide_eq_true c8
         clear c8
         replace H := Option.bind_eq_some_iff.mp H
         obtain ⟨⟨t436, t437, t438, t439, t440, t441⟩, A90, H⟩ := H
         replace H : (if t441 = true then (if x8_2.length < 3518437208883 then (delta_Get.l0 k2 l0 (wrap64 (x6_2 + t440)) (x8_2 ++ [(⟨t436, t437, t438, t439⟩ : S67)]) t432 (IntKind.u64.wrap (x25_2 + 1))) else (none)) else (some (([] : List (S67)), 0, false))) = some (r1, r2, r3) := H
         have A9 := am A90
         clear A90
         by_cases c10 : t441 = true
         ·subst c10
          have H1 : (if x8_2.length < 3518437208883 then (delta_Get.l0 k2 l0 (wrap64 (x6_2 + t440)) (x8_2 ++ [(⟨t436, t437, t438, t439⟩ : S67)]) t432 (IntKind.u64.wrap (x25_2 + 1))) else (none)) = some (r1, r2, r3) := by rw [if_pos rfl] at H; exact H
          clear H
          have H := H1
          clear H1
          by_cases c11 : x8_2.length < 3518437208883
          ·rw [if_pos c11] at H
           have LMc11 := am c11
           clear c11
           obtain ⟨y443, hy443⟩ : ∃ y_ : List (S67), y_ = (x8_2 ++ [(⟨t436, t437, t438, t439⟩ : S67)]) := ⟨_, rfl⟩
           replace H : (delta_Get.l0 k2 l0 (wrap64 (x6_2 + t440)) y443 t432 (IntKind.u64.wrap (x25_2 + 1))) = some (r1, r2, r3) := by first | (rw [hy443]; with_reducible exact H) | (have H2_ := (Option.bind_some _ _).symm.trans H; rw [hy443]; with_reducible exact H2_) | (have H2_ := (Option.bind_some _ _).symm.trans H; with_reducible exact H2_) | with_reducible exact H | (rw [hy443]; exact H) | exact H
           have Ny443 := am hy443
           clear hy443
           have H' := am H
           clear H
           obtain ⟨i012, hi012, _, hsz12, _⟩ := info_parts info5
           obtain ⟨A12, hcut12, hA12, hC12⟩ := print_drop_of (P := Try.prog) (Value.int .u8) 0 40 5 .i64 Try.underlying40 hi012 hsz12 A0 c0 l0 x6_2 (of_decide_eq_true (by first | (with_reducible assumption) | assumption)) (of_decide_eq_true (by first | (with_reducible assumption) | assumption)) HC0.out
           have HR435 := am (Kd.C_of_reads (h1 := fun _ => rfl) (hA12 _ (Kd.reads_of_C HR0.out)))
           have HC435 := am hC12
           clear hA12 hC12 hi012 hsz12
           go_wp2_with (first | ((with_reducible refine gate_callee (f := 95) rfl ?_); refine goesL_ (some 31) rfl rfl Try.func95 (by kernel_rfl) rfl #[.slice A12 (l0.drop (x6_2 : Int).toNat).length (c0 - x6_2.toNat)] rfl (by (try simp only [List.map_toArray, List.map_cons, List.map_nil]); first | done | (rw [show (l0.drop (x6_2 : Int).toNat).length = (l0.length - x6_2.toNat) from List.length_drop] <;> rfl) | rfl | (simp only [List.length_drop, List.length_take]; rfl)) ?_; (with_reducible refine (delta_piece.calls k2 _ _ (l0.drop (x6_2 : Int).toNat) t436 t437 t438 t439 t440 true _ ?side1 ?side2 A9.out).mono ?_); (case side1 => repeat (first | exact (Kd.C_below HR435.out HB.out) | (with_reducible refine Kd.C_alloc ?_ _) | (with_reducible refine Kd.C_drewN ?_ _) | (with_reducible refine Kd.C_drew ?_))); (case side2 => exact HC435.out); rintro e w13 ⟨rfl, hb⟩; refine ⟨_, rfl, ?_⟩; have n0_ := am (Kd.R_below (rr HO_8.out) hb); have n1_ := am (below_step (bw HB.out) hb); clear HO_8; clear HB; have HO_8 := n0_; have HB := n1_; clear n0_ n1_; (try clear hb); (try clear hb2); (try clear hk); (try clear hi)) | ((with_reducible refine gate_dst (N := 9) rfl ?_); refine box_event ?hg (N := 9) ?hd (cs := #[.bool false, .int .i64 0, .int .i64 0, .string (⟨#[]⟩ : ByteArray)]) (t := 67) ?hr ?_; (case hd => rfl); (case hg => rfl); (case hr => first | (go_simp; done) | (go_simp; rfl)); intro gb442 hg w14 hbox hb; have n0_ := am (Kd.R_below (Kd.R_elderB (rr HO_8.out) gb442 (Nat.le_of_eq hg.symm)) hb); have n1_ := am (below_step (bw HB.out) hb); have n2_ := am (hbox); have n3_ := am ((by rw [hg]; exact (below_size (bw HB.out)) : w.heap.size ≤ gb442)); have n4_ := am ((by rw [hg]; exact (below_size (bw HB.out)) : w.heap.size ≤ gb442)); clear HO_8; clear HB; have HO_8 := n0_; have HB := n1_; have BK442 := n2_; have GW442 := n3_; have GE442 := n4_; clear n0_ n1_ n2_ n3_ n4_; clear hb hbox hg; have hcz15_0 : w14.cell? ⟨gb442, 0, none⟩ = some (.bool false) := (blk_cell BK442.out 0).trans rfl; have hcz15_1 : w14.cell? ⟨gb442, 1, none⟩ = some (.int .i64 0) := (blk_cell BK442.out 1).trans rfl; have hcz15_2 : w14.cell? ⟨gb442, 2, none⟩ = some (.int .i64 0) := (blk_cell BK442.out 2).trans rfl; have hcz15_3 : w14.cell? ⟨gb442, 3, none⟩ = some (.string (⟨#[]⟩ : ByteArray)) := (blk_cell BK442.out 3).trans rfl; have hfz15_0 := blk_frozen BK442.out 0; have hfz15_1 := blk_frozen BK442.out 1; have hfz15_2 := blk_frozen BK442.out 2; have hfz15_3 := blk_frozen BK442.out 3) | ((with_reducible refine gate_builtin (b := .append) (xs := #[.tmp 37, .tmp 39]) rfl ?_); at_builtin; refine Kd.R_append k67 (w0 := w) w.heap.size rfl (.tmp 37) (.tmp 39) 55 67 (.agg #[(.bool false), (.int .i64 0), (.int .i64 0), (.string ⟨#[]⟩)]) 40 rfl Try.underlying55 info67 rfl (by decide) (by omega) u8 x8_2 (⟨t436, t437, t438, t439⟩ : S67) [.bool t436, .int .i64 t437, .int .i64 t438, .string t439] (fun k_ => k_ ≠ gb442) (fun _ => False) rfl (by first | (go_simp; done) | (go_simp; rfl)) ?aP (fun _ hk => hk.elim) ?aF ?aO ?aB ?aS ?aL ?_; (case aP => exact k67_mkM _ _ _ (⟨t436, t437, t438, t439⟩ : S67)); (case aB => exact (by repeat (first | (with_reducible first | exact HB.out | apply below_alloc | apply pw_below_drewN | apply below_drew1 | refine below_set ?_ GE442.out) | exact HB.out))); (case aF => exact (fun k_ hk => Kd.freshB (g := gb442) (o := .cells #[.bool t436, .int .i64 t437, .int .i64 t438, .string t439] 67 (0, 0)) (by (with_reducible repeat (first | refine blk_drewN ?_ _ | refine blk_drew ?_ | refine blk_alloc ?_ _)); refine blk_put (cs := #[.bool t436, .int .i64 t437, .int .i64 t438, .string (⟨#[]⟩ : ByteArray)]) ?_ 3 _ rfl; (with_reducible repeat (first | refine blk_drewN ?_ _ | refine blk_drew ?_ | refine blk_alloc ?_ _)); refine blk_put (cs := #[.bool t436, .int .i64 t437, .int .i64 0, .string (⟨#[]⟩ : ByteArray)]) ?_ 2 _ rfl; (with_reducible repeat (first | refine blk_drewN ?_ _ | refine blk_drew ?_ | refine blk_alloc ?_ _)); refine blk_put (cs := #[.bool t436, .int .i64 0, .int .i64 0, .string (⟨#[]⟩ : ByteArray)]) ?_ 1 _ rfl; (with_reducible repeat (first | refine blk_drewN ?_ _ | refine blk_drew ?_ | refine blk_alloc ?_ _)); refine blk_put (cs := #[.bool false, .int .i64 0, .int .i64 0, .string (⟨#[]⟩ : ByteArray)]) ?_ 0 _ rfl; (with_reducible repeat (first | refine blk_drewN ?_ _ | refine blk_drew ?_ | refine blk_alloc ?_ _)); exact BK442.out) k_ hk)); (case aO => exact (by (with_reducible repeat (first | apply Kd.R_alloc | apply Kd.R_drewN | apply Kd.R_drew)); exact Kd.R_mono (Kd.R_far (p := ⟨gb442, 3, none⟩) (Kd.R_far (p := ⟨gb442, 2, none⟩) (Kd.R_far (p := ⟨gb442, 1, none⟩) (Kd.R_far (p := ⟨gb442, 0, none⟩) (Kd.R_mono HO_8.out (fun k_ hk => (⟨hk, hk.2⟩ : _ ∧ k_ ≠ gb442))) (fun _ hk => hk.2) (.bool t436)) (fun _ hk => hk.2) (.int .i64 t437)) (fun _ hk => hk.2) (.int .i64 t438)) (fun _ hk => hk.2) (.string t439)) (fun _ hk => hk.1.2))); (case aS => exact (below_size (by repeat (first | (with_reducible first | exact HB.out | apply below_alloc | apply pw_below_drewN | apply below_drew1 | refine below_set ?_ GE442.out) | exact HB.out)))); (case aL => have := LMc11.out; omega); intro v444 w16 ho hb hg hat; rw [← Ny443.out] at ho; have n0_ := am (blk_grown (g := gb442) (o := .cells #[.bool t436, .int .i64 t437, .int .i64 t438, .string t439] 67 (0, 0)) (by (with_reducible repeat (first | refine blk_drewN ?_ _ | refine blk_drew ?_ | refine blk_alloc ?_ _)); refine blk_put (cs := #[.bool t436, .int .i64 t437, .int .i64 t438, .string (⟨#[]⟩ : ByteArray)]) ?_ 3 _ rfl; (with_reducible repeat (first | refine blk_drewN ?_ _ | refine blk_drew ?_ | refine blk_alloc ?_ _)); refine blk_put (cs := #[.bool t436, .int .i64 t437, .int .i64 0, .string (⟨#[]⟩ : ByteArray)]) ?_ 2 _ rfl; (with_reducible repeat (first | refine blk_drewN ?_ _ | refine blk_drew ?_ | refine blk_alloc ?_ _)); refine blk_put (cs := #[.bool t436, .int .i64 0, .int .i64 0, .string (⟨#[]⟩ : ByteArray)]) ?_ 1 _ rfl; (with_reducible repeat (first | refine blk_drewN ?_ _ | refine blk_drew ?_ | refine blk_alloc ?_ _)); refine blk_put (cs := #[.bool false, .int .i64 0, .int .i64 0, .string (⟨#[]⟩ : ByteArray)]) ?_ 0 _ rfl; (with_reducible repeat (first | refine blk_drewN ?_ _ | refine blk_drew ?_ | refine blk_alloc ?_ _)); exact BK442.out) hg (Kd.R_away HO_8.out (fun _ hk => hk.2))); have n1_ := am (hb); have n2_ := am (ho); clear BK442; clear HB; clear HO_8; have BK442 := n0_; have HB := n1_; have HO445 := n2_; clear n0_ n1_ n2_; clear ho hb hg hat))
           go_roundg k2
           case measure => have := HJ2.out; have := HK2.out; omega
           case rel => exact ⟨(wrap64 (x6_2 + t440)), (y443), (IntKind.u64.wrap (x25_2 + 1)), (by first | rfl | (simp; done) | (simp [*]; done)), (by first | rfl | (simp; done) | (simp [*]; done)), H', ⟨by have := HJ2.out; have := HK2.out; omega⟩, ⟨by (with_reducible repeat (first | apply Kd.R_alloc | apply Kd.R_drewN | apply Kd.R_drew)); exact Kd.R_mono HO445.out (fun _ hk => trivial)⟩, ⟨by repeat (first | (with_reducible first | exact HB.out | apply below_alloc | apply pw_below_drewN | apply below_drew1 | refine below_set ?_ GE442.out) | exact HB.out)⟩⟩
          ·rw [if_neg c11] at H
           exact absurd H (by simp)
         ·replace c10 := Bool.eq_false_iff.mpr c10
          subst c10
          have H1 : (some (([] : List (S67)), 0, false)) = some (r1, r2, r3) := by rw [if_neg (show ¬ (false = true) by decide)] at H; exact H
          clear H
          have H := H1
          clear H1
          simp only [Option.some.injEq, Prod.mk.injEq] at H
          obtain ⟨rfl, rfl, rfl⟩ := H
          obtain ⟨i017, hi017, _, hsz17, _⟩ := info_parts info5
          obtain ⟨A17, hcut17, hA17, hC17⟩ := print_drop_of (P := Try.prog) (Value.int .u8) 0 40 5 .i64 Try.underlying40 hi017 hsz17 A0 c0 l0 x6_2 (of_decide_eq_true (by first | (with_reducible assumption) | assumption)) (of_decide_eq_true (by first | (with_reducible assumption) | assumption)) HC0.out
          have HR435 := am (Kd.C_of_reads (h1 := fun _ => rfl) (hA17 _ (Kd.reads_of_C HR0.out)))
          have HC435 := am hC17
          clear hA17 hC17 hi017 hsz17
          go_wp2_with (first | ((with_reducible refine gate_callee (f := 95) rfl ?_); refine goesL_ (some 31) rfl rfl Try.func95 (by kernel_rfl) rfl #[.slice A17 (l0.drop (x6_2 : Int).toNat).length (c0 - x6_2.toNat)] rfl (by (try simp only [List.map_toArray, List.map_cons, List.map_nil]); first | done | (rw [show (l0.drop (x6_2 : Int).toNat).length = (l0.length - x6_2.toNat) from List.length_drop] <;> rfl) | rfl | (simp only [List.length_drop, List.length_take]; rfl)) ?_; (with_reducible refine (delta_piece.calls k2 _ _ (l0.drop (x6_2 : Int).toNat) t436 t437 t438 t439 t440 false _ ?side1 ?side2 A9.out).mono ?_); (case side1 => repeat (first | exact (Kd.C_below HR435.out HB.out) | (with_reducible refine Kd.C_alloc ?_ _) | (with_reducible refine Kd.C_drewN ?_ _) | (with_reducible refine Kd.C_drew ?_))); (case side2 => exact HC435.out); rintro e w18 ⟨rfl, hb⟩; refine ⟨_, rfl, ?_⟩; have n0_ := am (Kd.R_below (rr HO_8.out) hb); have n1_ := am (below_step (bw HB.out) hb); clear HO_8; clear HB; have HO_8 := n0_; have HB := n1_; clear n0_ n1_; (try clear hb); (try clear hb2); (try clear hk); (try clear hi)) | ((with_reducible refine gate_dst (N := 9) rfl ?_); refine box_event ?hg (N := 9) ?hd (cs := #[.bool false, .int .i64 0, .int .i64 0, .string (⟨#[]⟩ : ByteArray)]) (t := 67) ?hr ?_; (case hd => rfl); (case hg => rfl); (case hr => first | (go_simp; done) | (go_simp; rfl)); intro gb442 hg w19 hbox hb; have n0_ := am (Kd.R_below (Kd.R_elderB (rr HO_8.out) gb442 (Nat.le_of_eq hg.symm)) hb); have n1_ := am (below_step (bw HB.out) hb); have n2_ := am (hbox); have n3_ := am ((by rw [hg]; exact (below_size (bw HB.out)) : w.heap.size ≤ gb442)); have n4_ := am ((by rw [hg]; exact (below_size (bw HB.out)) : w.heap.size ≤ gb442)); clear HO_8; clear HB; have HO_8 := n0_; have HB := n1_; have BK442 := n2_; have GW442 := n3_; have GE442 := n4_; clear n0_ n1_ n2_ n3_ n4_; clear hb hbox hg; have hcz20_0 : w19.cell? ⟨gb442, 0, none⟩ = some (.bool false) := (blk_cell BK442.out 0).trans rfl; have hcz20_1 : w19.cell? ⟨gb442, 1, none⟩ = some (.int .i64 0) := (blk_cell BK442.out 1).trans rfl; have hcz20_2 : w19.cell? ⟨gb442, 2, none⟩ = some (.int .i64 0) := (blk_cell BK442.out 2).trans rfl; have hcz20_3 : w19.cell? ⟨gb442, 3, none⟩ = some (.string (⟨#[]⟩ : ByteArray)) := (blk_cell BK442.out 3).trans rfl; have hfz20_0 := blk_frozen BK442.out 0; have hfz20_1 := blk_frozen BK442.out 1; have hfz20_2 := blk_frozen BK442.out 2; have hfz20_3 := blk_frozen BK442.out 3))
          go_ret3
          exact ⟨_, by first | rfl | (simp [errW_none, errW_some] <;> rfl) | (simp [*, errW_none, errW_some] <;> rfl), by first | exact Kd.R_nil _ _ _ _ _ | exact Kd.N_nil _ _ _ _ _ | exact Kd.V_nil _ _ _ _ _ | exact Kd.Q_nil _ _ _ _ _ | exact Kd.S_nil _ _ _ _ _, by repeat (first | (with_reducible first | exact HB.out | apply below_alloc | apply pw_below_drewN | apply below_drew1 | refine below_set ?_ GE442.out) | exact HB.out)⟩
        ·rw [if_neg c8] at H
         exact absurd H (by simp)
       ·rw [if_neg c7] at H
        exact absurd H (by simp)
      ·rw [if_neg c6] at H
       have c6b0 : decide (x25_2 < t432) = false := decide_eq_false c6
       clear c6
       replace H := Option.bind_eq_some_iff.mp H
       obtain ⟨t446, A210, H⟩ := H
       replace H : (if t446 = true then (some (x8_2, x6_2, true)) else (some (([] : List (S67)), 0, false))) = some (r1, r2, r3) := H
       have A21 := am A210
       clear A210
       by_cases c22 : t446 = true
       ·subst c22
        have H1 : (some (x8_2, x6_2, true)) = some (r1, r2, r3) := by rw [if_pos rfl] at H; exact H
        clear H
        have H := H1
        clear H1
        simp only [Option.some.injEq, Prod.mk.injEq] at H
        obtain ⟨rfl, rfl, rfl⟩ := H
        obtain ⟨Ao23, co23, eo23⟩ := Kd.R_slice HO_8.out
        subst eo23
        go_wp2_with (first | ((with_reducible refine gate_callee (f := 57) rfl ?_); refine goesL_ (some 46) rfl rfl Try.func57 (by kernel_rfl) rfl #[.slice Ao23 x8_2.length co23] rfl (by (try simp only [List.map_toArray, List.map_cons, List.map_nil]); first | done | rfl | (simp only [List.length_drop, List.length_take]; rfl)) ?_; (with_reducible refine (delta_May.calls k2 _ _ x8_2 true _ ?side1 ?side2 A21.out).mono ?_); (case side1 => repeat (first | exact (Kd.R_reads' HO_8.out).2.2 | (with_reducible refine Kd.C_alloc ?_ _) | (with_reducible refine Kd.C_drewN ?_ _) | (with_reducible refine Kd.C_drew ?_))); (case side2 => exact (Kd.R_reads' HO_8.out).2.1); rintro e w24 ⟨rfl, hb⟩; refine ⟨_, rfl, ?_⟩; have n0_ := am (Kd.R_below (rr HO_8.out) hb); have n1_ := am (below_step (bw HB.out) hb); clear HO_8; clear HB; have HO_8 := n0_; have HB := n1_; clear n0_ n1_; (try clear hb); (try clear hb2); (try clear hk); (try clear hi)))
        go_ret3
        exact ⟨_, by first | rfl | (simp [errW_none, errW_some] <;> rfl) | (simp [*, errW_none, errW_some] <;> rfl), by (with_reducible repeat (first | apply Kd.R_alloc | apply Kd.R_drewN | apply Kd.R_drew)); exact HO_8.out, bw HB.out⟩
       ·replace c22 := Bool.eq_false_iff.mpr c22
        subst c22
        have H1 : (some (([] : List (S67)), 0, false)) = some (r1, r2, r3) := by rw [if_neg (show ¬ (false = true) by decide)] at H; exact H
        clear H
        have H := H1
        clear H1
        simp only [Option.some.injEq, Prod.mk.injEq] at H
        obtain ⟨rfl, rfl, rfl⟩ := H
        obtain ⟨Ao25, co25, eo25⟩ := Kd.R_slice HO_8.out
        subst eo25
        go_wp2_with (first | ((with_reducible refine gate_callee (f := 57) rfl ?_); refine goesL_ (some 46) rfl rfl Try.func57 (by kernel_rfl) rfl #[.slice Ao25 x8_2.length co25] rfl (by (try simp only [List.map_toArray, List.map_cons, List.map_nil]); first | done | rfl | (simp only [List.length_drop, List.length_take]; rfl)) ?_; (with_reducible refine (delta_May.calls k2 _ _ x8_2 false _ ?side1 ?side2 A21.out).mono ?_); (case side1 => repeat (first | exact (Kd.R_reads' HO_8.out).2.2 | (with_reducible refine Kd.C_alloc ?_ _) | (with_reducible refine Kd.C_drewN ?_ _) | (with_reducible refine Kd.C_drew ?_))); (case side2 => exact (Kd.R_reads' HO_8.out).2.1); rintro e w26 ⟨rfl, hb⟩; refine ⟨_, rfl, ?_⟩; have n0_ := am (Kd.R_below (rr HO_8.out) hb); have n1_ := am (below_step (bw HB.out) hb); clear HO_8; clear HB; have HO_8 := n0_; have HB := n1_; clear n0_ n1_; (try clear hb); (try clear hb2); (try clear hk); (try clear hi)))
        go_ret3
        exact ⟨_, by first | rfl | (simp [errW_none, errW_some] <;> rfl) | (simp [*, errW_none, errW_some] <;> rfl), by first | exact Kd.R_nil _ _ _ _ _ | exact Kd.N_nil _ _ _ _ _ | exact Kd.V_nil _ _ _ _ _ | exact Kd.Q_nil _ _ _ _ _ | exact Kd.S_nil _ _ _ _ _, bw HB.out⟩
end
section
open Go.Proofs.Ytchaegfdcdlfaaa.Y (IsGet Bytes put put_range put_length put_length_pos readR Put_eq Text_eq Get_eq Read_of wraps_u64 bytesOf_bytes)
open Go.RowKit Go.Maps Go.Proofs.YtchaegfdcdlfaaaW.PrintWords Go.Proofs.YtchaegfdcdlfaaaW.PrintLast Go.Proofs.YtchaegfdcdlfaaaW.PrintMore
theorem wrapu (n : Nat) (h : n < 18446744073709551616) : IntKind.u64.wrap (n : Int) = (n : Int) := wraps_u64 _ (by omega) (by omega)
theorem put_l0 (l : List S67) (hl : l.length ≤ 60) (hs : ∀ p ∈ l, Shape p) : ∀ (d i k : Nat) (o : List Int), l.length = i + d → d + 20 < k → o.length ≤ 100 + 300 * i →
  delta_Put.l0 k o l (l.length : Int) (i : Int) = some (o ++ piecesB (l.drop i), true) := by
 intro d
 induction d with
 | zero =>
  intro i k o hi hk ho
  obtain ⟨k, rfl⟩ : ∃ k', k = k' + 1 := ⟨k - 1, by omega⟩
  rw [delta_Put.l0, if_neg (by omega), List.drop_eq_nil_of_le (by omega)]
  show _ = some (o ++ [], true)
  rw [List.append_nil]
 | succ d ih =>
  intro i k o hi hk ho
  obtain ⟨k, rfl⟩ : ∃ k', k = k' + 1 := ⟨k - 1, by omega⟩
  have hil : i < l.length := by omega
  have hp := hs _ (rd_mem hil)
  have hd := rd_next hil
  obtain ⟨p, hpe⟩ : ∃ p, rd_T67 l (i : Int) = p := ⟨_, rfl⟩
  rw [hpe] at hp hd
  have hpl := pieceB_length hp
  rw [delta_Put.l0, if_pos (by omega), if_pos (by omega), if_pos (by omega), hpe, hd, wrap_next i (by omega)]
  have hfin : ∀ o2, o2 = o ++ pieceB p → delta_Put.l0 k o2 l (l.length : Int) ((i + 1 : Nat) : Int) = some (o ++ piecesB (p :: l.drop (i + 1)), true) := by
   rintro o2 rfl
   rw [ih (i + 1) k _ (by omega) (by omega) (by rw [List.length_append]; omega), List.append_assoc]
   rfl
  cases h0 : p.f0
  ·obtain ⟨h1, h2, h3⟩ := hp.2 h0
   have hB : pieceB p = 0 :: (put p.f3.size ++ bytesOf p.f3) := by unfold pieceB; rw [if_neg (by simp [h0])]
   rw [if_neg (by simp), Text_eq p.f3 (by omega) k (by omega), Option.bind_some]
   have e : ([o, [0], put p.f3.size ++ bytesOf p.f3] : List (List Int)).flatten = o ++ pieceB p := by rw [hB]; simp
   rw [Cat_eq k (by rw [e, List.length_append]; omega) (by simp), Option.bind_some, hfin _ e]
  ·obtain ⟨h1, h2, h3, h4, h5⟩ := hp.1 h0
   have hB : pieceB p = 1 :: (put p.f1.toNat ++ put p.f2.toNat) := by unfold pieceB; rw [if_pos h0]
   rw [if_pos rfl]
   rw [show p.f1 = ((p.f1.toNat : Nat) : Int) by omega, show p.f2 = ((p.f2.toNat : Nat) : Int) by omega, wrapu _ (by omega), wrapu _ (by omega), Put_eq _ (by omega) k (by omega), Option.bind_some, Put_eq _ (by omega) k (by omega), Option.bind_some]
   have e : ([o, [1], put p.f1.toNat, put p.f2.toNat] : List (List Int)).flatten = o ++ pieceB p := by rw [hB]; simp
   rw [Cat_eq k (by rw [e, List.length_append]; omega) (by simp), Option.bind_some, hfin _ e]
theorem DPut_eq {l : List S67} (hm : mayL l = true) (k : Nat) (hk : 100 < k) : delta_Put.f k l = some (putL l, true) := by
 have hi := (mayL_iff l).1 hm
 have h10 := put_length l.length (by omega)
 unfold delta_Put.f
 rw [May_eq l (by omega) k (by omega), hm, Option.bind_some, if_pos rfl, wrapu _ (by omega), Put_eq _ (by omega) k (by omega), Option.bind_some]
 rw [show (0 : Int) = ((0 : Nat) : Int) from rfl, put_l0 l hi.2.1 (may_shape hm) l.length 0 k _ (by omega) (by omega) (by omega), List.drop_zero]
 rfl
theorem getL_used {l : List Int} (hb : Bytes l) (hl : l.length ≤ 1000000000) : ∃ n u : Nat, getL l = ((n : Int), (u : Int), (getL l).2.2) ∧ u ≤ l.length := by
 have h := (getL_is hb hl).used
 exact ⟨(getL l).1.toNat, (getL l).2.1.toNat, by rw [Int.toNat_of_nonneg h.2.2.1, Int.toNat_of_nonneg h.1], by omega⟩
theorem readR_used {l : List Int} (hb : Bytes l) (hl : l.length ≤ 1000000000) (a : Int) : 0 ≤ (readR l (getL l) a).2.1 ∧ (readR l (getL l) a).2.1 ≤ l.length := by
 have h := (getL_is hb hl).used
 unfold readR
 split
 ·rename_i hc
  exact ⟨by show 0 ≤ (getL l).2.1 + (getL l).1; omega, by show (getL l).2.1 + (getL l).1 ≤ _; omega⟩
 ·exact ⟨by show (0 : Int) ≤ 0; omega, by show (0 : Int) ≤ _; omega⟩
theorem pieceR_nil : pieceR [] = (z67, 0, false) := by unfold pieceR; rw [if_pos (.inl rfl)]
theorem pieceR_big (c : Int) (t : List Int) (h : c > 1) : pieceR (c :: t) = (z67, 0, false) := by
 unfold pieceR
 rw [if_pos (.inr (show 1 < rd (c :: t) 0 from h))]
theorem pieceR_zero (t : List Int) : pieceR (0 :: t) = (⟨false, 0, 0, (readR t (getL t) 200).1⟩, (readR t (getL t) 200).2.1 + 1, (readR t (getL t) 200).2.2) := by
 have hc : rd ((0 : Int) :: t) 0 = 0 := rfl
 have hd : ((0 : Int) :: t).drop 1 = t := rfl
 unfold pieceR
 rw [hc, hd, if_neg (by simp), if_pos rfl]
theorem pieceR_one (t : List Int) (n u n2 u2 : Nat) (z z2 : Bool) (g : getL t = ((n : Int), (u : Int), z)) (g2 : getL (t.drop u) = ((n2 : Int), (u2 : Int), z2)) :
  pieceR (1 :: t) = if z = true ∧ z2 = true ∧ n ≤ 200 ∧ n2 ≤ 200 then (⟨true, (n : Int), (n2 : Int), ⟨#[]⟩⟩, 1 + (u : Int) + (u2 : Int), true) else (z67, 0, false) := by
 have hc : rd ((1 : Int) :: t) 0 = 1 := rfl
 have hd : ((1 : Int) :: t).drop 1 = t := rfl
 have hdd : ((1 : Int) :: t).drop (1 + u) = t.drop u := by rw [Nat.add_comm]; rfl
 unfold pieceR
 rw [hc, hd, g]
 dsimp only
 rw [Int.toNat_natCast, hdd, g2]
 dsimp only
 rw [if_neg (by simp), if_neg (by omega)]
 by_cases h : z = true ∧ z2 = true ∧ n ≤ 200 ∧ n2 ≤ 200
 ·rw [if_pos h, if_pos ⟨h.1, h.2.1, by omega, by omega⟩]
 ·rw [if_neg h, if_neg (fun q => h ⟨q.1, q.2.1, by omega, by omega⟩)]
theorem piece_eq (b : List Int) (hb : Bytes b) (hl : b.length ≤ 1000000) (k : Nat) (hk : 2 * b.length + 50 < k) :
  delta_piece.f k b = some ((pieceR b).1.f0, (pieceR b).1.f1, (pieceR b).1.f2, (pieceR b).1.f3, (pieceR b).2.1, (pieceR b).2.2) := by
 obtain ⟨k, rfl⟩ : ∃ k', k = k' + 1 := ⟨k - 1, by omega⟩
 unfold delta_piece.f
 cases b with
 | nil =>
  rw [if_pos (by simp), delta_piece.j0, if_pos rfl, pieceR_nil]
  rfl
 | cons c t =>
  have hc : rd (c :: t) 0 = c := rfl
  have hd : (c :: t).drop 1 = t := rfl
  have hcb := hb c (by simp)
  have htb : Bytes t := fun x hx => hb x (by simp [hx])
  have hlc : (c :: t).length = t.length + 1 := rfl
  rw [hlc] at hl hk
  rw [if_neg (by rw [hlc]; omega), if_pos (by rw [hlc]; omega), hc]
  by_cases h1 : c > 1
  ·rw [decide_eq_true h1, delta_piece.j0, if_pos rfl, pieceR_big c t h1]
   rfl
  ·rw [decide_eq_false h1, delta_piece.j0, if_neg (by simp), if_pos (by rw [hlc]; omega), hc]
   by_cases h0 : c = 0
   ·subst h0
    have hu := readR_used htb (by omega) 200
    rw [if_pos rfl, if_pos (by rw [hlc]; omega), hd, Read_of (getL_is htb (by omega)) htb (by omega) 200 k (by omega), Option.bind_some, pieceR_zero]
    rw [w64s _ (by omega) (by omega)]
   ·have hc1 : c = 1 := by omega
    subst hc1
    obtain ⟨n, u, hg, hu⟩ := getL_used htb (by omega)
    have hdd : ((1 : Int) :: t).drop (1 + u) = t.drop u := by rw [Nat.add_comm]; rfl
    have htd : Bytes (t.drop u) := drop_bytes htb u
    obtain ⟨n2, u2, hg2, hu2⟩ := getL_used htd (by rw [List.length_drop]; omega)
    rw [List.length_drop] at hu2
    rw [if_neg h0, if_pos (by rw [hlc]; omega), hd, Get_eq (getL_is htb (by omega)) htb (by omega) k (by omega), Option.bind_some]
    generalize hz : (getL t).2.2 = z at hg
    generalize hz2 : (getL (t.drop u)).2.2 = z2 at hg2
    rw [pieceR_one t n u n2 u2 z z2 hg hg2, hg]
    dsimp only
    rw [w64s _ (by omega) (by omega), if_pos (by omega), if_pos (by rw [hlc]; omega), show (1 + (u : Int)).toNat = 1 + u by omega, hdd, Get_eq (getL_is htd (by rw [List.length_drop]; omega)) htd (by rw [List.length_drop]; omega) k (by rw [List.length_drop]; omega), Option.bind_some, hg2]
    dsimp only
    cases z
    ·rw [if_neg (by simp), if_neg (by simp)]
     rfl
    ·rw [if_pos rfl]
     cases z2
     ·rw [if_neg (by simp), if_neg (by simp)]
      rfl
     ·rw [if_pos rfl]
      by_cases h2 : (n : Int) > 200
      ·rw [if_pos h2, if_neg (by omega)]
       rfl
      ·rw [if_neg h2]
       by_cases h3 : (n2 : Int) > 200
       ·rw [if_pos h3, if_neg (by omega)]
        rfl
       ·rw [if_neg h3, if_pos ⟨rfl, rfl, by omega, by omega⟩, w64s _ (by omega) (by omega), w64s _ (by omega) (by omega), w64s _ (by omega) (by omega)]
def finR (acc : List S67) (at_ : Nat) (r : Option (List S67 × Nat)) : List S67 × Int × Bool :=
 match r with
 | some (l, n) => if mayL (acc ++ l) = true then (acc ++ l, (at_ : Int) + (n : Int), true) else ([], 0, false)
 | none => ([], 0, false)
theorem finR_step (acc : List S67) (at_ n : Nat) (p : S67) (r : Option (List S67 × Nat)) : finR (acc ++ [p]) (at_ + n) r = finR acc at_ (r.map fun r => (p :: r.1, n + r.2)) := by
 cases r with
 | none => rfl
 | some r =>
  obtain ⟨l, m⟩ := r
  show (if mayL (acc ++ [p] ++ l) = true then (acc ++ [p] ++ l, ((at_ + n : Nat) : Int) + (m : Int), true) else ([], 0, false)) = (if mayL (acc ++ (p :: l)) = true then (acc ++ (p :: l), (at_ : Int) + ((n + m : Nat) : Int), true) else ([], 0, false))
  have e : acc ++ [p] ++ l = acc ++ (p :: l) := by rw [List.append_assoc]; rfl
  rw [e, show ((at_ + n : Nat) : Int) + (m : Int) = (at_ : Int) + ((n + m : Nat) : Int) by omega]
theorem wrap_nextu (i : Nat) (h : i ≤ 1000000000000) : IntKind.u64.wrap ((i : Int) + 1) = ((i + 1 : Nat) : Int) := wraps_u64 _ (by omega) (by omega)
theorem get_l0p (b : List Int) (hb : Bytes b) (hl : b.length ≤ 1000000) (m : Nat) (hm : m ≤ 60) : ∀ (d i at_ k : Nat) (acc : List S67), m = i + d → at_ ≤ b.length → acc.length = i → 2 * b.length + 200 + d < k →
  delta_Get.l0 k b (at_ : Int) acc (m : Int) (i : Int) = some (finR acc at_ (getsR d (b.drop at_))) := by
 intro d
 induction d with
 | zero =>
  intro i at_ k acc hi ha hc hk
  obtain ⟨k, rfl⟩ : ∃ k', k = k' + 1 := ⟨k - 1, by omega⟩
  rw [delta_Get.l0, if_neg (by omega), May_eq acc (by omega) k (by omega), Option.bind_some]
  show _ = some (if mayL (acc ++ []) = true then (acc ++ [], (at_ : Int) + ((0 : Nat) : Int), true) else ([], 0, false))
  rw [List.append_nil, show (at_ : Int) + ((0 : Nat) : Int) = (at_ : Int) by omega]
  split <;> rfl
 | succ d ih =>
  intro i at_ k acc hi ha hc hk
  obtain ⟨k, rfl⟩ : ∃ k', k = k' + 1 := ⟨k - 1, by omega⟩
  have hdb : Bytes (b.drop at_) := drop_bytes hb at_
  rw [delta_Get.l0, if_pos (by omega), if_pos (by omega), if_pos (by omega), Int.toNat_natCast, piece_eq _ hdb (by rw [List.length_drop]; omega) k (by rw [List.length_drop]; omega), Option.bind_some]
  show _ = some (finR acc at_ (if (pieceR (b.drop at_)).2.2 = true then (getsR d ((b.drop at_).drop (pieceR (b.drop at_)).2.1.toNat)).map fun r => ((pieceR (b.drop at_)).1 :: r.1, (pieceR (b.drop at_)).2.1.toNat + r.2) else none))
  rcases pieceR_is (b.drop at_) hdb (by rw [List.length_drop]; omega) with hf | ⟨p, rest, hr, hs, hp⟩
  ·rw [hf]
   dsimp only
   rw [if_neg (by simp), if_neg (by simp)]
   rfl
  ·rw [hp]
   dsimp only
   have hle := congrArg List.length hr
   rw [List.length_drop, List.length_append] at hle
   rw [if_pos rfl, if_pos rfl, if_pos (by omega), Int.toNat_natCast, w64s _ (by omega) (by omega), wrap_nextu i (by omega), show (at_ : Int) + ((pieceB p).length : Int) = ((at_ + (pieceB p).length : Nat) : Int) by omega]
   rw [ih (i + 1) (at_ + (pieceB p).length) k (acc ++ [p]) (by omega) (by omega) (by simp [hc]) (by omega), finR_step, List.drop_drop]
theorem getP_fin (b : List Int) (n u : Nat) (h : getL b = ((n : Int), (u : Int), true)) (hn : n ≤ 60) : getP b = finR [] u (getsR n (b.drop u)) := by
 unfold getP finR
 rw [h]
 dsimp only
 rw [if_pos ⟨rfl, by omega⟩, Int.toNat_natCast, Int.toNat_natCast]
 cases getsR n (b.drop u) with
 | none => rfl
 | some r => rfl
theorem DGet_eq (b : List Int) (hb : Bytes b) (hl : b.length ≤ 1000000) (k : Nat) (hk : 2 * b.length + 400 < k) : delta_Get.f k b = some (getP b) := by
 obtain ⟨k, rfl⟩ : ∃ k', k = k' + 1 := ⟨k - 1, by omega⟩
 obtain ⟨n, u, hg, hu⟩ := getL_used hb (by omega)
 unfold delta_Get.f
 rw [Get_eq (getL_is hb (by omega)) hb (by omega) (k + 1) (by omega), Option.bind_some]
 generalize hz : (getL b).2.2 = z at hg
 cases z
 ·have : getP b = ([], 0, false) := by unfold getP; rw [hg, if_neg (by simp)]
  rw [hg, this]
  dsimp only
  rw [if_neg (by simp), delta_Get.j0, if_pos rfl]
 ·by_cases hn : n ≤ 60
  ·rw [getP_fin b n u hg hn, hg]
   dsimp only
   rw [if_pos rfl, decide_eq_false (by omega), delta_Get.j0, if_neg (by simp), show (0 : Int) = ((0 : Nat) : Int) from rfl, get_l0p b hb hl n hn n 0 u k [] (by omega) hu rfl (by omega)]
  ·have : getP b = ([], 0, false) := by unfold getP; rw [hg, if_neg (by dsimp only; omega)]
   rw [hg, this]
   dsimp only
   rw [if_pos rfl, decide_eq_true (by omega), delta_Get.j0, if_pos rfl]
end
end Go.Proofs.Ytchaegfdcdlfaaa.X
