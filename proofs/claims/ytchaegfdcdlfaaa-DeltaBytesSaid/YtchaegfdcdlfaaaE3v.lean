/- Texts of this claim, one behind the other: Xx67. -/
import Derived.Test.YtchaegfdcdlfaaaE1v
import Derived.Test.YtchaegfdcdlfaaaE2v

namespace Go.Proofs.Ytchaegfdcdlfaaa.X
open Go.RowKit Go.Proofs.YtchaegfdcdlfaaaW.PrintWords Go.Proofs.YtchaegfdcdlfaaaW.PrintLast Go.Proofs.YtchaegfdcdlfaaaW.PrintMore
attribute [local go_sem] max2_int min2_int max_two min_two max_three min_three max_four min_four   -- for this text's walks alone
set_option linter.unusedVariables false
set_option linter.unusedSimpArgs false

/-! ### delta_piece: function 95 -/
def delta_piece.j0 : Nat → List Int → Bool → Bool → Int → Int → ByteArray → Option (Bool × Int × Int × ByteArray × Int × Bool)
  | 0, _, _, _, _, _, _ => none
  | k + 1, x0, x15, x418000, x418001, x418002, x418003 => if x15 = true then (some (x418000, x418001, x418002, x418003, 0, false)) else (if 0 < (x0.length : Int) then (if (rd x0 0) = 0 then (if 1 ≤ (x0.length : Int) then ((wire_Read.f k (x0.drop 1) 200).bind fun bt421 => (some (false, 0, 0, bt421.1, wrap64 (bt421.2.1 + 1), bt421.2.2))) else (none)) else (if 1 ≤ (x0.length : Int) then ((wire_Get.f k (x0.drop 1)).bind fun bt425 => (if 0 ≤ (wrap64 (1 + bt425.2.1)) then (if (wrap64 (1 + bt425.2.1)) ≤ (x0.length : Int) then ((wire_Get.f k (x0.drop ((wrap64 (1 + bt425.2.1)) : Int).toNat)).bind fun bt429 => (if bt425.2.2 = true then (if bt429.2.2 = true then (if bt425.1 > 200 then (some (x418000, x418001, x418002, x418003, 0, false)) else (if bt429.1 > 200 then (some (x418000, x418001, x418002, x418003, 0, false)) else (some (true, wrap64 (bt425.1), wrap64 (bt429.1), (⟨#[]⟩ : ByteArray), wrap64 ((wrap64 (1 + bt425.2.1)) + bt429.2.1), true)))) else (some (x418000, x418001, x418002, x418003, 0, false))) else (some (x418000, x418001, x418002, x418003, 0, false)))) else (none)) else (none))) else (none))) else (none))
def delta_piece.f (k : Nat) (l0 : List Int) : Option (Bool × Int × Int × ByteArray × Int × Bool) := if (l0.length : Int) = 0 then (delta_piece.j0 k l0 true false 0 0 (⟨#[]⟩ : ByteArray)) else (if 0 < (l0.length : Int) then (delta_piece.j0 k l0 (decide ((rd l0 0) > 1)) false 0 0 (⟨#[]⟩ : ByteArray)) else (none))
theorem delta_piece.mono_l : ∀ k, (∀ y0 y1 y2 y3 y4 y5, LeO (delta_piece.j0 k y0 y1 y2 y3 y4 y5) (delta_piece.j0 (k + 1) y0 y1 y2 y3 y4 y5))
  | 0 => fun _ _ _ _ _ _ r h => by simp [delta_piece.j0] at h
  | k + 1 => by
    have ih0 := delta_piece.mono_l k
    · intro y0 y1 y2 y3 y4 y5
      unfold delta_piece.j0
      repeat' first
      | (with_reducible exact ih0 _ _ _ _ _ _)
      | (with_reducible exact wire_Get.mono _ _)
      | (with_reducible exact wire_Read.mono _ _ _)
      | (with_reducible exact LeO.refl _)
      | (with_reducible exact LeO.none _)
      | (with_reducible refine LeO.ite ?_ ?_)
      | (with_reducible refine LeO.bind ?_ (fun _ => ?_))
      | exact ih0 _ _ _ _ _ _
      | exact wire_Get.mono _ _
      | exact wire_Read.mono _ _ _
      | exact LeO.none _
      | refine LeO.ite ?_ ?_
      | refine LeO.bind ?_ (fun _ => ?_)
theorem delta_piece.mono : ∀ a0 k, LeO (delta_piece.f k a0) (delta_piece.f (k + 1) a0) := by
  intro a0 k
  have ih0 := delta_piece.mono_l k
  unfold delta_piece.f
  repeat' first
      | (with_reducible exact ih0 _ _ _ _ _ _)
      | (with_reducible exact wire_Get.mono _ _)
      | (with_reducible exact wire_Read.mono _ _ _)
      | (with_reducible exact LeO.refl _)
      | (with_reducible exact LeO.none _)
      | (with_reducible refine LeO.ite ?_ ?_)
      | (with_reducible refine LeO.bind ?_ (fun _ => ?_))
      | exact ih0 _ _ _ _ _ _
      | exact wire_Get.mono _ _
      | exact wire_Read.mono _ _ _
      | exact LeO.none _
      | refine LeO.ite ?_ ?_
      | refine LeO.bind ?_ (fun _ => ?_)
set_option maxHeartbeats 8000000 in
set_option maxRecDepth 100000 in
theorem delta_piece.calls (k : Nat) (A0 : Option Addr) (c0 : Nat) (l0 : List Int) (r1 : Bool) (r2 : Int) (r3 : Int) (r4 : ByteArray) (r5 : Int) (r6 : Bool) (w : World) (hr0 : Kd.C (Kd.int .u8) w A0 l0.length l0) (hc0 : l0.length ≤ c0) (h : delta_piece.f k l0 = some (r1, r2, r3, r4, r5, r6)) :
    Calls Try.prog 95 #[.slice A0 l0.length c0] w fun e w' => e = .returned (.tuple #[.agg #[.bool r1, .int .i64 r2, .int .i64 r3, .string r4], .int .i64 r5, .bool r6]) ∧ Below w.heap.size w w' := by
  have hu67 := Try.underlying67
  have HR0 := Aside0.mk hr0
  have HC0 := Aside0.mk hc0
  clear hr0 hc0
  have HB := Aside0.mk (Below.refl w.heap.size w)
  have H : (if (l0.length : Int) = 0 then (delta_piece.j0 k l0 true false 0 0 (⟨#[]⟩ : ByteArray)) else (if 0 < (l0.length : Int) then (delta_piece.j0 k l0 (decide ((rd l0 0) > 1)) false 0 0 (⟨#[]⟩ : ByteArray)) else (none))) = some (r1, r2, r3, r4, r5, r6) := h
  clear h
  have HC2 := Aside0.mk H
  clear H
  go_enter Try.func95, Try.ntmps95
  go_upto_region 2 with (first | ((with_reducible refine gate_dst (N := 2) rfl ?_); refine box_event ?hg (N := 2) ?hd (cs := #[.bool false, .int .i64 0, .int .i64 0, .string (⟨#[]⟩ : ByteArray)]) (t := 67) ?hr ?_; (case hd => rfl); (case hg => rfl); (case hr => first | (go_simp; done) | (go_simp; rfl)); intro gb416 hg w3 hbox hb; have n0_ := Aside0.mk (below_step (by repeat (first | (with_reducible first | exact HB.out | apply below_alloc | apply pw_below_drewN | apply below_drew1) | exact HB.out)) hb); have n1_ := Aside0.mk (hbox); have n2_ := Aside0.mk ((by rw [hg]; exact (below_size (by repeat (first | (with_reducible first | exact HB.out | apply below_alloc | apply pw_below_drewN | apply below_drew1) | exact HB.out))) : w.heap.size ≤ gb416)); have n3_ := Aside0.mk ((by rw [hg]; exact (below_size (by repeat (first | (with_reducible first | exact HB.out | apply below_alloc | apply pw_below_drewN | apply below_drew1) | exact HB.out))) : w.heap.size ≤ gb416)); clear HB; have HB := n0_; have BK416 := n1_; have GW416 := n2_; have GE416 := n3_; clear n0_ n1_ n2_ n3_; clear hb hbox hg) | ((with_reducible refine gate_dst (N := 5) rfl ?_); refine box_event ?hg (N := 5) ?hd (cs := #[.bool false, .int .i64 0, .int .i64 0, .string (⟨#[]⟩ : ByteArray)]) (t := 67) ?hr ?_; (case hd => rfl); (case hg => rfl); (case hr => first | (go_simp; done) | (go_simp; rfl)); intro gb417 hg w4 hbox hb; have n0_ := Aside0.mk (blk_below (g := gb416) (o := .cells #[.bool false, .int .i64 0, .int .i64 0, .string (⟨#[]⟩ : ByteArray)] 67 (0, 0)) (by (with_reducible repeat (first | refine blk_drewN ?_ _ | refine blk_drew ?_ | refine blk_alloc ?_ _)); exact BK416.out) hb); have n1_ := Aside0.mk (below_step (by repeat (first | (with_reducible first | exact HB.out | apply below_alloc | apply pw_below_drewN | apply below_drew1 | refine below_set ?_ GE416.out) | exact HB.out)) hb); have n2_ := Aside0.mk (hbox); have n3_ := Aside0.mk ((by rw [hg]; exact (below_size (by repeat (first | (with_reducible first | exact HB.out | apply below_alloc | apply pw_below_drewN | apply below_drew1 | refine below_set ?_ GE416.out) | exact HB.out))) : w.heap.size ≤ gb417)); have n4_ := Aside0.mk ((by rw [hg]; exact (below_size (by repeat (first | (with_reducible first | exact HB.out | apply below_alloc | apply pw_below_drewN | apply below_drew1 | refine below_set ?_ GE416.out) | exact HB.out))) : w.heap.size ≤ gb417)); have n5_ := Aside0.mk ((by rw [hg]; exact Nat.ne_of_lt (blk_lt (g := gb416) (o := .cells #[.bool false, .int .i64 0, .int .i64 0, .string (⟨#[]⟩ : ByteArray)] 67 (0, 0)) (by (with_reducible repeat (first | refine blk_drewN ?_ _ | refine blk_drew ?_ | refine blk_alloc ?_ _)); exact BK416.out)) : gb416 ≠ gb417)); have n6_ := Aside0.mk ((by rw [hg]; exact Nat.ne_of_gt (blk_lt (g := gb416) (o := .cells #[.bool false, .int .i64 0, .int .i64 0, .string (⟨#[]⟩ : ByteArray)] 67 (0, 0)) (by (with_reducible repeat (first | refine blk_drewN ?_ _ | refine blk_drew ?_ | refine blk_alloc ?_ _)); exact BK416.out)) : gb417 ≠ gb416)); clear BK416; clear HB; have BK416 := n0_; have HB := n1_; have BK417 := n2_; have GW417 := n3_; have GE417 := n4_; have NB416_417 := n5_; have NB417_416 := n6_; clear n0_ n1_ n2_ n3_ n4_ n5_ n6_; clear hb hbox hg))
  (try simp only [Act.put, List.setIfInBounds_toArray, List.set_cons_zero, List.set_cons_succ])
  go_cut [15] (fun v15 wc => ∃ (kq : Nat) (x15_1 : Bool), v15 = .bool x15_1 ∧ Aside0 (delta_piece.j0 kq l0 x15_1 false 0 0 (⟨#[]⟩ : ByteArray) = some (r1, r2, r3, r4, r5, r6)) ∧ Aside0 (kq ≤ k) ∧ Aside0 (wc.heap[gb416]? = some (.cells #[.bool false, .int .i64 0, .int .i64 0, .string (⟨#[]⟩ : ByteArray)] 67 (0, 0))) ∧ Aside0 (wc.heap[gb417]? = some (.cells #[.bool false, .int .i64 0, .int .i64 0, .string (⟨#[]⟩ : ByteArray)] 67 (0, 0))) ∧ Aside0 (Below w.heap.size w wc))
  case first =>
    have H := HC2.out
    clear HC2
    by_cases c5 : (l0.length : Int) = 0
    · rw [if_pos c5] at H
      have c5b0 : ((l0.length : Int) == 0) = true := beq_iff_eq.mpr c5
      have c5b1 : ((l0.length : Int) != 0) = false := bne_eq_false_iff_eq.mpr c5
      clear c5
      (first | rw [c5b0] | (simp only [i64_w, i32_w]; rw [c5b0]) | skip)
      have H' := Aside0.mk H
      clear H
      go_wp2
      go_meet
      case rel => exact ⟨_, (true), (by first | rfl | (simp; done) | (simp [*]; done)), H', ⟨by first | omega | exact Nat.le_refl _⟩, ⟨by (with_reducible repeat (first | refine blk_drewN ?_ _ | refine blk_drew ?_ | refine blk_alloc ?_ _)); exact BK416.out⟩, ⟨by (with_reducible repeat (first | refine blk_drewN ?_ _ | refine blk_drew ?_ | refine blk_alloc ?_ _)); exact BK417.out⟩, ⟨by repeat (first | (with_reducible first | exact HB.out | apply below_alloc | apply pw_below_drewN | apply below_drew1 | refine below_set ?_ GE416.out | refine below_set ?_ GE417.out) | exact HB.out)⟩⟩
    · rw [if_neg c5] at H
      have c5b0 : ((l0.length : Int) == 0) = false := beq_eq_false_iff_ne.mpr c5
      have c5b1 : ((l0.length : Int) != 0) = true := bne_iff_ne.mpr c5
      have c5b2 : ¬ (l0 = []) := fun h_ => c5 (by rw [h_]; rfl)
      (first | rw [c5b0] | (simp only [i64_w, i32_w]; rw [c5b0]) | skip)
      by_cases c6 : 0 < (l0.length : Int)
      · rw [if_pos c6] at H
        have c6b0 : decide (0 < (l0.length : Int)) = true := decide_eq_true c6
        have c6b1 : decide (0 < l0.length) = true := decide_eq_true (by omega)
        clear c6
        have H' := Aside0.mk H
        clear H
        have p418 : 0 ≤ (0 : Int) := (by omega)
        have q418 : 0 < (l0.length : Int) := of_decide_eq_true (by first | (with_reducible assumption) | assumption)
        obtain ⟨ad418, e418, hx418_0⟩ := Kd.at_int HR0.out 0 p418 q418
        cases e418
        have qi418 : (0 < l0.length) = True := eq_true (by omega)
        (try rw [show ((0 : Int)).toNat = 0 from rfl] at hx418_0)
        (try rw [Addr.add_zero'] at hx418_0)
        replace hx418_0 := (HB.out.cell (World.block_lt_of_cell? w _ hx418_0)).trans hx418_0
        replace p418 := eq_true p418
        replace q418 := eq_true q418
        go_wp2
        go_meet
        case rel => exact ⟨_, (decide ((rd l0 0) > 1)), (by first | rfl | (simp; done) | (simp [*]; done)), H', ⟨by first | omega | exact Nat.le_refl _⟩, ⟨by (with_reducible repeat (first | refine blk_drewN ?_ _ | refine blk_drew ?_ | refine blk_alloc ?_ _)); exact BK416.out⟩, ⟨by (with_reducible repeat (first | refine blk_drewN ?_ _ | refine blk_drew ?_ | refine blk_alloc ?_ _)); exact BK417.out⟩, ⟨by repeat (first | (with_reducible first | exact HB.out | apply below_alloc | apply pw_below_drewN | apply below_drew1 | refine below_set ?_ GE416.out | refine below_set ?_ GE417.out) | exact HB.out)⟩⟩
      · rw [if_neg c6] at H
        exact absurd H (by simp)
  case rest =>
    clear HC2
    try clear p2
    try clear p4
    try clear q4
    try clear hx4
    try clear qi4
    try clear c5
    try clear c5b0
    try clear c5b1
    try clear c5b2
    try clear c6
    try clear c6b0
    try clear c6b1
    try clear hx418_0
    try clear p418
    try clear q418
    obtain ⟨kq, x15_1, rfl, HA, HJ1, BK416, BK417, HB⟩ := hcut
    cases kq with
    | zero => exact absurd HA.out (by simp [delta_piece.j0])
    | succ kj1 =>
      have H := HA.out
      clear HA
      simp only [delta_piece.j0] at H
      by_cases c7 : x15_1 = true
      · subst c7
        have H1 : (some (false, 0, 0, (⟨#[]⟩ : ByteArray), 0, false)) = some (r1, r2, r3, r4, r5, r6) := by rw [if_pos rfl] at H; exact H
        clear H
        have H := H1
        clear H1
        simp only [Option.some.injEq, Prod.mk.injEq] at H
        obtain ⟨rfl, rfl, rfl, rfl, rfl, rfl⟩ := H
        have hnb8 := NB417_416.out
        have hnc8 := NB416_417.out
        have hcz9_0 : wc.cell? ⟨gb417, 0, none⟩ = some (.bool false) := (blk_cell BK417.out 0).trans rfl
        have hcz9_1 : wc.cell? ⟨gb417, 1, none⟩ = some (.int .i64 0) := (blk_cell BK417.out 1).trans rfl
        have hcz9_2 : wc.cell? ⟨gb417, 2, none⟩ = some (.int .i64 0) := (blk_cell BK417.out 2).trans rfl
        have hcz9_3 : wc.cell? ⟨gb417, 3, none⟩ = some (.string (⟨#[]⟩ : ByteArray)) := (blk_cell BK417.out 3).trans rfl
        have hfz9_0 := blk_frozen BK417.out 0
        have hfz9_1 := blk_frozen BK417.out 1
        have hfz9_2 := blk_frozen BK417.out 2
        have hfz9_3 := blk_frozen BK417.out 3
        have hcz10_0 : wc.cell? ⟨gb416, 0, none⟩ = some (.bool false) := (blk_cell BK416.out 0).trans rfl
        have hcz10_1 : wc.cell? ⟨gb416, 1, none⟩ = some (.int .i64 0) := (blk_cell BK416.out 1).trans rfl
        have hcz10_2 : wc.cell? ⟨gb416, 2, none⟩ = some (.int .i64 0) := (blk_cell BK416.out 2).trans rfl
        have hcz10_3 : wc.cell? ⟨gb416, 3, none⟩ = some (.string (⟨#[]⟩ : ByteArray)) := (blk_cell BK416.out 3).trans rfl
        have hfz10_0 := blk_frozen BK416.out 0
        have hfz10_1 := blk_frozen BK416.out 1
        have hfz10_2 := blk_frozen BK416.out 2
        have hfz10_3 := blk_frozen BK416.out 3
        go_wp2
        refine bodyPost_ret (results_ctt rfl _ _ gb416 67 #[.bool false, .int .i64 0, .int .i64 0, .string (⟨#[]⟩ : ByteArray)] (0, 0) _ rfl (by (with_reducible repeat (first | refine blk_drewN ?_ _ | refine blk_drew ?_ | refine blk_alloc ?_ _)); refine blk_put (cs := #[.bool false, .int .i64 0, .int .i64 0, .string (⟨#[]⟩ : ByteArray)]) ?_ 3 _ rfl; (with_reducible repeat (first | refine blk_drewN ?_ _ | refine blk_drew ?_ | refine blk_alloc ?_ _)); refine blk_put (cs := #[.bool false, .int .i64 0, .int .i64 0, .string (⟨#[]⟩ : ByteArray)]) ?_ 2 _ rfl; (with_reducible repeat (first | refine blk_drewN ?_ _ | refine blk_drew ?_ | refine blk_alloc ?_ _)); refine blk_put (cs := #[.bool false, .int .i64 0, .int .i64 0, .string (⟨#[]⟩ : ByteArray)]) ?_ 1 _ rfl; (with_reducible repeat (first | refine blk_drewN ?_ _ | refine blk_drew ?_ | refine blk_alloc ?_ _)); refine blk_put (cs := #[.bool false, .int .i64 0, .int .i64 0, .string (⟨#[]⟩ : ByteArray)]) ?_ 0 _ rfl; (with_reducible repeat (first | refine blk_drewN ?_ _ | refine blk_drew ?_ | refine blk_alloc ?_ _)); exact BK416.out) Try.underlying67 rfl (by kernel_rfl)) rfl ?_
        exact ⟨by first | rfl | (simp [errW_none, errW_some] <;> rfl) | (simp [*, errW_none, errW_some] <;> rfl), by repeat (first | (with_reducible first | exact HB.out | apply below_alloc | apply pw_below_drewN | apply below_drew1 | refine below_set ?_ GE416.out | refine below_set ?_ GE417.out) | exact HB.out)⟩
      · replace c7 := Bool.eq_false_iff.mpr c7
        subst c7
        have H1 : (if 0 < (l0.length : Int) then (if (rd l0 0) = 0 then (if 1 ≤ (l0.length : Int) then ((wire_Read.f kj1 (l0.drop 1) 200).bind fun bt421 => (some (false, 0, 0, bt421.1, wrap64 (bt421.2.1 + 1), bt421.2.2))) else (none)) else (if 1 ≤ (l0.length : Int) then ((wire_Get.f kj1 (l0.drop 1)).bind fun bt425 => (if 0 ≤ (wrap64 (1 + bt425.2.1)) then (if (wrap64 (1 + bt425.2.1)) ≤ (l0.length : Int) then ((wire_Get.f kj1 (l0.drop ((wrap64 (1 + bt425.2.1)) : Int).toNat)).bind fun bt429 => (if bt425.2.2 = true then (if bt429.2.2 = true then (if bt425.1 > 200 then (some (false, 0, 0, (⟨#[]⟩ : ByteArray), 0, false)) else (if bt429.1 > 200 then (some (false, 0, 0, (⟨#[]⟩ : ByteArray), 0, false)) else (some (true, wrap64 (bt425.1), wrap64 (bt429.1), (⟨#[]⟩ : ByteArray), wrap64 ((wrap64 (1 + bt425.2.1)) + bt429.2.1), true)))) else (some (false, 0, 0, (⟨#[]⟩ : ByteArray), 0, false))) else (some (false, 0, 0, (⟨#[]⟩ : ByteArray), 0, false)))) else (none)) else (none))) else (none))) else (none)) = some (r1, r2, r3, r4, r5, r6) := by rw [if_neg (show ¬ (false = true) by decide)] at H; exact H
        clear H
        have H := H1
        clear H1
        by_cases c11 : 0 < (l0.length : Int)
        · rw [if_pos c11] at H
          have c11b0 : decide (0 < (l0.length : Int)) = true := decide_eq_true c11
          have c11b1 : decide (0 < l0.length) = true := decide_eq_true (by omega)
          clear c11
          by_cases c12 : (rd l0 0) = 0
          · rw [if_pos c12] at H
            have c12b0 : ((rd l0 0) == 0) = true := beq_iff_eq.mpr c12
            have c12b1 : ((rd l0 0) != 0) = false := bne_eq_false_iff_eq.mpr c12
            clear c12
            by_cases c13 : 1 ≤ (l0.length : Int)
            · rw [if_pos c13] at H
              have c13b0 := eq_true c13
              have c13b1 : decide (1 ≤ (l0.length : Int)) = true := decide_eq_true c13
              clear c13
              replace H := Option.bind_eq_some_iff.mp H
              obtain ⟨⟨t421, t422, t423⟩, A140, H⟩ := H
              replace H : (some (false, 0, 0, t421, wrap64 (t422 + 1), t423)) = some (r1, r2, r3, r4, r5, r6) := H
              have A14 := Aside0.mk A140
              clear A140
              simp only [Option.some.injEq, Prod.mk.injEq] at H
              obtain ⟨rfl, rfl, rfl, rfl, rfl, rfl⟩ := H
              have p419 : 0 ≤ (0 : Int) := (by omega)
              have q419 : 0 < (l0.length : Int) := of_decide_eq_true (by first | (with_reducible assumption) | assumption)
              obtain ⟨ad419, e419, hx419_0⟩ := Kd.at_int HR0.out 0 p419 q419
              cases e419
              have qi419 : (0 < l0.length) = True := eq_true (by omega)
              (try rw [show ((0 : Int)).toNat = 0 from rfl] at hx419_0)
              (try rw [Addr.add_zero'] at hx419_0)
              replace hx419_0 := (HB.out.cell (World.block_lt_of_cell? w _ hx419_0)).trans hx419_0
              replace p419 := eq_true p419
              replace q419 := eq_true q419
              obtain ⟨i015, hi015, _, hsz15, _⟩ := info_parts info5
              obtain ⟨A15, hcut15, hA15, hC15⟩ := print_drop_of (P := Try.prog) (Value.int .u8) 0 40 5 .i64 Try.underlying40 hi015 hsz15 (some ad419) c0 l0 1 (by omega) (of_decide_eq_true (by first | (with_reducible assumption) | assumption)) HC0.out
              have HR420 := Aside0.mk (Kd.C_of_reads (h1 := fun _ => rfl) (hA15 _ (Kd.reads_of_C HR0.out)))
              have HC420 := Aside0.mk hC15
              clear hA15 hC15 hi015 hsz15
              go_wp2_with (first | ((with_reducible refine gate_callee (f := 143) rfl ?_); refine goesL_ (some 34) rfl rfl Try.func143 (by kernel_rfl) rfl #[.slice A15 (l0.drop 1).length (c0 - 1), .int .i64 200] rfl (by (try simp only [List.map_toArray, List.map_cons, List.map_nil]); first | done | (rw [show (l0.drop 1).length = (l0.length - 1) from List.length_drop] <;> rfl) | rfl | (simp only [List.length_drop, List.length_take]; rfl)) ?_; (with_reducible refine (wire_Read.calls kj1 _ _ (l0.drop 1) 200 t421 t422 t423 _ ?side1 ?side2 A14.out).mono ?_); (case side1 => repeat (first | exact (Kd.C_below HR420.out HB.out) | (with_reducible refine Kd.C_alloc ?_ _) | (with_reducible refine Kd.C_drewN ?_ _) | (with_reducible refine Kd.C_drew ?_))); (case side2 => exact HC420.out); rintro e w16 ⟨rfl, hb⟩; refine ⟨_, rfl, ?_⟩; have n0_ := Aside0.mk (blk_below (g := gb416) (o := .cells #[.bool false, .int .i64 0, .int .i64 0, .string (⟨#[]⟩ : ByteArray)] 67 (0, 0)) (by (with_reducible repeat (first | refine blk_drewN ?_ _ | refine blk_drew ?_ | refine blk_alloc ?_ _)); exact BK416.out) hb); have n1_ := Aside0.mk (blk_below (g := gb417) (o := .cells #[.bool false, .int .i64 0, .int .i64 0, .string (⟨#[]⟩ : ByteArray)] 67 (0, 0)) (by (with_reducible repeat (first | refine blk_drewN ?_ _ | refine blk_drew ?_ | refine blk_alloc ?_ _)); exact BK417.out) hb); have n2_ := Aside0.mk (below_step (by repeat (first | (with_reducible first | exact HB.out | apply below_alloc | apply pw_below_drewN | apply below_drew1 | refine below_set ?_ GE416.out | refine below_set ?_ GE417.out) | exact HB.out)) hb); clear BK416; clear BK417; clear HB; have BK416 := n0_; have BK417 := n1_; have HB := n2_; clear n0_ n1_ n2_; (try clear hb); (try clear hb2); (try clear hk); (try clear hi); have hnb17 := NB416_417.out; have hnc17 := NB417_416.out; have hcz18_0 : w16.cell? ⟨gb416, 0, none⟩ = some (.bool false) := (blk_cell BK416.out 0).trans rfl; have hcz18_1 : w16.cell? ⟨gb416, 1, none⟩ = some (.int .i64 0) := (blk_cell BK416.out 1).trans rfl; have hcz18_2 : w16.cell? ⟨gb416, 2, none⟩ = some (.int .i64 0) := (blk_cell BK416.out 2).trans rfl; have hcz18_3 : w16.cell? ⟨gb416, 3, none⟩ = some (.string (⟨#[]⟩ : ByteArray)) := (blk_cell BK416.out 3).trans rfl; have hfz18_0 := blk_frozen BK416.out 0; have hfz18_1 := blk_frozen BK416.out 1; have hfz18_2 := blk_frozen BK416.out 2; have hfz18_3 := blk_frozen BK416.out 3))
              refine bodyPost_ret (results_ctt rfl _ _ gb416 67 #[.bool false, .int .i64 0, .int .i64 0, .string t421] (0, 0) _ rfl (by (with_reducible repeat (first | refine blk_drewN ?_ _ | refine blk_drew ?_ | refine blk_alloc ?_ _)); refine blk_put (cs := #[.bool false, .int .i64 0, .int .i64 0, .string (⟨#[]⟩ : ByteArray)]) ?_ 3 _ rfl; (with_reducible repeat (first | refine blk_drewN ?_ _ | refine blk_drew ?_ | refine blk_alloc ?_ _)); refine blk_put (cs := #[.bool false, .int .i64 0, .int .i64 0, .string (⟨#[]⟩ : ByteArray)]) ?_ 2 _ rfl; (with_reducible repeat (first | refine blk_drewN ?_ _ | refine blk_drew ?_ | refine blk_alloc ?_ _)); refine blk_put (cs := #[.bool false, .int .i64 0, .int .i64 0, .string (⟨#[]⟩ : ByteArray)]) ?_ 1 _ rfl; (with_reducible repeat (first | refine blk_drewN ?_ _ | refine blk_drew ?_ | refine blk_alloc ?_ _)); refine blk_put (cs := #[.bool false, .int .i64 0, .int .i64 0, .string (⟨#[]⟩ : ByteArray)]) ?_ 0 _ rfl; (with_reducible repeat (first | refine blk_drewN ?_ _ | refine blk_drew ?_ | refine blk_alloc ?_ _)); exact BK416.out) Try.underlying67 rfl (by kernel_rfl)) rfl ?_
              exact ⟨by first | rfl | (simp [errW_none, errW_some] <;> rfl) | (simp [*, errW_none, errW_some] <;> rfl), by repeat (first | (with_reducible first | exact HB.out | apply below_alloc | apply pw_below_drewN | apply below_drew1 | refine below_set ?_ GE416.out | refine below_set ?_ GE417.out) | exact HB.out)⟩
            · rw [if_neg c13] at H
              exact absurd H (by simp)
          · rw [if_neg c12] at H
            have c12b0 : ((rd l0 0) == 0) = false := beq_eq_false_iff_ne.mpr c12
            have c12b1 : ((rd l0 0) != 0) = true := bne_iff_ne.mpr c12
            by_cases c19 : 1 ≤ (l0.length : Int)
            · rw [if_pos c19] at H
              have c19b0 := eq_true c19
              have c19b1 : decide (1 ≤ (l0.length : Int)) = true := decide_eq_true c19
              clear c19
              replace H := Option.bind_eq_some_iff.mp H
              obtain ⟨⟨t425, t426, t427⟩, A200, H⟩ := H
              replace H : (if 0 ≤ (wrap64 (1 + t426)) then (if (wrap64 (1 + t426)) ≤ (l0.length : Int) then ((wire_Get.f kj1 (l0.drop ((wrap64 (1 + t426)) : Int).toNat)).bind fun bt429 => (if t427 = true then (if bt429.2.2 = true then (if t425 > 200 then (some (false, 0, 0, (⟨#[]⟩ : ByteArray), 0, false)) else (if bt429.1 > 200 then (some (false, 0, 0, (⟨#[]⟩ : ByteArray), 0, false)) else (some (true, wrap64 (t425), wrap64 (bt429.1), (⟨#[]⟩ : ByteArray), wrap64 ((wrap64 (1 + t426)) + bt429.2.1), true)))) else (some (false, 0, 0, (⟨#[]⟩ : ByteArray), 0, false))) else (some (false, 0, 0, (⟨#[]⟩ : ByteArray), 0, false)))) else (none)) else (none)) = some (r1, r2, r3, r4, r5, r6) := H
              have A20 := Aside0.mk A200
              clear A200
              obtain ⟨ji21, hji21⟩ : ∃ j_ : Int, (wrap64 (1 + t426)) = j_ := ⟨_, rfl⟩
              replace H : (if 0 ≤ (ji21) then (if (ji21) ≤ (l0.length : Int) then ((wire_Get.f kj1 (l0.drop ((ji21) : Int).toNat)).bind fun bt429 => (if t427 = true then (if bt429.2.2 = true then (if t425 > 200 then (some (false, 0, 0, (⟨#[]⟩ : ByteArray), 0, false)) else (if bt429.1 > 200 then (some (false, 0, 0, (⟨#[]⟩ : ByteArray), 0, false)) else (some (true, wrap64 (t425), wrap64 (bt429.1), (⟨#[]⟩ : ByteArray), wrap64 ((ji21) + bt429.2.1), true)))) else (some (false, 0, 0, (⟨#[]⟩ : ByteArray), 0, false))) else (some (false, 0, 0, (⟨#[]⟩ : ByteArray), 0, false)))) else (none)) else (none)) = some (r1, r2, r3, r4, r5, r6) := by first | (rw [hji21] at H; exact H) | (simp only [hji21] at H ⊢; exact H)
              (try rw [hji21] at A20)
              have hji21w : (IntKind.i64.wrap (1 + t426)) = ji21 := (i64_w _).trans hji21
              by_cases c22 : 0 ≤ (ji21)
              · rw [if_pos c22] at H
                have c22b0 := eq_true c22
                have c22b1 : decide (0 ≤ (ji21)) = true := decide_eq_true c22
                clear c22
                by_cases c23 : (ji21) ≤ (l0.length : Int)
                · rw [if_pos c23] at H
                  have c23b0 := eq_true c23
                  have c23b1 : decide ((ji21) ≤ (l0.length : Int)) = true := decide_eq_true c23
                  clear c23
                  replace H := Option.bind_eq_some_iff.mp H
                  obtain ⟨⟨t429, t430, t431⟩, A240, H⟩ := H
                  replace H : (if t427 = true then (if t431 = true then (if t425 > 200 then (some (false, 0, 0, (⟨#[]⟩ : ByteArray), 0, false)) else (if t429 > 200 then (some (false, 0, 0, (⟨#[]⟩ : ByteArray), 0, false)) else (some (true, wrap64 (t425), wrap64 (t429), (⟨#[]⟩ : ByteArray), wrap64 ((ji21) + t430), true)))) else (some (false, 0, 0, (⟨#[]⟩ : ByteArray), 0, false))) else (some (false, 0, 0, (⟨#[]⟩ : ByteArray), 0, false))) = some (r1, r2, r3, r4, r5, r6) := H
                  have A24 := Aside0.mk A240
                  clear A240
                  by_cases c25 : t427 = true
                  · subst c25
                    have H1 : (if t431 = true then (if t425 > 200 then (some (false, 0, 0, (⟨#[]⟩ : ByteArray), 0, false)) else (if t429 > 200 then (some (false, 0, 0, (⟨#[]⟩ : ByteArray), 0, false)) else (some (true, wrap64 (t425), wrap64 (t429), (⟨#[]⟩ : ByteArray), wrap64 ((ji21) + t430), true)))) else (some (false, 0, 0, (⟨#[]⟩ : ByteArray), 0, false))) = some (r1, r2, r3, r4, r5, r6) := by rw [if_pos rfl] at H; exact H
                    clear H
                    have H := H1
                    clear H1
                    by_cases c26 : t431 = true
                    · subst c26
                      have H1 : (if t425 > 200 then (some (false, 0, 0, (⟨#[]⟩ : ByteArray), 0, false)) else (if t429 > 200 then (some (false, 0, 0, (⟨#[]⟩ : ByteArray), 0, false)) else (some (true, wrap64 (t425), wrap64 (t429), (⟨#[]⟩ : ByteArray), wrap64 ((ji21) + t430), true)))) = some (r1, r2, r3, r4, r5, r6) := by rw [if_pos rfl] at H; exact H
                      clear H
                      have H := H1
                      clear H1
                      by_cases c27 : t425 > 200
                      · rw [if_pos c27] at H
                        have c27b0 : decide (200 < t425) = true := decide_eq_true c27
                        clear c27
                        simp only [Option.some.injEq, Prod.mk.injEq] at H
                        obtain ⟨rfl, rfl, rfl, rfl, rfl, rfl⟩ := H
                        have p419 : 0 ≤ (0 : Int) := (by omega)
                        have q419 : 0 < (l0.length : Int) := of_decide_eq_true (by first | (with_reducible assumption) | assumption)
                        obtain ⟨ad419, e419, hx419_0⟩ := Kd.at_int HR0.out 0 p419 q419
                        cases e419
                        have qi419 : (0 < l0.length) = True := eq_true (by omega)
                        (try rw [show ((0 : Int)).toNat = 0 from rfl] at hx419_0)
                        (try rw [Addr.add_zero'] at hx419_0)
                        replace hx419_0 := (HB.out.cell (World.block_lt_of_cell? w _ hx419_0)).trans hx419_0
                        replace p419 := eq_true p419
                        replace q419 := eq_true q419
                        obtain ⟨i028, hi028, _, hsz28, _⟩ := info_parts info5
                        obtain ⟨A28, hcut28, hA28, hC28⟩ := print_drop_of (P := Try.prog) (Value.int .u8) 0 40 5 .i64 Try.underlying40 hi028 hsz28 (some ad419) c0 l0 1 (by omega) (of_decide_eq_true (by first | (with_reducible assumption) | assumption)) HC0.out
                        have HR424 := Aside0.mk (Kd.C_of_reads (h1 := fun _ => rfl) (hA28 _ (Kd.reads_of_C HR0.out)))
                        have HC424 := Aside0.mk hC28
                        clear hA28 hC28 hi028 hsz28
                        go_wp2_with (first | ((with_reducible refine gate_callee (f := 88) rfl ?_); refine goesL_ (some 46) rfl rfl Try.func88 (by kernel_rfl) rfl #[.slice A28 (l0.drop 1).length (c0 - 1)] rfl (by (try simp only [List.map_toArray, List.map_cons, List.map_nil]); first | done | (rw [show (l0.drop 1).length = (l0.length - 1) from List.length_drop] <;> rfl) | rfl | (simp only [List.length_drop, List.length_take]; rfl)) ?_; (with_reducible refine (wire_Get.calls kj1 _ _ (l0.drop 1) t425 t426 true _ ?side1 ?side2 A20.out).mono ?_); (case side1 => repeat (first | exact (Kd.C_below HR424.out HB.out) | (with_reducible refine Kd.C_alloc ?_ _) | (with_reducible refine Kd.C_drewN ?_ _) | (with_reducible refine Kd.C_drew ?_))); (case side2 => exact HC424.out); rintro e w' ⟨rfl, ⟨nd, rfl⟩⟩; refine ⟨_, rfl, ?_⟩; (try (rw [drewN_self wc]; generalize hq_ : World.drewN wc _ = wc; have n0_ : Aside0 (wc.heap[gb416]? = some (.cells #[.bool false, .int .i64 0, .int .i64 0, .string (⟨#[]⟩ : ByteArray)] 67 (0, 0))) := ⟨by rw [← hq_]; exact (by (with_reducible repeat (first | refine blk_drewN ?_ _ | refine blk_drew ?_ | refine blk_alloc ?_ _)); exact BK416.out)⟩; have n1_ : Aside0 (wc.heap[gb417]? = some (.cells #[.bool false, .int .i64 0, .int .i64 0, .string (⟨#[]⟩ : ByteArray)] 67 (0, 0))) := ⟨by rw [← hq_]; exact (by (with_reducible repeat (first | refine blk_drewN ?_ _ | refine blk_drew ?_ | refine blk_alloc ?_ _)); exact BK417.out)⟩; have n2_ : Aside0 (Below w.heap.size w wc) := ⟨by rw [← hq_]; exact (by repeat (first | (with_reducible first | exact HB.out | apply below_alloc | apply pw_below_drewN | apply below_drew1 | refine below_set ?_ GE416.out | refine below_set ?_ GE417.out) | exact HB.out))⟩; clear BK416 BK417 HB hq_; have BK416 := n0_; have BK417 := n1_; have HB := n2_; clear n0_ n1_ n2_)); obtain ⟨i029, hi029, _, hsz29, _⟩ := info_parts info5; obtain ⟨A29, hcut29, hA29, hC29⟩ := print_drop_of (P := Try.prog) (Value.int .u8) 0 40 5 .i64 Try.underlying40 hi029 hsz29 (some ad419) c0 l0 (ji21) (of_decide_eq_true (by first | (with_reducible assumption) | assumption)) (of_decide_eq_true (by first | (with_reducible assumption) | assumption)) HC0.out; have HR428 := Aside0.mk (Kd.C_of_reads (h1 := fun _ => rfl) (hA29 _ (Kd.reads_of_C HR0.out))); have HC428 := Aside0.mk hC29; clear hA29 hC29 hi029 hsz29) | ((with_reducible refine gate_callee (f := 88) rfl ?_); refine goesL_ (some 55) rfl rfl Try.func88 (by kernel_rfl) rfl #[.slice A29 (l0.drop ((ji21) : Int).toNat).length (c0 - (ji21).toNat)] rfl (by (try simp only [List.map_toArray, List.map_cons, List.map_nil]); first | done | (rw [show (l0.drop ((ji21) : Int).toNat).length = (l0.length - (ji21).toNat) from List.length_drop] <;> rfl) | (simp only [hji21]; rfl) | rfl | (simp only [List.length_drop, List.length_take]; rfl)) ?_; (with_reducible refine (wire_Get.calls kj1 _ _ (l0.drop ((ji21) : Int).toNat) t429 t430 true _ ?side1 ?side2 A24.out).mono ?_); (case side1 => repeat (first | exact (Kd.C_below HR428.out HB.out) | (with_reducible refine Kd.C_alloc ?_ _) | (with_reducible refine Kd.C_drewN ?_ _) | (with_reducible refine Kd.C_drew ?_))); (case side2 => exact HC428.out); rintro e w' ⟨rfl, ⟨nd, rfl⟩⟩; refine ⟨_, rfl, ?_⟩; (try (rw [drewN_self wc]; generalize hq_ : World.drewN wc _ = wc; have n0_ : Aside0 (wc.heap[gb416]? = some (.cells #[.bool false, .int .i64 0, .int .i64 0, .string (⟨#[]⟩ : ByteArray)] 67 (0, 0))) := ⟨by rw [← hq_]; exact (by (with_reducible repeat (first | refine blk_drewN ?_ _ | refine blk_drew ?_ | refine blk_alloc ?_ _)); exact BK416.out)⟩; have n1_ : Aside0 (wc.heap[gb417]? = some (.cells #[.bool false, .int .i64 0, .int .i64 0, .string (⟨#[]⟩ : ByteArray)] 67 (0, 0))) := ⟨by rw [← hq_]; exact (by (with_reducible repeat (first | refine blk_drewN ?_ _ | refine blk_drew ?_ | refine blk_alloc ?_ _)); exact BK417.out)⟩; have n2_ : Aside0 (Below w.heap.size w wc) := ⟨by rw [← hq_]; exact (by repeat (first | (with_reducible first | exact HB.out | apply below_alloc | apply pw_below_drewN | apply below_drew1 | refine below_set ?_ GE416.out | refine below_set ?_ GE417.out) | exact HB.out))⟩; clear BK416 BK417 HB hq_; have BK416 := n0_; have BK417 := n1_; have HB := n2_; clear n0_ n1_ n2_)); have hnb30 := NB417_416.out; have hnc30 := NB416_417.out; have hcz31_0 : wc.cell? ⟨gb417, 0, none⟩ = some (.bool false) := (blk_cell BK417.out 0).trans rfl; have hcz31_1 : wc.cell? ⟨gb417, 1, none⟩ = some (.int .i64 0) := (blk_cell BK417.out 1).trans rfl; have hcz31_2 : wc.cell? ⟨gb417, 2, none⟩ = some (.int .i64 0) := (blk_cell BK417.out 2).trans rfl; have hcz31_3 : wc.cell? ⟨gb417, 3, none⟩ = some (.string (⟨#[]⟩ : ByteArray)) := (blk_cell BK417.out 3).trans rfl; have hfz31_0 := blk_frozen BK417.out 0; have hfz31_1 := blk_frozen BK417.out 1; have hfz31_2 := blk_frozen BK417.out 2; have hfz31_3 := blk_frozen BK417.out 3; have hcz32_0 : wc.cell? ⟨gb416, 0, none⟩ = some (.bool false) := (blk_cell BK416.out 0).trans rfl; have hcz32_1 : wc.cell? ⟨gb416, 1, none⟩ = some (.int .i64 0) := (blk_cell BK416.out 1).trans rfl; have hcz32_2 : wc.cell? ⟨gb416, 2, none⟩ = some (.int .i64 0) := (blk_cell BK416.out 2).trans rfl; have hcz32_3 : wc.cell? ⟨gb416, 3, none⟩ = some (.string (⟨#[]⟩ : ByteArray)) := (blk_cell BK416.out 3).trans rfl; have hfz32_0 := blk_frozen BK416.out 0; have hfz32_1 := blk_frozen BK416.out 1; have hfz32_2 := blk_frozen BK416.out 2; have hfz32_3 := blk_frozen BK416.out 3))
                        refine bodyPost_ret (results_ctt rfl _ _ gb416 67 #[.bool false, .int .i64 0, .int .i64 0, .string (⟨#[]⟩ : ByteArray)] (0, 0) _ rfl (by (with_reducible repeat (first | refine blk_drewN ?_ _ | refine blk_drew ?_ | refine blk_alloc ?_ _)); refine blk_put (cs := #[.bool false, .int .i64 0, .int .i64 0, .string (⟨#[]⟩ : ByteArray)]) ?_ 3 _ rfl; (with_reducible repeat (first | refine blk_drewN ?_ _ | refine blk_drew ?_ | refine blk_alloc ?_ _)); refine blk_put (cs := #[.bool false, .int .i64 0, .int .i64 0, .string (⟨#[]⟩ : ByteArray)]) ?_ 2 _ rfl; (with_reducible repeat (first | refine blk_drewN ?_ _ | refine blk_drew ?_ | refine blk_alloc ?_ _)); refine blk_put (cs := #[.bool false, .int .i64 0, .int .i64 0, .string (⟨#[]⟩ : ByteArray)]) ?_ 1 _ rfl; (with_reducible repeat (first | refine blk_drewN ?_ _ | refine blk_drew ?_ | refine blk_alloc ?_ _)); refine blk_put (cs := #[.bool false, .int .i64 0, .int .i64 0, .string (⟨#[]⟩ : ByteArray)]) ?_ 0 _ rfl; (with_reducible repeat (first | refine blk_drewN ?_ _ | refine blk_drew ?_ | refine blk_alloc ?_ _)); exact BK416.out) Try.underlying67 rfl (by kernel_rfl)) rfl ?_
                        exact ⟨by first | rfl | (simp [errW_none, errW_some] <;> rfl) | (simp only [← hji21]; first | rfl | (simp [errW_none, errW_some] <;> rfl)) | (simp [*, errW_none, errW_some] <;> rfl), by repeat (first | (with_reducible first | exact HB.out | apply below_alloc | apply pw_below_drewN | apply below_drew1 | refine below_set ?_ GE416.out | refine below_set ?_ GE417.out) | exact HB.out)⟩
                      · rw [if_neg c27] at H
                        have c27b0 : decide (200 < t425) = false := decide_eq_false c27
                        clear c27
                        by_cases c33 : t429 > 200
                        · rw [if_pos c33] at H
                          have c33b0 : decide (200 < t429) = true := decide_eq_true c33
                          clear c33
                          simp only [Option.some.injEq, Prod.mk.injEq] at H
                          obtain ⟨rfl, rfl, rfl, rfl, rfl, rfl⟩ := H
                          have p419 : 0 ≤ (0 : Int) := (by omega)
                          have q419 : 0 < (l0.length : Int) := of_decide_eq_true (by first | (with_reducible assumption) | assumption)
                          obtain ⟨ad419, e419, hx419_0⟩ := Kd.at_int HR0.out 0 p419 q419
                          cases e419
                          have qi419 : (0 < l0.length) = True := eq_true (by omega)
                          (try rw [show ((0 : Int)).toNat = 0 from rfl] at hx419_0)
                          (try rw [Addr.add_zero'] at hx419_0)
                          replace hx419_0 := (HB.out.cell (World.block_lt_of_cell? w _ hx419_0)).trans hx419_0
                          replace p419 := eq_true p419
                          replace q419 := eq_true q419
                          obtain ⟨i034, hi034, _, hsz34, _⟩ := info_parts info5
                          obtain ⟨A34, hcut34, hA34, hC34⟩ := print_drop_of (P := Try.prog) (Value.int .u8) 0 40 5 .i64 Try.underlying40 hi034 hsz34 (some ad419) c0 l0 1 (by omega) (of_decide_eq_true (by first | (with_reducible assumption) | assumption)) HC0.out
                          have HR424 := Aside0.mk (Kd.C_of_reads (h1 := fun _ => rfl) (hA34 _ (Kd.reads_of_C HR0.out)))
                          have HC424 := Aside0.mk hC34
                          clear hA34 hC34 hi034 hsz34
                          go_wp2_with (first | ((with_reducible refine gate_callee (f := 88) rfl ?_); refine goesL_ (some 46) rfl rfl Try.func88 (by kernel_rfl) rfl #[.slice A34 (l0.drop 1).length (c0 - 1)] rfl (by (try simp only [List.map_toArray, List.map_cons, List.map_nil]); first | done | (rw [show (l0.drop 1).length = (l0.length - 1) from List.length_drop] <;> rfl) | rfl | (simp only [List.length_drop, List.length_take]; rfl)) ?_; (with_reducible refine (wire_Get.calls kj1 _ _ (l0.drop 1) t425 t426 true _ ?side1 ?side2 A20.out).mono ?_); (case side1 => repeat (first | exact (Kd.C_below HR424.out HB.out) | (with_reducible refine Kd.C_alloc ?_ _) | (with_reducible refine Kd.C_drewN ?_ _) | (with_reducible refine Kd.C_drew ?_))); (case side2 => exact HC424.out); rintro e w' ⟨rfl, ⟨nd, rfl⟩⟩; refine ⟨_, rfl, ?_⟩; (try (rw [drewN_self wc]; generalize hq_ : World.drewN wc _ = wc; have n0_ : Aside0 (wc.heap[gb416]? = some (.cells #[.bool false, .int .i64 0, .int .i64 0, .string (⟨#[]⟩ : ByteArray)] 67 (0, 0))) := ⟨by rw [← hq_]; exact (by (with_reducible repeat (first | refine blk_drewN ?_ _ | refine blk_drew ?_ | refine blk_alloc ?_ _)); exact BK416.out)⟩; have n1_ : Aside0 (wc.heap[gb417]? = some (.cells #[.bool false, .int .i64 0, .int .i64 0, .string (⟨#[]⟩ : ByteArray)] 67 (0, 0))) := ⟨by rw [← hq_]; exact (by (with_reducible repeat (first | refine blk_drewN ?_ _ | refine blk_drew ?_ | refine blk_alloc ?_ _)); exact BK417.out)⟩; have n2_ : Aside0 (Below w.heap.size w wc) := ⟨by rw [← hq_]; exact (by repeat (first | (with_reducible first | exact HB.out | apply below_alloc | apply pw_below_drewN | apply below_drew1 | refine below_set ?_ GE416.out | refine below_set ?_ GE417.out) | exact HB.out))⟩; clear BK416 BK417 HB hq_; have BK416 := n0_; have BK417 := n1_; have HB := n2_; clear n0_ n1_ n2_)); obtain ⟨i035, hi035, _, hsz35, _⟩ := info_parts info5; obtain ⟨A35, hcut35, hA35, hC35⟩ := print_drop_of (P := Try.prog) (Value.int .u8) 0 40 5 .i64 Try.underlying40 hi035 hsz35 (some ad419) c0 l0 (ji21) (of_decide_eq_true (by first | (with_reducible assumption) | assumption)) (of_decide_eq_true (by first | (with_reducible assumption) | assumption)) HC0.out; have HR428 := Aside0.mk (Kd.C_of_reads (h1 := fun _ => rfl) (hA35 _ (Kd.reads_of_C HR0.out))); have HC428 := Aside0.mk hC35; clear hA35 hC35 hi035 hsz35) | ((with_reducible refine gate_callee (f := 88) rfl ?_); refine goesL_ (some 55) rfl rfl Try.func88 (by kernel_rfl) rfl #[.slice A35 (l0.drop ((ji21) : Int).toNat).length (c0 - (ji21).toNat)] rfl (by (try simp only [List.map_toArray, List.map_cons, List.map_nil]); first | done | (rw [show (l0.drop ((ji21) : Int).toNat).length = (l0.length - (ji21).toNat) from List.length_drop] <;> rfl) | (simp only [hji21]; rfl) | rfl | (simp only [List.length_drop, List.length_take]; rfl)) ?_; (with_reducible refine (wire_Get.calls kj1 _ _ (l0.drop ((ji21) : Int).toNat) t429 t430 true _ ?side1 ?side2 A24.out).mono ?_); (case side1 => repeat (first | exact (Kd.C_below HR428.out HB.out) | (with_reducible refine Kd.C_alloc ?_ _) | (with_reducible refine Kd.C_drewN ?_ _) | (with_reducible refine Kd.C_drew ?_))); (case side2 => exact HC428.out); rintro e w' ⟨rfl, ⟨nd, rfl⟩⟩; refine ⟨_, rfl, ?_⟩; (try (rw [drewN_self wc]; generalize hq_ : World.drewN wc _ = wc; have n0_ : Aside0 (wc.heap[gb416]? = some (.cells #[.bool false, .int .i64 0, .int .i64 0, .string (⟨#[]⟩ : ByteArray)] 67 (0, 0))) := ⟨by rw [← hq_]; exact (by (with_reducible repeat (first | refine blk_drewN ?_ _ | refine blk_drew ?_ | refine blk_alloc ?_ _)); exact BK416.out)⟩; have n1_ : Aside0 (wc.heap[gb417]? = some (.cells #[.bool false, .int .i64 0, .int .i64 0, .string (⟨#[]⟩ : ByteArray)] 67 (0, 0))) := ⟨by rw [← hq_]; exact (by (with_reducible repeat (first | refine blk_drewN ?_ _ | refine blk_drew ?_ | refine blk_alloc ?_ _)); exact BK417.out)⟩; have n2_ : Aside0 (Below w.heap.size w wc) := ⟨by rw [← hq_]; exact (by repeat (first | (with_reducible first | exact HB.out | apply below_alloc | apply pw_below_drewN | apply below_drew1 | refine below_set ?_ GE416.out | refine below_set ?_ GE417.out) | exact HB.out))⟩; clear BK416 BK417 HB hq_; have BK416 := n0_; have BK417 := n1_; have HB := n2_; clear n0_ n1_ n2_)); have hnb36 := NB417_416.out; have hnc36 := NB416_417.out; have hcz37_0 : wc.cell? ⟨gb417, 0, none⟩ = some (.bool false) := (blk_cell BK417.out 0).trans rfl; have hcz37_1 : wc.cell? ⟨gb417, 1, none⟩ = some (.int .i64 0) := (blk_cell BK417.out 1).trans rfl; have hcz37_2 : wc.cell? ⟨gb417, 2, none⟩ = some (.int .i64 0) := (blk_cell BK417.out 2).trans rfl; have hcz37_3 : wc.cell? ⟨gb417, 3, none⟩ = some (.string (⟨#[]⟩ : ByteArray)) := (blk_cell BK417.out 3).trans rfl; have hfz37_0 := blk_frozen BK417.out 0; have hfz37_1 := blk_frozen BK417.out 1; have hfz37_2 := blk_frozen BK417.out 2; have hfz37_3 := blk_frozen BK417.out 3; have hcz38_0 : wc.cell? ⟨gb416, 0, none⟩ = some (.bool false) := (blk_cell BK416.out 0).trans rfl; have hcz38_1 : wc.cell? ⟨gb416, 1, none⟩ = some (.int .i64 0) := (blk_cell BK416.out 1).trans rfl; have hcz38_2 : wc.cell? ⟨gb416, 2, none⟩ = some (.int .i64 0) := (blk_cell BK416.out 2).trans rfl; have hcz38_3 : wc.cell? ⟨gb416, 3, none⟩ = some (.string (⟨#[]⟩ : ByteArray)) := (blk_cell BK416.out 3).trans rfl; have hfz38_0 := blk_frozen BK416.out 0; have hfz38_1 := blk_frozen BK416.out 1; have hfz38_2 := blk_frozen BK416.out 2; have hfz38_3 := blk_frozen BK416.out 3))
                          refine bodyPost_ret (results_ctt rfl _ _ gb416 67 #[.bool false, .int .i64 0, .int .i64 0, .string (⟨#[]⟩ : ByteArray)] (0, 0) _ rfl (by (with_reducible repeat (first | refine blk_drewN ?_ _ | refine blk_drew ?_ | refine blk_alloc ?_ _)); refine blk_put (cs := #[.bool false, .int .i64 0, .int .i64 0, .string (⟨#[]⟩ : ByteArray)]) ?_ 3 _ rfl; (with_reducible repeat (first | refine blk_drewN ?_ _ | refine blk_drew ?_ | refine blk_alloc ?_ _)); refine blk_put (cs := #[.bool false, .int .i64 0, .int .i64 0, .string (⟨#[]⟩ : ByteArray)]) ?_ 2 _ rfl; (with_reducible repeat (first | refine blk_drewN ?_ _ | refine blk_drew ?_ | refine blk_alloc ?_ _)); refine blk_put (cs := #[.bool false, .int .i64 0, .int .i64 0, .string (⟨#[]⟩ : ByteArray)]) ?_ 1 _ rfl; (with_reducible repeat (first | refine blk_drewN ?_ _ | refine blk_drew ?_ | refine blk_alloc ?_ _)); refine blk_put (cs := #[.bool false, .int .i64 0, .int .i64 0, .string (⟨#[]⟩ : ByteArray)]) ?_ 0 _ rfl; (with_reducible repeat (first | refine blk_drewN ?_ _ | refine blk_drew ?_ | refine blk_alloc ?_ _)); exact BK416.out) Try.underlying67 rfl (by kernel_rfl)) rfl ?_
                          exact ⟨by first | rfl | (simp [errW_none, errW_some] <;> rfl) | (simp only [← hji21]; first | rfl | (simp [errW_none, errW_some] <;> rfl)) | (simp [*, errW_none, errW_some] <;> rfl), by repeat (first | (with_reducible first | exact HB.out | apply below_alloc | apply pw_below_drewN | apply below_drew1 | refine below_set ?_ GE416.out | refine below_set ?_ GE417.out) | exact HB.out)⟩
                        · rw [if_neg c33] at H
                          have c33b0 : decide (200 < t429) = false := decide_eq_false c33
                          clear c33
                          simp only [Option.some.injEq, Prod.mk.injEq] at H
                          obtain ⟨rfl, rfl, rfl, rfl, rfl, rfl⟩ := H
                          have p419 : 0 ≤ (0 : Int) := (by omega)
                          have q419 : 0 < (l0.length : Int) := of_decide_eq_true (by first | (with_reducible assumption) | assumption)
                          obtain ⟨ad419, e419, hx419_0⟩ := Kd.at_int HR0.out 0 p419 q419
                          cases e419
                          have qi419 : (0 < l0.length) = True := eq_true (by omega)
                          (try rw [show ((0 : Int)).toNat = 0 from rfl] at hx419_0)
                          (try rw [Addr.add_zero'] at hx419_0)
                          replace hx419_0 := (HB.out.cell (World.block_lt_of_cell? w _ hx419_0)).trans hx419_0
                          replace p419 := eq_true p419
                          replace q419 := eq_true q419
                          obtain ⟨i039, hi039, _, hsz39, _⟩ := info_parts info5
                          obtain ⟨A39, hcut39, hA39, hC39⟩ := print_drop_of (P := Try.prog) (Value.int .u8) 0 40 5 .i64 Try.underlying40 hi039 hsz39 (some ad419) c0 l0 1 (by omega) (of_decide_eq_true (by first | (with_reducible assumption) | assumption)) HC0.out
                          have HR424 := Aside0.mk (Kd.C_of_reads (h1 := fun _ => rfl) (hA39 _ (Kd.reads_of_C HR0.out)))
                          have HC424 := Aside0.mk hC39
                          clear hA39 hC39 hi039 hsz39
                          go_wp2_with (first | ((with_reducible refine gate_callee (f := 88) rfl ?_); refine goesL_ (some 46) rfl rfl Try.func88 (by kernel_rfl) rfl #[.slice A39 (l0.drop 1).length (c0 - 1)] rfl (by (try simp only [List.map_toArray, List.map_cons, List.map_nil]); first | done | (rw [show (l0.drop 1).length = (l0.length - 1) from List.length_drop] <;> rfl) | rfl | (simp only [List.length_drop, List.length_take]; rfl)) ?_; (with_reducible refine (wire_Get.calls kj1 _ _ (l0.drop 1) t425 t426 true _ ?side1 ?side2 A20.out).mono ?_); (case side1 => repeat (first | exact (Kd.C_below HR424.out HB.out) | (with_reducible refine Kd.C_alloc ?_ _) | (with_reducible refine Kd.C_drewN ?_ _) | (with_reducible refine Kd.C_drew ?_))); (case side2 => exact HC424.out); rintro e w' ⟨rfl, ⟨nd, rfl⟩⟩; refine ⟨_, rfl, ?_⟩; (try (rw [drewN_self wc]; generalize hq_ : World.drewN wc _ = wc; have n0_ : Aside0 (wc.heap[gb416]? = some (.cells #[.bool false, .int .i64 0, .int .i64 0, .string (⟨#[]⟩ : ByteArray)] 67 (0, 0))) := ⟨by rw [← hq_]; exact (by (with_reducible repeat (first | refine blk_drewN ?_ _ | refine blk_drew ?_ | refine blk_alloc ?_ _)); exact BK416.out)⟩; have n1_ : Aside0 (wc.heap[gb417]? = some (.cells #[.bool false, .int .i64 0, .int .i64 0, .string (⟨#[]⟩ : ByteArray)] 67 (0, 0))) := ⟨by rw [← hq_]; exact (by (with_reducible repeat (first | refine blk_drewN ?_ _ | refine blk_drew ?_ | refine blk_alloc ?_ _)); exact BK417.out)⟩; have n2_ : Aside0 (Below w.heap.size w wc) := ⟨by rw [← hq_]; exact (by repeat (first | (with_reducible first | exact HB.out | apply below_alloc | apply pw_below_drewN | apply below_drew1 | refine below_set ?_ GE416.out | refine below_set ?_ GE417.out) | exact HB.out))⟩; clear BK416 BK417 HB hq_; have BK416 := n0_; have BK417 := n1_; have HB := n2_; clear n0_ n1_ n2_)); obtain ⟨i040, hi040, _, hsz40, _⟩ := info_parts info5; obtain ⟨A40, hcut40, hA40, hC40⟩ := print_drop_of (P := Try.prog) (Value.int .u8) 0 40 5 .i64 Try.underlying40 hi040 hsz40 (some ad419) c0 l0 (ji21) (of_decide_eq_true (by first | (with_reducible assumption) | assumption)) (of_decide_eq_true (by first | (with_reducible assumption) | assumption)) HC0.out; have HR428 := Aside0.mk (Kd.C_of_reads (h1 := fun _ => rfl) (hA40 _ (Kd.reads_of_C HR0.out))); have HC428 := Aside0.mk hC40; clear hA40 hC40 hi040 hsz40) | ((with_reducible refine gate_callee (f := 88) rfl ?_); refine goesL_ (some 55) rfl rfl Try.func88 (by kernel_rfl) rfl #[.slice A40 (l0.drop ((ji21) : Int).toNat).length (c0 - (ji21).toNat)] rfl (by (try simp only [List.map_toArray, List.map_cons, List.map_nil]); first | done | (rw [show (l0.drop ((ji21) : Int).toNat).length = (l0.length - (ji21).toNat) from List.length_drop] <;> rfl) | (simp only [hji21]; rfl) | rfl | (simp only [List.length_drop, List.length_take]; rfl)) ?_; (with_reducible refine (wire_Get.calls kj1 _ _ (l0.drop ((ji21) : Int).toNat) t429 t430 true _ ?side1 ?side2 A24.out).mono ?_); (case side1 => repeat (first | exact (Kd.C_below HR428.out HB.out) | (with_reducible refine Kd.C_alloc ?_ _) | (with_reducible refine Kd.C_drewN ?_ _) | (with_reducible refine Kd.C_drew ?_))); (case side2 => exact HC428.out); rintro e w' ⟨rfl, ⟨nd, rfl⟩⟩; refine ⟨_, rfl, ?_⟩; (try (rw [drewN_self wc]; generalize hq_ : World.drewN wc _ = wc; have n0_ : Aside0 (wc.heap[gb416]? = some (.cells #[.bool false, .int .i64 0, .int .i64 0, .string (⟨#[]⟩ : ByteArray)] 67 (0, 0))) := ⟨by rw [← hq_]; exact (by (with_reducible repeat (first | refine blk_drewN ?_ _ | refine blk_drew ?_ | refine blk_alloc ?_ _)); exact BK416.out)⟩; have n1_ : Aside0 (wc.heap[gb417]? = some (.cells #[.bool false, .int .i64 0, .int .i64 0, .string (⟨#[]⟩ : ByteArray)] 67 (0, 0))) := ⟨by rw [← hq_]; exact (by (with_reducible repeat (first | refine blk_drewN ?_ _ | refine blk_drew ?_ | refine blk_alloc ?_ _)); exact BK417.out)⟩; have n2_ : Aside0 (Below w.heap.size w wc) := ⟨by rw [← hq_]; exact (by repeat (first | (with_reducible first | exact HB.out | apply below_alloc | apply pw_below_drewN | apply below_drew1 | refine below_set ?_ GE416.out | refine below_set ?_ GE417.out) | exact HB.out))⟩; clear BK416 BK417 HB hq_; have BK416 := n0_; have BK417 := n1_; have HB := n2_; clear n0_ n1_ n2_)); have hnb41 := NB416_417.out; have hnc41 := NB417_416.out; have hcz42_0 : wc.cell? ⟨gb416, 0, none⟩ = some (.bool false) := (blk_cell BK416.out 0).trans rfl; have hcz42_1 : wc.cell? ⟨gb416, 1, none⟩ = some (.int .i64 0) := (blk_cell BK416.out 1).trans rfl; have hcz42_2 : wc.cell? ⟨gb416, 2, none⟩ = some (.int .i64 0) := (blk_cell BK416.out 2).trans rfl; have hcz42_3 : wc.cell? ⟨gb416, 3, none⟩ = some (.string (⟨#[]⟩ : ByteArray)) := (blk_cell BK416.out 3).trans rfl; have hfz42_0 := blk_frozen BK416.out 0; have hfz42_1 := blk_frozen BK416.out 1; have hfz42_2 := blk_frozen BK416.out 2; have hfz42_3 := blk_frozen BK416.out 3))
                          refine bodyPost_ret (results_ctt rfl _ _ gb416 67 #[.bool true, .int .i64 (wrap64 (t425)), .int .i64 (wrap64 (t429)), .string (⟨#[]⟩ : ByteArray)] (0, 0) _ rfl (by (with_reducible repeat (first | refine blk_drewN ?_ _ | refine blk_drew ?_ | refine blk_alloc ?_ _)); refine blk_put (cs := #[.bool true, .int .i64 (wrap64 (t425)), .int .i64 (wrap64 (t429)), .string (⟨#[]⟩ : ByteArray)]) ?_ 3 _ rfl; (with_reducible repeat (first | refine blk_drewN ?_ _ | refine blk_drew ?_ | refine blk_alloc ?_ _)); refine blk_put (cs := #[.bool true, .int .i64 (wrap64 (t425)), .int .i64 0, .string (⟨#[]⟩ : ByteArray)]) ?_ 2 _ rfl; (with_reducible repeat (first | refine blk_drewN ?_ _ | refine blk_drew ?_ | refine blk_alloc ?_ _)); refine blk_put (cs := #[.bool true, .int .i64 0, .int .i64 0, .string (⟨#[]⟩ : ByteArray)]) ?_ 1 _ rfl; (with_reducible repeat (first | refine blk_drewN ?_ _ | refine blk_drew ?_ | refine blk_alloc ?_ _)); refine blk_put (cs := #[.bool false, .int .i64 0, .int .i64 0, .string (⟨#[]⟩ : ByteArray)]) ?_ 0 _ rfl; (with_reducible repeat (first | refine blk_drewN ?_ _ | refine blk_drew ?_ | refine blk_alloc ?_ _)); exact BK416.out) Try.underlying67 rfl (by kernel_rfl)) rfl ?_
                          exact ⟨by first | rfl | (simp [errW_none, errW_some] <;> rfl) | (simp only [← hji21]; first | rfl | (simp [errW_none, errW_some] <;> rfl)) | (simp [*, errW_none, errW_some] <;> rfl), by repeat (first | (with_reducible first | exact HB.out | apply below_alloc | apply pw_below_drewN | apply below_drew1 | refine below_set ?_ GE416.out | refine below_set ?_ GE417.out) | exact HB.out)⟩
                    · replace c26 := Bool.eq_false_iff.mpr c26
                      subst c26
                      have H1 : (some (false, 0, 0, (⟨#[]⟩ : ByteArray), 0, false)) = some (r1, r2, r3, r4, r5, r6) := by rw [if_neg (show ¬ (false = true) by decide)] at H; exact H
                      clear H
                      have H := H1
                      clear H1
                      simp only [Option.some.injEq, Prod.mk.injEq] at H
                      obtain ⟨rfl, rfl, rfl, rfl, rfl, rfl⟩ := H
                      have p419 : 0 ≤ (0 : Int) := (by omega)
                      have q419 : 0 < (l0.length : Int) := of_decide_eq_true (by first | (with_reducible assumption) | assumption)
                      obtain ⟨ad419, e419, hx419_0⟩ := Kd.at_int HR0.out 0 p419 q419
                      cases e419
                      have qi419 : (0 < l0.length) = True := eq_true (by omega)
                      (try rw [show ((0 : Int)).toNat = 0 from rfl] at hx419_0)
                      (try rw [Addr.add_zero'] at hx419_0)
                      replace hx419_0 := (HB.out.cell (World.block_lt_of_cell? w _ hx419_0)).trans hx419_0
                      replace p419 := eq_true p419
                      replace q419 := eq_true q419
                      obtain ⟨i043, hi043, _, hsz43, _⟩ := info_parts info5
                      obtain ⟨A43, hcut43, hA43, hC43⟩ := print_drop_of (P := Try.prog) (Value.int .u8) 0 40 5 .i64 Try.underlying40 hi043 hsz43 (some ad419) c0 l0 1 (by omega) (of_decide_eq_true (by first | (with_reducible assumption) | assumption)) HC0.out
                      have HR424 := Aside0.mk (Kd.C_of_reads (h1 := fun _ => rfl) (hA43 _ (Kd.reads_of_C HR0.out)))
                      have HC424 := Aside0.mk hC43
                      clear hA43 hC43 hi043 hsz43
                      go_wp2_with (first | ((with_reducible refine gate_callee (f := 88) rfl ?_); refine goesL_ (some 46) rfl rfl Try.func88 (by kernel_rfl) rfl #[.slice A43 (l0.drop 1).length (c0 - 1)] rfl (by (try simp only [List.map_toArray, List.map_cons, List.map_nil]); first | done | (rw [show (l0.drop 1).length = (l0.length - 1) from List.length_drop] <;> rfl) | rfl | (simp only [List.length_drop, List.length_take]; rfl)) ?_; (with_reducible refine (wire_Get.calls kj1 _ _ (l0.drop 1) t425 t426 true _ ?side1 ?side2 A20.out).mono ?_); (case side1 => repeat (first | exact (Kd.C_below HR424.out HB.out) | (with_reducible refine Kd.C_alloc ?_ _) | (with_reducible refine Kd.C_drewN ?_ _) | (with_reducible refine Kd.C_drew ?_))); (case side2 => exact HC424.out); rintro e w' ⟨rfl, ⟨nd, rfl⟩⟩; refine ⟨_, rfl, ?_⟩; (try (rw [drewN_self wc]; generalize hq_ : World.drewN wc _ = wc; have n0_ : Aside0 (wc.heap[gb416]? = some (.cells #[.bool false, .int .i64 0, .int .i64 0, .string (⟨#[]⟩ : ByteArray)] 67 (0, 0))) := ⟨by rw [← hq_]; exact (by (with_reducible repeat (first | refine blk_drewN ?_ _ | refine blk_drew ?_ | refine blk_alloc ?_ _)); exact BK416.out)⟩; have n1_ : Aside0 (wc.heap[gb417]? = some (.cells #[.bool false, .int .i64 0, .int .i64 0, .string (⟨#[]⟩ : ByteArray)] 67 (0, 0))) := ⟨by rw [← hq_]; exact (by (with_reducible repeat (first | refine blk_drewN ?_ _ | refine blk_drew ?_ | refine blk_alloc ?_ _)); exact BK417.out)⟩; have n2_ : Aside0 (Below w.heap.size w wc) := ⟨by rw [← hq_]; exact (by repeat (first | (with_reducible first | exact HB.out | apply below_alloc | apply pw_below_drewN | apply below_drew1 | refine below_set ?_ GE416.out | refine below_set ?_ GE417.out) | exact HB.out))⟩; clear BK416 BK417 HB hq_; have BK416 := n0_; have BK417 := n1_; have HB := n2_; clear n0_ n1_ n2_)); obtain ⟨i044, hi044, _, hsz44, _⟩ := info_parts info5; obtain ⟨A44, hcut44, hA44, hC44⟩ := print_drop_of (P := Try.prog) (Value.int .u8) 0 40 5 .i64 Try.underlying40 hi044 hsz44 (some ad419) c0 l0 (ji21) (of_decide_eq_true (by first | (with_reducible assumption) | assumption)) (of_decide_eq_true (by first | (with_reducible assumption) | assumption)) HC0.out; have HR428 := Aside0.mk (Kd.C_of_reads (h1 := fun _ => rfl) (hA44 _ (Kd.reads_of_C HR0.out))); have HC428 := Aside0.mk hC44; clear hA44 hC44 hi044 hsz44) | ((with_reducible refine gate_callee (f := 88) rfl ?_); refine goesL_ (some 55) rfl rfl Try.func88 (by kernel_rfl) rfl #[.slice A44 (l0.drop ((ji21) : Int).toNat).length (c0 - (ji21).toNat)] rfl (by (try simp only [List.map_toArray, List.map_cons, List.map_nil]); first | done | (rw [show (l0.drop ((ji21) : Int).toNat).length = (l0.length - (ji21).toNat) from List.length_drop] <;> rfl) | (simp only [hji21]; rfl) | rfl | (simp only [List.length_drop, List.length_take]; rfl)) ?_; (with_reducible refine (wire_Get.calls kj1 _ _ (l0.drop ((ji21) : Int).toNat) t429 t430 false _ ?side1 ?side2 A24.out).mono ?_); (case side1 => repeat (first | exact (Kd.C_below HR428.out HB.out) | (with_reducible refine Kd.C_alloc ?_ _) | (with_reducible refine Kd.C_drewN ?_ _) | (with_reducible refine Kd.C_drew ?_))); (case side2 => exact HC428.out); rintro e w' ⟨rfl, ⟨nd, rfl⟩⟩; refine ⟨_, rfl, ?_⟩; (try (rw [drewN_self wc]; generalize hq_ : World.drewN wc _ = wc; have n0_ : Aside0 (wc.heap[gb416]? = some (.cells #[.bool false, .int .i64 0, .int .i64 0, .string (⟨#[]⟩ : ByteArray)] 67 (0, 0))) := ⟨by rw [← hq_]; exact (by (with_reducible repeat (first | refine blk_drewN ?_ _ | refine blk_drew ?_ | refine blk_alloc ?_ _)); exact BK416.out)⟩; have n1_ : Aside0 (wc.heap[gb417]? = some (.cells #[.bool false, .int .i64 0, .int .i64 0, .string (⟨#[]⟩ : ByteArray)] 67 (0, 0))) := ⟨by rw [← hq_]; exact (by (with_reducible repeat (first | refine blk_drewN ?_ _ | refine blk_drew ?_ | refine blk_alloc ?_ _)); exact BK417.out)⟩; have n2_ : Aside0 (Below w.heap.size w wc) := ⟨by rw [← hq_]; exact (by repeat (first | (with_reducible first | exact HB.out | apply below_alloc | apply pw_below_drewN | apply below_drew1 | refine below_set ?_ GE416.out | refine below_set ?_ GE417.out) | exact HB.out))⟩; clear BK416 BK417 HB hq_; have BK416 := n0_; have BK417 := n1_; have HB := n2_; clear n0_ n1_ n2_)); have hnb45 := NB417_416.out; have hnc45 := NB416_417.out; have hcz46_0 : wc.cell? ⟨gb417, 0, none⟩ = some (.bool false) := (blk_cell BK417.out 0).trans rfl; have hcz46_1 : wc.cell? ⟨gb417, 1, none⟩ = some (.int .i64 0) := (blk_cell BK417.out 1).trans rfl; have hcz46_2 : wc.cell? ⟨gb417, 2, none⟩ = some (.int .i64 0) := (blk_cell BK417.out 2).trans rfl; have hcz46_3 : wc.cell? ⟨gb417, 3, none⟩ = some (.string (⟨#[]⟩ : ByteArray)) := (blk_cell BK417.out 3).trans rfl; have hfz46_0 := blk_frozen BK417.out 0; have hfz46_1 := blk_frozen BK417.out 1; have hfz46_2 := blk_frozen BK417.out 2; have hfz46_3 := blk_frozen BK417.out 3; have hcz47_0 : wc.cell? ⟨gb416, 0, none⟩ = some (.bool false) := (blk_cell BK416.out 0).trans rfl; have hcz47_1 : wc.cell? ⟨gb416, 1, none⟩ = some (.int .i64 0) := (blk_cell BK416.out 1).trans rfl; have hcz47_2 : wc.cell? ⟨gb416, 2, none⟩ = some (.int .i64 0) := (blk_cell BK416.out 2).trans rfl; have hcz47_3 : wc.cell? ⟨gb416, 3, none⟩ = some (.string (⟨#[]⟩ : ByteArray)) := (blk_cell BK416.out 3).trans rfl; have hfz47_0 := blk_frozen BK416.out 0; have hfz47_1 := blk_frozen BK416.out 1; have hfz47_2 := blk_frozen BK416.out 2; have hfz47_3 := blk_frozen BK416.out 3))
                      refine bodyPost_ret (results_ctt rfl _ _ gb416 67 #[.bool false, .int .i64 0, .int .i64 0, .string (⟨#[]⟩ : ByteArray)] (0, 0) _ rfl (by (with_reducible repeat (first | refine blk_drewN ?_ _ | refine blk_drew ?_ | refine blk_alloc ?_ _)); refine blk_put (cs := #[.bool false, .int .i64 0, .int .i64 0, .string (⟨#[]⟩ : ByteArray)]) ?_ 3 _ rfl; (with_reducible repeat (first | refine blk_drewN ?_ _ | refine blk_drew ?_ | refine blk_alloc ?_ _)); refine blk_put (cs := #[.bool false, .int .i64 0, .int .i64 0, .string (⟨#[]⟩ : ByteArray)]) ?_ 2 _ rfl; (with_reducible repeat (first | refine blk_drewN ?_ _ | refine blk_drew ?_ | refine blk_alloc ?_ _)); refine blk_put (cs := #[.bool false, .int .i64 0, .int .i64 0, .string (⟨#[]⟩ : ByteArray)]) ?_ 1 _ rfl; (with_reducible repeat (first | refine blk_drewN ?_ _ | refine blk_drew ?_ | refine blk_alloc ?_ _)); refine blk_put (cs := #[.bool false, .int .i64 0, .int .i64 0, .string (⟨#[]⟩ : ByteArray)]) ?_ 0 _ rfl; (with_reducible repeat (first | refine blk_drewN ?_ _ | refine blk_drew ?_ | refine blk_alloc ?_ _)); exact BK416.out) Try.underlying67 rfl (by kernel_rfl)) rfl ?_
                      exact ⟨by first | rfl | (simp [errW_none, errW_some] <;> rfl) | (simp only [← hji21]; first | rfl | (simp [errW_none, errW_some] <;> rfl)) | (simp [*, errW_none, errW_some] <;> rfl), by repeat (first | (with_reducible first | exact HB.out | apply below_alloc | apply pw_below_drewN | apply below_drew1 | refine below_set ?_ GE416.out | refine below_set ?_ GE417.out) | exact HB.out)⟩
                  · replace c25 := Bool.eq_false_iff.mpr c25
                    subst c25
                    have H1 : (some (false, 0, 0, (⟨#[]⟩ : ByteArray), 0, false)) = some (r1, r2, r3, r4, r5, r6) := by rw [if_neg (show ¬ (false = true) by decide)] at H; exact H
                    clear H
                    have H := H1
                    clear H1
                    simp only [Option.some.injEq, Prod.mk.injEq] at H
                    obtain ⟨rfl, rfl, rfl, rfl, rfl, rfl⟩ := H
                    have p419 : 0 ≤ (0 : Int) := (by omega)
                    have q419 : 0 < (l0.length : Int) := of_decide_eq_true (by first | (with_reducible assumption) | assumption)
                    obtain ⟨ad419, e419, hx419_0⟩ := Kd.at_int HR0.out 0 p419 q419
                    cases e419
                    have qi419 : (0 < l0.length) = True := eq_true (by omega)
                    (try rw [show ((0 : Int)).toNat = 0 from rfl] at hx419_0)
                    (try rw [Addr.add_zero'] at hx419_0)
                    replace hx419_0 := (HB.out.cell (World.block_lt_of_cell? w _ hx419_0)).trans hx419_0
                    replace p419 := eq_true p419
                    replace q419 := eq_true q419
                    obtain ⟨i048, hi048, _, hsz48, _⟩ := info_parts info5
                    obtain ⟨A48, hcut48, hA48, hC48⟩ := print_drop_of (P := Try.prog) (Value.int .u8) 0 40 5 .i64 Try.underlying40 hi048 hsz48 (some ad419) c0 l0 1 (by omega) (of_decide_eq_true (by first | (with_reducible assumption) | assumption)) HC0.out
                    have HR424 := Aside0.mk (Kd.C_of_reads (h1 := fun _ => rfl) (hA48 _ (Kd.reads_of_C HR0.out)))
                    have HC424 := Aside0.mk hC48
                    clear hA48 hC48 hi048 hsz48
                    go_wp2_with (first | ((with_reducible refine gate_callee (f := 88) rfl ?_); refine goesL_ (some 46) rfl rfl Try.func88 (by kernel_rfl) rfl #[.slice A48 (l0.drop 1).length (c0 - 1)] rfl (by (try simp only [List.map_toArray, List.map_cons, List.map_nil]); first | done | (rw [show (l0.drop 1).length = (l0.length - 1) from List.length_drop] <;> rfl) | rfl | (simp only [List.length_drop, List.length_take]; rfl)) ?_; (with_reducible refine (wire_Get.calls kj1 _ _ (l0.drop 1) t425 t426 false _ ?side1 ?side2 A20.out).mono ?_); (case side1 => repeat (first | exact (Kd.C_below HR424.out HB.out) | (with_reducible refine Kd.C_alloc ?_ _) | (with_reducible refine Kd.C_drewN ?_ _) | (with_reducible refine Kd.C_drew ?_))); (case side2 => exact HC424.out); rintro e w' ⟨rfl, ⟨nd, rfl⟩⟩; refine ⟨_, rfl, ?_⟩; (try (rw [drewN_self wc]; generalize hq_ : World.drewN wc _ = wc; have n0_ : Aside0 (wc.heap[gb416]? = some (.cells #[.bool false, .int .i64 0, .int .i64 0, .string (⟨#[]⟩ : ByteArray)] 67 (0, 0))) := ⟨by rw [← hq_]; exact (by (with_reducible repeat (first | refine blk_drewN ?_ _ | refine blk_drew ?_ | refine blk_alloc ?_ _)); exact BK416.out)⟩; have n1_ : Aside0 (wc.heap[gb417]? = some (.cells #[.bool false, .int .i64 0, .int .i64 0, .string (⟨#[]⟩ : ByteArray)] 67 (0, 0))) := ⟨by rw [← hq_]; exact (by (with_reducible repeat (first | refine blk_drewN ?_ _ | refine blk_drew ?_ | refine blk_alloc ?_ _)); exact BK417.out)⟩; have n2_ : Aside0 (Below w.heap.size w wc) := ⟨by rw [← hq_]; exact (by repeat (first | (with_reducible first | exact HB.out | apply below_alloc | apply pw_below_drewN | apply below_drew1 | refine below_set ?_ GE416.out | refine below_set ?_ GE417.out) | exact HB.out))⟩; clear BK416 BK417 HB hq_; have BK416 := n0_; have BK417 := n1_; have HB := n2_; clear n0_ n1_ n2_)); obtain ⟨i049, hi049, _, hsz49, _⟩ := info_parts info5; obtain ⟨A49, hcut49, hA49, hC49⟩ := print_drop_of (P := Try.prog) (Value.int .u8) 0 40 5 .i64 Try.underlying40 hi049 hsz49 (some ad419) c0 l0 (ji21) (of_decide_eq_true (by first | (with_reducible assumption) | assumption)) (of_decide_eq_true (by first | (with_reducible assumption) | assumption)) HC0.out; have HR428 := Aside0.mk (Kd.C_of_reads (h1 := fun _ => rfl) (hA49 _ (Kd.reads_of_C HR0.out))); have HC428 := Aside0.mk hC49; clear hA49 hC49 hi049 hsz49) | ((with_reducible refine gate_callee (f := 88) rfl ?_); refine goesL_ (some 55) rfl rfl Try.func88 (by kernel_rfl) rfl #[.slice A49 (l0.drop ((ji21) : Int).toNat).length (c0 - (ji21).toNat)] rfl (by (try simp only [List.map_toArray, List.map_cons, List.map_nil]); first | done | (rw [show (l0.drop ((ji21) : Int).toNat).length = (l0.length - (ji21).toNat) from List.length_drop] <;> rfl) | (simp only [hji21]; rfl) | rfl | (simp only [List.length_drop, List.length_take]; rfl)) ?_; (with_reducible refine (wire_Get.calls kj1 _ _ (l0.drop ((ji21) : Int).toNat) t429 t430 t431 _ ?side1 ?side2 A24.out).mono ?_); (case side1 => repeat (first | exact (Kd.C_below HR428.out HB.out) | (with_reducible refine Kd.C_alloc ?_ _) | (with_reducible refine Kd.C_drewN ?_ _) | (with_reducible refine Kd.C_drew ?_))); (case side2 => exact HC428.out); rintro e w' ⟨rfl, ⟨nd, rfl⟩⟩; refine ⟨_, rfl, ?_⟩; (try (rw [drewN_self wc]; generalize hq_ : World.drewN wc _ = wc; have n0_ : Aside0 (wc.heap[gb416]? = some (.cells #[.bool false, .int .i64 0, .int .i64 0, .string (⟨#[]⟩ : ByteArray)] 67 (0, 0))) := ⟨by rw [← hq_]; exact (by (with_reducible repeat (first | refine blk_drewN ?_ _ | refine blk_drew ?_ | refine blk_alloc ?_ _)); exact BK416.out)⟩; have n1_ : Aside0 (wc.heap[gb417]? = some (.cells #[.bool false, .int .i64 0, .int .i64 0, .string (⟨#[]⟩ : ByteArray)] 67 (0, 0))) := ⟨by rw [← hq_]; exact (by (with_reducible repeat (first | refine blk_drewN ?_ _ | refine blk_drew ?_ | refine blk_alloc ?_ _)); exact BK417.out)⟩; have n2_ : Aside0 (Below w.heap.size w wc) := ⟨by rw [← hq_]; exact (by repeat (first | (with_reducible first | exact HB.out | apply below_alloc | apply pw_below_drewN | apply below_drew1 | refine below_set ?_ GE416.out | refine below_set ?_ GE417.out) | exact HB.out))⟩; clear BK416 BK417 HB hq_; have BK416 := n0_; have BK417 := n1_; have HB := n2_; clear n0_ n1_ n2_)); have hnb50 := NB417_416.out; have hnc50 := NB416_417.out; have hcz51_0 : wc.cell? ⟨gb417, 0, none⟩ = some (.bool false) := (blk_cell BK417.out 0).trans rfl; have hcz51_1 : wc.cell? ⟨gb417, 1, none⟩ = some (.int .i64 0) := (blk_cell BK417.out 1).trans rfl; have hcz51_2 : wc.cell? ⟨gb417, 2, none⟩ = some (.int .i64 0) := (blk_cell BK417.out 2).trans rfl; have hcz51_3 : wc.cell? ⟨gb417, 3, none⟩ = some (.string (⟨#[]⟩ : ByteArray)) := (blk_cell BK417.out 3).trans rfl; have hfz51_0 := blk_frozen BK417.out 0; have hfz51_1 := blk_frozen BK417.out 1; have hfz51_2 := blk_frozen BK417.out 2; have hfz51_3 := blk_frozen BK417.out 3; have hcz52_0 : wc.cell? ⟨gb416, 0, none⟩ = some (.bool false) := (blk_cell BK416.out 0).trans rfl; have hcz52_1 : wc.cell? ⟨gb416, 1, none⟩ = some (.int .i64 0) := (blk_cell BK416.out 1).trans rfl; have hcz52_2 : wc.cell? ⟨gb416, 2, none⟩ = some (.int .i64 0) := (blk_cell BK416.out 2).trans rfl; have hcz52_3 : wc.cell? ⟨gb416, 3, none⟩ = some (.string (⟨#[]⟩ : ByteArray)) := (blk_cell BK416.out 3).trans rfl; have hfz52_0 := blk_frozen BK416.out 0; have hfz52_1 := blk_frozen BK416.out 1; have hfz52_2 := blk_frozen BK416.out 2; have hfz52_3 := blk_frozen BK416.out 3))
                    refine bodyPost_ret (results_ctt rfl _ _ gb416 67 #[.bool false, .int .i64 0, .int .i64 0, .string (⟨#[]⟩ : ByteArray)] (0, 0) _ rfl (by (with_reducible repeat (first | refine blk_drewN ?_ _ | refine blk_drew ?_ | refine blk_alloc ?_ _)); refine blk_put (cs := #[.bool false, .int .i64 0, .int .i64 0, .string (⟨#[]⟩ : ByteArray)]) ?_ 3 _ rfl; (with_reducible repeat (first | refine blk_drewN ?_ _ | refine blk_drew ?_ | refine blk_alloc ?_ _)); refine blk_put (cs := #[.bool false, .int .i64 0, .int .i64 0, .string (⟨#[]⟩ : ByteArray)]) ?_ 2 _ rfl; (with_reducible repeat (first | refine blk_drewN ?_ _ | refine blk_drew ?_ | refine blk_alloc ?_ _)); refine blk_put (cs := #[.bool false, .int .i64 0, .int .i64 0, .string (⟨#[]⟩ : ByteArray)]) ?_ 1 _ rfl; (with_reducible repeat (first | refine blk_drewN ?_ _ | refine blk_drew ?_ | refine blk_alloc ?_ _)); refine blk_put (cs := #[.bool false, .int .i64 0, .int .i64 0, .string (⟨#[]⟩ : ByteArray)]) ?_ 0 _ rfl; (with_reducible repeat (first | refine blk_drewN ?_ _ | refine blk_drew ?_ | refine blk_alloc ?_ _)); exact BK416.out) Try.underlying67 rfl (by kernel_rfl)) rfl ?_
                    exact ⟨by first | rfl | (simp [errW_none, errW_some] <;> rfl) | (simp only [← hji21]; first | rfl | (simp [errW_none, errW_some] <;> rfl)) | (simp [*, errW_none, errW_some] <;> rfl), by repeat (first | (with_reducible first | exact HB.out | apply below_alloc | apply pw_below_drewN | apply below_drew1 | refine below_set ?_ GE416.out | refine below_set ?_ GE417.out) | exact HB.out)⟩
                · rw [if_neg c23] at H
                  exact absurd H (by simp)
              · rw [if_neg c22] at H
                exact absurd H (by simp)
            · rw [if_neg c19] at H
              exact absurd H (by simp)
        · rw [if_neg c11] at H
          exact absurd H (by simp)

end Go.Proofs.Ytchaegfdcdlfaaa.X
