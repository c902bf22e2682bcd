-- Printed for this session by a program of its own over an edited copy of the translation's print.
import Derived.Test.YtghafocfbamcdaaXx0
namespace Go.Proofs.Ytghafocfbamcdaa.X
open Go.RowKit Go.Proofs.YtghafocfbamcdaaW.PrintWords Go.Proofs.YtghafocfbamcdaaW.PrintLast Go.Proofs.YtghafocfbamcdaaW.PrintMore
attribute [local go_sem] max2_int min2_int max_two min_two max_three min_three max_four min_four   -- for this text's walks alone
set_option linter.unusedVariables false
set_option linter.unusedSimpArgs false

/-! ### wire_Get: function 14 -/
mutual
def wire_Get.l0 : Nat → Int → Int → List Int → Int → Int → Option (Int × Int × Bool)
  | 0, _, _, _, _, _ => none
  | k + 1, x5, x6, x9, x10, x11 => if x11 < x10 then (if 0 ≤ x11 then (if x11 < (x9.length : Int) then (if x11 = 10 then (wire_Get.j1 k x5 x6 x11 (rd x9 x11) x9 x10 x11 (x11 == 10)) else (if x11 = 9 then (if (x5 / 144115188075855872) > 0 then (wire_Get.j1 k x5 x6 x11 (rd x9 x11) x9 x10 x11 (decide ((x5 / 144115188075855872) > 0))) else (if x11 = 0 then (wire_Get.j1 k x5 x6 x11 (rd x9 x11) x9 x10 x11 ((rd x9 x11) == 128)) else (wire_Get.j1 k x5 x6 x11 (rd x9 x11) x9 x10 x11 false))) else (if x11 = 0 then (wire_Get.j1 k x5 x6 x11 (rd x9 x11) x9 x10 x11 ((rd x9 x11) == 128)) else (wire_Get.j1 k x5 x6 x11 (rd x9 x11) x9 x10 x11 false)))) else (none)) else (none)) else (if x6 = 0 then (some (0, 0, false)) else (some (x5, x6, true)))
def wire_Get.j1 : Nat → Int → Int → Int → Int → List Int → Int → Int → Bool → Option (Int × Int × Bool)
  | 0, _, _, _, _, _, _, _, _ => none
  | k + 1, x5, x6, x7, x8, x9, x10, x11, x16 => if x16 = true then (if x6 = 0 then (some (0, 0, false)) else (some (x5, x6, true))) else (if x8 < 128 then (if (wrap64 (x7 + 1)) = 0 then (some (0, 0, false)) else (some (Go.bits .or .u64 (IntKind.u64.wrap (x5 * 128)) (IntKind.u64.wrap (Go.bits .andNot .u8 x8 128)), wrap64 (x7 + 1), true))) else (wire_Get.l0 k (Go.bits .or .u64 (IntKind.u64.wrap (x5 * 128)) (IntKind.u64.wrap (Go.bits .andNot .u8 x8 128))) x6 x9 x10 (wrap64 (x11 + 1))))
end
def wire_Get.f (k : Nat) (l0 : List Int) : Option (Int × Int × Bool) := wire_Get.l0 k 0 0 l0 (l0.length : Int) 0
theorem wire_Get.mono_l : ∀ k, (∀ y0 y1 y2 y3 y4, LeO (wire_Get.l0 k y0 y1 y2 y3 y4) (wire_Get.l0 (k + 1) y0 y1 y2 y3 y4)) ∧ (∀ y0 y1 y2 y3 y4 y5 y6 y7, LeO (wire_Get.j1 k y0 y1 y2 y3 y4 y5 y6 y7) (wire_Get.j1 (k + 1) y0 y1 y2 y3 y4 y5 y6 y7))
  | 0 => ⟨fun _ _ _ _ _ r h => by simp [wire_Get.l0] at h, fun _ _ _ _ _ _ _ _ r h => by simp [wire_Get.j1] at h⟩
  | k + 1 => by
    obtain ⟨ih0, ih1⟩ := wire_Get.mono_l k
    refine ⟨?_, ?_⟩
    · intro y0 y1 y2 y3 y4
      unfold wire_Get.l0
      repeat' first
      | (with_reducible exact ih0 _ _ _ _ _)
      | (with_reducible exact ih1 _ _ _ _ _ _ _ _)
      | (with_reducible exact LeO.refl _)
      | (with_reducible exact LeO.none _)
      | (with_reducible refine LeO.ite ?_ ?_)
      | (with_reducible refine LeO.bind ?_ (fun _ => ?_))
      | exact ih0 _ _ _ _ _
      | exact ih1 _ _ _ _ _ _ _ _
      | exact LeO.none _
      | refine LeO.ite ?_ ?_
      | refine LeO.bind ?_ (fun _ => ?_)
    · intro y0 y1 y2 y3 y4 y5 y6 y7
      unfold wire_Get.j1
      repeat' first
      | (with_reducible exact ih0 _ _ _ _ _)
      | (with_reducible exact ih1 _ _ _ _ _ _ _ _)
      | (with_reducible exact LeO.refl _)
      | (with_reducible exact LeO.none _)
      | (with_reducible refine LeO.ite ?_ ?_)
      | (with_reducible refine LeO.bind ?_ (fun _ => ?_))
      | exact ih0 _ _ _ _ _
      | exact ih1 _ _ _ _ _ _ _ _
      | exact LeO.none _
      | refine LeO.ite ?_ ?_
      | refine LeO.bind ?_ (fun _ => ?_)
theorem wire_Get.mono : ∀ a0 k, LeO (wire_Get.f k a0) (wire_Get.f (k + 1) a0) := by
  intro a0 k
  obtain ⟨ih0, ih1⟩ := wire_Get.mono_l k
  unfold wire_Get.f
  repeat' first
      | (with_reducible exact ih0 _ _ _ _ _)
      | (with_reducible exact ih1 _ _ _ _ _ _ _ _)
      | (with_reducible exact LeO.refl _)
      | (with_reducible exact LeO.none _)
      | (with_reducible refine LeO.ite ?_ ?_)
      | (with_reducible refine LeO.bind ?_ (fun _ => ?_))
      | exact ih0 _ _ _ _ _
      | exact ih1 _ _ _ _ _ _ _ _
      | exact LeO.none _
      | refine LeO.ite ?_ ?_
      | refine LeO.bind ?_ (fun _ => ?_)
set_option maxHeartbeats 8000000 in
set_option maxRecDepth 100000 in
theorem wire_Get.calls (k : Nat) (A0 : Option Addr) (c0 : Nat) (l0 : List Int) (r1 : Int) (r2 : Int) (r3 : Bool) (w : World) (hr0 : Kd.C (Kd.int .u8) w A0 l0.length l0) (hc0 : l0.length ≤ c0) (h : wire_Get.f k l0 = some (r1, r2, r3)) :
    Calls Try.prog 14 #[.slice A0 l0.length c0] w fun e w' => e = .returned (.tuple #[.int .u64 r1, .int .i64 r2, .bool r3]) ∧ Drawn0 w w' := by
  have HR0 := Aside0.mk hr0
  have HC0 := Aside0.mk hc0
  clear hr0 hc0
  have H : (wire_Get.l0 k 0 0 l0 (l0.length : Int) 0) = some (r1, r2, r3) := h
  clear h
  have H' := Aside0.mk H
  clear H
  go_enter Try.func14, Try.ntmps14
  go_wp2
  go_step3
  go_wp2
  go_step3
  go_wp2
  go_loopg [5, 6, 11] k (fun kq v5 v6 v11 w' => ∃ (x5_1 : Int) (x6_1 : Int) (x11_1 : Int), v5 = .int .u64 x5_1 ∧ v6 = .int .i64 x6_1 ∧ v11 = .int .i64 x11_1 ∧ Aside0 (wire_Get.l0 kq x5_1 x6_1 l0 (l0.length : Int) x11_1 = some (r1, r2, r3)) ∧ Aside0 (kq ≤ k) ∧ Drawn0 w w')
  case atStart => exact ⟨(0), (0), (0), (by first | rfl | (simp; done) | (simp [*]; done)), (by first | rfl | (simp; done) | (simp [*]; done)), (by first | rfl | (simp; done) | (simp [*]; done)), H', ⟨Nat.le_refl _⟩, by repeat (first | exact Drawn0.refl _ | apply Drawn0.step)⟩
  case round =>
    clear H'
    try clear c1
    obtain ⟨x5_1, x6_1, x11_1, rfl, rfl, rfl, HA, HK1, ⟨m1, rfl⟩⟩ := hrel
    cases gk with
    | zero => exact absurd HA.out (by simp [wire_Get.l0])
    | succ k1 =>
      have H := HA.out
      clear HA
      simp only [wire_Get.l0] at H
      by_cases c2 : x11_1 < (l0.length : Int)
      · rw [if_pos c2] at H
        have c2b0 : decide (x11_1 < (l0.length : Int)) = true := decide_eq_true c2
        clear c2
        by_cases c3 : 0 ≤ x11_1
        · rw [if_pos c3] at H
          have c3b0 : decide (0 ≤ x11_1) = true := decide_eq_true c3
          clear c3
          by_cases c4 : x11_1 < (l0.length : Int)
          · rw [if_pos c4] at H
            have c4b0 : decide (x11_1 < (l0.length : Int)) = true := decide_eq_true c4
            clear c4
            have HC5 := Aside0.mk H
            clear H
            have p108 : 0 ≤ (x11_1 : Int) := of_decide_eq_true (by first | (with_reducible assumption) | assumption)
            have q108 : x11_1 < (l0.length : Int) := of_decide_eq_true (by first | (with_reducible assumption) | assumption)
            obtain ⟨ad108, e108, hx108_0⟩ := Kd.at_int HR0.out x11_1 p108 q108
            cases e108
            replace p108 := eq_true p108
            replace q108 := eq_true q108
            go_upto_if 16 with (fail)
            go_cut [16] (fun v16 wc => ∃ (kq : Nat) (x16_4 : Bool), v16 = .bool x16_4 ∧ Aside0 (wire_Get.j1 kq x5_1 x6_1 x11_1 (rd l0 x11_1) l0 (l0.length : Int) x11_1 x16_4 = some (r1, r2, r3)) ∧ Aside0 (kq ≤ k1) ∧ Drawn0 w wc)
            case first =>
              have H := HC5.out
              clear HC5
              by_cases c6 : x11_1 = 10
              · rw [if_pos c6] at H
                have c6b0 : (x11_1 == 10) = true := beq_iff_eq.mpr c6
                have c6b1 : (x11_1 != 10) = false := bne_eq_false_iff_eq.mpr c6
                clear c6
                (first | rw [c6b0] | (simp only [i64_w, i32_w]; rw [c6b0]) | skip)
                have H' := Aside0.mk H
                clear H
                go_wp2
                go_meet
                case rel => exact ⟨_, ((x11_1 == 10)), (by first | rfl | (simp; done) | (simp [*]; done)), H', ⟨by have := HK1.out; first | omega | exact Nat.le_refl _⟩, by repeat (first | exact Drawn0.refl _ | apply Drawn0.step)⟩
              · rw [if_neg c6] at H
                have c6b0 : (x11_1 == 10) = false := beq_eq_false_iff_ne.mpr c6
                have c6b1 : (x11_1 != 10) = true := bne_iff_ne.mpr c6
                (first | rw [c6b0] | (simp only [i64_w, i32_w]; rw [c6b0]) | skip)
                by_cases c7 : x11_1 = 9
                · rw [if_pos c7] at H
                  have c7b0 : (x11_1 == 9) = true := beq_iff_eq.mpr c7
                  have c7b1 : (x11_1 != 9) = false := bne_eq_false_iff_eq.mpr c7
                  clear c7
                  by_cases c8 : (x5_1 / 144115188075855872) > 0
                  · rw [if_pos c8] at H
                    have c8b0 : decide (0 < (x5_1 / 144115188075855872)) = true := decide_eq_true c8
                    clear c8
                    have H' := Aside0.mk H
                    clear H
                    go_wp2
                    go_meet
                    case rel => exact ⟨_, (decide ((x5_1 / 144115188075855872) > 0)), (by first | rfl | (simp; done) | (simp [*]; done)), H', ⟨by have := HK1.out; first | omega | exact Nat.le_refl _⟩, by repeat (first | exact Drawn0.refl _ | apply Drawn0.step)⟩
                  · rw [if_neg c8] at H
                    have c8b0 : decide (0 < (x5_1 / 144115188075855872)) = false := decide_eq_false c8
                    clear c8
                    by_cases c9 : x11_1 = 0
                    · rw [if_pos c9] at H
                      have c9b0 : (x11_1 == 0) = true := beq_iff_eq.mpr c9
                      have c9b1 : (x11_1 != 0) = false := bne_eq_false_iff_eq.mpr c9
                      clear c9
                      have H' := Aside0.mk H
                      clear H
                      go_wp2
                      go_meet
                      case rel => exact ⟨_, (((rd l0 x11_1) == 128)), (by first | rfl | (simp; done) | (simp [*]; done)), H', ⟨by have := HK1.out; first | omega | exact Nat.le_refl _⟩, by repeat (first | exact Drawn0.refl _ | apply Drawn0.step)⟩
                    · rw [if_neg c9] at H
                      have c9b0 : (x11_1 == 0) = false := beq_eq_false_iff_ne.mpr c9
                      have c9b1 : (x11_1 != 0) = true := bne_iff_ne.mpr c9
                      have H' := Aside0.mk H
                      clear H
                      go_wp2
                      go_meet
                      case rel => exact ⟨_, (false), (by first | rfl | (simp; done) | (simp [*]; done)), H', ⟨by have := HK1.out; first | omega | exact Nat.le_refl _⟩, by repeat (first | exact Drawn0.refl _ | apply Drawn0.step)⟩
                · rw [if_neg c7] at H
                  have c7b0 : (x11_1 == 9) = false := beq_eq_false_iff_ne.mpr c7
                  have c7b1 : (x11_1 != 9) = true := bne_iff_ne.mpr c7
                  by_cases c10 : x11_1 = 0
                  · rw [if_pos c10] at H
                    have c10b0 : (x11_1 == 0) = true := beq_iff_eq.mpr c10
                    have c10b1 : (x11_1 != 0) = false := bne_eq_false_iff_eq.mpr c10
                    clear c10
                    have H' := Aside0.mk H
                    clear H
                    go_wp2
                    go_meet
                    case rel => exact ⟨_, (((rd l0 x11_1) == 128)), (by first | rfl | (simp; done) | (simp [*]; done)), H', ⟨by have := HK1.out; first | omega | exact Nat.le_refl _⟩, by repeat (first | exact Drawn0.refl _ | apply Drawn0.step)⟩
                  · rw [if_neg c10] at H
                    have c10b0 : (x11_1 == 0) = false := beq_eq_false_iff_ne.mpr c10
                    have c10b1 : (x11_1 != 0) = true := bne_iff_ne.mpr c10
                    have H' := Aside0.mk H
                    clear H
                    go_wp2
                    go_meet
                    case rel => exact ⟨_, (false), (by first | rfl | (simp; done) | (simp [*]; done)), H', ⟨by have := HK1.out; first | omega | exact Nat.le_refl _⟩, by repeat (first | exact Drawn0.refl _ | apply Drawn0.step)⟩
            case rest =>
              clear HC5
              try clear c1
              try clear p1
              try clear q1
              try clear hx1
              try clear c2
              try clear c2b0
              try clear p2
              try clear c3
              try clear c3b0
              try clear c4
              try clear c4b0
              try clear c6
              try clear c6b0
              try clear c6b1
              try clear c7
              try clear c7b0
              try clear c7b1
              try clear c8
              try clear c8b0
              try clear c9
              try clear c9b0
              try clear c9b1
              try clear c10
              try clear c10b0
              try clear c10b1
              try clear p10
              try clear q10
              try clear hx10
              try clear hx108_0
              try clear p108
              try clear q108
              obtain ⟨kq, x16_4, rfl, HA, HJ4, ⟨mc4, rfl⟩⟩ := hcut
              cases kq with
              | zero => exact absurd HA.out (by simp [wire_Get.j1])
              | succ kj4 =>
                have H := HA.out
                clear HA
                simp only [wire_Get.j1] at H
                by_cases c11 : x16_4 = true
                · subst c11
                  have H1 : (if x6_1 = 0 then (some (0, 0, false)) else (some (x5_1, x6_1, true))) = some (r1, r2, r3) := by rw [if_pos rfl] at H; exact H
                  clear H
                  have H := H1
                  clear H1
                  by_cases c12 : x6_1 = 0
                  · rw [if_pos c12] at H
                    have c12b0 : (x6_1 == 0) = true := beq_iff_eq.mpr c12
                    have c12b1 : (x6_1 != 0) = false := bne_eq_false_iff_eq.mpr c12
                    clear c12
                    simp only [Option.some.injEq, Prod.mk.injEq] at H
                    obtain ⟨rfl, rfl, rfl⟩ := H
                    go_wp2
                    (try rw [Exit.noGoto_ret])
                    go_ret3
                    exact ⟨by first | rfl | (simp; done) | (simp [*]; done), by repeat (first | exact Drawn0.refl _ | apply Drawn0.step)⟩
                  · rw [if_neg c12] at H
                    have c12b0 : (x6_1 == 0) = false := beq_eq_false_iff_ne.mpr c12
                    have c12b1 : (x6_1 != 0) = true := bne_iff_ne.mpr c12
                    simp only [Option.some.injEq, Prod.mk.injEq] at H
                    obtain ⟨rfl, rfl, rfl⟩ := H
                    go_wp2
                    (try rw [Exit.noGoto_ret])
                    go_ret3
                    exact ⟨by first | rfl | (simp; done) | (simp [*]; done), by repeat (first | exact Drawn0.refl _ | apply Drawn0.step)⟩
                · replace c11 := Bool.eq_false_iff.mpr c11
                  subst c11
                  have H1 : (if (rd l0 x11_1) < 128 then (if (wrap64 (x11_1 + 1)) = 0 then (some (0, 0, false)) else (some (Go.bits .or .u64 (IntKind.u64.wrap (x5_1 * 128)) (IntKind.u64.wrap (Go.bits .andNot .u8 (rd l0 x11_1) 128)), wrap64 (x11_1 + 1), true))) else (wire_Get.l0 kj4 (Go.bits .or .u64 (IntKind.u64.wrap (x5_1 * 128)) (IntKind.u64.wrap (Go.bits .andNot .u8 (rd l0 x11_1) 128))) x6_1 l0 (l0.length : Int) (wrap64 (x11_1 + 1)))) = some (r1, r2, r3) := by rw [if_neg (show ¬ (false = true) by decide)] at H; exact H
                  clear H
                  have H := H1
                  clear H1
                  by_cases c13 : (rd l0 x11_1) < 128
                  · rw [if_pos c13] at H
                    have c13b0 : decide ((rd l0 x11_1) < 128) = true := decide_eq_true c13
                    clear c13
                    by_cases c14 : (wrap64 (x11_1 + 1)) = 0
                    · rw [if_pos c14] at H
                      have c14b0 : ((wrap64 (x11_1 + 1)) == 0) = true := beq_iff_eq.mpr c14
                      have c14b1 : ((wrap64 (x11_1 + 1)) != 0) = false := bne_eq_false_iff_eq.mpr c14
                      clear c14
                      simp only [Option.some.injEq, Prod.mk.injEq] at H
                      obtain ⟨rfl, rfl, rfl⟩ := H
                      go_wp2
                      (try rw [Exit.noGoto_ret])
                      go_ret3
                      exact ⟨by first | rfl | (simp; done) | (simp [*]; done), by repeat (first | exact Drawn0.refl _ | apply Drawn0.step)⟩
                    · rw [if_neg c14] at H
                      have c14b0 : ((wrap64 (x11_1 + 1)) == 0) = false := beq_eq_false_iff_ne.mpr c14
                      have c14b1 : ((wrap64 (x11_1 + 1)) != 0) = true := bne_iff_ne.mpr c14
                      simp only [Option.some.injEq, Prod.mk.injEq] at H
                      obtain ⟨rfl, rfl, rfl⟩ := H
                      go_wp2
                      (try rw [Exit.noGoto_ret])
                      go_ret3
                      exact ⟨by first | rfl | (simp; done) | (simp [*]; done), by repeat (first | exact Drawn0.refl _ | apply Drawn0.step)⟩
                  · rw [if_neg c13] at H
                    have c13b0 : decide ((rd l0 x11_1) < 128) = false := decide_eq_false c13
                    clear c13
                    have H' := Aside0.mk H
                    clear H
                    go_wp2
                    go_roundg kj4
                    case measure => have := HK1.out; have := HJ4.out; omega
                    case rel => exact ⟨(Go.bits .or .u64 (IntKind.u64.wrap (x5_1 * 128)) (IntKind.u64.wrap (Go.bits .andNot .u8 (rd l0 x11_1) 128))), (x6_1), (wrap64 (x11_1 + 1)), (by first | rfl | (simp; done) | (simp [*]; done)), (by first | rfl | (simp; done) | (simp [*]; done)), (by first | rfl | (simp; done) | (simp [*]; done)), H', ⟨by have := HK1.out; have := HJ4.out; omega⟩, by repeat (first | exact Drawn0.refl _ | apply Drawn0.step)⟩
          · rw [if_neg c4] at H
            exact absurd H (by simp)
        · rw [if_neg c3] at H
          exact absurd H (by simp)
      · rw [if_neg c2] at H
        have c2b0 : decide (x11_1 < (l0.length : Int)) = false := decide_eq_false c2
        clear c2
        by_cases c15 : x6_1 = 0
        · rw [if_pos c15] at H
          have c15b0 : (x6_1 == 0) = true := beq_iff_eq.mpr c15
          have c15b1 : (x6_1 != 0) = false := bne_eq_false_iff_eq.mpr c15
          clear c15
          simp only [Option.some.injEq, Prod.mk.injEq] at H
          obtain ⟨rfl, rfl, rfl⟩ := H
          go_wp2
          (try rw [Exit.noGoto_ret])
          go_ret3
          exact ⟨by first | rfl | (simp; done) | (simp [*]; done), by repeat (first | exact Drawn0.refl _ | apply Drawn0.step)⟩
        · rw [if_neg c15] at H
          have c15b0 : (x6_1 == 0) = false := beq_eq_false_iff_ne.mpr c15
          have c15b1 : (x6_1 != 0) = true := bne_iff_ne.mpr c15
          simp only [Option.some.injEq, Prod.mk.injEq] at H
          obtain ⟨rfl, rfl, rfl⟩ := H
          go_wp2
          (try rw [Exit.noGoto_ret])
          go_ret3
          exact ⟨by first | rfl | (simp; done) | (simp [*]; done), by repeat (first | exact Drawn0.refl _ | apply Drawn0.step)⟩

end Go.Proofs.Ytghafocfbamcdaa.X
