-- Printed for this session by a program of its own over an edited copy of the translation's print.
import Derived.Test.YtkicolloiagadaaXx0
import Derived.Test.YtkicolloiagadaaXx2
import Derived.Test.YtkicolloiagadaaXx5
import Derived.Test.YtkicolloiagadaaXx6
namespace Go.Proofs.Ytkicolloiagadaa.X
open Go.RowKit Go.Proofs.YtkicolloiagadaaW.PrintWords Go.Proofs.YtkicolloiagadaaW.PrintLast Go.Proofs.YtkicolloiagadaaW.PrintMore
attribute [local go_sem] max2_int min2_int max_two min_two max_three min_three max_four min_four   -- for this text's walks alone
set_option linter.unusedVariables false
set_option linter.unusedSimpArgs false

/-! ### rolodexlaw09_RollNext: function 4 -/
def rolodexlaw09_RollNext.j0 : Nat → ByteArray → Int → Int → Bool → Bool → Option (Bool)
  | 0, _, _, _, _, _ => none
  | k + 1, x0, x1, x2, x7, x39 => if x39 = true then (some x7) else (if 0 ≤ x1 then (if x1 ≤ (wrap64 (x1 + x2)) then (if (wrap64 (x1 + x2)) ≤ (x0.size : Int) then ((roll_Sum.f k (x0.extract (x1 : Int).toNat ((wrap64 (x1 + x2)) : Int).toNat)).bind fun t136 => (if x1 < (x0.size : Int) then (if 0 ≤ (wrap64 (x1 + x2)) then (if (wrap64 (x1 + x2)) < (x0.size : Int) then ((roll_Next.f t136 x2 (bt x0 x1) (bt x0 (wrap64 (x1 + x2)))).bind fun t137 => (if 0 ≤ (wrap64 (x1 + 1)) then (if (wrap64 (x1 + 1)) ≤ (wrap64 ((wrap64 (x1 + x2)) + 1)) then (if (wrap64 ((wrap64 (x1 + x2)) + 1)) ≤ (x0.size : Int) then ((roll_Sum.f k (x0.extract ((wrap64 (x1 + 1)) : Int).toNat ((wrap64 ((wrap64 (x1 + x2)) + 1)) : Int).toNat)).bind fun t138 => (some (t137 == t138))) else (none)) else (none)) else (none))) else (none)) else (none)) else (none))) else (none)) else (none)) else (none))
def rolodexlaw09_RollNext.f (k : Nat) (a0 : ByteArray) (a1 : Int) (a2 : Int) : Option (Bool) := (rolodexlaw09_awake.f k).bind fun t135 => (if t135 = true then (if (a0.size : Int) > 600 then (rolodexlaw09_RollNext.j0 k a0 a1 a2 t135 true) else (if a1 < 0 then (rolodexlaw09_RollNext.j0 k a0 a1 a2 t135 true) else (if a1 > 600 then (rolodexlaw09_RollNext.j0 k a0 a1 a2 t135 true) else (if a2 < 1 then (rolodexlaw09_RollNext.j0 k a0 a1 a2 t135 true) else (if a2 > 600 then (rolodexlaw09_RollNext.j0 k a0 a1 a2 t135 true) else (rolodexlaw09_RollNext.j0 k a0 a1 a2 t135 (decide ((wrap64 (a1 + a2)) ≥ (a0.size : Int))))))))) else (rolodexlaw09_RollNext.j0 k a0 a1 a2 t135 true))
theorem rolodexlaw09_RollNext.mono_l : ∀ k, (∀ y0 y1 y2 y3 y4, LeO (rolodexlaw09_RollNext.j0 k y0 y1 y2 y3 y4) (rolodexlaw09_RollNext.j0 (k + 1) y0 y1 y2 y3 y4))
  | 0 => fun _ _ _ _ _ r h => by simp [rolodexlaw09_RollNext.j0] at h
  | k + 1 => by
    have ih0 := rolodexlaw09_RollNext.mono_l k
    · intro y0 y1 y2 y3 y4
      unfold rolodexlaw09_RollNext.j0
      repeat' first
      | (with_reducible exact ih0 _ _ _ _ _)
      | (with_reducible exact roll_Sum.mono _ _)
      | (with_reducible exact rolodexlaw09_awake.mono _)
      | (with_reducible exact LeO.refl _)
      | (with_reducible exact LeO.none _)
      | (with_reducible refine LeO.ite ?_ ?_)
      | (with_reducible refine LeO.bind ?_ (fun _ => ?_))
      | exact ih0 _ _ _ _ _
      | exact roll_Sum.mono _ _
      | exact rolodexlaw09_awake.mono _
      | exact LeO.none _
      | refine LeO.ite ?_ ?_
      | refine LeO.bind ?_ (fun _ => ?_)
theorem rolodexlaw09_RollNext.mono : ∀ a0 a1 a2 k, LeO (rolodexlaw09_RollNext.f k a0 a1 a2) (rolodexlaw09_RollNext.f (k + 1) a0 a1 a2) := by
  intro a0 a1 a2 k
  have ih0 := rolodexlaw09_RollNext.mono_l k
  unfold rolodexlaw09_RollNext.f
  repeat' first
      | (with_reducible exact ih0 _ _ _ _ _)
      | (with_reducible exact roll_Sum.mono _ _)
      | (with_reducible exact rolodexlaw09_awake.mono _)
      | (with_reducible exact LeO.refl _)
      | (with_reducible exact LeO.none _)
      | (with_reducible refine LeO.ite ?_ ?_)
      | (with_reducible refine LeO.bind ?_ (fun _ => ?_))
      | exact ih0 _ _ _ _ _
      | exact roll_Sum.mono _ _
      | exact rolodexlaw09_awake.mono _
      | exact LeO.none _
      | refine LeO.ite ?_ ?_
      | refine LeO.bind ?_ (fun _ => ?_)
set_option maxHeartbeats 8000000 in
set_option maxRecDepth 100000 in
theorem rolodexlaw09_RollNext.calls (k : Nat) (a0 : ByteArray) (a1 : Int) (a2 : Int) (r : Bool) (w : World) (h : rolodexlaw09_RollNext.f k a0 a1 a2 = some r) :
    Calls Try.prog 4 #[.string a0, .int .i64 a1, .int .i64 a2] w fun e w' => e = .returned (.bool r) ∧ Below w.heap.size w w' := by
  have HB := Aside0.mk (Below.refl w.heap.size w)
  have H : ((rolodexlaw09_awake.f k).bind fun t135 => (if t135 = true then (if (a0.size : Int) > 600 then (rolodexlaw09_RollNext.j0 k a0 a1 a2 t135 true) else (if a1 < 0 then (rolodexlaw09_RollNext.j0 k a0 a1 a2 t135 true) else (if a1 > 600 then (rolodexlaw09_RollNext.j0 k a0 a1 a2 t135 true) else (if a2 < 1 then (rolodexlaw09_RollNext.j0 k a0 a1 a2 t135 true) else (if a2 > 600 then (rolodexlaw09_RollNext.j0 k a0 a1 a2 t135 true) else (rolodexlaw09_RollNext.j0 k a0 a1 a2 t135 (decide ((wrap64 (a1 + a2)) ≥ (a0.size : Int))))))))) else (rolodexlaw09_RollNext.j0 k a0 a1 a2 t135 true))) = some r := h
  clear h
  replace H := Option.bind_eq_some_iff.mp H
  obtain ⟨t135, A40, H⟩ := H
  replace H : (if t135 = true then (if (a0.size : Int) > 600 then (rolodexlaw09_RollNext.j0 k a0 a1 a2 t135 true) else (if a1 < 0 then (rolodexlaw09_RollNext.j0 k a0 a1 a2 t135 true) else (if a1 > 600 then (rolodexlaw09_RollNext.j0 k a0 a1 a2 t135 true) else (if a2 < 1 then (rolodexlaw09_RollNext.j0 k a0 a1 a2 t135 true) else (if a2 > 600 then (rolodexlaw09_RollNext.j0 k a0 a1 a2 t135 true) else (rolodexlaw09_RollNext.j0 k a0 a1 a2 t135 (decide ((wrap64 (a1 + a2)) ≥ (a0.size : Int))))))))) else (rolodexlaw09_RollNext.j0 k a0 a1 a2 t135 true)) = some r := H
  have A4 := Aside0.mk A40
  clear A40
  have HC5 := Aside0.mk H
  clear H
  go_enter Try.func4, Try.ntmps4
  go_upto_region 2 with (first | (go_at_call 9; (with_reducible refine (rolodexlaw09_awake.calls k  t135 _ A4.out).mono ?_); rintro e w6 ⟨rfl, hb⟩; have n0_ := Aside0.mk (below_step (by repeat (first | (with_reducible first | exact HB.out | apply below_alloc | apply pw_below_drewN | apply below_drew1) | exact HB.out)) hb); clear HB; have HB := n0_; clear n0_; (try clear hb); (try clear hb2); (try clear hk); (try clear hi)))
  repeat (go_quiet (first | (go_at_call 9; (with_reducible refine (rolodexlaw09_awake.calls k  t135 _ A4.out).mono ?_); rintro e w6 ⟨rfl, hb⟩; have n0_ := Aside0.mk (below_step (by repeat (first | (with_reducible first | exact HB.out | apply below_alloc | apply pw_below_drewN | apply below_drew1) | exact HB.out)) hb); clear HB; have HB := n0_; clear n0_; (try clear hb); (try clear hb2); (try clear hk); (try clear hi))); go_upto_region 2 with (first | (go_at_call 9; (with_reducible refine (rolodexlaw09_awake.calls k  t135 _ A4.out).mono ?_); rintro e w6 ⟨rfl, hb⟩; have n0_ := Aside0.mk (below_step (by repeat (first | (with_reducible first | exact HB.out | apply below_alloc | apply pw_below_drewN | apply below_drew1) | exact HB.out)) hb); clear HB; have HB := n0_; clear n0_; (try clear hb); (try clear hb2); (try clear hk); (try clear hi))))
  (try simp only [Act.put, List.setIfInBounds_toArray, List.set_cons_zero, List.set_cons_succ])
  go_cut [39] (fun v39 wc => ∃ (kq : Nat) (x39_4 : Bool), v39 = .bool x39_4 ∧ Aside0 (rolodexlaw09_RollNext.j0 kq a0 a1 a2 t135 x39_4 = some r) ∧ Aside0 (kq ≤ k) ∧ Aside0 (Below w.heap.size w wc))
  case first =>
    have H := HC5.out
    clear HC5
    by_cases c7 : t135 = true
    · subst c7
      have H1 : (if (a0.size : Int) > 600 then (rolodexlaw09_RollNext.j0 k a0 a1 a2 true true) else (if a1 < 0 then (rolodexlaw09_RollNext.j0 k a0 a1 a2 true true) else (if a1 > 600 then (rolodexlaw09_RollNext.j0 k a0 a1 a2 true true) else (if a2 < 1 then (rolodexlaw09_RollNext.j0 k a0 a1 a2 true true) else (if a2 > 600 then (rolodexlaw09_RollNext.j0 k a0 a1 a2 true true) else (rolodexlaw09_RollNext.j0 k a0 a1 a2 true (decide ((wrap64 (a1 + a2)) ≥ (a0.size : Int))))))))) = some r := by rw [if_pos rfl] at H; exact H
      clear H
      have H := H1
      clear H1
      by_cases c8 : (a0.size : Int) > 600
      · rw [if_pos c8] at H
        have c8b0 : decide (600 < (a0.size : Int)) = true := decide_eq_true c8
        have c8b1 : decide (600 < a0.size) = true := decide_eq_true (by omega)
        clear c8
        (first | rw [c8b0] | (simp only [i64_w, i32_w]; rw [c8b0]) | skip)
        have H' := Aside0.mk H
        clear H
        go_wp2
        repeat (go_quiet (fail); try go_wp2)
        go_meet
        case rel => exact ⟨_, (true), (by first | rfl | (simp; done) | (simp [*]; done)), H', ⟨by first | omega | exact Nat.le_refl _⟩, ⟨by repeat (first | (with_reducible first | exact HB.out | apply below_alloc | apply pw_below_drewN | apply below_drew1) | exact HB.out)⟩⟩
      · rw [if_neg c8] at H
        have c8b0 : decide (600 < (a0.size : Int)) = false := decide_eq_false c8
        have c8b1 : decide (600 < a0.size) = false := decide_eq_false (by omega)
        clear c8
        (first | rw [c8b0] | (simp only [i64_w, i32_w]; rw [c8b0]) | skip)
        by_cases c9 : a1 < 0
        · rw [if_pos c9] at H
          have c9b0 : decide (a1 < 0) = true := decide_eq_true c9
          clear c9
          have H' := Aside0.mk H
          clear H
          go_wp2
          repeat (go_quiet (fail); try go_wp2)
          go_meet
          case rel => exact ⟨_, (true), (by first | rfl | (simp; done) | (simp [*]; done)), H', ⟨by first | omega | exact Nat.le_refl _⟩, ⟨by repeat (first | (with_reducible first | exact HB.out | apply below_alloc | apply pw_below_drewN | apply below_drew1) | exact HB.out)⟩⟩
        · rw [if_neg c9] at H
          have c9b0 : decide (a1 < 0) = false := decide_eq_false c9
          clear c9
          by_cases c10 : a1 > 600
          · rw [if_pos c10] at H
            have c10b0 : decide (600 < a1) = true := decide_eq_true c10
            clear c10
            have H' := Aside0.mk H
            clear H
            go_wp2
            repeat (go_quiet (fail); try go_wp2)
            go_meet
            case rel => exact ⟨_, (true), (by first | rfl | (simp; done) | (simp [*]; done)), H', ⟨by first | omega | exact Nat.le_refl _⟩, ⟨by repeat (first | (with_reducible first | exact HB.out | apply below_alloc | apply pw_below_drewN | apply below_drew1) | exact HB.out)⟩⟩
          · rw [if_neg c10] at H
            have c10b0 : decide (600 < a1) = false := decide_eq_false c10
            clear c10
            by_cases c11 : a2 < 1
            · rw [if_pos c11] at H
              have c11b0 : decide (a2 < 1) = true := decide_eq_true c11
              clear c11
              have H' := Aside0.mk H
              clear H
              go_wp2
              repeat (go_quiet (fail); try go_wp2)
              go_meet
              case rel => exact ⟨_, (true), (by first | rfl | (simp; done) | (simp [*]; done)), H', ⟨by first | omega | exact Nat.le_refl _⟩, ⟨by repeat (first | (with_reducible first | exact HB.out | apply below_alloc | apply pw_below_drewN | apply below_drew1) | exact HB.out)⟩⟩
            · rw [if_neg c11] at H
              have c11b0 : decide (a2 < 1) = false := decide_eq_false c11
              clear c11
              by_cases c12 : a2 > 600
              · rw [if_pos c12] at H
                have c12b0 : decide (600 < a2) = true := decide_eq_true c12
                clear c12
                have H' := Aside0.mk H
                clear H
                go_wp2
                repeat (go_quiet (fail); try go_wp2)
                go_meet
                case rel => exact ⟨_, (true), (by first | rfl | (simp; done) | (simp [*]; done)), H', ⟨by first | omega | exact Nat.le_refl _⟩, ⟨by repeat (first | (with_reducible first | exact HB.out | apply below_alloc | apply pw_below_drewN | apply below_drew1) | exact HB.out)⟩⟩
              · rw [if_neg c12] at H
                have c12b0 : decide (600 < a2) = false := decide_eq_false c12
                clear c12
                have H' := Aside0.mk H
                clear H
                go_wp2
                repeat (go_quiet (fail); try go_wp2)
                go_meet
                case rel => exact ⟨_, (decide ((wrap64 (a1 + a2)) ≥ (a0.size : Int))), (by first | rfl | (simp; done) | (simp [*]; done)), H', ⟨by first | omega | exact Nat.le_refl _⟩, ⟨by repeat (first | (with_reducible first | exact HB.out | apply below_alloc | apply pw_below_drewN | apply below_drew1) | exact HB.out)⟩⟩
    · replace c7 := Bool.eq_false_iff.mpr c7
      subst c7
      have H1 : (rolodexlaw09_RollNext.j0 k a0 a1 a2 false true) = some r := by rw [if_neg (show ¬ (false = true) by decide)] at H; exact H
      clear H
      have H := H1
      clear H1
      have H' := Aside0.mk H
      clear H
      go_wp2
      repeat (go_quiet (fail); try go_wp2)
      go_meet
      case rel => exact ⟨_, (true), (by first | rfl | (simp; done) | (simp [*]; done)), H', ⟨by first | omega | exact Nat.le_refl _⟩, ⟨by repeat (first | (with_reducible first | exact HB.out | apply below_alloc | apply pw_below_drewN | apply below_drew1) | exact HB.out)⟩⟩
  case rest =>
    clear HC5
    try clear c1
    try clear p2
    try clear c4
    try clear p6
    try clear c7
    try clear c8
    try clear c8b0
    try clear c8b1
    try clear c9
    try clear c9b0
    try clear c10
    try clear c10b0
    try clear c11
    try clear c11b0
    try clear c12
    try clear c12b0
    obtain ⟨kq, x39_4, rfl, HA, HJ4, HB⟩ := hcut
    cases kq with
    | zero => exact absurd HA.out (by simp [rolodexlaw09_RollNext.j0])
    | succ kj4 =>
      have H := HA.out
      clear HA
      simp only [rolodexlaw09_RollNext.j0] at H
      by_cases c13 : x39_4 = true
      · subst c13
        have H1 : (some t135) = some r := by rw [if_pos rfl] at H; exact H
        clear H
        have H := H1
        clear H1
        obtain rfl := Option.some.inj H
        go_wp2
        repeat (go_quiet (fail); try go_wp2)
        go_ret
        exact ⟨by first | rfl | (simp [errW_none, errW_some] <;> rfl) | (simp [*, errW_none, errW_some] <;> rfl), by repeat (first | (with_reducible first | exact HB.out | apply below_alloc | apply pw_below_drewN | apply below_drew1) | exact HB.out)⟩
      · replace c13 := Bool.eq_false_iff.mpr c13
        subst c13
        have H1 : (if 0 ≤ a1 then (if a1 ≤ (wrap64 (a1 + a2)) then (if (wrap64 (a1 + a2)) ≤ (a0.size : Int) then ((roll_Sum.f kj4 (a0.extract (a1 : Int).toNat ((wrap64 (a1 + a2)) : Int).toNat)).bind fun t136 => (if a1 < (a0.size : Int) then (if 0 ≤ (wrap64 (a1 + a2)) then (if (wrap64 (a1 + a2)) < (a0.size : Int) then ((roll_Next.f t136 a2 (bt a0 a1) (bt a0 (wrap64 (a1 + a2)))).bind fun t137 => (if 0 ≤ (wrap64 (a1 + 1)) then (if (wrap64 (a1 + 1)) ≤ (wrap64 ((wrap64 (a1 + a2)) + 1)) then (if (wrap64 ((wrap64 (a1 + a2)) + 1)) ≤ (a0.size : Int) then ((roll_Sum.f kj4 (a0.extract ((wrap64 (a1 + 1)) : Int).toNat ((wrap64 ((wrap64 (a1 + a2)) + 1)) : Int).toNat)).bind fun t138 => (some (t137 == t138))) else (none)) else (none)) else (none))) else (none)) else (none)) else (none))) else (none)) else (none)) else (none)) = some r := by rw [if_neg (show ¬ (false = true) by decide)] at H; exact H
        clear H
        have H := H1
        clear H1
        by_cases c14 : 0 ≤ a1
        · rw [if_pos c14] at H
          have c14b0 := eq_true c14
          have c14b1 : decide (0 ≤ a1) = true := decide_eq_true c14
          clear c14
          by_cases c15 : a1 ≤ (wrap64 (a1 + a2))
          · rw [if_pos c15] at H
            have c15b0 := eq_true c15
            have c15b1 : decide (a1 ≤ (wrap64 (a1 + a2))) = true := decide_eq_true c15
            by_cases c16 : (wrap64 (a1 + a2)) ≤ (a0.size : Int)
            · rw [if_pos c16] at H
              have c16b0 := eq_true c16
              have c16b1 : decide ((wrap64 (a1 + a2)) ≤ (a0.size : Int)) = true := decide_eq_true c16
              replace H := Option.bind_eq_some_iff.mp H
              obtain ⟨t136, A170, H⟩ := H
              replace H : (if a1 < (a0.size : Int) then (if 0 ≤ (wrap64 (a1 + a2)) then (if (wrap64 (a1 + a2)) < (a0.size : Int) then ((roll_Next.f t136 a2 (bt a0 a1) (bt a0 (wrap64 (a1 + a2)))).bind fun t137 => (if 0 ≤ (wrap64 (a1 + 1)) then (if (wrap64 (a1 + 1)) ≤ (wrap64 ((wrap64 (a1 + a2)) + 1)) then (if (wrap64 ((wrap64 (a1 + a2)) + 1)) ≤ (a0.size : Int) then ((roll_Sum.f kj4 (a0.extract ((wrap64 (a1 + 1)) : Int).toNat ((wrap64 ((wrap64 (a1 + a2)) + 1)) : Int).toNat)).bind fun t138 => (some (t137 == t138))) else (none)) else (none)) else (none))) else (none)) else (none)) else (none)) = some r := H
              have A17 := Aside0.mk A170
              clear A170
              by_cases c18 : a1 < (a0.size : Int)
              · rw [if_pos c18] at H
                have c18b0 : decide (a1 < (a0.size : Int)) = true := decide_eq_true c18
                clear c18
                obtain ⟨ji20, hji20⟩ : ∃ j_ : Int, (wrap64 (a1 + a2)) = j_ := ⟨_, rfl⟩
                replace H : (if 0 ≤ (ji20) then (if (ji20) < (a0.size : Int) then ((roll_Next.f t136 a2 (bt a0 a1) (bt a0 (ji20))).bind fun t137 => (if 0 ≤ (wrap64 (a1 + 1)) then (if (wrap64 (a1 + 1)) ≤ (wrap64 ((ji20) + 1)) then (if (wrap64 ((ji20) + 1)) ≤ (a0.size : Int) then ((roll_Sum.f kj4 (a0.extract ((wrap64 (a1 + 1)) : Int).toNat ((wrap64 ((ji20) + 1)) : Int).toNat)).bind fun t138 => (some (t137 == t138))) else (none)) else (none)) else (none))) else (none)) else (none)) = some r := by first | (rw [hji20] at H; exact H) | (simp only [hji20] at H ⊢; exact H)
                (try rw [hji20] at c15b0)
                (try rw [hji20] at c15b1)
                (try rw [hji20] at c15)
                (try rw [hji20] at c16b0)
                (try rw [hji20] at c16b1)
                (try rw [hji20] at c16)
                (try rw [hji20] at A17)
                have hji20w : (IntKind.i64.wrap (a1 + a2)) = ji20 := (i64_w _).trans hji20
                by_cases c21 : 0 ≤ (ji20)
                · rw [if_pos c21] at H
                  have c21b0 : decide (0 ≤ (ji20)) = true := decide_eq_true c21
                  clear c21
                  by_cases c22 : (ji20) < (a0.size : Int)
                  · rw [if_pos c22] at H
                    have c22b0 : decide ((ji20) < (a0.size : Int)) = true := decide_eq_true c22
                    clear c22
                    replace H := Option.bind_eq_some_iff.mp H
                    obtain ⟨t137, A240, H⟩ := H
                    replace H : (if 0 ≤ (wrap64 (a1 + 1)) then (if (wrap64 (a1 + 1)) ≤ (wrap64 ((ji20) + 1)) then (if (wrap64 ((ji20) + 1)) ≤ (a0.size : Int) then ((roll_Sum.f kj4 (a0.extract ((wrap64 (a1 + 1)) : Int).toNat ((wrap64 ((ji20) + 1)) : Int).toNat)).bind fun t138 => (some (t137 == t138))) else (none)) else (none)) else (none)) = some r := H
                    have A24 := Aside0.mk A240
                    clear A240
                    obtain ⟨ji25, hji25⟩ : ∃ j_ : Int, (wrap64 (a1 + 1)) = j_ := ⟨_, rfl⟩
                    replace H : (if 0 ≤ (ji25) then (if (ji25) ≤ (wrap64 ((ji20) + 1)) then (if (wrap64 ((ji20) + 1)) ≤ (a0.size : Int) then ((roll_Sum.f kj4 (a0.extract ((ji25) : Int).toNat ((wrap64 ((ji20) + 1)) : Int).toNat)).bind fun t138 => (some (t137 == t138))) else (none)) else (none)) else (none)) = some r := by first | (rw [hji25] at H; exact H) | (simp only [hji25] at H ⊢; exact H)
                    (try rw [hji25] at A17)
                    (try rw [hji25] at A24)
                    have hji25w : (IntKind.i64.wrap (a1 + 1)) = ji25 := (i64_w _).trans hji25
                    by_cases c26 : 0 ≤ (ji25)
                    · rw [if_pos c26] at H
                      have c26b0 := eq_true c26
                      have c26b1 : decide (0 ≤ (ji25)) = true := decide_eq_true c26
                      clear c26
                      by_cases c27 : (ji25) ≤ (wrap64 ((ji20) + 1))
                      · rw [if_pos c27] at H
                        have c27b0 := eq_true c27
                        have c27b1 : decide ((ji25) ≤ (wrap64 ((ji20) + 1))) = true := decide_eq_true c27
                        by_cases c28 : (wrap64 ((ji20) + 1)) ≤ (a0.size : Int)
                        · rw [if_pos c28] at H
                          have c28b0 := eq_true c28
                          have c28b1 : decide ((wrap64 ((ji20) + 1)) ≤ (a0.size : Int)) = true := decide_eq_true c28
                          obtain ⟨ji29, hji29⟩ : ∃ y_, y_ = wrap64 (ji20 + 1) := ⟨_, rfl⟩
                          rw [← hji29] at c27 c27b0 c27b1 c28 c28b0 c28b1 H
                          have hji29w : IntKind.i64.wrap (ji20 + 1) = ji29 := (i64_w _).trans hji29.symm
                          replace hji29 := hji29.symm
                          replace H := Option.bind_eq_some_iff.mp H
                          obtain ⟨t138, A290, H⟩ := H
                          replace H : (some (t137 == t138)) = some r := H
                          have A29 := Aside0.mk A290
                          clear A290
                          obtain rfl := Option.some.inj H
                          have p19 : 0 ≤ (a1 : Int) := of_decide_eq_true (by first | (with_reducible assumption) | assumption)
                          have q19 : a1 < (a0.size : Int) := of_decide_eq_true (by first | (with_reducible assumption) | assumption)
                          have hx19 := bt_at a0 a1
                          replace p19 := eq_true p19
                          replace q19 := eq_true q19
                          have p23 : 0 ≤ (ji20 : Int) := of_decide_eq_true (by first | (with_reducible assumption) | assumption)
                          have q23 : (ji20) < (a0.size : Int) := of_decide_eq_true (by first | (with_reducible assumption) | assumption)
                          have hx23 := bt_at a0 (ji20)
                          replace p23 := eq_true p23
                          replace q23 := eq_true q23
                          go_wp2_with (first | (go_at_call 13; (with_reducible refine (roll_Sum.calls kj4 (a0.extract (a1 : Int).toNat (ji20 : Int).toNat) t136 _ A17.out).mono ?_); rintro e w' ⟨rfl, ⟨nd, rfl⟩⟩; (try first | exact ⟨rfl, _, World.drewN_drewN _ _ _⟩ | exact ⟨rfl, _, Eq.trans (World.drewN_drewN _ _ _) (congrArg (World.drewN _) (Nat.add_assoc _ _ _))⟩)) | (go_at_call 15; (with_reducible refine (roll_Next.calls t136 a2 (bt a0 a1) (bt a0 (ji20)) t137 _ A24.out).mono ?_); rintro e w' ⟨rfl, ⟨nd, rfl⟩⟩; (try first | exact ⟨rfl, _, World.drewN_drewN _ _ _⟩ | exact ⟨rfl, _, Eq.trans (World.drewN_drewN _ _ _) (congrArg (World.drewN _) (Nat.add_assoc _ _ _))⟩)) | (go_at_call 13; (with_reducible refine (roll_Sum.calls kj4 (a0.extract ((ji25) : Int).toNat (ji29 : Int).toNat) t138 _ A29.out).mono ?_); rintro e w' ⟨rfl, ⟨nd, rfl⟩⟩; (try first | exact ⟨rfl, _, World.drewN_drewN _ _ _⟩ | exact ⟨rfl, _, Eq.trans (World.drewN_drewN _ _ _) (congrArg (World.drewN _) (Nat.add_assoc _ _ _))⟩)))
                          repeat (go_quiet (first | (go_at_call 13; (with_reducible refine (roll_Sum.calls kj4 (a0.extract (a1 : Int).toNat (ji20 : Int).toNat) t136 _ A17.out).mono ?_); rintro e w' ⟨rfl, ⟨nd, rfl⟩⟩; (try first | exact ⟨rfl, _, World.drewN_drewN _ _ _⟩ | exact ⟨rfl, _, Eq.trans (World.drewN_drewN _ _ _) (congrArg (World.drewN _) (Nat.add_assoc _ _ _))⟩)) | (go_at_call 15; (with_reducible refine (roll_Next.calls t136 a2 (bt a0 a1) (bt a0 (ji20)) t137 _ A24.out).mono ?_); rintro e w' ⟨rfl, ⟨nd, rfl⟩⟩; (try first | exact ⟨rfl, _, World.drewN_drewN _ _ _⟩ | exact ⟨rfl, _, Eq.trans (World.drewN_drewN _ _ _) (congrArg (World.drewN _) (Nat.add_assoc _ _ _))⟩)) | (go_at_call 13; (with_reducible refine (roll_Sum.calls kj4 (a0.extract ((ji25) : Int).toNat (ji29 : Int).toNat) t138 _ A29.out).mono ?_); rintro e w' ⟨rfl, ⟨nd, rfl⟩⟩; (try first | exact ⟨rfl, _, World.drewN_drewN _ _ _⟩ | exact ⟨rfl, _, Eq.trans (World.drewN_drewN _ _ _) (congrArg (World.drewN _) (Nat.add_assoc _ _ _))⟩))); try go_wp2_with (first | (go_at_call 13; (with_reducible refine (roll_Sum.calls kj4 (a0.extract (a1 : Int).toNat (ji20 : Int).toNat) t136 _ A17.out).mono ?_); rintro e w' ⟨rfl, ⟨nd, rfl⟩⟩; (try first | exact ⟨rfl, _, World.drewN_drewN _ _ _⟩ | exact ⟨rfl, _, Eq.trans (World.drewN_drewN _ _ _) (congrArg (World.drewN _) (Nat.add_assoc _ _ _))⟩)) | (go_at_call 15; (with_reducible refine (roll_Next.calls t136 a2 (bt a0 a1) (bt a0 (ji20)) t137 _ A24.out).mono ?_); rintro e w' ⟨rfl, ⟨nd, rfl⟩⟩; (try first | exact ⟨rfl, _, World.drewN_drewN _ _ _⟩ | exact ⟨rfl, _, Eq.trans (World.drewN_drewN _ _ _) (congrArg (World.drewN _) (Nat.add_assoc _ _ _))⟩)) | (go_at_call 13; (with_reducible refine (roll_Sum.calls kj4 (a0.extract ((ji25) : Int).toNat (ji29 : Int).toNat) t138 _ A29.out).mono ?_); rintro e w' ⟨rfl, ⟨nd, rfl⟩⟩; (try first | exact ⟨rfl, _, World.drewN_drewN _ _ _⟩ | exact ⟨rfl, _, Eq.trans (World.drewN_drewN _ _ _) (congrArg (World.drewN _) (Nat.add_assoc _ _ _))⟩))))
                          go_ret
                          exact ⟨by first | rfl | (simp [errW_none, errW_some] <;> rfl) | (simp only [← hji20, ← hji25]; first | rfl | (simp [errW_none, errW_some] <;> rfl)) | (simp [*, errW_none, errW_some] <;> rfl), by repeat (first | (with_reducible first | exact HB.out | apply below_alloc | apply pw_below_drewN | apply below_drew1) | exact HB.out)⟩
                        · rw [if_neg c28] at H
                          exact absurd H (by simp)
                      · rw [if_neg c27] at H
                        exact absurd H (by simp)
                    · rw [if_neg c26] at H
                      exact absurd H (by simp)
                  · rw [if_neg c22] at H
                    exact absurd H (by simp)
                · rw [if_neg c21] at H
                  exact absurd H (by simp)
              · rw [if_neg c18] at H
                exact absurd H (by simp)
            · rw [if_neg c16] at H
              exact absurd H (by simp)
          · rw [if_neg c15] at H
            exact absurd H (by simp)
        · rw [if_neg c14] at H
          exact absurd H (by simp)

/-- THE ONE PURE STATEMENT of rolodexlaw09_RollNext: yours. -/
def rolodexlaw09_RollNext.Pure : Prop := ∀ (a0 : ByteArray) (a1 : Int) (a2 : Int), a0.size ≤ 140737488351232 → (Lit.int .i64 a1).wf = true → (Lit.int .i64 a2).wf = true → ∃ k, rolodexlaw09_RollNext.f k a0 a1 a2 = some true
theorem rolodexlaw09_RollNext.walk (P : rolodexlaw09_RollNext.Pure) (a0 : ByteArray) (a1 : Int) (a2 : Int) (w : World) (w0 : a0.size ≤ 140737488351232) (w1 : (Lit.int .i64 a1).wf = true) (w2 : (Lit.int .i64 a2).wf = true) :
    Calls Try.prog 4 #[.string a0, .int .i64 a1, .int .i64 a2] w fun e w' => e = .returned (.bool true) ∧ Below w.heap.size w w' := by
  obtain ⟨k, h⟩ := P a0 a1 a2 w0 w1 w2
  refine (rolodexlaw09_RollNext.calls k a0 a1 a2 true w h).mono ?_
  rintro e w' ⟨rfl, hd⟩
  exact ⟨rfl, hd⟩

end Go.Proofs.Ytkicolloiagadaa.X
