-- Printed for this session by a program of its own over an edited copy of the translation's print.
import Derived.Test.YtkicolloiagadaaXx0
import Derived.Test.YtkicolloiagadaaXx2
import Derived.Test.YtkicolloiagadaaXx4
import Derived.Test.YtkicolloiagadaaXx6
namespace Go.Proofs.Ytkicolloiagadaa.X
open Go.RowKit Go.Proofs.YtkicolloiagadaaW.PrintWords Go.Proofs.YtkicolloiagadaaW.PrintLast Go.Proofs.YtkicolloiagadaaW.PrintMore
attribute [local go_sem] max2_int min2_int max_two min_two max_three min_three max_four min_four   -- for this text's walks alone
set_option linter.unusedVariables false
set_option linter.unusedSimpArgs false

/-! ### rolodexlaw09_RollAll: function 5 -/
mutual
def rolodexlaw09_RollAll.j0 : Nat → ByteArray → Int → Bool → Bool → Option (Bool)
  | 0, _, _, _, _ => none
  | k + 1, x0, x1, x5, x15 => if x15 = true then (some x5) else ((roll_All.f k x0 x1).bind fun t140 => (if x1 < 1 then (rolodexlaw09_RollAll.j1 k x0 x1 t140 true) else (rolodexlaw09_RollAll.j1 k x0 x1 t140 (decide (x1 > (x0.size : Int))))))
def rolodexlaw09_RollAll.j1 : Nat → ByteArray → Int → List Int → Bool → Option (Bool)
  | 0, _, _, _, _ => none
  | k + 1, x0, x1, x6, x27 => if x27 = true then (some ((x6.length : Int) == 0)) else (if (x6.length : Int) = (wrap64 ((wrap64 ((x0.size : Int) - x1)) + 1)) then (rolodexlaw09_RollAll.l0 k x0 x1 x6 0) else (some false))
def rolodexlaw09_RollAll.l0 : Nat → ByteArray → Int → List Int → Int → Option (Bool)
  | 0, _, _, _, _ => none
  | k + 1, x0, x1, x6, x7 => if x7 < (x6.length : Int) then (if 0 ≤ x7 then (if x7 ≤ (wrap64 (x7 + x1)) then (if (wrap64 (x7 + x1)) ≤ (x0.size : Int) then ((roll_Sum.f k (x0.extract (x7 : Int).toNat ((wrap64 (x7 + x1)) : Int).toNat)).bind fun t144 => (if (rd x6 x7) = t144 then (rolodexlaw09_RollAll.l0 k x0 x1 x6 (wrap64 (x7 + 1))) else (some false))) else (none)) else (none)) else (none)) else (some true)
end
def rolodexlaw09_RollAll.f (k : Nat) (a0 : ByteArray) (a1 : Int) : Option (Bool) := (rolodexlaw09_awake.f k).bind fun t139 => (if t139 = true then (rolodexlaw09_RollAll.j0 k a0 a1 t139 (decide ((a0.size : Int) > 300))) else (rolodexlaw09_RollAll.j0 k a0 a1 t139 true))
theorem rolodexlaw09_RollAll.mono_l : ∀ k, (∀ y0 y1 y2 y3, LeO (rolodexlaw09_RollAll.j0 k y0 y1 y2 y3) (rolodexlaw09_RollAll.j0 (k + 1) y0 y1 y2 y3)) ∧ (∀ y0 y1 y2 y3, LeO (rolodexlaw09_RollAll.j1 k y0 y1 y2 y3) (rolodexlaw09_RollAll.j1 (k + 1) y0 y1 y2 y3)) ∧ (∀ y0 y1 y2 y3, LeO (rolodexlaw09_RollAll.l0 k y0 y1 y2 y3) (rolodexlaw09_RollAll.l0 (k + 1) y0 y1 y2 y3))
  | 0 => ⟨fun _ _ _ _ r h => by simp [rolodexlaw09_RollAll.j0] at h, fun _ _ _ _ r h => by simp [rolodexlaw09_RollAll.j1] at h, fun _ _ _ _ r h => by simp [rolodexlaw09_RollAll.l0] at h⟩
  | k + 1 => by
    obtain ⟨ih0, ih1, ih2⟩ := rolodexlaw09_RollAll.mono_l k
    refine ⟨?_, ?_, ?_⟩
    · intro y0 y1 y2 y3
      unfold rolodexlaw09_RollAll.j0
      repeat' first
      | (with_reducible exact ih0 _ _ _ _)
      | (with_reducible exact ih1 _ _ _ _)
      | (with_reducible exact ih2 _ _ _ _)
      | (with_reducible exact roll_All.mono _ _ _)
      | (with_reducible exact roll_Sum.mono _ _)
      | (with_reducible exact rolodexlaw09_awake.mono _)
      | (with_reducible exact LeO.refl _)
      | (with_reducible exact LeO.none _)
      | (with_reducible refine LeO.ite ?_ ?_)
      | (with_reducible refine LeO.bind ?_ (fun _ => ?_))
      | exact ih0 _ _ _ _
      | exact ih1 _ _ _ _
      | exact ih2 _ _ _ _
      | exact roll_All.mono _ _ _
      | exact roll_Sum.mono _ _
      | exact rolodexlaw09_awake.mono _
      | exact LeO.none _
      | refine LeO.ite ?_ ?_
      | refine LeO.bind ?_ (fun _ => ?_)
    · intro y0 y1 y2 y3
      unfold rolodexlaw09_RollAll.j1
      repeat' first
      | (with_reducible exact ih0 _ _ _ _)
      | (with_reducible exact ih1 _ _ _ _)
      | (with_reducible exact ih2 _ _ _ _)
      | (with_reducible exact roll_All.mono _ _ _)
      | (with_reducible exact roll_Sum.mono _ _)
      | (with_reducible exact rolodexlaw09_awake.mono _)
      | (with_reducible exact LeO.refl _)
      | (with_reducible exact LeO.none _)
      | (with_reducible refine LeO.ite ?_ ?_)
      | (with_reducible refine LeO.bind ?_ (fun _ => ?_))
      | exact ih0 _ _ _ _
      | exact ih1 _ _ _ _
      | exact ih2 _ _ _ _
      | exact roll_All.mono _ _ _
      | exact roll_Sum.mono _ _
      | exact rolodexlaw09_awake.mono _
      | exact LeO.none _
      | refine LeO.ite ?_ ?_
      | refine LeO.bind ?_ (fun _ => ?_)
    · intro y0 y1 y2 y3
      unfold rolodexlaw09_RollAll.l0
      repeat' first
      | (with_reducible exact ih0 _ _ _ _)
      | (with_reducible exact ih1 _ _ _ _)
      | (with_reducible exact ih2 _ _ _ _)
      | (with_reducible exact roll_All.mono _ _ _)
      | (with_reducible exact roll_Sum.mono _ _)
      | (with_reducible exact rolodexlaw09_awake.mono _)
      | (with_reducible exact LeO.refl _)
      | (with_reducible exact LeO.none _)
      | (with_reducible refine LeO.ite ?_ ?_)
      | (with_reducible refine LeO.bind ?_ (fun _ => ?_))
      | exact ih0 _ _ _ _
      | exact ih1 _ _ _ _
      | exact ih2 _ _ _ _
      | exact roll_All.mono _ _ _
      | exact roll_Sum.mono _ _
      | exact rolodexlaw09_awake.mono _
      | exact LeO.none _
      | refine LeO.ite ?_ ?_
      | refine LeO.bind ?_ (fun _ => ?_)
theorem rolodexlaw09_RollAll.mono : ∀ a0 a1 k, LeO (rolodexlaw09_RollAll.f k a0 a1) (rolodexlaw09_RollAll.f (k + 1) a0 a1) := by
  intro a0 a1 k
  obtain ⟨ih0, ih1, ih2⟩ := rolodexlaw09_RollAll.mono_l k
  unfold rolodexlaw09_RollAll.f
  repeat' first
      | (with_reducible exact ih0 _ _ _ _)
      | (with_reducible exact ih1 _ _ _ _)
      | (with_reducible exact ih2 _ _ _ _)
      | (with_reducible exact roll_All.mono _ _ _)
      | (with_reducible exact roll_Sum.mono _ _)
      | (with_reducible exact rolodexlaw09_awake.mono _)
      | (with_reducible exact LeO.refl _)
      | (with_reducible exact LeO.none _)
      | (with_reducible refine LeO.ite ?_ ?_)
      | (with_reducible refine LeO.bind ?_ (fun _ => ?_))
      | exact ih0 _ _ _ _
      | exact ih1 _ _ _ _
      | exact ih2 _ _ _ _
      | exact roll_All.mono _ _ _
      | exact roll_Sum.mono _ _
      | exact rolodexlaw09_awake.mono _
      | exact LeO.none _
      | refine LeO.ite ?_ ?_
      | refine LeO.bind ?_ (fun _ => ?_)
set_option maxHeartbeats 8000000 in
set_option maxRecDepth 100000 in
theorem rolodexlaw09_RollAll.calls (k : Nat) (a0 : ByteArray) (a1 : Int) (r : Bool) (w : World) (h : rolodexlaw09_RollAll.f k a0 a1 = some r) :
    Calls Try.prog 5 #[.string a0, .int .i64 a1] w fun e w' => e = .returned (.bool r) ∧ Below w.heap.size w w' := by
  have HB := Aside0.mk (Below.refl w.heap.size w)
  have H : ((rolodexlaw09_awake.f k).bind fun t139 => (if t139 = true then (rolodexlaw09_RollAll.j0 k a0 a1 t139 (decide ((a0.size : Int) > 300))) else (rolodexlaw09_RollAll.j0 k a0 a1 t139 true))) = some r := h
  clear h
  replace H := Option.bind_eq_some_iff.mp H
  obtain ⟨t139, A30, H⟩ := H
  replace H : (if t139 = true then (rolodexlaw09_RollAll.j0 k a0 a1 t139 (decide ((a0.size : Int) > 300))) else (rolodexlaw09_RollAll.j0 k a0 a1 t139 true)) = some r := H
  have A3 := Aside0.mk A30
  clear A30
  have HC4 := Aside0.mk H
  clear H
  go_enter Try.func5, Try.ntmps5
  go_upto_region 2 with (first | (go_at_call 9; (with_reducible refine (rolodexlaw09_awake.calls k  t139 _ A3.out).mono ?_); rintro e w5 ⟨rfl, hb⟩; have n0_ := Aside0.mk (below_step (by repeat (first | (with_reducible first | exact HB.out | apply below_alloc | apply pw_below_drewN | apply below_drew1) | exact HB.out)) hb); clear HB; have HB := n0_; clear n0_; (try clear hb); (try clear hb2); (try clear hk); (try clear hi)))
  repeat (go_quiet (first | (go_at_call 9; (with_reducible refine (rolodexlaw09_awake.calls k  t139 _ A3.out).mono ?_); rintro e w5 ⟨rfl, hb⟩; have n0_ := Aside0.mk (below_step (by repeat (first | (with_reducible first | exact HB.out | apply below_alloc | apply pw_below_drewN | apply below_drew1) | exact HB.out)) hb); clear HB; have HB := n0_; clear n0_; (try clear hb); (try clear hb2); (try clear hk); (try clear hi))); go_upto_region 2 with (first | (go_at_call 9; (with_reducible refine (rolodexlaw09_awake.calls k  t139 _ A3.out).mono ?_); rintro e w5 ⟨rfl, hb⟩; have n0_ := Aside0.mk (below_step (by repeat (first | (with_reducible first | exact HB.out | apply below_alloc | apply pw_below_drewN | apply below_drew1) | exact HB.out)) hb); clear HB; have HB := n0_; clear n0_; (try clear hb); (try clear hb2); (try clear hk); (try clear hi))))
  (try simp only [Act.put, List.setIfInBounds_toArray, List.set_cons_zero, List.set_cons_succ])
  go_cut [15] (fun v15 wc => ∃ (kq : Nat) (x15_3 : Bool), v15 = .bool x15_3 ∧ Aside0 (rolodexlaw09_RollAll.j0 kq a0 a1 t139 x15_3 = some r) ∧ Aside0 (kq ≤ k) ∧ Aside0 (Below w.heap.size w wc))
  case first =>
    have H := HC4.out
    clear HC4
    by_cases c6 : t139 = true
    · subst c6
      have H1 : (rolodexlaw09_RollAll.j0 k a0 a1 true (decide ((a0.size : Int) > 300))) = some r := by rw [if_pos rfl] at H; exact H
      clear H
      have H := H1
      clear H1
      have H' := Aside0.mk H
      clear H
      go_wp2
      repeat (go_quiet (fail); try go_wp2)
      go_meet
      case rel => exact ⟨_, (decide ((a0.size : Int) > 300)), (by first | rfl | (simp; done) | (simp [*]; done)), H', ⟨by first | omega | exact Nat.le_refl _⟩, ⟨by repeat (first | (with_reducible first | exact HB.out | apply below_alloc | apply pw_below_drewN | apply below_drew1) | exact HB.out)⟩⟩
    · replace c6 := Bool.eq_false_iff.mpr c6
      subst c6
      have H1 : (rolodexlaw09_RollAll.j0 k a0 a1 false true) = some r := by rw [if_neg (show ¬ (false = true) by decide)] at H; exact H
      clear H
      have H := H1
      clear H1
      have H' := Aside0.mk H
      clear H
      go_wp2
      repeat (go_quiet (fail); try go_wp2)
      go_meet
      case rel => exact ⟨_, (true), (by first | rfl | (simp; done) | (simp [*]; done)), H', ⟨by first | omega | exact Nat.le_refl _⟩, ⟨by repeat (first | (with_reducible first | exact HB.out | apply below_alloc | apply pw_below_drewN | apply below_drew1) | exact HB.out)⟩⟩
  case rest =>
    clear HC4
    try clear p2
    try clear c5
    try clear c6
    obtain ⟨kq, x15_3, rfl, HA, HJ3, HB⟩ := hcut
    cases kq with
    | zero => exact absurd HA.out (by simp [rolodexlaw09_RollAll.j0])
    | succ kj3 =>
      have H := HA.out
      clear HA
      simp only [rolodexlaw09_RollAll.j0] at H
      by_cases c7 : x15_3 = true
      · subst c7
        have H1 : (some t139) = some r := by rw [if_pos rfl] at H; exact H
        clear H
        have H := H1
        clear H1
        obtain rfl := Option.some.inj H
        go_wp2
        repeat (go_quiet (fail); try go_wp2)
        go_ret
        exact ⟨by first | rfl | (simp [errW_none, errW_some] <;> rfl) | (simp [*, errW_none, errW_some] <;> rfl), by repeat (first | (with_reducible first | exact HB.out | apply below_alloc | apply pw_below_drewN | apply below_drew1) | exact HB.out)⟩
      · replace c7 := Bool.eq_false_iff.mpr c7
        subst c7
        have H1 : ((roll_All.f kj3 a0 a1).bind fun t140 => (if a1 < 1 then (rolodexlaw09_RollAll.j1 kj3 a0 a1 t140 true) else (rolodexlaw09_RollAll.j1 kj3 a0 a1 t140 (decide (a1 > (a0.size : Int)))))) = some r := by rw [if_neg (show ¬ (false = true) by decide)] at H; exact H
        clear H
        have H := H1
        clear H1
        replace H := Option.bind_eq_some_iff.mp H
        obtain ⟨t140, A80, H⟩ := H
        replace H : (if a1 < 1 then (rolodexlaw09_RollAll.j1 kj3 a0 a1 t140 true) else (rolodexlaw09_RollAll.j1 kj3 a0 a1 t140 (decide (a1 > (a0.size : Int))))) = some r := H
        have A8 := Aside0.mk A80
        clear A80
        have HC9 := Aside0.mk H
        clear H
        go_upto_region 5 with (first | (go_at_call 11; (with_reducible refine (roll_All.calls kj3 a0 a1 t140 _ A8.out).mono ?_); rintro e w10 ⟨v141, rfl, ho0, hb⟩; have n0_ := Aside0.mk (Kd.R_lower ho0 (below_size (by repeat (first | (with_reducible first | exact HB.out | apply below_alloc | apply pw_below_drewN | apply below_drew1) | exact HB.out)))); have n1_ := Aside0.mk (below_step (by repeat (first | (with_reducible first | exact HB.out | apply below_alloc | apply pw_below_drewN | apply below_drew1) | exact HB.out)) hb); clear HB; have HO142 := n0_; have HB := n1_; clear n0_ n1_; (try clear hb); (try clear hb2); (try clear hk); (try clear hi); (try clear ho0)))
        repeat (go_quiet (first | (go_at_call 11; (with_reducible refine (roll_All.calls kj3 a0 a1 t140 _ A8.out).mono ?_); rintro e w10 ⟨v141, rfl, ho0, hb⟩; have n0_ := Aside0.mk (Kd.R_lower ho0 (below_size (by repeat (first | (with_reducible first | exact HB.out | apply below_alloc | apply pw_below_drewN | apply below_drew1) | exact HB.out)))); have n1_ := Aside0.mk (below_step (by repeat (first | (with_reducible first | exact HB.out | apply below_alloc | apply pw_below_drewN | apply below_drew1) | exact HB.out)) hb); clear HB; have HO142 := n0_; have HB := n1_; clear n0_ n1_; (try clear hb); (try clear hb2); (try clear hk); (try clear hi); (try clear ho0))); go_upto_region 5 with (first | (go_at_call 11; (with_reducible refine (roll_All.calls kj3 a0 a1 t140 _ A8.out).mono ?_); rintro e w10 ⟨v141, rfl, ho0, hb⟩; have n0_ := Aside0.mk (Kd.R_lower ho0 (below_size (by repeat (first | (with_reducible first | exact HB.out | apply below_alloc | apply pw_below_drewN | apply below_drew1) | exact HB.out)))); have n1_ := Aside0.mk (below_step (by repeat (first | (with_reducible first | exact HB.out | apply below_alloc | apply pw_below_drewN | apply below_drew1) | exact HB.out)) hb); clear HB; have HO142 := n0_; have HB := n1_; clear n0_ n1_; (try clear hb); (try clear hb2); (try clear hk); (try clear hi); (try clear ho0))))
        (try simp only [Act.put, List.setIfInBounds_toArray, List.set_cons_zero, List.set_cons_succ])
        go_cut [27] (fun v27 wc => ∃ (kq : Nat) (x27_8 : Bool), v27 = .bool x27_8 ∧ Aside0 (rolodexlaw09_RollAll.j1 kq a0 a1 t140 x27_8 = some r) ∧ Aside0 (kq ≤ kj3) ∧ Aside0 (Kd.R (Kd.int .u32) 22 wc w.heap.size (fun _ => True) v141 t140) ∧ Aside0 (Below w.heap.size w wc))
        case first =>
          have H := HC9.out
          clear HC9
          by_cases c11 : a1 < 1
          · rw [if_pos c11] at H
            have c11b0 : decide (a1 < 1) = true := decide_eq_true c11
            clear c11
            (first | rw [c11b0] | (simp only [i64_w, i32_w]; rw [c11b0]) | skip)
            have H' := Aside0.mk H
            clear H
            go_wp2
            repeat (go_quiet (fail); try go_wp2)
            go_meet
            case rel => exact ⟨_, (true), (by first | rfl | (simp; done) | (simp [*]; done)), H', ⟨by have := HJ3.out; first | omega | exact Nat.le_refl _⟩, ⟨by (with_reducible repeat (first | apply Kd.R_alloc | apply Kd.R_drewN | apply Kd.R_drew)); exact HO142.out⟩, ⟨by repeat (first | (with_reducible first | exact HB.out | apply below_alloc | apply pw_below_drewN | apply below_drew1) | exact HB.out)⟩⟩
          · rw [if_neg c11] at H
            have c11b0 : decide (a1 < 1) = false := decide_eq_false c11
            clear c11
            (first | rw [c11b0] | (simp only [i64_w, i32_w]; rw [c11b0]) | skip)
            have H' := Aside0.mk H
            clear H
            go_wp2
            repeat (go_quiet (fail); try go_wp2)
            go_meet
            case rel => exact ⟨_, (decide (a1 > (a0.size : Int))), (by first | rfl | (simp; done) | (simp [*]; done)), H', ⟨by have := HJ3.out; first | omega | exact Nat.le_refl _⟩, ⟨by (with_reducible repeat (first | apply Kd.R_alloc | apply Kd.R_drewN | apply Kd.R_drew)); exact HO142.out⟩, ⟨by repeat (first | (with_reducible first | exact HB.out | apply below_alloc | apply pw_below_drewN | apply below_drew1) | exact HB.out)⟩⟩
        case rest =>
          clear HC9
          try clear c1
          try clear p2
          try clear c5
          try clear c6
          try clear c7
          try clear c11
          try clear c11b0
          try clear p2
          obtain ⟨kq, x27_8, rfl, HA, HJ8, HO_6, HB⟩ := hcut
          cases kq with
          | zero => exact absurd HA.out (by simp [rolodexlaw09_RollAll.j1])
          | succ kj8 =>
            have H := HA.out
            clear HA
            simp only [rolodexlaw09_RollAll.j1] at H
            by_cases c12 : x27_8 = true
            · subst c12
              have H1 : (some ((t140.length : Int) == 0)) = some r := by rw [if_pos rfl] at H; exact H
              clear H
              have H := H1
              clear H1
              obtain rfl := Option.some.inj H
              obtain ⟨Ao13, co13, eo13⟩ := Kd.R_slice HO_6.out
              subst eo13
              go_wp2
              repeat (go_quiet (fail); try go_wp2)
              go_ret
              exact ⟨by first | rfl | (simp [errW_none, errW_some] <;> rfl) | (simp [*, errW_none, errW_some] <;> rfl), by repeat (first | (with_reducible first | exact HB.out | apply below_alloc | apply pw_below_drewN | apply below_drew1) | exact HB.out)⟩
            · replace c12 := Bool.eq_false_iff.mpr c12
              subst c12
              have H1 : (if (t140.length : Int) = (wrap64 ((wrap64 ((a0.size : Int) - a1)) + 1)) then (rolodexlaw09_RollAll.l0 kj8 a0 a1 t140 0) else (some false)) = some r := by rw [if_neg (show ¬ (false = true) by decide)] at H; exact H
              clear H
              have H := H1
              clear H1
              by_cases c14 : (t140.length : Int) = (wrap64 ((wrap64 ((a0.size : Int) - a1)) + 1))
              · rw [if_pos c14] at H
                have c14b0 : ((t140.length : Int) == (wrap64 ((wrap64 ((a0.size : Int) - a1)) + 1))) = true := beq_iff_eq.mpr c14
                have c14b1 : ((t140.length : Int) != (wrap64 ((wrap64 ((a0.size : Int) - a1)) + 1))) = false := bne_eq_false_iff_eq.mpr c14
                clear c14
                have H' := Aside0.mk H
                clear H
                obtain ⟨Ao15, co15, eo15⟩ := Kd.R_slice HO_6.out
                subst eo15
                go_wp2
                repeat (go_quiet (fail); try go_wp2)
                go_loopg [7] kj8 (fun kq v7 w' => ∃ (x7_3 : Int), v7 = .int .i64 x7_3 ∧ Aside0 (rolodexlaw09_RollAll.l0 kq a0 a1 t140 x7_3 = some r) ∧ Aside0 (kq ≤ kj8) ∧ Aside0 (Kd.R (Kd.int .u32) 22 w' w.heap.size (fun _ => True) (.slice Ao15 t140.length co15) t140) ∧ Aside0 (Below w.heap.size w w'))
                case atStart => exact ⟨(0), (by first | rfl | (simp; done) | (simp [*]; done)), H', ⟨Nat.le_refl _⟩, ⟨by (with_reducible repeat (first | apply Kd.R_alloc | apply Kd.R_drewN | apply Kd.R_drew)); exact HO_6.out⟩, ⟨by repeat (first | (with_reducible first | exact HB.out | apply below_alloc | apply pw_below_drewN | apply below_drew1) | exact HB.out)⟩⟩
                case round =>
                  clear H'
                  try clear c1
                  try clear p2
                  try clear c5
                  try clear c6
                  try clear p6
                  try clear c7
                  try clear c11
                  try clear c11b0
                  try clear c12
                  try clear c14
                  try clear c14b0
                  try clear c14b1
                  try clear p2
                  obtain ⟨x7_3, rfl, HA, HK3, HO_6, HB⟩ := hrel
                  cases gk with
                  | zero => exact absurd HA.out (by simp [rolodexlaw09_RollAll.l0])
                  | succ k3 =>
                    have H := HA.out
                    clear HA
                    simp only [rolodexlaw09_RollAll.l0] at H
                    by_cases c16 : x7_3 < (t140.length : Int)
                    · rw [if_pos c16] at H
                      have c16b0 : decide (x7_3 < (t140.length : Int)) = true := decide_eq_true c16
                      clear c16
                      by_cases c17 : 0 ≤ x7_3
                      · rw [if_pos c17] at H
                        have c17b0 : decide (0 ≤ x7_3) = true := decide_eq_true c17
                        clear c17
                        have c18b0 := eq_true (of_decide_eq_true (by first | (with_reducible assumption) | assumption) : 0 ≤ x7_3)
                        by_cases c19 : x7_3 ≤ (wrap64 (x7_3 + a1))
                        · rw [if_pos c19] at H
                          have c19b0 := eq_true c19
                          have c19b1 : decide (x7_3 ≤ (wrap64 (x7_3 + a1))) = true := decide_eq_true c19
                          by_cases c20 : (wrap64 (x7_3 + a1)) ≤ (a0.size : Int)
                          · rw [if_pos c20] at H
                            have c20b0 := eq_true c20
                            have c20b1 : decide ((wrap64 (x7_3 + a1)) ≤ (a0.size : Int)) = true := decide_eq_true c20
                            replace H := Option.bind_eq_some_iff.mp H
                            obtain ⟨t144, A210, H⟩ := H
                            replace H : (if (rd t140 x7_3) = t144 then (rolodexlaw09_RollAll.l0 k3 a0 a1 t140 (wrap64 (x7_3 + 1))) else (some false)) = some r := H
                            have A21 := Aside0.mk A210
                            clear A210
                            by_cases c22 : (rd t140 x7_3) = t144
                            · rw [if_pos c22] at H
                              have c22b0 : ((rd t140 x7_3) == t144) = true := beq_iff_eq.mpr c22
                              have c22b1 : ((rd t140 x7_3) != t144) = false := bne_eq_false_iff_eq.mpr c22
                              clear c22
                              have H' := Aside0.mk H
                              clear H
                              have p143 : 0 ≤ (x7_3 : Int) := of_decide_eq_true (by first | (with_reducible assumption) | assumption)
                              have q143 : x7_3 < (t140.length : Int) := of_decide_eq_true (by first | (with_reducible assumption) | assumption)
                              obtain ⟨ad143, e143, hx143_0⟩ := Kd.at_int (Kd.R_reads' HO_6.out).2.2 x7_3 p143 q143
                              cases e143
                              replace p143 := eq_true p143
                              replace q143 := eq_true q143
                              go_wp2_with (first | (go_at_call 13; (with_reducible refine (roll_Sum.calls k3 (a0.extract (x7_3 : Int).toNat ((wrap64 (x7_3 + a1)) : Int).toNat) t144 _ A21.out).mono ?_); rintro e w' ⟨rfl, ⟨nd, rfl⟩⟩; (try first | exact ⟨rfl, _, World.drewN_drewN _ _ _⟩ | exact ⟨rfl, _, Eq.trans (World.drewN_drewN _ _ _) (congrArg (World.drewN _) (Nat.add_assoc _ _ _))⟩)))
                              repeat (go_quiet (first | (go_at_call 13; (with_reducible refine (roll_Sum.calls k3 (a0.extract (x7_3 : Int).toNat ((wrap64 (x7_3 + a1)) : Int).toNat) t144 _ A21.out).mono ?_); rintro e w' ⟨rfl, ⟨nd, rfl⟩⟩; (try first | exact ⟨rfl, _, World.drewN_drewN _ _ _⟩ | exact ⟨rfl, _, Eq.trans (World.drewN_drewN _ _ _) (congrArg (World.drewN _) (Nat.add_assoc _ _ _))⟩))); try go_wp2_with (first | (go_at_call 13; (with_reducible refine (roll_Sum.calls k3 (a0.extract (x7_3 : Int).toNat ((wrap64 (x7_3 + a1)) : Int).toNat) t144 _ A21.out).mono ?_); rintro e w' ⟨rfl, ⟨nd, rfl⟩⟩; (try first | exact ⟨rfl, _, World.drewN_drewN _ _ _⟩ | exact ⟨rfl, _, Eq.trans (World.drewN_drewN _ _ _) (congrArg (World.drewN _) (Nat.add_assoc _ _ _))⟩))))
                              go_roundg k3
                              case measure => have := HJ3.out; have := HJ8.out; have := HK3.out; omega
                              case rel => exact ⟨(wrap64 (x7_3 + 1)), (by first | rfl | (simp; done) | (simp [*]; done)), H', ⟨by have := HJ3.out; have := HJ8.out; have := HK3.out; omega⟩, ⟨by (with_reducible repeat (first | apply Kd.R_alloc | apply Kd.R_drewN | apply Kd.R_drew)); exact HO_6.out⟩, ⟨by repeat (first | (with_reducible first | exact HB.out | apply below_alloc | apply pw_below_drewN | apply below_drew1) | exact HB.out)⟩⟩
                            · rw [if_neg c22] at H
                              have c22b0 : ((rd t140 x7_3) == t144) = false := beq_eq_false_iff_ne.mpr c22
                              have c22b1 : ((rd t140 x7_3) != t144) = true := bne_iff_ne.mpr c22
                              obtain rfl := Option.some.inj H
                              have p143 : 0 ≤ (x7_3 : Int) := of_decide_eq_true (by first | (with_reducible assumption) | assumption)
                              have q143 : x7_3 < (t140.length : Int) := of_decide_eq_true (by first | (with_reducible assumption) | assumption)
                              obtain ⟨ad143, e143, hx143_0⟩ := Kd.at_int (Kd.R_reads' HO_6.out).2.2 x7_3 p143 q143
                              cases e143
                              replace p143 := eq_true p143
                              replace q143 := eq_true q143
                              go_wp2_with (first | (go_at_call 13; (with_reducible refine (roll_Sum.calls k3 (a0.extract (x7_3 : Int).toNat ((wrap64 (x7_3 + a1)) : Int).toNat) t144 _ A21.out).mono ?_); rintro e w' ⟨rfl, ⟨nd, rfl⟩⟩; (try first | exact ⟨rfl, _, World.drewN_drewN _ _ _⟩ | exact ⟨rfl, _, Eq.trans (World.drewN_drewN _ _ _) (congrArg (World.drewN _) (Nat.add_assoc _ _ _))⟩)))
                              repeat (go_quiet (first | (go_at_call 13; (with_reducible refine (roll_Sum.calls k3 (a0.extract (x7_3 : Int).toNat ((wrap64 (x7_3 + a1)) : Int).toNat) t144 _ A21.out).mono ?_); rintro e w' ⟨rfl, ⟨nd, rfl⟩⟩; (try first | exact ⟨rfl, _, World.drewN_drewN _ _ _⟩ | exact ⟨rfl, _, Eq.trans (World.drewN_drewN _ _ _) (congrArg (World.drewN _) (Nat.add_assoc _ _ _))⟩))); try go_wp2_with (first | (go_at_call 13; (with_reducible refine (roll_Sum.calls k3 (a0.extract (x7_3 : Int).toNat ((wrap64 (x7_3 + a1)) : Int).toNat) t144 _ A21.out).mono ?_); rintro e w' ⟨rfl, ⟨nd, rfl⟩⟩; (try first | exact ⟨rfl, _, World.drewN_drewN _ _ _⟩ | exact ⟨rfl, _, Eq.trans (World.drewN_drewN _ _ _) (congrArg (World.drewN _) (Nat.add_assoc _ _ _))⟩))))
                              go_ret
                              exact ⟨by first | rfl | (simp [errW_none, errW_some] <;> rfl) | (simp [*, errW_none, errW_some] <;> rfl), by repeat (first | (with_reducible first | exact HB.out | apply below_alloc | apply pw_below_drewN | apply below_drew1) | exact HB.out)⟩
                          · rw [if_neg c20] at H
                            exact absurd H (by simp)
                        · rw [if_neg c19] at H
                          exact absurd H (by simp)
                      · rw [if_neg c17] at H
                        exact absurd H (by simp)
                    · rw [if_neg c16] at H
                      have c16b0 : decide (x7_3 < (t140.length : Int)) = false := decide_eq_false c16
                      clear c16
                      obtain rfl := Option.some.inj H
                      go_wp2
                      repeat (go_quiet (fail); try go_wp2)
                      go_ret
                      exact ⟨by first | rfl | (simp [errW_none, errW_some] <;> rfl) | (simp [*, errW_none, errW_some] <;> rfl), by repeat (first | (with_reducible first | exact HB.out | apply below_alloc | apply pw_below_drewN | apply below_drew1) | exact HB.out)⟩
              · rw [if_neg c14] at H
                have c14b0 : ((t140.length : Int) == (wrap64 ((wrap64 ((a0.size : Int) - a1)) + 1))) = false := beq_eq_false_iff_ne.mpr c14
                have c14b1 : ((t140.length : Int) != (wrap64 ((wrap64 ((a0.size : Int) - a1)) + 1))) = true := bne_iff_ne.mpr c14
                obtain rfl := Option.some.inj H
                obtain ⟨Ao23, co23, eo23⟩ := Kd.R_slice HO_6.out
                subst eo23
                go_wp2
                repeat (go_quiet (fail); try go_wp2)
                go_ret
                exact ⟨by first | rfl | (simp [errW_none, errW_some] <;> rfl) | (simp [*, errW_none, errW_some] <;> rfl), by repeat (first | (with_reducible first | exact HB.out | apply below_alloc | apply pw_below_drewN | apply below_drew1) | exact HB.out)⟩

/-- THE ONE PURE STATEMENT of rolodexlaw09_RollAll: yours. -/
def rolodexlaw09_RollAll.Pure : Prop := ∀ (a0 : ByteArray) (a1 : Int), a0.size ≤ 140737488351232 → (Lit.int .i64 a1).wf = true → ∃ k, rolodexlaw09_RollAll.f k a0 a1 = some true
theorem rolodexlaw09_RollAll.walk (P : rolodexlaw09_RollAll.Pure) (a0 : ByteArray) (a1 : Int) (w : World) (w0 : a0.size ≤ 140737488351232) (w1 : (Lit.int .i64 a1).wf = true) :
    Calls Try.prog 5 #[.string a0, .int .i64 a1] w fun e w' => e = .returned (.bool true) ∧ Below w.heap.size w w' := by
  obtain ⟨k, h⟩ := P a0 a1 w0 w1
  refine (rolodexlaw09_RollAll.calls k a0 a1 true w h).mono ?_
  rintro e w' ⟨rfl, hd⟩
  exact ⟨rfl, hd⟩

end Go.Proofs.Ytkicolloiagadaa.X
