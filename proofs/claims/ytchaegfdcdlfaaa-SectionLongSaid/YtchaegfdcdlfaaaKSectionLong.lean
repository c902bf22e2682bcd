/- SectionLong: the walk, the plain law, the row. -/
import Derived.Test.YtchaegfdcdlfaaaB1
import Derived.Test.YtchaegfdcdlfaaaB2
import Derived.Test.YtchaegfdcdlfaaaRows
import Derived.WalkKit
import Derived.ProofKit
import Derived.OpenShut
import Derived.ShutString
import Derived.ChangeOld
import Derived.Below
import Derived.SizedLaws
import Derived.Test.YtchaegfdcdlfaaaWSized

-- Printed for this session by a program of its own over an edited copy of the translation's print.

-- Printed for this session by a program of its own over an edited copy of the translation's print.

-- Printed for this session by a program of its own over an edited copy of the translation's print.

namespace Go.Proofs.Ytchaegfdcdlfaaa.X
open Go.RowKit Go.Proofs.YtchaegfdcdlfaaaW.PrintWords Go.Proofs.YtchaegfdcdlfaaaW.PrintLast Go.Proofs.YtchaegfdcdlfaaaW.PrintMore
attribute [local go_sem] max2_int min2_int max_two min_two max_three min_three max_four min_four   -- for this text's walks alone
set_option linter.unusedVariables false
set_option linter.unusedSimpArgs false

/-! ### rolodexlaw02_SectionLong: function 14 -/
def rolodexlaw02_SectionLong.j0 : Nat → Int → List Int → Bool → List Int → Bool → Bool → Option (Bool)
  | 0, _, _, _, _, _, _ => none
  | k + 1, x0, x1, x5, x6, x7, x26 => if x26 = true then (if x5 = true then (if x7 = true then (some true) else (some ((x6.length : Int) == 0))) else (some false)) else (if (x1.length : Int) > 127 then (if (x6.length : Int) = (wrap64 ((x1.length : Int) + 7)) then (if 0 < (x6.length : Int) then (some ((wrap64 (rd x6 0)) == x0)) else (none)) else (some false)) else (if (x6.length : Int) = (wrap64 ((x1.length : Int) + 6)) then (if 0 < (x6.length : Int) then (some ((wrap64 (rd x6 0)) == x0)) else (none)) else (some false)))
def rolodexlaw02_SectionLong.f (k : Nat) (a0 : Int) (l1 : List Int) : Option (Bool) := (rolodexlaw02_awake.f k).bind fun t377 => ((section_Pack.f k a0 l1).bind fun bt378 => (if t377 = true then (if (l1.length : Int) > 300 then (rolodexlaw02_SectionLong.j0 k a0 l1 t377 bt378.1 bt378.2 true) else (rolodexlaw02_SectionLong.j0 k a0 l1 t377 bt378.1 bt378.2 (!bt378.2))) else (rolodexlaw02_SectionLong.j0 k a0 l1 t377 bt378.1 bt378.2 true)))
theorem rolodexlaw02_SectionLong.mono_l : ∀ k, (∀ y0 y1 y2 y3 y4 y5, LeO (rolodexlaw02_SectionLong.j0 k y0 y1 y2 y3 y4 y5) (rolodexlaw02_SectionLong.j0 (k + 1) y0 y1 y2 y3 y4 y5))
  | 0 => fun _ _ _ _ _ _ r h => by simp [rolodexlaw02_SectionLong.j0] at h
  | k + 1 => by
    have ih0 := rolodexlaw02_SectionLong.mono_l k
    · intro y0 y1 y2 y3 y4 y5
      unfold rolodexlaw02_SectionLong.j0
      repeat' first
      | (with_reducible exact ih0 _ _ _ _ _ _)
      | (with_reducible exact rolodexlaw02_awake.mono _)
      | (with_reducible exact section_Pack.mono _ _ _)
      | (with_reducible exact LeO.refl _)
      | (with_reducible exact LeO.none _)
      | (with_reducible refine LeO.ite ?_ ?_)
      | (with_reducible refine LeO.bind ?_ (fun _ => ?_))
      | exact ih0 _ _ _ _ _ _
      | exact rolodexlaw02_awake.mono _
      | exact section_Pack.mono _ _ _
      | exact LeO.none _
      | refine LeO.ite ?_ ?_
      | refine LeO.bind ?_ (fun _ => ?_)
theorem rolodexlaw02_SectionLong.mono : ∀ a0 a1 k, LeO (rolodexlaw02_SectionLong.f k a0 a1) (rolodexlaw02_SectionLong.f (k + 1) a0 a1) := by
  intro a0 a1 k
  have ih0 := rolodexlaw02_SectionLong.mono_l k
  unfold rolodexlaw02_SectionLong.f
  repeat' first
      | (with_reducible exact ih0 _ _ _ _ _ _)
      | (with_reducible exact rolodexlaw02_awake.mono _)
      | (with_reducible exact section_Pack.mono _ _ _)
      | (with_reducible exact LeO.refl _)
      | (with_reducible exact LeO.none _)
      | (with_reducible refine LeO.ite ?_ ?_)
      | (with_reducible refine LeO.bind ?_ (fun _ => ?_))
      | exact ih0 _ _ _ _ _ _
      | exact rolodexlaw02_awake.mono _
      | exact section_Pack.mono _ _ _
      | exact LeO.none _
      | refine LeO.ite ?_ ?_
      | refine LeO.bind ?_ (fun _ => ?_)
set_option maxHeartbeats 8000000 in
set_option maxRecDepth 100000 in
theorem rolodexlaw02_SectionLong.calls (k : Nat) (a0 : Int) (A1 : Option Addr) (c1 : Nat) (l1 : List Int) (r : Bool) (w : World) (hr1 : Kd.C (Kd.int .u8) w A1 l1.length l1) (hc1 : l1.length ≤ c1) (h : rolodexlaw02_SectionLong.f k a0 l1 = some r) :
    Calls Try.prog 14 #[.int .i64 a0, .slice A1 l1.length c1] w fun e w' => e = .returned (.bool r) ∧ Below w.heap.size w w' := by
  have HR1 := Aside0.mk hr1
  have HC1 := Aside0.mk hc1
  clear hr1 hc1
  have HB := Aside0.mk (Below.refl w.heap.size w)
  have H : ((rolodexlaw02_awake.f k).bind fun t377 => ((section_Pack.f k a0 l1).bind fun bt378 => (if t377 = true then (if (l1.length : Int) > 300 then (rolodexlaw02_SectionLong.j0 k a0 l1 t377 bt378.1 bt378.2 true) else (rolodexlaw02_SectionLong.j0 k a0 l1 t377 bt378.1 bt378.2 (!bt378.2))) else (rolodexlaw02_SectionLong.j0 k a0 l1 t377 bt378.1 bt378.2 true)))) = some r := h
  clear h
  replace H := Option.bind_eq_some_iff.mp H
  obtain ⟨t377, A30, H⟩ := H
  replace H : ((section_Pack.f k a0 l1).bind fun bt378 => (if t377 = true then (if (l1.length : Int) > 300 then (rolodexlaw02_SectionLong.j0 k a0 l1 t377 bt378.1 bt378.2 true) else (rolodexlaw02_SectionLong.j0 k a0 l1 t377 bt378.1 bt378.2 (!bt378.2))) else (rolodexlaw02_SectionLong.j0 k a0 l1 t377 bt378.1 bt378.2 true))) = some r := H
  have A3 := Aside0.mk A30
  clear A30
  replace H := Option.bind_eq_some_iff.mp H
  obtain ⟨⟨t378, t381⟩, A40, H⟩ := H
  replace H : (if t377 = true then (if (l1.length : Int) > 300 then (rolodexlaw02_SectionLong.j0 k a0 l1 t377 t378 t381 true) else (rolodexlaw02_SectionLong.j0 k a0 l1 t377 t378 t381 (!t381))) else (rolodexlaw02_SectionLong.j0 k a0 l1 t377 t378 t381 true)) = some r := H
  have A4 := Aside0.mk A40
  clear A40
  have HC5 := Aside0.mk H
  clear H
  go_enter Try.func14, Try.ntmps14
  go_upto_region 3 with (first | ((with_reducible refine gate_callee (f := 41) rfl ?_); refine goesL_ (some 9) rfl rfl Try.func41 (by kernel_rfl) rfl #[] rfl (by (try simp only [List.map_toArray, List.map_cons, List.map_nil]); first | done | rfl | (simp only [List.length_drop, List.length_take]; rfl)) ?_; (with_reducible refine (rolodexlaw02_awake.calls k  t377 _ A3.out).mono ?_); rintro e w6 ⟨rfl, hb⟩; refine ⟨_, rfl, ?_⟩; have n0_ := Aside0.mk (below_step (by repeat (first | (with_reducible first | exact HB.out | apply below_alloc | apply pw_below_drewN | apply below_drew1) | exact HB.out)) hb); clear HB; have HB := n0_; clear n0_; (try clear hb); (try clear hb2); (try clear hk); (try clear hi)) | ((with_reducible refine gate_callee (f := 42) rfl ?_); refine goesL_ (some 13) rfl rfl Try.func42 (by kernel_rfl) rfl #[.int .i64 a0, .slice A1 l1.length c1] rfl (by (try simp only [List.map_toArray, List.map_cons, List.map_nil]); first | done | rfl | (simp only [List.length_drop, List.length_take]; rfl)) ?_; (with_reducible refine (section_Pack.calls k a0 (fun k_ => k_ < w.heap.size) _ _ l1 t378 t381 _ ?side1 A4.out).mono ?_); (case side1 => exact Kd.V_mk HC1.out (Kd.F_below (Kd.C_F (Kd.heap_int .u8) HR1.out) (by repeat (first | (with_reducible first | exact HB.out | apply below_alloc | apply pw_below_drewN | apply below_drew1) | exact HB.out)))); rintro e w7 ⟨v379, rfl, ho0, hb⟩; refine ⟨_, rfl, ?_⟩; have n0_ := Aside0.mk (Kd.R_lower (Kd.R_mono (ok' := fun k_ => True) ho0 (fun _ hk_ => trivial)) (below_size (by repeat (first | (with_reducible first | exact HB.out | apply below_alloc | apply pw_below_drewN | apply below_drew1) | exact HB.out)))); have n1_ := Aside0.mk (below_step (by repeat (first | (with_reducible first | exact HB.out | apply below_alloc | apply pw_below_drewN | apply below_drew1) | exact HB.out)) hb); clear HB; have HO380 := n0_; have HB := n1_; clear n0_ n1_; (try clear hb); (try clear hb2); (try clear hk); (try clear hi); (try clear ho0)))
  (try simp only [Act.put, List.setIfInBounds_toArray, List.set_cons_zero, List.set_cons_succ])
  go_cut [26] (fun v26 wc => ∃ (kq : Nat) (x26_4 : Bool), v26 = .bool x26_4 ∧ Aside0 (rolodexlaw02_SectionLong.j0 kq a0 l1 t377 t378 t381 x26_4 = some r) ∧ Aside0 (kq ≤ k) ∧ Aside0 (Kd.R (Kd.int .u8) 5 wc w.heap.size (fun _ => True) v379 t378) ∧ Aside0 (Below w.heap.size w wc))
  case first =>
    have H := HC5.out
    clear HC5
    by_cases c8 : t377 = true
    · subst c8
      have H1 : (if (l1.length : Int) > 300 then (rolodexlaw02_SectionLong.j0 k a0 l1 true t378 t381 true) else (rolodexlaw02_SectionLong.j0 k a0 l1 true t378 t381 (!t381))) = some r := by rw [if_pos rfl] at H; exact H
      clear H
      have H := H1
      clear H1
      by_cases c9 : (l1.length : Int) > 300
      · rw [if_pos c9] at H
        have c9b0 : decide (300 < (l1.length : Int)) = true := decide_eq_true c9
        have c9b1 : decide (300 < l1.length) = true := decide_eq_true (by omega)
        clear c9
        (first | rw [c9b0] | (simp only [i64_w, i32_w]; rw [c9b0]) | skip)
        have H' := Aside0.mk H
        clear H
        go_wp2
        go_meet
        case rel => exact ⟨_, (true), (by first | rfl | (simp; done) | (simp [*]; done)), H', ⟨by first | omega | exact Nat.le_refl _⟩, ⟨by (with_reducible repeat (first | apply Kd.R_alloc | apply Kd.R_drewN | apply Kd.R_drew)); exact HO380.out⟩, ⟨by repeat (first | (with_reducible first | exact HB.out | apply below_alloc | apply pw_below_drewN | apply below_drew1) | exact HB.out)⟩⟩
      · rw [if_neg c9] at H
        have c9b0 : decide (300 < (l1.length : Int)) = false := decide_eq_false c9
        have c9b1 : decide (300 < l1.length) = false := decide_eq_false (by omega)
        clear c9
        (first | rw [c9b0] | (simp only [i64_w, i32_w]; rw [c9b0]) | skip)
        have H' := Aside0.mk H
        clear H
        go_wp2
        go_meet
        case rel => exact ⟨_, (!t381), (by first | rfl | (simp; done) | (simp [*]; done)), H', ⟨by first | omega | exact Nat.le_refl _⟩, ⟨by (with_reducible repeat (first | apply Kd.R_alloc | apply Kd.R_drewN | apply Kd.R_drew)); exact HO380.out⟩, ⟨by repeat (first | (with_reducible first | exact HB.out | apply below_alloc | apply pw_below_drewN | apply below_drew1) | exact HB.out)⟩⟩
    · replace c8 := Bool.eq_false_iff.mpr c8
      subst c8
      have H1 : (rolodexlaw02_SectionLong.j0 k a0 l1 false t378 t381 true) = some r := by rw [if_neg (show ¬ (false = true) by decide)] at H; exact H
      clear H
      have H := H1
      clear H1
      have H' := Aside0.mk H
      clear H
      go_wp2
      go_meet
      case rel => exact ⟨_, (true), (by first | rfl | (simp; done) | (simp [*]; done)), H', ⟨by first | omega | exact Nat.le_refl _⟩, ⟨by (with_reducible repeat (first | apply Kd.R_alloc | apply Kd.R_drewN | apply Kd.R_drew)); exact HO380.out⟩, ⟨by repeat (first | (with_reducible first | exact HB.out | apply below_alloc | apply pw_below_drewN | apply below_drew1) | exact HB.out)⟩⟩
  case rest =>
    clear HC5
    try clear c1
    try clear p2
    try clear c4
    try clear c8
    try clear c9
    try clear c9b0
    try clear c9b1
    obtain ⟨kq, x26_4, rfl, HA, HJ4, HO_6, HB⟩ := hcut
    cases kq with
    | zero => exact absurd HA.out (by simp [rolodexlaw02_SectionLong.j0])
    | succ kj4 =>
      have H := HA.out
      clear HA
      simp only [rolodexlaw02_SectionLong.j0] at H
      by_cases c10 : x26_4 = true
      · subst c10
        have H1 : (if t377 = true then (if t381 = true then (some true) else (some ((t378.length : Int) == 0))) else (some false)) = some r := by rw [if_pos rfl] at H; exact H
        clear H
        have H := H1
        clear H1
        by_cases c11 : t377 = true
        · subst c11
          have H1 : (if t381 = true then (some true) else (some ((t378.length : Int) == 0))) = some r := by rw [if_pos rfl] at H; exact H
          clear H
          have H := H1
          clear H1
          by_cases c12 : t381 = true
          · subst c12
            have H1 : (some true) = some r := by rw [if_pos rfl] at H; exact H
            clear H
            have H := H1
            clear H1
            obtain rfl := Option.some.inj H
            go_wp2
            go_ret
            exact ⟨by first | rfl | (simp [errW_none, errW_some] <;> rfl) | (simp [*, errW_none, errW_some] <;> rfl), by repeat (first | (with_reducible first | exact HB.out | apply below_alloc | apply pw_below_drewN | apply below_drew1) | exact HB.out)⟩
          · replace c12 := Bool.eq_false_iff.mpr c12
            subst c12
            have H1 : (some ((t378.length : Int) == 0)) = some r := by rw [if_neg (show ¬ (false = true) by decide)] at H; exact H
            clear H
            have H := H1
            clear H1
            obtain rfl := Option.some.inj H
            obtain ⟨Ao13, co13, eo13⟩ := Kd.R_slice HO_6.out
            subst eo13
            go_wp2
            go_ret
            exact ⟨by first | rfl | (simp [errW_none, errW_some] <;> rfl) | (simp [*, errW_none, errW_some] <;> rfl), by repeat (first | (with_reducible first | exact HB.out | apply below_alloc | apply pw_below_drewN | apply below_drew1) | exact HB.out)⟩
        · replace c11 := Bool.eq_false_iff.mpr c11
          subst c11
          have H1 : (some false) = some r := by rw [if_neg (show ¬ (false = true) by decide)] at H; exact H
          clear H
          have H := H1
          clear H1
          obtain rfl := Option.some.inj H
          go_wp2
          go_ret
          exact ⟨by first | rfl | (simp [errW_none, errW_some] <;> rfl) | (simp [*, errW_none, errW_some] <;> rfl), by repeat (first | (with_reducible first | exact HB.out | apply below_alloc | apply pw_below_drewN | apply below_drew1) | exact HB.out)⟩
      · replace c10 := Bool.eq_false_iff.mpr c10
        subst c10
        have H1 : (if (l1.length : Int) > 127 then (if (t378.length : Int) = (wrap64 ((l1.length : Int) + 7)) then (if 0 < (t378.length : Int) then (some ((wrap64 (rd t378 0)) == a0)) else (none)) else (some false)) else (if (t378.length : Int) = (wrap64 ((l1.length : Int) + 6)) then (if 0 < (t378.length : Int) then (some ((wrap64 (rd t378 0)) == a0)) else (none)) else (some false))) = some r := by rw [if_neg (show ¬ (false = true) by decide)] at H; exact H
        clear H
        have H := H1
        clear H1
        by_cases c14 : (l1.length : Int) > 127
        · rw [if_pos c14] at H
          have c14b0 : decide (127 < (l1.length : Int)) = true := decide_eq_true c14
          have c14b1 : decide (127 < l1.length) = true := decide_eq_true (by omega)
          clear c14
          by_cases c15 : (t378.length : Int) = (wrap64 ((l1.length : Int) + 7))
          · rw [if_pos c15] at H
            have c15b0 : ((t378.length : Int) == (wrap64 ((l1.length : Int) + 7))) = true := beq_iff_eq.mpr c15
            have c15b1 : ((t378.length : Int) != (wrap64 ((l1.length : Int) + 7))) = false := bne_eq_false_iff_eq.mpr c15
            clear c15
            by_cases c16 : 0 < (t378.length : Int)
            · rw [if_pos c16] at H
              have c16b0 : decide (0 < (t378.length : Int)) = true := decide_eq_true c16
              have c16b1 : decide (0 < t378.length) = true := decide_eq_true (by omega)
              clear c16
              obtain rfl := Option.some.inj H
              obtain ⟨Ao17, co17, eo17⟩ := Kd.R_slice HO_6.out
              subst eo17
              have p382 : 0 ≤ (0 : Int) := (by omega)
              have q382 : 0 < (t378.length : Int) := of_decide_eq_true (by first | (with_reducible assumption) | assumption)
              obtain ⟨ad382, e382, hx382_0⟩ := Kd.at_int (Kd.R_reads' HO_6.out).2.2 0 p382 q382
              cases e382
              have qi382 : (0 < t378.length) = True := eq_true (by omega)
              (try rw [show ((0 : Int)).toNat = 0 from rfl] at hx382_0)
              (try rw [Addr.add_zero'] at hx382_0)
              replace p382 := eq_true p382
              replace q382 := eq_true q382
              go_wp2
              go_ret
              exact ⟨by first | rfl | (simp [errW_none, errW_some] <;> rfl) | (simp [*, errW_none, errW_some] <;> rfl), by repeat (first | (with_reducible first | exact HB.out | apply below_alloc | apply pw_below_drewN | apply below_drew1) | exact HB.out)⟩
            · rw [if_neg c16] at H
              exact absurd H (by simp)
          · rw [if_neg c15] at H
            have c15b0 : ((t378.length : Int) == (wrap64 ((l1.length : Int) + 7))) = false := beq_eq_false_iff_ne.mpr c15
            have c15b1 : ((t378.length : Int) != (wrap64 ((l1.length : Int) + 7))) = true := bne_iff_ne.mpr c15
            obtain rfl := Option.some.inj H
            obtain ⟨Ao18, co18, eo18⟩ := Kd.R_slice HO_6.out
            subst eo18
            go_wp2
            go_ret
            exact ⟨by first | rfl | (simp [errW_none, errW_some] <;> rfl) | (simp [*, errW_none, errW_some] <;> rfl), by repeat (first | (with_reducible first | exact HB.out | apply below_alloc | apply pw_below_drewN | apply below_drew1) | exact HB.out)⟩
        · rw [if_neg c14] at H
          have c14b0 : decide (127 < (l1.length : Int)) = false := decide_eq_false c14
          have c14b1 : decide (127 < l1.length) = false := decide_eq_false (by omega)
          clear c14
          by_cases c19 : (t378.length : Int) = (wrap64 ((l1.length : Int) + 6))
          · rw [if_pos c19] at H
            have c19b0 : ((t378.length : Int) == (wrap64 ((l1.length : Int) + 6))) = true := beq_iff_eq.mpr c19
            have c19b1 : ((t378.length : Int) != (wrap64 ((l1.length : Int) + 6))) = false := bne_eq_false_iff_eq.mpr c19
            clear c19
            by_cases c20 : 0 < (t378.length : Int)
            · rw [if_pos c20] at H
              have c20b0 : decide (0 < (t378.length : Int)) = true := decide_eq_true c20
              have c20b1 : decide (0 < t378.length) = true := decide_eq_true (by omega)
              clear c20
              obtain rfl := Option.some.inj H
              obtain ⟨Ao21, co21, eo21⟩ := Kd.R_slice HO_6.out
              subst eo21
              have p383 : 0 ≤ (0 : Int) := (by omega)
              have q383 : 0 < (t378.length : Int) := of_decide_eq_true (by first | (with_reducible assumption) | assumption)
              obtain ⟨ad383, e383, hx383_0⟩ := Kd.at_int (Kd.R_reads' HO_6.out).2.2 0 p383 q383
              cases e383
              have qi383 : (0 < t378.length) = True := eq_true (by omega)
              (try rw [show ((0 : Int)).toNat = 0 from rfl] at hx383_0)
              (try rw [Addr.add_zero'] at hx383_0)
              replace p383 := eq_true p383
              replace q383 := eq_true q383
              go_wp2
              go_ret
              exact ⟨by first | rfl | (simp [errW_none, errW_some] <;> rfl) | (simp [*, errW_none, errW_some] <;> rfl), by repeat (first | (with_reducible first | exact HB.out | apply below_alloc | apply pw_below_drewN | apply below_drew1) | exact HB.out)⟩
            · rw [if_neg c20] at H
              exact absurd H (by simp)
          · rw [if_neg c19] at H
            have c19b0 : ((t378.length : Int) == (wrap64 ((l1.length : Int) + 6))) = false := beq_eq_false_iff_ne.mpr c19
            have c19b1 : ((t378.length : Int) != (wrap64 ((l1.length : Int) + 6))) = true := bne_iff_ne.mpr c19
            obtain rfl := Option.some.inj H
            obtain ⟨Ao22, co22, eo22⟩ := Kd.R_slice HO_6.out
            subst eo22
            go_wp2
            go_ret
            exact ⟨by first | rfl | (simp [errW_none, errW_some] <;> rfl) | (simp [*, errW_none, errW_some] <;> rfl), by repeat (first | (with_reducible first | exact HB.out | apply below_alloc | apply pw_below_drewN | apply below_drew1) | exact HB.out)⟩

/-- THE ONE PURE STATEMENT of rolodexlaw02_SectionLong: yours. -/
def rolodexlaw02_SectionLong.Pure : Prop := ∀ (a0 : Int) (l1 : List Int), (Lit.int .i64 a0).wf = true → l1.length ≤ maxLen → l1.length * 1 ≤ 140737488351232 → (∀ x ∈ l1, (Lit.int .u8 x).wf = true) → ∃ k, rolodexlaw02_SectionLong.f k a0 l1 = some true
theorem rolodexlaw02_SectionLong.walk (P : rolodexlaw02_SectionLong.Pure) (a0 : Int) (a1 : Option Addr) (len1 cap1 : Nat) (z1 : List Int) (w : World) (w0 : (Lit.int .i64 a0).wf = true) (w1 : (a1 = none ∧ len1 = 0 ∧ cap1 = 0 ∧ z1 = []) ∨ ∃ x, a1 = some x ∧ len1 ≤ cap1 ∧ cap1 ≤ maxLen ∧ z1.length = cap1 ∧ (∀ i, i < z1.length → w.cell? (x.add i) = some (.int .u8 (z1.getD i 0))) ∧ ∀ n ∈ z1, (Lit.int .u8 n).wf = true) (y1 : len1 * 1 ≤ 140737488351232) :
    Calls Try.prog 14 #[.int .i64 a0, .slice a1 len1 cap1] w fun e w' => e = .returned (.bool true) ∧ Below w.heap.size w w' := by
  obtain ⟨l1, rfl, hr1, hm1, hw1, hc1⟩ := ReadsInt.ofRowC w1
  obtain ⟨k, h⟩ := P a0 l1 w0 hm1 y1 hw1
  refine (rolodexlaw02_SectionLong.calls k a0 _ _ l1 true w (Kd.C_of_reads (d := (0 : Int)) (h1 := fun _ => rfl) hr1) hc1 h).mono ?_
  rintro e w' ⟨rfl, hd⟩
  exact ⟨rfl, hd⟩

end Go.Proofs.Ytchaegfdcdlfaaa.X

/- How many bytes a section has, in plain lists. -/
namespace Go.Proofs.Ytchaegfdcdlfaaa.Pure
set_option linter.unusedVariables false
set_option linter.unusedSimpArgs false
open Go.RowKit Go.Proofs.Ytchaegfdcdlfaaa.X Go.Proofs.YtchaegfdcdlfaaaW.PrintWords Go.Proofs.YtchaegfdcdlfaaaW.PrintLast
open Go.Proofs.Ytchaegfdcdlfaaa.Y (Bytes)

theorem SectionLong : rolodexlaw02_SectionLong.Pure := by
  intro a l ha hl _ hw
  have hb := bytes_of_lits hw
  have hi := i64_of_lit ha
  refine ⟨100, ?_⟩
  unfold rolodexlaw02_SectionLong.f rolodexlaw02_awake.f
  simp only [Option.bind_some, if_true]
  by_cases h : a < 0 ∨ 9 < a ∨ 100000 < l.length
  · rw [Pack_none h 100 (by omega)]
    simp only [Option.bind_some, Bool.not_false]
    rw [ite_self, rolodexlaw02_SectionLong.j0, if_pos rfl, if_pos rfl, if_neg (by decide)]
    rfl
  · have h0 : 0 ≤ a := by omega
    have h9 : a ≤ 9 := by omega
    have hl5 : l.length ≤ 100000 := by omega
    rw [Pack_eq h0 h9 hb hl5 100 (by omega)]
    simp only [Option.bind_some, Bool.not_true]
    by_cases h3 : (l.length : Int) > 300
    · rw [if_pos h3, rolodexlaw02_SectionLong.j0, if_pos rfl, if_pos rfl, if_pos rfl]
    · rw [if_neg h3, rolodexlaw02_SectionLong.j0, if_neg (by decide)]
      have hk : wrap64 (rd (packL a l) 0) = a := by
        show wrap64 a = a
        unfold wrap64; omega
      have hp := packL_length a l
      by_cases h1 : (l.length : Int) > 127
      · have hz := put_len2 (n := l.length) (by omega) (by omega)
        have hw : wrap64 ((l.length : Int) + 7) = (l.length : Int) + 7 := by unfold wrap64; omega
        rw [if_pos h1, hw, if_pos (by omega), if_pos (by omega), hk, beq_self_eq_true]
      · have hz := put_len1 (n := l.length) (by omega)
        have hw : wrap64 ((l.length : Int) + 6) = (l.length : Int) + 6 := by unfold wrap64; omega
        rw [if_neg h1, hw, if_pos (by omega), if_pos (by omega), hk, beq_self_eq_true]
end Go.Proofs.Ytchaegfdcdlfaaa.Pure

namespace Go.Proofs.Ytchaegfdcdlfaaa.sectionLong
open Go.ChangeShapes Go.WideShapes Go.ChangeAt Go.RowKit
open Go.ChangeMaps (open_string shut_string)
set_option linter.unusedVariables false
theorem own : ownKnob Try.prog.godebug = none := by kernel_rfl
theorem laidOut : laidOutB Try.prog = true := by kernel_rfl
def IsRow (k : IntKind) (w : World) (a : Option Addr) (len cap : Nat) (zs : List Int) : Prop :=
  (a = none ∧ len = 0 ∧ cap = 0 ∧ zs = []) ∨
  ∃ x, a = some x ∧ len ≤ cap ∧ cap ≤ maxLen ∧ zs.length = cap ∧ (∀ i, i < zs.length → w.cell? (x.add i) = some (.int k (zs.getD i 0))) ∧ ∀ n ∈ zs, (Lit.int k n).wf = true
set_option maxRecDepth 100000 in
theorem lifted (os : Os) (started : os.Started) (H : Type) (enc : TypeId × Value → H) :
    ReturnsInHanded {} Try.checked os 14 .any (Rows.sectionLongSpec.pre6 enc Try.prog Try.f14 Rows.sectionLongRow.domain false) (Rows.sectionLongSpec.post enc Try.prog Try.f14 false true false false) := by
  refine returnsInHanded_of_change_sized (C := Try.checked) own started (by kernel_rfl) Try.func14
    (ChangeSpec.witness6 (enc := enc) (C := Try.checked) false ⟨#[], #[.int .i64 0, .slice none 0 0], []⟩ 8 (by kernel_rfl) (by kernel_rfl) (by kernel_rfl) (by kernel_rfl)) ?_
  intro W base args ds gs before hval0 hW hcnd hsz0 _
  have hsz : (DataW.weightsEach Try.prog (Try.f14.params.toList ++ Rows.sectionLongSpec.plain.varTypes Try.prog) (ds ++ gs)).all (· ≤ reachBytes) = true := hsz0
  have hval : ∀ (j : Nat) t v, Try.f14.params[j]? = some t → args[j]? = some v → Value.okWide Try.prog W .any base t v := hval0
  have hW' := hW
  obtain ⟨p, q, hA0, hV, rfl, hfz, hnd⟩ := hW
  have hA : DataW.TrodAll enc Try.prog W 0 (fun _ => true) true Try.f14.params.toList args.toList ds p := hA0
  rw [Try.params14] at hA hval hsz
  obtain ⟨v0, vs0, d0, ds0, p0, q0, hargs, rfl, rfl, h0, r0⟩ := trodAll_cons hA
  obtain ⟨v1, vs1, d1, ds1, p1, q1, rfl, rfl, rfl, h1, r1⟩ := trodAll_cons r0
  obtain ⟨rfl, rfl, rfl⟩ := trodAll_nil r1
  obtain rfl : args = #[v0, v1] := by cases args; simp_all
  obtain ⟨rfl, rfl⟩ := trodVars_none hV
  obtain ⟨a0, rfl, rfl, rfl, w0⟩ := open_int Try.underlying3 (hval 0 3 v0 rfl rfl) h0
  obtain ⟨a1, len1, cap1, rfl⟩ := okWide_slice Try.underlying40 (hval 1 40 v1 rfl rfl)
  have k1 := h1
  have lt1 : ∀ x ∈ p1, x.block < W.heap.size := by obtain ⟨m, hm⟩ := k1; exact DataW.trod_lt m _ _ _ hm
  obtain ⟨z1, w1⟩ : ∃ zs, IsRow .u8 W a1 len1 cap1 zs := by
    obtain ⟨fuel, hf⟩ := h1
    rcases open_ints Try.underlying40 Try.underlying5 (by kernel_rfl) hf with ⟨hcs, _⟩ | ⟨x, l, c, zs, hcs, _, hl, hm, hz, _, hcell, hwz⟩
    · simp [Value.cells] at hcs
      obtain ⟨rfl, rfl, rfl⟩ := hcs
      exact ⟨[], .inl ⟨rfl, rfl, rfl, rfl⟩⟩
    · simp [Value.cells] at hcs
      obtain ⟨rfl, rfl, rfl⟩ := hcs
      exact ⟨zs, .inr ⟨_, rfl, hl, hm, by simpa using hz, hcell, hwz⟩⟩
  have y1 : len1 * 1 ≤ 140737488351232 := Go.Proofs.YtchaegfdcdlfaaaW.PrintWords.sized_ints hsz (j := 1) (t := 40) rfl rfl Try.underlying40 Try.underlying5 (by kernel_rfl) (by kernel_rfl) h1
  clear hA0 hval0 hsz0 hsz
  refine (X.rolodexlaw02_SectionLong.walk Pure.SectionLong a0 a1 len1 cap1 z1 W w0 w1 y1).mono fun e W' ⟨he, bel⟩ => ?_
  subst he
  exact ⟨_, rfl, _, _, _, [], _, [], hW', trodAll_mk1 (shut_bool Try.underlying4 _), (trodAll_cons_mk (shut_int Try.underlying3 w0) (trodAll_cons_mk (Below.trod laidOut (by kernel_rfl) (of_decide_eq_true (by kernel_rfl)) k1 bel lt1) trodAll_mk0)), rfl, bel.frame _, fun h => by cases h⟩
theorem clos0 : (J.closT Try.prog 185 [14] []).isSome = true := by kernel_rfl
theorem clos1 : Try.prog.closure 14 = (J.closT Try.prog 185 [14] []).getD [] := J.clos_eq (of_decide_eq_true (by kernel_rfl)) clos0
theorem fact1 : Try.prog.inPlace 14 = [] := by unfold Program.inPlace; rw [clos1]; kernel_rfl
theorem fact2 : Try.prog.unfollowed 14 = true := by unfold Program.unfollowed; rw [clos1]; kernel_rfl
theorem fact3 : Try.prog.recurses 14 = true := by unfold Program.recurses; rw [fact2]; rfl
theorem fact4 : Try.prog.varsNamed 14 = [] := by unfold Program.varsNamed; rw [clos1]; kernel_rfl
set_option maxRecDepth 100000 in
theorem facts : joinedFacts Try.prog 14 Try.f14 Rows.sectionLongSpec Rows.sectionLongRow = true := by
  unfold joinedFacts
  simp only [Bool.and_eq_true]
  repeat' apply And.intro
  all_goals first | (with_reducible exact J.mayEnter) | (rw [J.liftsFinal]; kernel_rfl) | (rw [J.make]; kernel_rfl) | (rw [fact1]; kernel_rfl) | (rw [fact2]; kernel_rfl) | (rw [fact3]; kernel_rfl) | (rw [fact4]; kernel_rfl) | kernel_rfl
theorem over : Rows.sectionLongRow.holds Try.pinned (OpenSpec.ofChange Rows.sectionLongSpec) :=
  OpenClaim.holds_of_wide 14 Try.f14 rfl rfl rfl rfl rfl rfl rfl ⟨rfl, rfl, rfl, rfl, rfl⟩ rfl rfl rfl rfl rfl (by kernel_rfl) Try.func14 facts
    (of_decide_eq_true (by kernel_rfl)) (by unfold Func.isWrapper; first | (rw [if_pos (by decide +kernel)]; kernel_rfl) | (rw [if_neg (by decide +kernel)]; exact ⟨rfl, rfl⟩))
    (fun os started H enc _ => lifted os started H enc)
theorem proved : Rows.SectionLongSaid := over
#print axioms proved
end Go.Proofs.Ytchaegfdcdlfaaa.sectionLong
namespace Go.Proofs.Ytchaegfdcdlfaaa
/-- The row, under a short name, for the claim. -/
theorem sectionLong_holds : Rows.SectionLongSaid := sectionLong.proved
end Go.Proofs.Ytchaegfdcdlfaaa
