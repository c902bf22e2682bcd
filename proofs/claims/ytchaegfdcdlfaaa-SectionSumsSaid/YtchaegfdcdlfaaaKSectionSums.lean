/- SectionSums: the walk, the plain law, the row. -/
import Derived.Test.YtchaegfdcdlfaaaB1
import Derived.Test.YtchaegfdcdlfaaaB2
import Derived.WalkLawsBesides
import Derived.StillTailTactics
import Derived.Test.YtchaegfdcdlfaaaRows
import Derived.WalkKit
import Derived.ProofKit
import Derived.OpenShut
import Derived.ShutString
import Derived.ChangeOld
import Derived.Below
import Derived.SizedLaws
import Derived.Test.YtchaegfdcdlfaaaWSized

-- Printed for this session by a program of its own over an edited copy of the translation's print.

-- Printed for this session by a program of its own over an edited copy of the translation's print.

-- Printed for this session by a program of its own over an edited copy of the translation's print.

namespace Go.Proofs.Ytchaegfdcdlfaaa.X
open Go.RowKit Go.Proofs.YtchaegfdcdlfaaaW.PrintWords Go.Proofs.YtchaegfdcdlfaaaW.PrintLast Go.Proofs.YtchaegfdcdlfaaaW.PrintMore
attribute [local go_sem] max2_int min2_int max_two min_two max_three min_three max_four min_four   -- for this text's walks alone
set_option linter.unusedVariables false
set_option linter.unusedSimpArgs false

/-! ### rolodexlaw02_SectionOne: function 10 -/
def rolodexlaw02_SectionOne.j0 : Nat → List Int → Int → Int → Bool → List Int → Bool → List Int → Option (Bool)
  | 0, _, _, _, _, _, _, _ => none
  | k + 1, x1, x2, x3, x9, x10, x57, x98 => if x57 = true then (some x9) else (if x2 > 0 then (if x2 < (wrap64 ((wrap64 ((x10.length : Int) - 4)) - (x1.length : Int))) then (some true) else (if x98.length + x10.length < 140737488355328 then ((some (x98 ++ x10 : List Int)).bind fun y323 => (if 0 ≤ x2 then (if x2 < (y323.length : Int) then ((section_Open.f k (y323.set (x2 : Int).toNat x3)).bind fun bt327 => (if bt327.2.2.1 = 0 then (if bt327.2.2.2 = 3 then (some true) else (if bt327.2.2.2 = 2 then (some (x2 == 0)) else (some false))) else (some false))) else (none)) else (none))) else (none))) else (if x98.length + x10.length < 140737488355328 then ((some (x98 ++ x10 : List Int)).bind fun y333 => (if 0 ≤ x2 then (if x2 < (y333.length : Int) then ((section_Open.f k (y333.set (x2 : Int).toNat x3)).bind fun bt337 => (if bt337.2.2.1 = 0 then (if bt337.2.2.2 = 3 then (some true) else (if bt337.2.2.2 = 2 then (some (x2 == 0)) else (some false))) else (some false))) else (none)) else (none))) else (none)))
def rolodexlaw02_SectionOne.f (k : Nat) (a0 : Int) (l1 : List Int) (a2 : Int) (a3 : Int) : Option (Bool) := (rolodexlaw02_awake.f k).bind fun t317 => ((section_Pack.f k a0 l1).bind fun bt318 => (if t317 = true then (if bt318.2 = true then (if (l1.length : Int) > 300 then (rolodexlaw02_SectionOne.j0 k l1 a2 a3 t317 bt318.1 true ([] : List Int)) else (if (bt318.1.length : Int) < 6 then (rolodexlaw02_SectionOne.j0 k l1 a2 a3 t317 bt318.1 true ([] : List Int)) else (if a2 < 0 then (rolodexlaw02_SectionOne.j0 k l1 a2 a3 t317 bt318.1 true ([] : List Int)) else (if a2 ≥ (bt318.1.length : Int) then (rolodexlaw02_SectionOne.j0 k l1 a2 a3 t317 bt318.1 true ([] : List Int)) else (if 0 ≤ a2 then (if a2 < (bt318.1.length : Int) then (rolodexlaw02_SectionOne.j0 k l1 a2 a3 t317 bt318.1 ((rd bt318.1 a2) == a3) ([] : List Int)) else (none)) else (none)))))) else (rolodexlaw02_SectionOne.j0 k l1 a2 a3 t317 bt318.1 true ([] : List Int))) else (rolodexlaw02_SectionOne.j0 k l1 a2 a3 t317 bt318.1 true ([] : List Int))))
theorem rolodexlaw02_SectionOne.mono_l : ∀ k, (∀ y0 y1 y2 y3 y4 y5 y6, LeO (rolodexlaw02_SectionOne.j0 k y0 y1 y2 y3 y4 y5 y6) (rolodexlaw02_SectionOne.j0 (k + 1) y0 y1 y2 y3 y4 y5 y6))
  | 0 => fun _ _ _ _ _ _ _ r h => by simp [rolodexlaw02_SectionOne.j0] at h
  | k + 1 => by
    have ih0 := rolodexlaw02_SectionOne.mono_l k
    · intro y0 y1 y2 y3 y4 y5 y6
      unfold rolodexlaw02_SectionOne.j0
      repeat' first
      | (with_reducible exact ih0 _ _ _ _ _ _ _)
      | (with_reducible exact rolodexlaw02_awake.mono _)
      | (with_reducible exact section_Open.mono _ _)
      | (with_reducible exact section_Pack.mono _ _ _)
      | (with_reducible exact LeO.refl _)
      | (with_reducible exact LeO.none _)
      | (with_reducible refine LeO.ite ?_ ?_)
      | (with_reducible refine LeO.bind ?_ (fun _ => ?_))
      | exact ih0 _ _ _ _ _ _ _
      | exact rolodexlaw02_awake.mono _
      | exact section_Open.mono _ _
      | exact section_Pack.mono _ _ _
      | exact LeO.none _
      | refine LeO.ite ?_ ?_
      | refine LeO.bind ?_ (fun _ => ?_)
theorem rolodexlaw02_SectionOne.mono : ∀ a0 a1 a2 a3 k, LeO (rolodexlaw02_SectionOne.f k a0 a1 a2 a3) (rolodexlaw02_SectionOne.f (k + 1) a0 a1 a2 a3) := by
  intro a0 a1 a2 a3 k
  have ih0 := rolodexlaw02_SectionOne.mono_l k
  unfold rolodexlaw02_SectionOne.f
  repeat' first
      | (with_reducible exact ih0 _ _ _ _ _ _ _)
      | (with_reducible exact rolodexlaw02_awake.mono _)
      | (with_reducible exact section_Open.mono _ _)
      | (with_reducible exact section_Pack.mono _ _ _)
      | (with_reducible exact LeO.refl _)
      | (with_reducible exact LeO.none _)
      | (with_reducible refine LeO.ite ?_ ?_)
      | (with_reducible refine LeO.bind ?_ (fun _ => ?_))
      | exact ih0 _ _ _ _ _ _ _
      | exact rolodexlaw02_awake.mono _
      | exact section_Open.mono _ _
      | exact section_Pack.mono _ _ _
      | exact LeO.none _
      | refine LeO.ite ?_ ?_
      | refine LeO.bind ?_ (fun _ => ?_)
set_option maxHeartbeats 8000000 in
set_option maxRecDepth 100000 in
theorem rolodexlaw02_SectionOne.calls (k : Nat) (a0 : Int) (A1 : Option Addr) (c1 : Nat) (l1 : List Int) (a2 : Int) (a3 : Int) (r : Bool) (w : World) (hr1 : Kd.C (Kd.int .u8) w A1 l1.length l1) (hc1 : l1.length ≤ c1) (h : rolodexlaw02_SectionOne.f k a0 l1 a2 a3 = some r) :
    Calls Try.prog 10 #[.int .i64 a0, .slice A1 l1.length c1, .int .i64 a2, .int .u8 a3] w fun e w' => e = .returned (.bool r) ∧ Below w.heap.size w w' := by
  have HR1 := Aside0.mk hr1
  have HC1 := Aside0.mk hc1
  clear hr1 hc1
  have HB := Aside0.mk (Below.refl w.heap.size w)
  have H : ((rolodexlaw02_awake.f k).bind fun t317 => ((section_Pack.f k a0 l1).bind fun bt318 => (if t317 = true then (if bt318.2 = true then (if (l1.length : Int) > 300 then (rolodexlaw02_SectionOne.j0 k l1 a2 a3 t317 bt318.1 true ([] : List Int)) else (if (bt318.1.length : Int) < 6 then (rolodexlaw02_SectionOne.j0 k l1 a2 a3 t317 bt318.1 true ([] : List Int)) else (if a2 < 0 then (rolodexlaw02_SectionOne.j0 k l1 a2 a3 t317 bt318.1 true ([] : List Int)) else (if a2 ≥ (bt318.1.length : Int) then (rolodexlaw02_SectionOne.j0 k l1 a2 a3 t317 bt318.1 true ([] : List Int)) else (if 0 ≤ a2 then (if a2 < (bt318.1.length : Int) then (rolodexlaw02_SectionOne.j0 k l1 a2 a3 t317 bt318.1 ((rd bt318.1 a2) == a3) ([] : List Int)) else (none)) else (none)))))) else (rolodexlaw02_SectionOne.j0 k l1 a2 a3 t317 bt318.1 true ([] : List Int))) else (rolodexlaw02_SectionOne.j0 k l1 a2 a3 t317 bt318.1 true ([] : List Int))))) = some r := h
  clear h
  replace H := Option.bind_eq_some_iff.mp H
  obtain ⟨t317, A50, H⟩ := H
  replace H : ((section_Pack.f k a0 l1).bind fun bt318 => (if t317 = true then (if bt318.2 = true then (if (l1.length : Int) > 300 then (rolodexlaw02_SectionOne.j0 k l1 a2 a3 t317 bt318.1 true ([] : List Int)) else (if (bt318.1.length : Int) < 6 then (rolodexlaw02_SectionOne.j0 k l1 a2 a3 t317 bt318.1 true ([] : List Int)) else (if a2 < 0 then (rolodexlaw02_SectionOne.j0 k l1 a2 a3 t317 bt318.1 true ([] : List Int)) else (if a2 ≥ (bt318.1.length : Int) then (rolodexlaw02_SectionOne.j0 k l1 a2 a3 t317 bt318.1 true ([] : List Int)) else (if 0 ≤ a2 then (if a2 < (bt318.1.length : Int) then (rolodexlaw02_SectionOne.j0 k l1 a2 a3 t317 bt318.1 ((rd bt318.1 a2) == a3) ([] : List Int)) else (none)) else (none)))))) else (rolodexlaw02_SectionOne.j0 k l1 a2 a3 t317 bt318.1 true ([] : List Int))) else (rolodexlaw02_SectionOne.j0 k l1 a2 a3 t317 bt318.1 true ([] : List Int)))) = some r := H
  have A5 := Aside0.mk A50
  clear A50
  replace H := Option.bind_eq_some_iff.mp H
  obtain ⟨⟨t318, t321⟩, A60, H⟩ := H
  replace H : (if t317 = true then (if t321 = true then (if (l1.length : Int) > 300 then (rolodexlaw02_SectionOne.j0 k l1 a2 a3 t317 t318 true ([] : List Int)) else (if (t318.length : Int) < 6 then (rolodexlaw02_SectionOne.j0 k l1 a2 a3 t317 t318 true ([] : List Int)) else (if a2 < 0 then (rolodexlaw02_SectionOne.j0 k l1 a2 a3 t317 t318 true ([] : List Int)) else (if a2 ≥ (t318.length : Int) then (rolodexlaw02_SectionOne.j0 k l1 a2 a3 t317 t318 true ([] : List Int)) else (if 0 ≤ a2 then (if a2 < (t318.length : Int) then (rolodexlaw02_SectionOne.j0 k l1 a2 a3 t317 t318 ((rd t318 a2) == a3) ([] : List Int)) else (none)) else (none)))))) else (rolodexlaw02_SectionOne.j0 k l1 a2 a3 t317 t318 true ([] : List Int))) else (rolodexlaw02_SectionOne.j0 k l1 a2 a3 t317 t318 true ([] : List Int))) = some r := H
  have A6 := Aside0.mk A60
  clear A60
  have HC7 := Aside0.mk H
  clear H
  go_enter Try.func10, Try.ntmps10
  go_upto_region 3 with (first | ((with_reducible refine gate_callee (f := 41) rfl ?_); refine goesL_ (some 17) rfl rfl Try.func41 (by kernel_rfl) rfl #[] rfl (by (try simp only [List.map_toArray, List.map_cons, List.map_nil]); first | done | rfl | (simp only [List.length_drop, List.length_take]; rfl)) ?_; (with_reducible refine (rolodexlaw02_awake.calls k  t317 _ A5.out).mono ?_); rintro e w8 ⟨rfl, hb⟩; refine ⟨_, rfl, ?_⟩; have n0_ := Aside0.mk (below_step (by repeat (first | (with_reducible first | exact HB.out | apply below_alloc | apply pw_below_drewN | apply below_drew1) | exact HB.out)) hb); clear HB; have HB := n0_; clear n0_; (try clear hb); (try clear hb2); (try clear hk); (try clear hi)) | ((with_reducible refine gate_callee (f := 42) rfl ?_); refine goesL_ (some 21) rfl rfl Try.func42 (by kernel_rfl) rfl #[.int .i64 a0, .slice A1 l1.length c1] rfl (by (try simp only [List.map_toArray, List.map_cons, List.map_nil]); first | done | rfl | (simp only [List.length_drop, List.length_take]; rfl)) ?_; (with_reducible refine (section_Pack.calls k a0 (fun k_ => k_ < w.heap.size) _ _ l1 t318 t321 _ ?side1 A6.out).mono ?_); (case side1 => exact Kd.V_mk HC1.out (Kd.F_below (Kd.C_F (Kd.heap_int .u8) HR1.out) (by repeat (first | (with_reducible first | exact HB.out | apply below_alloc | apply pw_below_drewN | apply below_drew1) | exact HB.out)))); rintro e w9 ⟨v319, rfl, ho0, hb⟩; refine ⟨_, rfl, ?_⟩; have n0_ := Aside0.mk (Kd.R_lower (Kd.R_mono (ok' := fun k_ => True) ho0 (fun _ hk_ => trivial)) (below_size (by repeat (first | (with_reducible first | exact HB.out | apply below_alloc | apply pw_below_drewN | apply below_drew1) | exact HB.out)))); have n1_ := Aside0.mk (below_step (by repeat (first | (with_reducible first | exact HB.out | apply below_alloc | apply pw_below_drewN | apply below_drew1) | exact HB.out)) hb); clear HB; have HO320 := n0_; have HB := n1_; clear n0_ n1_; (try clear hb); (try clear hb2); (try clear hk); (try clear hi); (try clear ho0)))
  (try simp only [Act.put, List.setIfInBounds_toArray, List.set_cons_zero, List.set_cons_succ])
  go_cut [57] (fun v57 wc => ∃ (kq : Nat) (x57_6 : Bool), v57 = .bool x57_6 ∧ Aside0 (rolodexlaw02_SectionOne.j0 kq l1 a2 a3 t317 t318 x57_6 ([] : List Int) = some r) ∧ Aside0 (kq ≤ k) ∧ Aside0 (Kd.R (Kd.int .u8) 5 wc w.heap.size (fun k_ => some k_ ≠ ((.slice none 0 0) : Value).ownBlock) v319 t318) ∧ Aside0 (Kd.R (Kd.int .u8) 5 wc w.heap.size (fun k_ => some k_ ≠ (v319 : Value).ownBlock) (.slice none 0 0) ([] : List Int)) ∧ Aside0 (Below w.heap.size w wc))
  case first =>
    have H := HC7.out
    clear HC7
    by_cases c10 : t317 = true
    · subst c10
      have H1 : (if t321 = true then (if (l1.length : Int) > 300 then (rolodexlaw02_SectionOne.j0 k l1 a2 a3 true t318 true ([] : List Int)) else (if (t318.length : Int) < 6 then (rolodexlaw02_SectionOne.j0 k l1 a2 a3 true t318 true ([] : List Int)) else (if a2 < 0 then (rolodexlaw02_SectionOne.j0 k l1 a2 a3 true t318 true ([] : List Int)) else (if a2 ≥ (t318.length : Int) then (rolodexlaw02_SectionOne.j0 k l1 a2 a3 true t318 true ([] : List Int)) else (if 0 ≤ a2 then (if a2 < (t318.length : Int) then (rolodexlaw02_SectionOne.j0 k l1 a2 a3 true t318 ((rd t318 a2) == a3) ([] : List Int)) else (none)) else (none)))))) else (rolodexlaw02_SectionOne.j0 k l1 a2 a3 true t318 true ([] : List Int))) = some r := by rw [if_pos rfl] at H; exact H
      clear H
      have H := H1
      clear H1
      by_cases c11 : t321 = true
      · subst c11
        have H1 : (if (l1.length : Int) > 300 then (rolodexlaw02_SectionOne.j0 k l1 a2 a3 true t318 true ([] : List Int)) else (if (t318.length : Int) < 6 then (rolodexlaw02_SectionOne.j0 k l1 a2 a3 true t318 true ([] : List Int)) else (if a2 < 0 then (rolodexlaw02_SectionOne.j0 k l1 a2 a3 true t318 true ([] : List Int)) else (if a2 ≥ (t318.length : Int) then (rolodexlaw02_SectionOne.j0 k l1 a2 a3 true t318 true ([] : List Int)) else (if 0 ≤ a2 then (if a2 < (t318.length : Int) then (rolodexlaw02_SectionOne.j0 k l1 a2 a3 true t318 ((rd t318 a2) == a3) ([] : List Int)) else (none)) else (none)))))) = some r := by rw [if_pos rfl] at H; exact H
        clear H
        have H := H1
        clear H1
        by_cases c12 : (l1.length : Int) > 300
        · rw [if_pos c12] at H
          have c12b0 : decide (300 < (l1.length : Int)) = true := decide_eq_true c12
          have c12b1 : decide (300 < l1.length) = true := decide_eq_true (by omega)
          clear c12
          (first | rw [c12b0] | (simp only [i64_w, i32_w]; rw [c12b0]) | skip)
          have H' := Aside0.mk H
          clear H
          go_wp2
          go_meet
          case rel => exact ⟨_, (true), (by first | rfl | (simp; done) | (simp [*]; done)), H', ⟨by first | omega | exact Nat.le_refl _⟩, ⟨by (with_reducible repeat (first | apply Kd.R_alloc | apply Kd.R_drewN | apply Kd.R_drew)); exact Kd.R_mono HO320.out (fun _ hk => (by simp [Value.ownBlock]))⟩, ⟨by first | exact Kd.R_nil _ _ _ _ _ | exact Kd.N_nil _ _ _ _ _ | exact Kd.V_nil _ _ _ _ _ | exact Kd.Q_nil _ _ _ _ _ | exact Kd.S_nil _ _ _ _ _⟩, ⟨by repeat (first | (with_reducible first | exact HB.out | apply below_alloc | apply pw_below_drewN | apply below_drew1) | exact HB.out)⟩⟩
        · rw [if_neg c12] at H
          have c12b0 : decide (300 < (l1.length : Int)) = false := decide_eq_false c12
          have c12b1 : decide (300 < l1.length) = false := decide_eq_false (by omega)
          clear c12
          (first | rw [c12b0] | (simp only [i64_w, i32_w]; rw [c12b0]) | skip)
          by_cases c13 : (t318.length : Int) < 6
          · rw [if_pos c13] at H
            have c13b0 : decide ((t318.length : Int) < 6) = true := decide_eq_true c13
            have c13b1 : decide (t318.length < 6) = true := decide_eq_true (by omega)
            clear c13
            have H' := Aside0.mk H
            clear H
            obtain ⟨Ao14, co14, eo14⟩ := Kd.R_slice HO320.out
            subst eo14
            go_wp2
            go_meet
            case rel => exact ⟨_, (true), (by first | rfl | (simp; done) | (simp [*]; done)), H', ⟨by first | omega | exact Nat.le_refl _⟩, ⟨by (with_reducible repeat (first | apply Kd.R_alloc | apply Kd.R_drewN | apply Kd.R_drew)); exact Kd.R_mono HO320.out (fun _ hk => (by simp [Value.ownBlock]))⟩, ⟨by first | exact Kd.R_nil _ _ _ _ _ | exact Kd.N_nil _ _ _ _ _ | exact Kd.V_nil _ _ _ _ _ | exact Kd.Q_nil _ _ _ _ _ | exact Kd.S_nil _ _ _ _ _⟩, ⟨by repeat (first | (with_reducible first | exact HB.out | apply below_alloc | apply pw_below_drewN | apply below_drew1) | exact HB.out)⟩⟩
          · rw [if_neg c13] at H
            have c13b0 : decide ((t318.length : Int) < 6) = false := decide_eq_false c13
            have c13b1 : decide (t318.length < 6) = false := decide_eq_false (by omega)
            clear c13
            by_cases c15 : a2 < 0
            · rw [if_pos c15] at H
              have c15b0 : decide (a2 < 0) = true := decide_eq_true c15
              clear c15
              have H' := Aside0.mk H
              clear H
              obtain ⟨Ao16, co16, eo16⟩ := Kd.R_slice HO320.out
              subst eo16
              go_wp2
              go_meet
              case rel => exact ⟨_, (true), (by first | rfl | (simp; done) | (simp [*]; done)), H', ⟨by first | omega | exact Nat.le_refl _⟩, ⟨by (with_reducible repeat (first | apply Kd.R_alloc | apply Kd.R_drewN | apply Kd.R_drew)); exact Kd.R_mono HO320.out (fun _ hk => (by simp [Value.ownBlock]))⟩, ⟨by first | exact Kd.R_nil _ _ _ _ _ | exact Kd.N_nil _ _ _ _ _ | exact Kd.V_nil _ _ _ _ _ | exact Kd.Q_nil _ _ _ _ _ | exact Kd.S_nil _ _ _ _ _⟩, ⟨by repeat (first | (with_reducible first | exact HB.out | apply below_alloc | apply pw_below_drewN | apply below_drew1) | exact HB.out)⟩⟩
            · rw [if_neg c15] at H
              have c15b0 : decide (a2 < 0) = false := decide_eq_false c15
              clear c15
              by_cases c17 : a2 ≥ (t318.length : Int)
              · rw [if_pos c17] at H
                have c17b0 : decide ((t318.length : Int) ≤ a2) = true := decide_eq_true c17
                clear c17
                have H' := Aside0.mk H
                clear H
                obtain ⟨Ao18, co18, eo18⟩ := Kd.R_slice HO320.out
                subst eo18
                go_wp2
                go_meet
                case rel => exact ⟨_, (true), (by first | rfl | (simp; done) | (simp [*]; done)), H', ⟨by first | omega | exact Nat.le_refl _⟩, ⟨by (with_reducible repeat (first | apply Kd.R_alloc | apply Kd.R_drewN | apply Kd.R_drew)); exact Kd.R_mono HO320.out (fun _ hk => (by simp [Value.ownBlock]))⟩, ⟨by first | exact Kd.R_nil _ _ _ _ _ | exact Kd.N_nil _ _ _ _ _ | exact Kd.V_nil _ _ _ _ _ | exact Kd.Q_nil _ _ _ _ _ | exact Kd.S_nil _ _ _ _ _⟩, ⟨by repeat (first | (with_reducible first | exact HB.out | apply below_alloc | apply pw_below_drewN | apply below_drew1) | exact HB.out)⟩⟩
              · rw [if_neg c17] at H
                have c17b0 : decide ((t318.length : Int) ≤ a2) = false := decide_eq_false c17
                clear c17
                by_cases c19 : 0 ≤ a2
                · rw [if_pos c19] at H
                  have c19b0 : decide (0 ≤ a2) = true := decide_eq_true c19
                  clear c19
                  by_cases c20 : a2 < (t318.length : Int)
                  · rw [if_pos c20] at H
                    have c20b0 : decide (a2 < (t318.length : Int)) = true := decide_eq_true c20
                    clear c20
                    have H' := Aside0.mk H
                    clear H
                    obtain ⟨Ao21, co21, eo21⟩ := Kd.R_slice HO320.out
                    subst eo21
                    have p322 : 0 ≤ (a2 : Int) := of_decide_eq_true (by first | (with_reducible assumption) | assumption)
                    have q322 : a2 < (t318.length : Int) := of_decide_eq_true (by first | (with_reducible assumption) | assumption)
                    obtain ⟨ad322, e322, hx322_0⟩ := Kd.at_int (Kd.R_reads' HO320.out).2.2 a2 p322 q322
                    cases e322
                    replace p322 := eq_true p322
                    replace q322 := eq_true q322
                    go_wp2
                    go_meet
                    case rel => exact ⟨_, (((rd t318 a2) == a3)), (by first | rfl | (simp; done) | (simp [*]; done)), H', ⟨by first | omega | exact Nat.le_refl _⟩, ⟨by (with_reducible repeat (first | apply Kd.R_alloc | apply Kd.R_drewN | apply Kd.R_drew)); exact Kd.R_mono HO320.out (fun _ hk => (by simp [Value.ownBlock]))⟩, ⟨by first | exact Kd.R_nil _ _ _ _ _ | exact Kd.N_nil _ _ _ _ _ | exact Kd.V_nil _ _ _ _ _ | exact Kd.Q_nil _ _ _ _ _ | exact Kd.S_nil _ _ _ _ _⟩, ⟨by repeat (first | (with_reducible first | exact HB.out | apply below_alloc | apply pw_below_drewN | apply below_drew1) | exact HB.out)⟩⟩
                  · rw [if_neg c20] at H
                    exact absurd H (by simp)
                · rw [if_neg c19] at H
                  exact absurd H (by simp)
      · replace c11 := Bool.eq_false_iff.mpr c11
        subst c11
        have H1 : (rolodexlaw02_SectionOne.j0 k l1 a2 a3 true t318 true ([] : List Int)) = some r := by rw [if_neg (show ¬ (false = true) by decide)] at H; exact H
        clear H
        have H := H1
        clear H1
        have H' := Aside0.mk H
        clear H
        go_wp2
        go_meet
        case rel => exact ⟨_, (true), (by first | rfl | (simp; done) | (simp [*]; done)), H', ⟨by first | omega | exact Nat.le_refl _⟩, ⟨by (with_reducible repeat (first | apply Kd.R_alloc | apply Kd.R_drewN | apply Kd.R_drew)); exact Kd.R_mono HO320.out (fun _ hk => (by simp [Value.ownBlock]))⟩, ⟨by first | exact Kd.R_nil _ _ _ _ _ | exact Kd.N_nil _ _ _ _ _ | exact Kd.V_nil _ _ _ _ _ | exact Kd.Q_nil _ _ _ _ _ | exact Kd.S_nil _ _ _ _ _⟩, ⟨by repeat (first | (with_reducible first | exact HB.out | apply below_alloc | apply pw_below_drewN | apply below_drew1) | exact HB.out)⟩⟩
    · replace c10 := Bool.eq_false_iff.mpr c10
      subst c10
      have H1 : (rolodexlaw02_SectionOne.j0 k l1 a2 a3 false t318 true ([] : List Int)) = some r := by rw [if_neg (show ¬ (false = true) by decide)] at H; exact H
      clear H
      have H := H1
      clear H1
      have H' := Aside0.mk H
      clear H
      go_wp2
      go_meet
      case rel => exact ⟨_, (true), (by first | rfl | (simp; done) | (simp [*]; done)), H', ⟨by first | omega | exact Nat.le_refl _⟩, ⟨by (with_reducible repeat (first | apply Kd.R_alloc | apply Kd.R_drewN | apply Kd.R_drew)); exact Kd.R_mono HO320.out (fun _ hk => (by simp [Value.ownBlock]))⟩, ⟨by first | exact Kd.R_nil _ _ _ _ _ | exact Kd.N_nil _ _ _ _ _ | exact Kd.V_nil _ _ _ _ _ | exact Kd.Q_nil _ _ _ _ _ | exact Kd.S_nil _ _ _ _ _⟩, ⟨by repeat (first | (with_reducible first | exact HB.out | apply below_alloc | apply pw_below_drewN | apply below_drew1) | exact HB.out)⟩⟩
  case rest =>
    clear HC7
    try clear c1
    try clear c2
    try clear p2
    try clear p3
    try clear q3
    try clear hx3
    try clear c4
    try clear c10
    try clear c11
    try clear c12
    try clear c12b0
    try clear c12b1
    try clear c13
    try clear c13b0
    try clear c13b1
    try clear c15
    try clear c15b0
    try clear c17
    try clear c17b0
    try clear c19
    try clear c19b0
    try clear c20
    try clear c20b0
    try clear hx322_0
    try clear p322
    try clear q322
    obtain ⟨kq, x57_6, rfl, HA, HJ6, HO_10, HO_98, HB⟩ := hcut
    cases kq with
    | zero => exact absurd HA.out (by simp [rolodexlaw02_SectionOne.j0])
    | succ kj6 =>
      have H := HA.out
      clear HA
      simp only [rolodexlaw02_SectionOne.j0] at H
      by_cases c22 : x57_6 = true
      · subst c22
        have H1 : (some t317) = some r := by rw [if_pos rfl] at H; exact H
        clear H
        have H := H1
        clear H1
        obtain rfl := Option.some.inj H
        go_wp2
        go_ret
        exact ⟨by first | rfl | (simp [errW_none, errW_some] <;> rfl) | (simp [*, errW_none, errW_some] <;> rfl), by repeat (first | (with_reducible first | exact HB.out | apply below_alloc | apply pw_below_drewN | apply below_drew1) | exact HB.out)⟩
      · replace c22 := Bool.eq_false_iff.mpr c22
        subst c22
        have H1 : (if a2 > 0 then (if a2 < (wrap64 ((wrap64 ((t318.length : Int) - 4)) - (l1.length : Int))) then (some true) else (if ([] : List Int).length + t318.length < 140737488355328 then ((some (([] : List Int) ++ t318 : List Int)).bind fun y323 => (if 0 ≤ a2 then (if a2 < (y323.length : Int) then ((section_Open.f kj6 (y323.set (a2 : Int).toNat a3)).bind fun bt327 => (if bt327.2.2.1 = 0 then (if bt327.2.2.2 = 3 then (some true) else (if bt327.2.2.2 = 2 then (some (a2 == 0)) else (some false))) else (some false))) else (none)) else (none))) else (none))) else (if ([] : List Int).length + t318.length < 140737488355328 then ((some (([] : List Int) ++ t318 : List Int)).bind fun y333 => (if 0 ≤ a2 then (if a2 < (y333.length : Int) then ((section_Open.f kj6 (y333.set (a2 : Int).toNat a3)).bind fun bt337 => (if bt337.2.2.1 = 0 then (if bt337.2.2.2 = 3 then (some true) else (if bt337.2.2.2 = 2 then (some (a2 == 0)) else (some false))) else (some false))) else (none)) else (none))) else (none))) = some r := by rw [if_neg (show ¬ (false = true) by decide)] at H; exact H
        clear H
        have H := H1
        clear H1
        by_cases c23 : a2 > 0
        · rw [if_pos c23] at H
          have c23b0 : decide (0 < a2) = true := decide_eq_true c23
          clear c23
          by_cases c24 : a2 < (wrap64 ((wrap64 ((t318.length : Int) - 4)) - (l1.length : Int)))
          · rw [if_pos c24] at H
            have c24b0 : decide (a2 < (wrap64 ((wrap64 ((t318.length : Int) - 4)) - (l1.length : Int)))) = true := decide_eq_true c24
            clear c24
            obtain rfl := Option.some.inj H
            obtain ⟨Ao25, co25, eo25⟩ := Kd.R_slice HO_10.out
            subst eo25
            go_wp2
            go_ret
            exact ⟨by first | rfl | (simp [errW_none, errW_some] <;> rfl) | (simp [*, errW_none, errW_some] <;> rfl), by repeat (first | (with_reducible first | exact HB.out | apply below_alloc | apply pw_below_drewN | apply below_drew1) | exact HB.out)⟩
          · rw [if_neg c24] at H
            have c24b0 : decide (a2 < (wrap64 ((wrap64 ((t318.length : Int) - 4)) - (l1.length : Int)))) = false := decide_eq_false c24
            clear c24
            by_cases c26 : ([] : List Int).length + t318.length < 140737488355328
            · rw [if_pos c26] at H
              have LMc26 := Aside0.mk c26
              clear c26
              obtain ⟨y323, hy323⟩ : ∃ y_ : List Int, y_ = (([] : List Int) ++ t318) := ⟨_, rfl⟩
              replace H : (if 0 ≤ a2 then (if a2 < (y323.length : Int) then ((section_Open.f kj6 (y323.set (a2 : Int).toNat a3)).bind fun bt327 => (if bt327.2.2.1 = 0 then (if bt327.2.2.2 = 3 then (some true) else (if bt327.2.2.2 = 2 then (some (a2 == 0)) else (some false))) else (some false))) else (none)) else (none)) = some r := by first | (rw [hy323]; with_reducible exact H) | (have H2_ := (Option.bind_some _ _).symm.trans H; rw [hy323]; with_reducible exact H2_) | (have H2_ := (Option.bind_some _ _).symm.trans H; with_reducible exact H2_) | with_reducible exact H | (rw [hy323]; exact H) | exact H
              have Ny323 := Aside0.mk hy323
              clear hy323
              by_cases c27 : 0 ≤ a2
              · rw [if_pos c27] at H
                have c27b0 : decide (0 ≤ a2) = true := decide_eq_true c27
                clear c27
                by_cases c28 : a2 < (y323.length : Int)
                · rw [if_pos c28] at H
                  have c28b0 : decide (a2 < (y323.length : Int)) = true := decide_eq_true c28
                  clear c28
                  obtain ⟨y326, hy326⟩ : ∃ y_ : List Int, y_ = (y323.set (a2 : Int).toNat a3) := ⟨_, rfl⟩
                  replace H : ((section_Open.f kj6 y326).bind fun bt327 => (if bt327.2.2.1 = 0 then (if bt327.2.2.2 = 3 then (some true) else (if bt327.2.2.2 = 2 then (some (a2 == 0)) else (some false))) else (some false))) = some r := by first | (rw [hy326]; with_reducible exact H) | (have H2_ := (Option.bind_some _ _).symm.trans H; rw [hy326]; with_reducible exact H2_) | (have H2_ := (Option.bind_some _ _).symm.trans H; with_reducible exact H2_) | with_reducible exact H | (rw [hy326]; exact H) | exact H
                  have Ny326 := Aside0.mk hy326
                  clear hy326
                  replace H := Option.bind_eq_some_iff.mp H
                  obtain ⟨⟨t327, t328, t329, t330⟩, A300, H⟩ := H
                  replace H : (if t329 = 0 then (if t330 = 3 then (some true) else (if t330 = 2 then (some (a2 == 0)) else (some false))) else (some false)) = some r := H
                  have A30 := Aside0.mk A300
                  clear A300
                  by_cases c31 : t329 = 0
                  · rw [if_pos c31] at H
                    have c31b0 : (t329 == 0) = true := beq_iff_eq.mpr c31
                    have c31b1 : (t329 != 0) = false := bne_eq_false_iff_eq.mpr c31
                    clear c31
                    by_cases c32 : t330 = 3
                    · rw [if_pos c32] at H
                      have c32b0 : (t330 == 3) = true := beq_iff_eq.mpr c32
                      have c32b1 : (t330 != 3) = false := bne_eq_false_iff_eq.mpr c32
                      clear c32
                      obtain rfl := Option.some.inj H
                      obtain ⟨Ao33, co33, eo33⟩ := Kd.R_slice HO_10.out
                      subst eo33
                      go_wp2_with (first | ((with_reducible refine gate_builtin (b := .append) (xs := #[.const (.slice none 0 0), .tmp 71]) rfl ?_); (try (refine gate_guard (by rfl) ?_; dsimp only)); at_builtin; refine Kd.R_append_rows (Kd.int .u8) (w0 := w) w.heap.size rfl _ _ 40 5 (.int .u8 0) 1 rfl Try.underlying40 info5 rfl (by decide) (by omega) (.slice none 0 0) ([] : List Int) t318 _ _ _ (fun k_ => some k_ ≠ (.slice Ao33 t318.length co33 : Value).ownBlock) (fun _ => False) rfl rfl ?aO ?aR (fun _ _ h => h) (fun _ h => h.elim) ?aF ?aB ?aS ?aL ?_; (case aR => repeat (first | exact (Kd.R_reads' HO_10.out).2.2 | (with_reducible refine Kd.C_alloc ?_ _) | (with_reducible refine Kd.C_drewN ?_ _) | (with_reducible refine Kd.C_drew ?_))); (case aB => exact (by repeat (first | (with_reducible first | exact HB.out | apply below_alloc | apply pw_below_drewN | apply below_drew1) | exact HB.out))); (case aF => exact (fun k_ hk => Kd.fresh' (Kd.R_lt (by (with_reducible repeat (first | apply Kd.R_alloc | apply Kd.R_drewN | apply Kd.R_drew)); exact HO_10.out)) k_ hk)); (case aO => exact (by (with_reducible repeat (first | apply Kd.R_alloc | apply Kd.R_drewN | apply Kd.R_drew)); exact HO_98.out)); (case aS => exact (below_size (by repeat (first | (with_reducible first | exact HB.out | apply below_alloc | apply pw_below_drewN | apply below_drew1) | exact HB.out)))); (case aL => have := LMc26.out; omega); intro v324 w34 ho hb hg hat; rw [← Ny323.out] at ho; have n0_ := Aside0.mk (Kd.R_after (ok := (fun _ => True)) (by (with_reducible repeat (first | apply Kd.R_alloc | apply Kd.R_drewN | apply Kd.R_drew)); exact Kd.R_mono HO_10.out (fun _ hk => ⟨trivial, hk⟩)) hg hat); have n1_ := Aside0.mk (hb); have n2_ := Aside0.mk (ho); clear HO_10; clear HB; clear HO_98; have HO_10 := n0_; have HB := n1_; have HO325 := n2_; clear n0_ n1_ n2_; clear ho hb hg hat; have p29 : 0 ≤ (a2 : Int) := of_decide_eq_true (by first | (with_reducible assumption) | assumption); have q29 : (a2 : Int) < ((y323.length : Int) : Int) := of_decide_eq_true (by first | (with_reducible assumption) | assumption); obtain ⟨go29, co29, eo29, gb29, gl29, cl29, HG29⟩ := Kd.R_form HO325.out (by omega); (first | cases eo29 | (injection eo29 with ea_ en_ ec_; (first | subst ea_ | (injection ea_ with ea_; subst ea_)); subst ec_; clear en_)); have GB29 := Aside0.mk gb29; have GG29 := Aside0.mk HG29; clear gb29 gl29 HG29; obtain ⟨hx29_0, hf29_0⟩ := Kd.R_celln 0 HO325.out (a2 : Int) p29 q29; replace p29 := eq_true p29; replace q29 := eq_true q29; obtain ⟨hy35_, hz35_⟩ := Kd.R_celln 0 HO325.out (a2 : Int) (of_decide_eq_true (by first | (with_reducible assumption) | assumption)) (of_decide_eq_true (by first | (with_reducible assumption) | assumption)); have HP35 := Kd.R_putg HO325.out (a2 : Int) a3) | ((with_reducible refine gate_store (t := 5) (p := 76) rfl ?_); refine store_event (t := 5) (p := 76) (v := ?vo_w36) (w1 := (w34.setCell ⟨go29, (a2 : Int).toNat, none⟩ (.int .u8 a3))) ?hg ?ho ?hn ?hr ?_; (case ho => rfl); (case hg => rfl); (case hn => rfl); (case hr => first | (go_simp; done) | (go_simp; rfl)); intro w36 hw; have hg : w34.grownBy w36 (some go29) := (by rw [hw]; exact HP35.2); have hp_ : Kd.R (Kd.int .u8) 5 w36 w.heap.size (fun k_ => some k_ ≠ (.slice Ao33 t318.length co33 : Value).ownBlock) (.slice (some ⟨go29, 0, none⟩) y323.length co29) y326 := (by rw [hw, Ny326.out]; exact HP35.1); clear HP35; have n0_ := Aside0.mk (Kd.R_after (v := (.slice (some ⟨go29, 0, none⟩) y323.length co29)) (v1 := (.slice (some ⟨go29, 0, none⟩) y323.length co29)) (ok := (fun _ => True)) (by (with_reducible repeat (first | apply Kd.R_alloc | apply Kd.R_drewN | apply Kd.R_drew)); exact HO_10.out) hg (.inl rfl)); have n1_ := Aside0.mk (hp_); have n2_ := Aside0.mk ((by rw [hw]; exact below_set (HB.out) GB29.out : Below w.heap.size w w36)); clear HO_10; clear HO325; clear HB; have HO_10 := n0_; have HO325 := n1_; have HB := n2_; clear n0_ n1_ n2_; clear hg hw hp_) | ((with_reducible refine gate_callee (f := 44) rfl ?_); refine goesL_ (some 79) rfl rfl Try.func44 (by kernel_rfl) rfl #[.slice (some ⟨go29, 0, none⟩) y326.length co29] rfl (by (try simp only [List.map_toArray, List.map_cons, List.map_nil]); first | done | (rw [show y326.length = y323.length from (Kd.R_reads' HO325.out).1.symm] <;> rfl) | rfl | (simp only [List.length_drop, List.length_take]; rfl)) ?_; (with_reducible refine (section_Open.calls kj6 _ _ y326 t327 t328 t329 t330 _ ?side1 ?side2 A30.out).mono ?_); (case side1 => repeat (first | exact (Kd.R_reads' HO325.out).2.2 | (with_reducible refine Kd.C_alloc ?_ _) | (with_reducible refine Kd.C_drewN ?_ _) | (with_reducible refine Kd.C_drew ?_))); (case side2 => rw [show y326.length = y323.length from (Kd.R_reads' HO325.out).1.symm]; exact (Kd.R_reads' HO325.out).2.1); rintro e w37 ⟨v331, rfl, ho0, hb⟩; refine ⟨_, rfl, ?_⟩; have n0_ := Aside0.mk (Kd.R_elder' (by (with_reducible repeat (first | apply Kd.R_alloc | apply Kd.R_drewN | apply Kd.R_drew)); exact HO_10.out) (Kd.R_base ho0) hb); have n1_ := Aside0.mk (Kd.R_elder' (by (with_reducible repeat (first | apply Kd.R_alloc | apply Kd.R_drewN | apply Kd.R_drew)); exact HO325.out) (Kd.R_base ho0) hb); have n2_ := Aside0.mk (Kd.R_lower (Kd.R_new' (Kd.R_new' ho0 (Kd.R_lt (by (with_reducible repeat (first | apply Kd.R_alloc | apply Kd.R_drewN | apply Kd.R_drew)); exact HO_10.out))) (Kd.R_lt (by (with_reducible repeat (first | apply Kd.R_alloc | apply Kd.R_drewN | apply Kd.R_drew)); exact HO325.out))) (below_size (by repeat (first | (with_reducible first | exact HB.out | apply below_alloc | apply pw_below_drewN | apply below_drew1) | exact HB.out)))); have n3_ := Aside0.mk (below_step (by repeat (first | (with_reducible first | exact HB.out | apply below_alloc | apply pw_below_drewN | apply below_drew1) | exact HB.out)) hb); clear HO_10; clear HO325; clear HB; have HO_10 := n0_; have HO325 := n1_; have HO332 := n2_; have HB := n3_; clear n0_ n1_ n2_ n3_; (try clear hb); (try clear hb2); (try clear hk); (try clear hi); (try clear ho0)))
                      go_ret
                      exact ⟨by first | rfl | (simp [errW_none, errW_some] <;> rfl) | (simp [*, errW_none, errW_some] <;> rfl), by repeat (first | (with_reducible first | exact HB.out | apply below_alloc | apply pw_below_drewN | apply below_drew1) | exact HB.out)⟩
                    · rw [if_neg c32] at H
                      have c32b0 : (t330 == 3) = false := beq_eq_false_iff_ne.mpr c32
                      have c32b1 : (t330 != 3) = true := bne_iff_ne.mpr c32
                      by_cases c38 : t330 = 2
                      · rw [if_pos c38] at H
                        have c38b0 : (t330 == 2) = true := beq_iff_eq.mpr c38
                        have c38b1 : (t330 != 2) = false := bne_eq_false_iff_eq.mpr c38
                        clear c38
                        obtain rfl := Option.some.inj H
                        obtain ⟨Ao39, co39, eo39⟩ := Kd.R_slice HO_10.out
                        subst eo39
                        go_wp2_with (first | ((with_reducible refine gate_builtin (b := .append) (xs := #[.const (.slice none 0 0), .tmp 71]) rfl ?_); (try (refine gate_guard (by rfl) ?_; dsimp only)); at_builtin; refine Kd.R_append_rows (Kd.int .u8) (w0 := w) w.heap.size rfl _ _ 40 5 (.int .u8 0) 1 rfl Try.underlying40 info5 rfl (by decide) (by omega) (.slice none 0 0) ([] : List Int) t318 _ _ _ (fun k_ => some k_ ≠ (.slice Ao39 t318.length co39 : Value).ownBlock) (fun _ => False) rfl rfl ?aO ?aR (fun _ _ h => h) (fun _ h => h.elim) ?aF ?aB ?aS ?aL ?_; (case aR => repeat (first | exact (Kd.R_reads' HO_10.out).2.2 | (with_reducible refine Kd.C_alloc ?_ _) | (with_reducible refine Kd.C_drewN ?_ _) | (with_reducible refine Kd.C_drew ?_))); (case aB => exact (by repeat (first | (with_reducible first | exact HB.out | apply below_alloc | apply pw_below_drewN | apply below_drew1) | exact HB.out))); (case aF => exact (fun k_ hk => Kd.fresh' (Kd.R_lt (by (with_reducible repeat (first | apply Kd.R_alloc | apply Kd.R_drewN | apply Kd.R_drew)); exact HO_10.out)) k_ hk)); (case aO => exact (by (with_reducible repeat (first | apply Kd.R_alloc | apply Kd.R_drewN | apply Kd.R_drew)); exact HO_98.out)); (case aS => exact (below_size (by repeat (first | (with_reducible first | exact HB.out | apply below_alloc | apply pw_below_drewN | apply below_drew1) | exact HB.out)))); (case aL => have := LMc26.out; omega); intro v324 w40 ho hb hg hat; rw [← Ny323.out] at ho; have n0_ := Aside0.mk (Kd.R_after (ok := (fun _ => True)) (by (with_reducible repeat (first | apply Kd.R_alloc | apply Kd.R_drewN | apply Kd.R_drew)); exact Kd.R_mono HO_10.out (fun _ hk => ⟨trivial, hk⟩)) hg hat); have n1_ := Aside0.mk (hb); have n2_ := Aside0.mk (ho); clear HO_10; clear HB; clear HO_98; have HO_10 := n0_; have HB := n1_; have HO325 := n2_; clear n0_ n1_ n2_; clear ho hb hg hat; have p29 : 0 ≤ (a2 : Int) := of_decide_eq_true (by first | (with_reducible assumption) | assumption); have q29 : (a2 : Int) < ((y323.length : Int) : Int) := of_decide_eq_true (by first | (with_reducible assumption) | assumption); obtain ⟨go29, co29, eo29, gb29, gl29, cl29, HG29⟩ := Kd.R_form HO325.out (by omega); (first | cases eo29 | (injection eo29 with ea_ en_ ec_; (first | subst ea_ | (injection ea_ with ea_; subst ea_)); subst ec_; clear en_)); have GB29 := Aside0.mk gb29; have GG29 := Aside0.mk HG29; clear gb29 gl29 HG29; obtain ⟨hx29_0, hf29_0⟩ := Kd.R_celln 0 HO325.out (a2 : Int) p29 q29; replace p29 := eq_true p29; replace q29 := eq_true q29; obtain ⟨hy41_, hz41_⟩ := Kd.R_celln 0 HO325.out (a2 : Int) (of_decide_eq_true (by first | (with_reducible assumption) | assumption)) (of_decide_eq_true (by first | (with_reducible assumption) | assumption)); have HP41 := Kd.R_putg HO325.out (a2 : Int) a3) | ((with_reducible refine gate_store (t := 5) (p := 76) rfl ?_); refine store_event (t := 5) (p := 76) (v := ?vo_w42) (w1 := (w40.setCell ⟨go29, (a2 : Int).toNat, none⟩ (.int .u8 a3))) ?hg ?ho ?hn ?hr ?_; (case ho => rfl); (case hg => rfl); (case hn => rfl); (case hr => first | (go_simp; done) | (go_simp; rfl)); intro w42 hw; have hg : w40.grownBy w42 (some go29) := (by rw [hw]; exact HP41.2); have hp_ : Kd.R (Kd.int .u8) 5 w42 w.heap.size (fun k_ => some k_ ≠ (.slice Ao39 t318.length co39 : Value).ownBlock) (.slice (some ⟨go29, 0, none⟩) y323.length co29) y326 := (by rw [hw, Ny326.out]; exact HP41.1); clear HP41; have n0_ := Aside0.mk (Kd.R_after (v := (.slice (some ⟨go29, 0, none⟩) y323.length co29)) (v1 := (.slice (some ⟨go29, 0, none⟩) y323.length co29)) (ok := (fun _ => True)) (by (with_reducible repeat (first | apply Kd.R_alloc | apply Kd.R_drewN | apply Kd.R_drew)); exact HO_10.out) hg (.inl rfl)); have n1_ := Aside0.mk (hp_); have n2_ := Aside0.mk ((by rw [hw]; exact below_set (HB.out) GB29.out : Below w.heap.size w w42)); clear HO_10; clear HO325; clear HB; have HO_10 := n0_; have HO325 := n1_; have HB := n2_; clear n0_ n1_ n2_; clear hg hw hp_) | ((with_reducible refine gate_callee (f := 44) rfl ?_); refine goesL_ (some 79) rfl rfl Try.func44 (by kernel_rfl) rfl #[.slice (some ⟨go29, 0, none⟩) y326.length co29] rfl (by (try simp only [List.map_toArray, List.map_cons, List.map_nil]); first | done | (rw [show y326.length = y323.length from (Kd.R_reads' HO325.out).1.symm] <;> rfl) | rfl | (simp only [List.length_drop, List.length_take]; rfl)) ?_; (with_reducible refine (section_Open.calls kj6 _ _ y326 t327 t328 t329 t330 _ ?side1 ?side2 A30.out).mono ?_); (case side1 => repeat (first | exact (Kd.R_reads' HO325.out).2.2 | (with_reducible refine Kd.C_alloc ?_ _) | (with_reducible refine Kd.C_drewN ?_ _) | (with_reducible refine Kd.C_drew ?_))); (case side2 => rw [show y326.length = y323.length from (Kd.R_reads' HO325.out).1.symm]; exact (Kd.R_reads' HO325.out).2.1); rintro e w43 ⟨v331, rfl, ho0, hb⟩; refine ⟨_, rfl, ?_⟩; have n0_ := Aside0.mk (Kd.R_elder' (by (with_reducible repeat (first | apply Kd.R_alloc | apply Kd.R_drewN | apply Kd.R_drew)); exact HO_10.out) (Kd.R_base ho0) hb); have n1_ := Aside0.mk (Kd.R_elder' (by (with_reducible repeat (first | apply Kd.R_alloc | apply Kd.R_drewN | apply Kd.R_drew)); exact HO325.out) (Kd.R_base ho0) hb); have n2_ := Aside0.mk (Kd.R_lower (Kd.R_new' (Kd.R_new' ho0 (Kd.R_lt (by (with_reducible repeat (first | apply Kd.R_alloc | apply Kd.R_drewN | apply Kd.R_drew)); exact HO_10.out))) (Kd.R_lt (by (with_reducible repeat (first | apply Kd.R_alloc | apply Kd.R_drewN | apply Kd.R_drew)); exact HO325.out))) (below_size (by repeat (first | (with_reducible first | exact HB.out | apply below_alloc | apply pw_below_drewN | apply below_drew1) | exact HB.out)))); have n3_ := Aside0.mk (below_step (by repeat (first | (with_reducible first | exact HB.out | apply below_alloc | apply pw_below_drewN | apply below_drew1) | exact HB.out)) hb); clear HO_10; clear HO325; clear HB; have HO_10 := n0_; have HO325 := n1_; have HO332 := n2_; have HB := n3_; clear n0_ n1_ n2_ n3_; (try clear hb); (try clear hb2); (try clear hk); (try clear hi); (try clear ho0)))
                        go_ret
                        exact ⟨by first | rfl | (simp [errW_none, errW_some] <;> rfl) | (simp [*, errW_none, errW_some] <;> rfl), by repeat (first | (with_reducible first | exact HB.out | apply below_alloc | apply pw_below_drewN | apply below_drew1) | exact HB.out)⟩
                      · rw [if_neg c38] at H
                        have c38b0 : (t330 == 2) = false := beq_eq_false_iff_ne.mpr c38
                        have c38b1 : (t330 != 2) = true := bne_iff_ne.mpr c38
                        obtain rfl := Option.some.inj H
                        obtain ⟨Ao44, co44, eo44⟩ := Kd.R_slice HO_10.out
                        subst eo44
                        go_wp2_with (first | ((with_reducible refine gate_builtin (b := .append) (xs := #[.const (.slice none 0 0), .tmp 71]) rfl ?_); (try (refine gate_guard (by rfl) ?_; dsimp only)); at_builtin; refine Kd.R_append_rows (Kd.int .u8) (w0 := w) w.heap.size rfl _ _ 40 5 (.int .u8 0) 1 rfl Try.underlying40 info5 rfl (by decide) (by omega) (.slice none 0 0) ([] : List Int) t318 _ _ _ (fun k_ => some k_ ≠ (.slice Ao44 t318.length co44 : Value).ownBlock) (fun _ => False) rfl rfl ?aO ?aR (fun _ _ h => h) (fun _ h => h.elim) ?aF ?aB ?aS ?aL ?_; (case aR => repeat (first | exact (Kd.R_reads' HO_10.out).2.2 | (with_reducible refine Kd.C_alloc ?_ _) | (with_reducible refine Kd.C_drewN ?_ _) | (with_reducible refine Kd.C_drew ?_))); (case aB => exact (by repeat (first | (with_reducible first | exact HB.out | apply below_alloc | apply pw_below_drewN | apply below_drew1) | exact HB.out))); (case aF => exact (fun k_ hk => Kd.fresh' (Kd.R_lt (by (with_reducible repeat (first | apply Kd.R_alloc | apply Kd.R_drewN | apply Kd.R_drew)); exact HO_10.out)) k_ hk)); (case aO => exact (by (with_reducible repeat (first | apply Kd.R_alloc | apply Kd.R_drewN | apply Kd.R_drew)); exact HO_98.out)); (case aS => exact (below_size (by repeat (first | (with_reducible first | exact HB.out | apply below_alloc | apply pw_below_drewN | apply below_drew1) | exact HB.out)))); (case aL => have := LMc26.out; omega); intro v324 w45 ho hb hg hat; rw [← Ny323.out] at ho; have n0_ := Aside0.mk (Kd.R_after (ok := (fun _ => True)) (by (with_reducible repeat (first | apply Kd.R_alloc | apply Kd.R_drewN | apply Kd.R_drew)); exact Kd.R_mono HO_10.out (fun _ hk => ⟨trivial, hk⟩)) hg hat); have n1_ := Aside0.mk (hb); have n2_ := Aside0.mk (ho); clear HO_10; clear HB; clear HO_98; have HO_10 := n0_; have HB := n1_; have HO325 := n2_; clear n0_ n1_ n2_; clear ho hb hg hat; have p29 : 0 ≤ (a2 : Int) := of_decide_eq_true (by first | (with_reducible assumption) | assumption); have q29 : (a2 : Int) < ((y323.length : Int) : Int) := of_decide_eq_true (by first | (with_reducible assumption) | assumption); obtain ⟨go29, co29, eo29, gb29, gl29, cl29, HG29⟩ := Kd.R_form HO325.out (by omega); (first | cases eo29 | (injection eo29 with ea_ en_ ec_; (first | subst ea_ | (injection ea_ with ea_; subst ea_)); subst ec_; clear en_)); have GB29 := Aside0.mk gb29; have GG29 := Aside0.mk HG29; clear gb29 gl29 HG29; obtain ⟨hx29_0, hf29_0⟩ := Kd.R_celln 0 HO325.out (a2 : Int) p29 q29; replace p29 := eq_true p29; replace q29 := eq_true q29; obtain ⟨hy46_, hz46_⟩ := Kd.R_celln 0 HO325.out (a2 : Int) (of_decide_eq_true (by first | (with_reducible assumption) | assumption)) (of_decide_eq_true (by first | (with_reducible assumption) | assumption)); have HP46 := Kd.R_putg HO325.out (a2 : Int) a3) | ((with_reducible refine gate_store (t := 5) (p := 76) rfl ?_); refine store_event (t := 5) (p := 76) (v := ?vo_w47) (w1 := (w45.setCell ⟨go29, (a2 : Int).toNat, none⟩ (.int .u8 a3))) ?hg ?ho ?hn ?hr ?_; (case ho => rfl); (case hg => rfl); (case hn => rfl); (case hr => first | (go_simp; done) | (go_simp; rfl)); intro w47 hw; have hg : w45.grownBy w47 (some go29) := (by rw [hw]; exact HP46.2); have hp_ : Kd.R (Kd.int .u8) 5 w47 w.heap.size (fun k_ => some k_ ≠ (.slice Ao44 t318.length co44 : Value).ownBlock) (.slice (some ⟨go29, 0, none⟩) y323.length co29) y326 := (by rw [hw, Ny326.out]; exact HP46.1); clear HP46; have n0_ := Aside0.mk (Kd.R_after (v := (.slice (some ⟨go29, 0, none⟩) y323.length co29)) (v1 := (.slice (some ⟨go29, 0, none⟩) y323.length co29)) (ok := (fun _ => True)) (by (with_reducible repeat (first | apply Kd.R_alloc | apply Kd.R_drewN | apply Kd.R_drew)); exact HO_10.out) hg (.inl rfl)); have n1_ := Aside0.mk (hp_); have n2_ := Aside0.mk ((by rw [hw]; exact below_set (HB.out) GB29.out : Below w.heap.size w w47)); clear HO_10; clear HO325; clear HB; have HO_10 := n0_; have HO325 := n1_; have HB := n2_; clear n0_ n1_ n2_; clear hg hw hp_) | ((with_reducible refine gate_callee (f := 44) rfl ?_); refine goesL_ (some 79) rfl rfl Try.func44 (by kernel_rfl) rfl #[.slice (some ⟨go29, 0, none⟩) y326.length co29] rfl (by (try simp only [List.map_toArray, List.map_cons, List.map_nil]); first | done | (rw [show y326.length = y323.length from (Kd.R_reads' HO325.out).1.symm] <;> rfl) | rfl | (simp only [List.length_drop, List.length_take]; rfl)) ?_; (with_reducible refine (section_Open.calls kj6 _ _ y326 t327 t328 t329 t330 _ ?side1 ?side2 A30.out).mono ?_); (case side1 => repeat (first | exact (Kd.R_reads' HO325.out).2.2 | (with_reducible refine Kd.C_alloc ?_ _) | (with_reducible refine Kd.C_drewN ?_ _) | (with_reducible refine Kd.C_drew ?_))); (case side2 => rw [show y326.length = y323.length from (Kd.R_reads' HO325.out).1.symm]; exact (Kd.R_reads' HO325.out).2.1); rintro e w48 ⟨v331, rfl, ho0, hb⟩; refine ⟨_, rfl, ?_⟩; have n0_ := Aside0.mk (Kd.R_elder' (by (with_reducible repeat (first | apply Kd.R_alloc | apply Kd.R_drewN | apply Kd.R_drew)); exact HO_10.out) (Kd.R_base ho0) hb); have n1_ := Aside0.mk (Kd.R_elder' (by (with_reducible repeat (first | apply Kd.R_alloc | apply Kd.R_drewN | apply Kd.R_drew)); exact HO325.out) (Kd.R_base ho0) hb); have n2_ := Aside0.mk (Kd.R_lower (Kd.R_new' (Kd.R_new' ho0 (Kd.R_lt (by (with_reducible repeat (first | apply Kd.R_alloc | apply Kd.R_drewN | apply Kd.R_drew)); exact HO_10.out))) (Kd.R_lt (by (with_reducible repeat (first | apply Kd.R_alloc | apply Kd.R_drewN | apply Kd.R_drew)); exact HO325.out))) (below_size (by repeat (first | (with_reducible first | exact HB.out | apply below_alloc | apply pw_below_drewN | apply below_drew1) | exact HB.out)))); have n3_ := Aside0.mk (below_step (by repeat (first | (with_reducible first | exact HB.out | apply below_alloc | apply pw_below_drewN | apply below_drew1) | exact HB.out)) hb); clear HO_10; clear HO325; clear HB; have HO_10 := n0_; have HO325 := n1_; have HO332 := n2_; have HB := n3_; clear n0_ n1_ n2_ n3_; (try clear hb); (try clear hb2); (try clear hk); (try clear hi); (try clear ho0)))
                        go_ret
                        exact ⟨by first | rfl | (simp [errW_none, errW_some] <;> rfl) | (simp [*, errW_none, errW_some] <;> rfl), by repeat (first | (with_reducible first | exact HB.out | apply below_alloc | apply pw_below_drewN | apply below_drew1) | exact HB.out)⟩
                  · rw [if_neg c31] at H
                    have c31b0 : (t329 == 0) = false := beq_eq_false_iff_ne.mpr c31
                    have c31b1 : (t329 != 0) = true := bne_iff_ne.mpr c31
                    obtain rfl := Option.some.inj H
                    obtain ⟨Ao49, co49, eo49⟩ := Kd.R_slice HO_10.out
                    subst eo49
                    go_wp2_with (first | ((with_reducible refine gate_builtin (b := .append) (xs := #[.const (.slice none 0 0), .tmp 71]) rfl ?_); (try (refine gate_guard (by rfl) ?_; dsimp only)); at_builtin; refine Kd.R_append_rows (Kd.int .u8) (w0 := w) w.heap.size rfl _ _ 40 5 (.int .u8 0) 1 rfl Try.underlying40 info5 rfl (by decide) (by omega) (.slice none 0 0) ([] : List Int) t318 _ _ _ (fun k_ => some k_ ≠ (.slice Ao49 t318.length co49 : Value).ownBlock) (fun _ => False) rfl rfl ?aO ?aR (fun _ _ h => h) (fun _ h => h.elim) ?aF ?aB ?aS ?aL ?_; (case aR => repeat (first | exact (Kd.R_reads' HO_10.out).2.2 | (with_reducible refine Kd.C_alloc ?_ _) | (with_reducible refine Kd.C_drewN ?_ _) | (with_reducible refine Kd.C_drew ?_))); (case aB => exact (by repeat (first | (with_reducible first | exact HB.out | apply below_alloc | apply pw_below_drewN | apply below_drew1) | exact HB.out))); (case aF => exact (fun k_ hk => Kd.fresh' (Kd.R_lt (by (with_reducible repeat (first | apply Kd.R_alloc | apply Kd.R_drewN | apply Kd.R_drew)); exact HO_10.out)) k_ hk)); (case aO => exact (by (with_reducible repeat (first | apply Kd.R_alloc | apply Kd.R_drewN | apply Kd.R_drew)); exact HO_98.out)); (case aS => exact (below_size (by repeat (first | (with_reducible first | exact HB.out | apply below_alloc | apply pw_below_drewN | apply below_drew1) | exact HB.out)))); (case aL => have := LMc26.out; omega); intro v324 w50 ho hb hg hat; rw [← Ny323.out] at ho; have n0_ := Aside0.mk (Kd.R_after (ok := (fun _ => True)) (by (with_reducible repeat (first | apply Kd.R_alloc | apply Kd.R_drewN | apply Kd.R_drew)); exact Kd.R_mono HO_10.out (fun _ hk => ⟨trivial, hk⟩)) hg hat); have n1_ := Aside0.mk (hb); have n2_ := Aside0.mk (ho); clear HO_10; clear HB; clear HO_98; have HO_10 := n0_; have HB := n1_; have HO325 := n2_; clear n0_ n1_ n2_; clear ho hb hg hat; have p29 : 0 ≤ (a2 : Int) := of_decide_eq_true (by first | (with_reducible assumption) | assumption); have q29 : (a2 : Int) < ((y323.length : Int) : Int) := of_decide_eq_true (by first | (with_reducible assumption) | assumption); obtain ⟨go29, co29, eo29, gb29, gl29, cl29, HG29⟩ := Kd.R_form HO325.out (by omega); (first | cases eo29 | (injection eo29 with ea_ en_ ec_; (first | subst ea_ | (injection ea_ with ea_; subst ea_)); subst ec_; clear en_)); have GB29 := Aside0.mk gb29; have GG29 := Aside0.mk HG29; clear gb29 gl29 HG29; obtain ⟨hx29_0, hf29_0⟩ := Kd.R_celln 0 HO325.out (a2 : Int) p29 q29; replace p29 := eq_true p29; replace q29 := eq_true q29; obtain ⟨hy51_, hz51_⟩ := Kd.R_celln 0 HO325.out (a2 : Int) (of_decide_eq_true (by first | (with_reducible assumption) | assumption)) (of_decide_eq_true (by first | (with_reducible assumption) | assumption)); have HP51 := Kd.R_putg HO325.out (a2 : Int) a3) | ((with_reducible refine gate_store (t := 5) (p := 76) rfl ?_); refine store_event (t := 5) (p := 76) (v := ?vo_w52) (w1 := (w50.setCell ⟨go29, (a2 : Int).toNat, none⟩ (.int .u8 a3))) ?hg ?ho ?hn ?hr ?_; (case ho => rfl); (case hg => rfl); (case hn => rfl); (case hr => first | (go_simp; done) | (go_simp; rfl)); intro w52 hw; have hg : w50.grownBy w52 (some go29) := (by rw [hw]; exact HP51.2); have hp_ : Kd.R (Kd.int .u8) 5 w52 w.heap.size (fun k_ => some k_ ≠ (.slice Ao49 t318.length co49 : Value).ownBlock) (.slice (some ⟨go29, 0, none⟩) y323.length co29) y326 := (by rw [hw, Ny326.out]; exact HP51.1); clear HP51; have n0_ := Aside0.mk (Kd.R_after (v := (.slice (some ⟨go29, 0, none⟩) y323.length co29)) (v1 := (.slice (some ⟨go29, 0, none⟩) y323.length co29)) (ok := (fun _ => True)) (by (with_reducible repeat (first | apply Kd.R_alloc | apply Kd.R_drewN | apply Kd.R_drew)); exact HO_10.out) hg (.inl rfl)); have n1_ := Aside0.mk (hp_); have n2_ := Aside0.mk ((by rw [hw]; exact below_set (HB.out) GB29.out : Below w.heap.size w w52)); clear HO_10; clear HO325; clear HB; have HO_10 := n0_; have HO325 := n1_; have HB := n2_; clear n0_ n1_ n2_; clear hg hw hp_) | ((with_reducible refine gate_callee (f := 44) rfl ?_); refine goesL_ (some 79) rfl rfl Try.func44 (by kernel_rfl) rfl #[.slice (some ⟨go29, 0, none⟩) y326.length co29] rfl (by (try simp only [List.map_toArray, List.map_cons, List.map_nil]); first | done | (rw [show y326.length = y323.length from (Kd.R_reads' HO325.out).1.symm] <;> rfl) | rfl | (simp only [List.length_drop, List.length_take]; rfl)) ?_; (with_reducible refine (section_Open.calls kj6 _ _ y326 t327 t328 t329 t330 _ ?side1 ?side2 A30.out).mono ?_); (case side1 => repeat (first | exact (Kd.R_reads' HO325.out).2.2 | (with_reducible refine Kd.C_alloc ?_ _) | (with_reducible refine Kd.C_drewN ?_ _) | (with_reducible refine Kd.C_drew ?_))); (case side2 => rw [show y326.length = y323.length from (Kd.R_reads' HO325.out).1.symm]; exact (Kd.R_reads' HO325.out).2.1); rintro e w53 ⟨v331, rfl, ho0, hb⟩; refine ⟨_, rfl, ?_⟩; have n0_ := Aside0.mk (Kd.R_elder' (by (with_reducible repeat (first | apply Kd.R_alloc | apply Kd.R_drewN | apply Kd.R_drew)); exact HO_10.out) (Kd.R_base ho0) hb); have n1_ := Aside0.mk (Kd.R_elder' (by (with_reducible repeat (first | apply Kd.R_alloc | apply Kd.R_drewN | apply Kd.R_drew)); exact HO325.out) (Kd.R_base ho0) hb); have n2_ := Aside0.mk (Kd.R_lower (Kd.R_new' (Kd.R_new' ho0 (Kd.R_lt (by (with_reducible repeat (first | apply Kd.R_alloc | apply Kd.R_drewN | apply Kd.R_drew)); exact HO_10.out))) (Kd.R_lt (by (with_reducible repeat (first | apply Kd.R_alloc | apply Kd.R_drewN | apply Kd.R_drew)); exact HO325.out))) (below_size (by repeat (first | (with_reducible first | exact HB.out | apply below_alloc | apply pw_below_drewN | apply below_drew1) | exact HB.out)))); have n3_ := Aside0.mk (below_step (by repeat (first | (with_reducible first | exact HB.out | apply below_alloc | apply pw_below_drewN | apply below_drew1) | exact HB.out)) hb); clear HO_10; clear HO325; clear HB; have HO_10 := n0_; have HO325 := n1_; have HO332 := n2_; have HB := n3_; clear n0_ n1_ n2_ n3_; (try clear hb); (try clear hb2); (try clear hk); (try clear hi); (try clear ho0)))
                    go_ret
                    exact ⟨by first | rfl | (simp [errW_none, errW_some] <;> rfl) | (simp [*, errW_none, errW_some] <;> rfl), by repeat (first | (with_reducible first | exact HB.out | apply below_alloc | apply pw_below_drewN | apply below_drew1) | exact HB.out)⟩
                · rw [if_neg c28] at H
                  exact absurd H (by simp)
              · rw [if_neg c27] at H
                exact absurd H (by simp)
            · rw [if_neg c26] at H
              exact absurd H (by simp)
        · rw [if_neg c23] at H
          have c23b0 : decide (0 < a2) = false := decide_eq_false c23
          clear c23
          by_cases c54 : ([] : List Int).length + t318.length < 140737488355328
          · rw [if_pos c54] at H
            have LMc54 := Aside0.mk c54
            clear c54
            obtain ⟨y333, hy333⟩ : ∃ y_ : List Int, y_ = (([] : List Int) ++ t318) := ⟨_, rfl⟩
            replace H : (if 0 ≤ a2 then (if a2 < (y333.length : Int) then ((section_Open.f kj6 (y333.set (a2 : Int).toNat a3)).bind fun bt337 => (if bt337.2.2.1 = 0 then (if bt337.2.2.2 = 3 then (some true) else (if bt337.2.2.2 = 2 then (some (a2 == 0)) else (some false))) else (some false))) else (none)) else (none)) = some r := by first | (rw [hy333]; with_reducible exact H) | (have H2_ := (Option.bind_some _ _).symm.trans H; rw [hy333]; with_reducible exact H2_) | (have H2_ := (Option.bind_some _ _).symm.trans H; with_reducible exact H2_) | with_reducible exact H | (rw [hy333]; exact H) | exact H
            have Ny333 := Aside0.mk hy333
            clear hy333
            by_cases c55 : 0 ≤ a2
            · rw [if_pos c55] at H
              have c55b0 : decide (0 ≤ a2) = true := decide_eq_true c55
              clear c55
              by_cases c56 : a2 < (y333.length : Int)
              · rw [if_pos c56] at H
                have c56b0 : decide (a2 < (y333.length : Int)) = true := decide_eq_true c56
                clear c56
                obtain ⟨y336, hy336⟩ : ∃ y_ : List Int, y_ = (y333.set (a2 : Int).toNat a3) := ⟨_, rfl⟩
                replace H : ((section_Open.f kj6 y336).bind fun bt337 => (if bt337.2.2.1 = 0 then (if bt337.2.2.2 = 3 then (some true) else (if bt337.2.2.2 = 2 then (some (a2 == 0)) else (some false))) else (some false))) = some r := by first | (rw [hy336]; with_reducible exact H) | (have H2_ := (Option.bind_some _ _).symm.trans H; rw [hy336]; with_reducible exact H2_) | (have H2_ := (Option.bind_some _ _).symm.trans H; with_reducible exact H2_) | with_reducible exact H | (rw [hy336]; exact H) | exact H
                have Ny336 := Aside0.mk hy336
                clear hy336
                replace H := Option.bind_eq_some_iff.mp H
                obtain ⟨⟨t337, t338, t339, t340⟩, A580, H⟩ := H
                replace H : (if t339 = 0 then (if t340 = 3 then (some true) else (if t340 = 2 then (some (a2 == 0)) else (some false))) else (some false)) = some r := H
                have A58 := Aside0.mk A580
                clear A580
                by_cases c59 : t339 = 0
                · rw [if_pos c59] at H
                  have c59b0 : (t339 == 0) = true := beq_iff_eq.mpr c59
                  have c59b1 : (t339 != 0) = false := bne_eq_false_iff_eq.mpr c59
                  clear c59
                  by_cases c60 : t340 = 3
                  · rw [if_pos c60] at H
                    have c60b0 : (t340 == 3) = true := beq_iff_eq.mpr c60
                    have c60b1 : (t340 != 3) = false := bne_eq_false_iff_eq.mpr c60
                    clear c60
                    obtain rfl := Option.some.inj H
                    obtain ⟨Ao62, co62, eo62⟩ := Kd.R_slice HO_10.out
                    subst eo62
                    go_wp2_with (first | ((with_reducible refine gate_builtin (b := .append) (xs := #[.const (.slice none 0 0), .tmp 71]) rfl ?_); (try (refine gate_guard (by rfl) ?_; dsimp only)); at_builtin; refine Kd.R_append_rows (Kd.int .u8) (w0 := w) w.heap.size rfl _ _ 40 5 (.int .u8 0) 1 rfl Try.underlying40 info5 rfl (by decide) (by omega) (.slice none 0 0) ([] : List Int) t318 _ _ _ (fun k_ => some k_ ≠ (.slice Ao62 t318.length co62 : Value).ownBlock) (fun _ => False) rfl rfl ?aO ?aR (fun _ _ h => h) (fun _ h => h.elim) ?aF ?aB ?aS ?aL ?_; (case aR => repeat (first | exact (Kd.R_reads' HO_10.out).2.2 | (with_reducible refine Kd.C_alloc ?_ _) | (with_reducible refine Kd.C_drewN ?_ _) | (with_reducible refine Kd.C_drew ?_))); (case aB => exact (by repeat (first | (with_reducible first | exact HB.out | apply below_alloc | apply pw_below_drewN | apply below_drew1) | exact HB.out))); (case aF => exact (fun k_ hk => Kd.fresh' (Kd.R_lt (by (with_reducible repeat (first | apply Kd.R_alloc | apply Kd.R_drewN | apply Kd.R_drew)); exact HO_10.out)) k_ hk)); (case aO => exact (by (with_reducible repeat (first | apply Kd.R_alloc | apply Kd.R_drewN | apply Kd.R_drew)); exact HO_98.out)); (case aS => exact (below_size (by repeat (first | (with_reducible first | exact HB.out | apply below_alloc | apply pw_below_drewN | apply below_drew1) | exact HB.out)))); (case aL => have := LMc54.out; omega); intro v334 w61 ho hb hg hat; rw [← Ny333.out] at ho; have n0_ := Aside0.mk (Kd.R_after (ok := (fun _ => True)) (by (with_reducible repeat (first | apply Kd.R_alloc | apply Kd.R_drewN | apply Kd.R_drew)); exact Kd.R_mono HO_10.out (fun _ hk => ⟨trivial, hk⟩)) hg hat); have n1_ := Aside0.mk (hb); have n2_ := Aside0.mk (ho); clear HO_10; clear HB; clear HO_98; have HO_10 := n0_; have HB := n1_; have HO335 := n2_; clear n0_ n1_ n2_; clear ho hb hg hat; have p57 : 0 ≤ (a2 : Int) := of_decide_eq_true (by first | (with_reducible assumption) | assumption); have q57 : (a2 : Int) < ((y333.length : Int) : Int) := of_decide_eq_true (by first | (with_reducible assumption) | assumption); obtain ⟨go57, co57, eo57, gb57, gl57, cl57, HG57⟩ := Kd.R_form HO335.out (by omega); (first | cases eo57 | (injection eo57 with ea_ en_ ec_; (first | subst ea_ | (injection ea_ with ea_; subst ea_)); subst ec_; clear en_)); have GB57 := Aside0.mk gb57; have GG57 := Aside0.mk HG57; clear gb57 gl57 HG57; obtain ⟨hx57_0, hf57_0⟩ := Kd.R_celln 0 HO335.out (a2 : Int) p57 q57; replace p57 := eq_true p57; replace q57 := eq_true q57; obtain ⟨hy63_, hz63_⟩ := Kd.R_celln 0 HO335.out (a2 : Int) (of_decide_eq_true (by first | (with_reducible assumption) | assumption)) (of_decide_eq_true (by first | (with_reducible assumption) | assumption)); have HP63 := Kd.R_putg HO335.out (a2 : Int) a3) | ((with_reducible refine gate_store (t := 5) (p := 76) rfl ?_); refine store_event (t := 5) (p := 76) (v := ?vo_w64) (w1 := (w61.setCell ⟨go57, (a2 : Int).toNat, none⟩ (.int .u8 a3))) ?hg ?ho ?hn ?hr ?_; (case ho => rfl); (case hg => rfl); (case hn => rfl); (case hr => first | (go_simp; done) | (go_simp; rfl)); intro w64 hw; have hg : w61.grownBy w64 (some go57) := (by rw [hw]; exact HP63.2); have hp_ : Kd.R (Kd.int .u8) 5 w64 w.heap.size (fun k_ => some k_ ≠ (.slice Ao62 t318.length co62 : Value).ownBlock) (.slice (some ⟨go57, 0, none⟩) y333.length co57) y336 := (by rw [hw, Ny336.out]; exact HP63.1); clear HP63; have n0_ := Aside0.mk (Kd.R_after (v := (.slice (some ⟨go57, 0, none⟩) y333.length co57)) (v1 := (.slice (some ⟨go57, 0, none⟩) y333.length co57)) (ok := (fun _ => True)) (by (with_reducible repeat (first | apply Kd.R_alloc | apply Kd.R_drewN | apply Kd.R_drew)); exact HO_10.out) hg (.inl rfl)); have n1_ := Aside0.mk (hp_); have n2_ := Aside0.mk ((by rw [hw]; exact below_set (HB.out) GB57.out : Below w.heap.size w w64)); clear HO_10; clear HO335; clear HB; have HO_10 := n0_; have HO335 := n1_; have HB := n2_; clear n0_ n1_ n2_; clear hg hw hp_) | ((with_reducible refine gate_callee (f := 44) rfl ?_); refine goesL_ (some 79) rfl rfl Try.func44 (by kernel_rfl) rfl #[.slice (some ⟨go57, 0, none⟩) y336.length co57] rfl (by (try simp only [List.map_toArray, List.map_cons, List.map_nil]); first | done | (rw [show y336.length = y333.length from (Kd.R_reads' HO335.out).1.symm] <;> rfl) | rfl | (simp only [List.length_drop, List.length_take]; rfl)) ?_; (with_reducible refine (section_Open.calls kj6 _ _ y336 t337 t338 t339 t340 _ ?side1 ?side2 A58.out).mono ?_); (case side1 => repeat (first | exact (Kd.R_reads' HO335.out).2.2 | (with_reducible refine Kd.C_alloc ?_ _) | (with_reducible refine Kd.C_drewN ?_ _) | (with_reducible refine Kd.C_drew ?_))); (case side2 => rw [show y336.length = y333.length from (Kd.R_reads' HO335.out).1.symm]; exact (Kd.R_reads' HO335.out).2.1); rintro e w65 ⟨v341, rfl, ho0, hb⟩; refine ⟨_, rfl, ?_⟩; have n0_ := Aside0.mk (Kd.R_elder' (by (with_reducible repeat (first | apply Kd.R_alloc | apply Kd.R_drewN | apply Kd.R_drew)); exact HO_10.out) (Kd.R_base ho0) hb); have n1_ := Aside0.mk (Kd.R_elder' (by (with_reducible repeat (first | apply Kd.R_alloc | apply Kd.R_drewN | apply Kd.R_drew)); exact HO335.out) (Kd.R_base ho0) hb); have n2_ := Aside0.mk (Kd.R_lower (Kd.R_new' (Kd.R_new' ho0 (Kd.R_lt (by (with_reducible repeat (first | apply Kd.R_alloc | apply Kd.R_drewN | apply Kd.R_drew)); exact HO_10.out))) (Kd.R_lt (by (with_reducible repeat (first | apply Kd.R_alloc | apply Kd.R_drewN | apply Kd.R_drew)); exact HO335.out))) (below_size (by repeat (first | (with_reducible first | exact HB.out | apply below_alloc | apply pw_below_drewN | apply below_drew1) | exact HB.out)))); have n3_ := Aside0.mk (below_step (by repeat (first | (with_reducible first | exact HB.out | apply below_alloc | apply pw_below_drewN | apply below_drew1) | exact HB.out)) hb); clear HO_10; clear HO335; clear HB; have HO_10 := n0_; have HO335 := n1_; have HO342 := n2_; have HB := n3_; clear n0_ n1_ n2_ n3_; (try clear hb); (try clear hb2); (try clear hk); (try clear hi); (try clear ho0)))
                    go_ret
                    exact ⟨by first | rfl | (simp [errW_none, errW_some] <;> rfl) | (simp [*, errW_none, errW_some] <;> rfl), by repeat (first | (with_reducible first | exact HB.out | apply below_alloc | apply pw_below_drewN | apply below_drew1) | exact HB.out)⟩
                  · rw [if_neg c60] at H
                    have c60b0 : (t340 == 3) = false := beq_eq_false_iff_ne.mpr c60
                    have c60b1 : (t340 != 3) = true := bne_iff_ne.mpr c60
                    by_cases c66 : t340 = 2
                    · rw [if_pos c66] at H
                      have c66b0 : (t340 == 2) = true := beq_iff_eq.mpr c66
                      have c66b1 : (t340 != 2) = false := bne_eq_false_iff_eq.mpr c66
                      clear c66
                      obtain rfl := Option.some.inj H
                      obtain ⟨Ao68, co68, eo68⟩ := Kd.R_slice HO_10.out
                      subst eo68
                      go_wp2_with (first | ((with_reducible refine gate_builtin (b := .append) (xs := #[.const (.slice none 0 0), .tmp 71]) rfl ?_); (try (refine gate_guard (by rfl) ?_; dsimp only)); at_builtin; refine Kd.R_append_rows (Kd.int .u8) (w0 := w) w.heap.size rfl _ _ 40 5 (.int .u8 0) 1 rfl Try.underlying40 info5 rfl (by decide) (by omega) (.slice none 0 0) ([] : List Int) t318 _ _ _ (fun k_ => some k_ ≠ (.slice Ao68 t318.length co68 : Value).ownBlock) (fun _ => False) rfl rfl ?aO ?aR (fun _ _ h => h) (fun _ h => h.elim) ?aF ?aB ?aS ?aL ?_; (case aR => repeat (first | exact (Kd.R_reads' HO_10.out).2.2 | (with_reducible refine Kd.C_alloc ?_ _) | (with_reducible refine Kd.C_drewN ?_ _) | (with_reducible refine Kd.C_drew ?_))); (case aB => exact (by repeat (first | (with_reducible first | exact HB.out | apply below_alloc | apply pw_below_drewN | apply below_drew1) | exact HB.out))); (case aF => exact (fun k_ hk => Kd.fresh' (Kd.R_lt (by (with_reducible repeat (first | apply Kd.R_alloc | apply Kd.R_drewN | apply Kd.R_drew)); exact HO_10.out)) k_ hk)); (case aO => exact (by (with_reducible repeat (first | apply Kd.R_alloc | apply Kd.R_drewN | apply Kd.R_drew)); exact HO_98.out)); (case aS => exact (below_size (by repeat (first | (with_reducible first | exact HB.out | apply below_alloc | apply pw_below_drewN | apply below_drew1) | exact HB.out)))); (case aL => have := LMc54.out; omega); intro v334 w67 ho hb hg hat; rw [← Ny333.out] at ho; have n0_ := Aside0.mk (Kd.R_after (ok := (fun _ => True)) (by (with_reducible repeat (first | apply Kd.R_alloc | apply Kd.R_drewN | apply Kd.R_drew)); exact Kd.R_mono HO_10.out (fun _ hk => ⟨trivial, hk⟩)) hg hat); have n1_ := Aside0.mk (hb); have n2_ := Aside0.mk (ho); clear HO_10; clear HB; clear HO_98; have HO_10 := n0_; have HB := n1_; have HO335 := n2_; clear n0_ n1_ n2_; clear ho hb hg hat; have p57 : 0 ≤ (a2 : Int) := of_decide_eq_true (by first | (with_reducible assumption) | assumption); have q57 : (a2 : Int) < ((y333.length : Int) : Int) := of_decide_eq_true (by first | (with_reducible assumption) | assumption); obtain ⟨go57, co57, eo57, gb57, gl57, cl57, HG57⟩ := Kd.R_form HO335.out (by omega); (first | cases eo57 | (injection eo57 with ea_ en_ ec_; (first | subst ea_ | (injection ea_ with ea_; subst ea_)); subst ec_; clear en_)); have GB57 := Aside0.mk gb57; have GG57 := Aside0.mk HG57; clear gb57 gl57 HG57; obtain ⟨hx57_0, hf57_0⟩ := Kd.R_celln 0 HO335.out (a2 : Int) p57 q57; replace p57 := eq_true p57; replace q57 := eq_true q57; obtain ⟨hy69_, hz69_⟩ := Kd.R_celln 0 HO335.out (a2 : Int) (of_decide_eq_true (by first | (with_reducible assumption) | assumption)) (of_decide_eq_true (by first | (with_reducible assumption) | assumption)); have HP69 := Kd.R_putg HO335.out (a2 : Int) a3) | ((with_reducible refine gate_store (t := 5) (p := 76) rfl ?_); refine store_event (t := 5) (p := 76) (v := ?vo_w70) (w1 := (w67.setCell ⟨go57, (a2 : Int).toNat, none⟩ (.int .u8 a3))) ?hg ?ho ?hn ?hr ?_; (case ho => rfl); (case hg => rfl); (case hn => rfl); (case hr => first | (go_simp; done) | (go_simp; rfl)); intro w70 hw; have hg : w67.grownBy w70 (some go57) := (by rw [hw]; exact HP69.2); have hp_ : Kd.R (Kd.int .u8) 5 w70 w.heap.size (fun k_ => some k_ ≠ (.slice Ao68 t318.length co68 : Value).ownBlock) (.slice (some ⟨go57, 0, none⟩) y333.length co57) y336 := (by rw [hw, Ny336.out]; exact HP69.1); clear HP69; have n0_ := Aside0.mk (Kd.R_after (v := (.slice (some ⟨go57, 0, none⟩) y333.length co57)) (v1 := (.slice (some ⟨go57, 0, none⟩) y333.length co57)) (ok := (fun _ => True)) (by (with_reducible repeat (first | apply Kd.R_alloc | apply Kd.R_drewN | apply Kd.R_drew)); exact HO_10.out) hg (.inl rfl)); have n1_ := Aside0.mk (hp_); have n2_ := Aside0.mk ((by rw [hw]; exact below_set (HB.out) GB57.out : Below w.heap.size w w70)); clear HO_10; clear HO335; clear HB; have HO_10 := n0_; have HO335 := n1_; have HB := n2_; clear n0_ n1_ n2_; clear hg hw hp_) | ((with_reducible refine gate_callee (f := 44) rfl ?_); refine goesL_ (some 79) rfl rfl Try.func44 (by kernel_rfl) rfl #[.slice (some ⟨go57, 0, none⟩) y336.length co57] rfl (by (try simp only [List.map_toArray, List.map_cons, List.map_nil]); first | done | (rw [show y336.length = y333.length from (Kd.R_reads' HO335.out).1.symm] <;> rfl) | rfl | (simp only [List.length_drop, List.length_take]; rfl)) ?_; (with_reducible refine (section_Open.calls kj6 _ _ y336 t337 t338 t339 t340 _ ?side1 ?side2 A58.out).mono ?_); (case side1 => repeat (first | exact (Kd.R_reads' HO335.out).2.2 | (with_reducible refine Kd.C_alloc ?_ _) | (with_reducible refine Kd.C_drewN ?_ _) | (with_reducible refine Kd.C_drew ?_))); (case side2 => rw [show y336.length = y333.length from (Kd.R_reads' HO335.out).1.symm]; exact (Kd.R_reads' HO335.out).2.1); rintro e w71 ⟨v341, rfl, ho0, hb⟩; refine ⟨_, rfl, ?_⟩; have n0_ := Aside0.mk (Kd.R_elder' (by (with_reducible repeat (first | apply Kd.R_alloc | apply Kd.R_drewN | apply Kd.R_drew)); exact HO_10.out) (Kd.R_base ho0) hb); have n1_ := Aside0.mk (Kd.R_elder' (by (with_reducible repeat (first | apply Kd.R_alloc | apply Kd.R_drewN | apply Kd.R_drew)); exact HO335.out) (Kd.R_base ho0) hb); have n2_ := Aside0.mk (Kd.R_lower (Kd.R_new' (Kd.R_new' ho0 (Kd.R_lt (by (with_reducible repeat (first | apply Kd.R_alloc | apply Kd.R_drewN | apply Kd.R_drew)); exact HO_10.out))) (Kd.R_lt (by (with_reducible repeat (first | apply Kd.R_alloc | apply Kd.R_drewN | apply Kd.R_drew)); exact HO335.out))) (below_size (by repeat (first | (with_reducible first | exact HB.out | apply below_alloc | apply pw_below_drewN | apply below_drew1) | exact HB.out)))); have n3_ := Aside0.mk (below_step (by repeat (first | (with_reducible first | exact HB.out | apply below_alloc | apply pw_below_drewN | apply below_drew1) | exact HB.out)) hb); clear HO_10; clear HO335; clear HB; have HO_10 := n0_; have HO335 := n1_; have HO342 := n2_; have HB := n3_; clear n0_ n1_ n2_ n3_; (try clear hb); (try clear hb2); (try clear hk); (try clear hi); (try clear ho0)))
                      go_ret
                      exact ⟨by first | rfl | (simp [errW_none, errW_some] <;> rfl) | (simp [*, errW_none, errW_some] <;> rfl), by repeat (first | (with_reducible first | exact HB.out | apply below_alloc | apply pw_below_drewN | apply below_drew1) | exact HB.out)⟩
                    · rw [if_neg c66] at H
                      have c66b0 : (t340 == 2) = false := beq_eq_false_iff_ne.mpr c66
                      have c66b1 : (t340 != 2) = true := bne_iff_ne.mpr c66
                      obtain rfl := Option.some.inj H
                      obtain ⟨Ao73, co73, eo73⟩ := Kd.R_slice HO_10.out
                      subst eo73
                      go_wp2_with (first | ((with_reducible refine gate_builtin (b := .append) (xs := #[.const (.slice none 0 0), .tmp 71]) rfl ?_); (try (refine gate_guard (by rfl) ?_; dsimp only)); at_builtin; refine Kd.R_append_rows (Kd.int .u8) (w0 := w) w.heap.size rfl _ _ 40 5 (.int .u8 0) 1 rfl Try.underlying40 info5 rfl (by decide) (by omega) (.slice none 0 0) ([] : List Int) t318 _ _ _ (fun k_ => some k_ ≠ (.slice Ao73 t318.length co73 : Value).ownBlock) (fun _ => False) rfl rfl ?aO ?aR (fun _ _ h => h) (fun _ h => h.elim) ?aF ?aB ?aS ?aL ?_; (case aR => repeat (first | exact (Kd.R_reads' HO_10.out).2.2 | (with_reducible refine Kd.C_alloc ?_ _) | (with_reducible refine Kd.C_drewN ?_ _) | (with_reducible refine Kd.C_drew ?_))); (case aB => exact (by repeat (first | (with_reducible first | exact HB.out | apply below_alloc | apply pw_below_drewN | apply below_drew1) | exact HB.out))); (case aF => exact (fun k_ hk => Kd.fresh' (Kd.R_lt (by (with_reducible repeat (first | apply Kd.R_alloc | apply Kd.R_drewN | apply Kd.R_drew)); exact HO_10.out)) k_ hk)); (case aO => exact (by (with_reducible repeat (first | apply Kd.R_alloc | apply Kd.R_drewN | apply Kd.R_drew)); exact HO_98.out)); (case aS => exact (below_size (by repeat (first | (with_reducible first | exact HB.out | apply below_alloc | apply pw_below_drewN | apply below_drew1) | exact HB.out)))); (case aL => have := LMc54.out; omega); intro v334 w72 ho hb hg hat; rw [← Ny333.out] at ho; have n0_ := Aside0.mk (Kd.R_after (ok := (fun _ => True)) (by (with_reducible repeat (first | apply Kd.R_alloc | apply Kd.R_drewN | apply Kd.R_drew)); exact Kd.R_mono HO_10.out (fun _ hk => ⟨trivial, hk⟩)) hg hat); have n1_ := Aside0.mk (hb); have n2_ := Aside0.mk (ho); clear HO_10; clear HB; clear HO_98; have HO_10 := n0_; have HB := n1_; have HO335 := n2_; clear n0_ n1_ n2_; clear ho hb hg hat; have p57 : 0 ≤ (a2 : Int) := of_decide_eq_true (by first | (with_reducible assumption) | assumption); have q57 : (a2 : Int) < ((y333.length : Int) : Int) := of_decide_eq_true (by first | (with_reducible assumption) | assumption); obtain ⟨go57, co57, eo57, gb57, gl57, cl57, HG57⟩ := Kd.R_form HO335.out (by omega); (first | cases eo57 | (injection eo57 with ea_ en_ ec_; (first | subst ea_ | (injection ea_ with ea_; subst ea_)); subst ec_; clear en_)); have GB57 := Aside0.mk gb57; have GG57 := Aside0.mk HG57; clear gb57 gl57 HG57; obtain ⟨hx57_0, hf57_0⟩ := Kd.R_celln 0 HO335.out (a2 : Int) p57 q57; replace p57 := eq_true p57; replace q57 := eq_true q57; obtain ⟨hy74_, hz74_⟩ := Kd.R_celln 0 HO335.out (a2 : Int) (of_decide_eq_true (by first | (with_reducible assumption) | assumption)) (of_decide_eq_true (by first | (with_reducible assumption) | assumption)); have HP74 := Kd.R_putg HO335.out (a2 : Int) a3) | ((with_reducible refine gate_store (t := 5) (p := 76) rfl ?_); refine store_event (t := 5) (p := 76) (v := ?vo_w75) (w1 := (w72.setCell ⟨go57, (a2 : Int).toNat, none⟩ (.int .u8 a3))) ?hg ?ho ?hn ?hr ?_; (case ho => rfl); (case hg => rfl); (case hn => rfl); (case hr => first | (go_simp; done) | (go_simp; rfl)); intro w75 hw; have hg : w72.grownBy w75 (some go57) := (by rw [hw]; exact HP74.2); have hp_ : Kd.R (Kd.int .u8) 5 w75 w.heap.size (fun k_ => some k_ ≠ (.slice Ao73 t318.length co73 : Value).ownBlock) (.slice (some ⟨go57, 0, none⟩) y333.length co57) y336 := (by rw [hw, Ny336.out]; exact HP74.1); clear HP74; have n0_ := Aside0.mk (Kd.R_after (v := (.slice (some ⟨go57, 0, none⟩) y333.length co57)) (v1 := (.slice (some ⟨go57, 0, none⟩) y333.length co57)) (ok := (fun _ => True)) (by (with_reducible repeat (first | apply Kd.R_alloc | apply Kd.R_drewN | apply Kd.R_drew)); exact HO_10.out) hg (.inl rfl)); have n1_ := Aside0.mk (hp_); have n2_ := Aside0.mk ((by rw [hw]; exact below_set (HB.out) GB57.out : Below w.heap.size w w75)); clear HO_10; clear HO335; clear HB; have HO_10 := n0_; have HO335 := n1_; have HB := n2_; clear n0_ n1_ n2_; clear hg hw hp_) | ((with_reducible refine gate_callee (f := 44) rfl ?_); refine goesL_ (some 79) rfl rfl Try.func44 (by kernel_rfl) rfl #[.slice (some ⟨go57, 0, none⟩) y336.length co57] rfl (by (try simp only [List.map_toArray, List.map_cons, List.map_nil]); first | done | (rw [show y336.length = y333.length from (Kd.R_reads' HO335.out).1.symm] <;> rfl) | rfl | (simp only [List.length_drop, List.length_take]; rfl)) ?_; (with_reducible refine (section_Open.calls kj6 _ _ y336 t337 t338 t339 t340 _ ?side1 ?side2 A58.out).mono ?_); (case side1 => repeat (first | exact (Kd.R_reads' HO335.out).2.2 | (with_reducible refine Kd.C_alloc ?_ _) | (with_reducible refine Kd.C_drewN ?_ _) | (with_reducible refine Kd.C_drew ?_))); (case side2 => rw [show y336.length = y333.length from (Kd.R_reads' HO335.out).1.symm]; exact (Kd.R_reads' HO335.out).2.1); rintro e w76 ⟨v341, rfl, ho0, hb⟩; refine ⟨_, rfl, ?_⟩; have n0_ := Aside0.mk (Kd.R_elder' (by (with_reducible repeat (first | apply Kd.R_alloc | apply Kd.R_drewN | apply Kd.R_drew)); exact HO_10.out) (Kd.R_base ho0) hb); have n1_ := Aside0.mk (Kd.R_elder' (by (with_reducible repeat (first | apply Kd.R_alloc | apply Kd.R_drewN | apply Kd.R_drew)); exact HO335.out) (Kd.R_base ho0) hb); have n2_ := Aside0.mk (Kd.R_lower (Kd.R_new' (Kd.R_new' ho0 (Kd.R_lt (by (with_reducible repeat (first | apply Kd.R_alloc | apply Kd.R_drewN | apply Kd.R_drew)); exact HO_10.out))) (Kd.R_lt (by (with_reducible repeat (first | apply Kd.R_alloc | apply Kd.R_drewN | apply Kd.R_drew)); exact HO335.out))) (below_size (by repeat (first | (with_reducible first | exact HB.out | apply below_alloc | apply pw_below_drewN | apply below_drew1) | exact HB.out)))); have n3_ := Aside0.mk (below_step (by repeat (first | (with_reducible first | exact HB.out | apply below_alloc | apply pw_below_drewN | apply below_drew1) | exact HB.out)) hb); clear HO_10; clear HO335; clear HB; have HO_10 := n0_; have HO335 := n1_; have HO342 := n2_; have HB := n3_; clear n0_ n1_ n2_ n3_; (try clear hb); (try clear hb2); (try clear hk); (try clear hi); (try clear ho0)))
                      go_ret
                      exact ⟨by first | rfl | (simp [errW_none, errW_some] <;> rfl) | (simp [*, errW_none, errW_some] <;> rfl), by repeat (first | (with_reducible first | exact HB.out | apply below_alloc | apply pw_below_drewN | apply below_drew1) | exact HB.out)⟩
                · rw [if_neg c59] at H
                  have c59b0 : (t339 == 0) = false := beq_eq_false_iff_ne.mpr c59
                  have c59b1 : (t339 != 0) = true := bne_iff_ne.mpr c59
                  obtain rfl := Option.some.inj H
                  obtain ⟨Ao78, co78, eo78⟩ := Kd.R_slice HO_10.out
                  subst eo78
                  go_wp2_with (first | ((with_reducible refine gate_builtin (b := .append) (xs := #[.const (.slice none 0 0), .tmp 71]) rfl ?_); (try (refine gate_guard (by rfl) ?_; dsimp only)); at_builtin; refine Kd.R_append_rows (Kd.int .u8) (w0 := w) w.heap.size rfl _ _ 40 5 (.int .u8 0) 1 rfl Try.underlying40 info5 rfl (by decide) (by omega) (.slice none 0 0) ([] : List Int) t318 _ _ _ (fun k_ => some k_ ≠ (.slice Ao78 t318.length co78 : Value).ownBlock) (fun _ => False) rfl rfl ?aO ?aR (fun _ _ h => h) (fun _ h => h.elim) ?aF ?aB ?aS ?aL ?_; (case aR => repeat (first | exact (Kd.R_reads' HO_10.out).2.2 | (with_reducible refine Kd.C_alloc ?_ _) | (with_reducible refine Kd.C_drewN ?_ _) | (with_reducible refine Kd.C_drew ?_))); (case aB => exact (by repeat (first | (with_reducible first | exact HB.out | apply below_alloc | apply pw_below_drewN | apply below_drew1) | exact HB.out))); (case aF => exact (fun k_ hk => Kd.fresh' (Kd.R_lt (by (with_reducible repeat (first | apply Kd.R_alloc | apply Kd.R_drewN | apply Kd.R_drew)); exact HO_10.out)) k_ hk)); (case aO => exact (by (with_reducible repeat (first | apply Kd.R_alloc | apply Kd.R_drewN | apply Kd.R_drew)); exact HO_98.out)); (case aS => exact (below_size (by repeat (first | (with_reducible first | exact HB.out | apply below_alloc | apply pw_below_drewN | apply below_drew1) | exact HB.out)))); (case aL => have := LMc54.out; omega); intro v334 w77 ho hb hg hat; rw [← Ny333.out] at ho; have n0_ := Aside0.mk (Kd.R_after (ok := (fun _ => True)) (by (with_reducible repeat (first | apply Kd.R_alloc | apply Kd.R_drewN | apply Kd.R_drew)); exact Kd.R_mono HO_10.out (fun _ hk => ⟨trivial, hk⟩)) hg hat); have n1_ := Aside0.mk (hb); have n2_ := Aside0.mk (ho); clear HO_10; clear HB; clear HO_98; have HO_10 := n0_; have HB := n1_; have HO335 := n2_; clear n0_ n1_ n2_; clear ho hb hg hat; have p57 : 0 ≤ (a2 : Int) := of_decide_eq_true (by first | (with_reducible assumption) | assumption); have q57 : (a2 : Int) < ((y333.length : Int) : Int) := of_decide_eq_true (by first | (with_reducible assumption) | assumption); obtain ⟨go57, co57, eo57, gb57, gl57, cl57, HG57⟩ := Kd.R_form HO335.out (by omega); (first | cases eo57 | (injection eo57 with ea_ en_ ec_; (first | subst ea_ | (injection ea_ with ea_; subst ea_)); subst ec_; clear en_)); have GB57 := Aside0.mk gb57; have GG57 := Aside0.mk HG57; clear gb57 gl57 HG57; obtain ⟨hx57_0, hf57_0⟩ := Kd.R_celln 0 HO335.out (a2 : Int) p57 q57; replace p57 := eq_true p57; replace q57 := eq_true q57; obtain ⟨hy79_, hz79_⟩ := Kd.R_celln 0 HO335.out (a2 : Int) (of_decide_eq_true (by first | (with_reducible assumption) | assumption)) (of_decide_eq_true (by first | (with_reducible assumption) | assumption)); have HP79 := Kd.R_putg HO335.out (a2 : Int) a3) | ((with_reducible refine gate_store (t := 5) (p := 76) rfl ?_); refine store_event (t := 5) (p := 76) (v := ?vo_w80) (w1 := (w77.setCell ⟨go57, (a2 : Int).toNat, none⟩ (.int .u8 a3))) ?hg ?ho ?hn ?hr ?_; (case ho => rfl); (case hg => rfl); (case hn => rfl); (case hr => first | (go_simp; done) | (go_simp; rfl)); intro w80 hw; have hg : w77.grownBy w80 (some go57) := (by rw [hw]; exact HP79.2); have hp_ : Kd.R (Kd.int .u8) 5 w80 w.heap.size (fun k_ => some k_ ≠ (.slice Ao78 t318.length co78 : Value).ownBlock) (.slice (some ⟨go57, 0, none⟩) y333.length co57) y336 := (by rw [hw, Ny336.out]; exact HP79.1); clear HP79; have n0_ := Aside0.mk (Kd.R_after (v := (.slice (some ⟨go57, 0, none⟩) y333.length co57)) (v1 := (.slice (some ⟨go57, 0, none⟩) y333.length co57)) (ok := (fun _ => True)) (by (with_reducible repeat (first | apply Kd.R_alloc | apply Kd.R_drewN | apply Kd.R_drew)); exact HO_10.out) hg (.inl rfl)); have n1_ := Aside0.mk (hp_); have n2_ := Aside0.mk ((by rw [hw]; exact below_set (HB.out) GB57.out : Below w.heap.size w w80)); clear HO_10; clear HO335; clear HB; have HO_10 := n0_; have HO335 := n1_; have HB := n2_; clear n0_ n1_ n2_; clear hg hw hp_) | ((with_reducible refine gate_callee (f := 44) rfl ?_); refine goesL_ (some 79) rfl rfl Try.func44 (by kernel_rfl) rfl #[.slice (some ⟨go57, 0, none⟩) y336.length co57] rfl (by (try simp only [List.map_toArray, List.map_cons, List.map_nil]); first | done | (rw [show y336.length = y333.length from (Kd.R_reads' HO335.out).1.symm] <;> rfl) | rfl | (simp only [List.length_drop, List.length_take]; rfl)) ?_; (with_reducible refine (section_Open.calls kj6 _ _ y336 t337 t338 t339 t340 _ ?side1 ?side2 A58.out).mono ?_); (case side1 => repeat (first | exact (Kd.R_reads' HO335.out).2.2 | (with_reducible refine Kd.C_alloc ?_ _) | (with_reducible refine Kd.C_drewN ?_ _) | (with_reducible refine Kd.C_drew ?_))); (case side2 => rw [show y336.length = y333.length from (Kd.R_reads' HO335.out).1.symm]; exact (Kd.R_reads' HO335.out).2.1); rintro e w81 ⟨v341, rfl, ho0, hb⟩; refine ⟨_, rfl, ?_⟩; have n0_ := Aside0.mk (Kd.R_elder' (by (with_reducible repeat (first | apply Kd.R_alloc | apply Kd.R_drewN | apply Kd.R_drew)); exact HO_10.out) (Kd.R_base ho0) hb); have n1_ := Aside0.mk (Kd.R_elder' (by (with_reducible repeat (first | apply Kd.R_alloc | apply Kd.R_drewN | apply Kd.R_drew)); exact HO335.out) (Kd.R_base ho0) hb); have n2_ := Aside0.mk (Kd.R_lower (Kd.R_new' (Kd.R_new' ho0 (Kd.R_lt (by (with_reducible repeat (first | apply Kd.R_alloc | apply Kd.R_drewN | apply Kd.R_drew)); exact HO_10.out))) (Kd.R_lt (by (with_reducible repeat (first | apply Kd.R_alloc | apply Kd.R_drewN | apply Kd.R_drew)); exact HO335.out))) (below_size (by repeat (first | (with_reducible first | exact HB.out | apply below_alloc | apply pw_below_drewN | apply below_drew1) | exact HB.out)))); have n3_ := Aside0.mk (below_step (by repeat (first | (with_reducible first | exact HB.out | apply below_alloc | apply pw_below_drewN | apply below_drew1) | exact HB.out)) hb); clear HO_10; clear HO335; clear HB; have HO_10 := n0_; have HO335 := n1_; have HO342 := n2_; have HB := n3_; clear n0_ n1_ n2_ n3_; (try clear hb); (try clear hb2); (try clear hk); (try clear hi); (try clear ho0)))
                  go_ret
                  exact ⟨by first | rfl | (simp [errW_none, errW_some] <;> rfl) | (simp [*, errW_none, errW_some] <;> rfl), by repeat (first | (with_reducible first | exact HB.out | apply below_alloc | apply pw_below_drewN | apply below_drew1) | exact HB.out)⟩
              · rw [if_neg c56] at H
                exact absurd H (by simp)
            · rw [if_neg c55] at H
              exact absurd H (by simp)
          · rw [if_neg c54] at H
            exact absurd H (by simp)

/-- THE ONE PURE STATEMENT of rolodexlaw02_SectionOne: yours. -/
def rolodexlaw02_SectionOne.Pure : Prop := ∀ (a0 : Int) (l1 : List Int) (a2 : Int) (a3 : Int), (Lit.int .i64 a0).wf = true → l1.length ≤ maxLen → l1.length * 1 ≤ 140737488351232 → (∀ x ∈ l1, (Lit.int .u8 x).wf = true) → (Lit.int .i64 a2).wf = true → (Lit.int .u8 a3).wf = true → ∃ k, rolodexlaw02_SectionOne.f k a0 l1 a2 a3 = some true
theorem rolodexlaw02_SectionOne.walk (P : rolodexlaw02_SectionOne.Pure) (a0 : Int) (a1 : Option Addr) (len1 cap1 : Nat) (z1 : List Int) (a2 : Int) (a3 : Int) (w : World) (w0 : (Lit.int .i64 a0).wf = true) (w1 : (a1 = none ∧ len1 = 0 ∧ cap1 = 0 ∧ z1 = []) ∨ ∃ x, a1 = some x ∧ len1 ≤ cap1 ∧ cap1 ≤ maxLen ∧ z1.length = cap1 ∧ (∀ i, i < z1.length → w.cell? (x.add i) = some (.int .u8 (z1.getD i 0))) ∧ ∀ n ∈ z1, (Lit.int .u8 n).wf = true) (y1 : len1 * 1 ≤ 140737488351232) (w2 : (Lit.int .i64 a2).wf = true) (w3 : (Lit.int .u8 a3).wf = true) :
    Calls Try.prog 10 #[.int .i64 a0, .slice a1 len1 cap1, .int .i64 a2, .int .u8 a3] w fun e w' => e = .returned (.bool true) ∧ Below w.heap.size w w' := by
  obtain ⟨l1, rfl, hr1, hm1, hw1, hc1⟩ := ReadsInt.ofRowC w1
  obtain ⟨k, h⟩ := P a0 l1 a2 a3 w0 hm1 y1 hw1 w2 w3
  refine (rolodexlaw02_SectionOne.calls k a0 _ _ l1 a2 a3 true w (Kd.C_of_reads (d := (0 : Int)) (h1 := fun _ => rfl) hr1) hc1 h).mono ?_
  rintro e w' ⟨rfl, hd⟩
  exact ⟨rfl, hd⟩

end Go.Proofs.Ytchaegfdcdlfaaa.X

/- With one byte changed a section is none, in plain lists. -/
namespace Go.Proofs.Ytchaegfdcdlfaaa.Pure
set_option linter.unusedVariables false
set_option linter.unusedSimpArgs false
open Go.RowKit Go.Proofs.Ytchaegfdcdlfaaa.X Go.Proofs.YtchaegfdcdlfaaaW.PrintWords Go.Proofs.YtchaegfdcdlfaaaW.PrintLast
open Go.Proofs.Ytchaegfdcdlfaaa.Y (Bytes put put_range put_length word word_four word_bytes word_length four four_word)

theorem nats_set (l : List Int) (i : Nat) (c : Int) : nats (l.set i c) = (nats l).set i c.toNat := by unfold nats; rw [List.map_set]
theorem nats_get (l : List Int) (i : Nat) : (nats l).getD i 0 = (l.getD i 0).toNat := by
  unfold nats
  simp only [List.getD_eq_getElem?_getD, List.getElem?_map]
  cases l[i]? <;> rfl
theorem getD_byte {l : List Int} (h : Bytes l) (i : Nat) : 0 ≤ l.getD i 0 ∧ l.getD i 0 ≤ 255 := by
  rw [List.getD_eq_getElem?_getD]
  cases hq : l[i]? with
  | none => simp
  | some x => exact h x (List.mem_of_getElem? hq)
/-- Bytes that differ in one place have other checks. -/
theorem sum_set_ne {l : List Int} (h : Bytes l) {i : Nat} (hi : i < l.length) {c : Int} (h0 : 0 ≤ c) (h1 : c ≤ 255) (hne : l.getD i 0 ≠ c) : sumL (l.set i c) ≠ sumL l := fun e => by
  unfold sumL at e
  rw [nats_set] at e
  have e2 : crc ((nats l).set i c.toNat) = crc (nats l) := by omega
  have := crc_set (nats_lt h) (by unfold nats; rw [List.length_map]; exact hi) (by omega) e2
  rw [nats_get] at this
  have := getD_byte h i
  omega
theorem headL_set {a : Int} {l : List Int} {j : Nat} (c : Int) : headL a (l.set j c) = (headL a l).set (1 + (put l.length).length + j) c := by
  unfold headL
  rw [List.length_set, show 1 + (put l.length).length + j = ((put l.length).length + j) + 1 by omega, List.set_cons_succ, List.set_append_right _ _ (by omega)]
  congr 3
  omega
theorem one_changed {a : Int} {l : List Int} (h0 : 0 ≤ a) (h9 : a ≤ 9) (hb : Bytes l) (hl : l.length ≤ 100000) {i : Nat} (hi : i < (packL a l).length) (hp : i = 0 ∨ 1 + (put l.length).length ≤ i) {c : Int} (c0 : 0 ≤ c) (c1 : c ≤ 255) (hne : (packL a l).getD i 0 ≠ c) :
    openL ((packL a l).set i c) = (0, [], 0, 3) ∨ openL ((packL a l).set i c) = (0, [], 0, 2) ∧ i = 0 := by
  have hH := headL_length a l
  have hHB := headL_byt h0 h9 hb
  obtain ⟨q, hq⟩ : ∃ q, q = word (crc (nats (headL a l))) := ⟨_, rfl⟩
  have hqb : Bytes q := by rw [hq]; exact word_bytes _
  have hq4 : q.length = 4 := by rw [hq, word_length]
  have hqf : (four q : Int) = sumL (headL a l) := by rw [hq, four_word _ (crc_lt _)]; rfl
  have hP : packL a l = headL a l ++ q := by rw [hq]; rfl
  rw [packL_length] at hi
  rw [hP] at hne ⊢
  rcases hp with rfl | hp
  · have hs : (headL a l ++ q).set 0 c = headL c l ++ q := rfl
    rw [hs]
    have hca : a ≠ c := hne
    by_cases hc : 10 ≤ c
    · exact Or.inr ⟨open_kind hc, rfl⟩
    · refine Or.inl (open_bad c0 (by omega) hb hl hqb hq4 ?_)
      rw [hqf]
      exact fun e => sum_set_ne hHB (i := 0) (by omega) c0 c1 hne e.symm
  · by_cases hd : i < (headL a l).length
    · obtain ⟨j, rfl⟩ : ∃ j, i = 1 + (put l.length).length + j := ⟨i - (1 + (put l.length).length), by omega⟩
      have hg : (headL a l).getD (1 + (put l.length).length + j) 0 ≠ c := by
        rw [List.getD_eq_getElem?_getD, List.getElem?_append_left hd, ← List.getD_eq_getElem?_getD] at hne
        exact hne
      rw [List.set_append_left _ _ hd, ← headL_set]
      refine Or.inl (open_bad h0 h9 (byt_set hb j c0 c1) (by rw [List.length_set]; exact hl) hqb hq4 ?_)
      rw [hqf, headL_set]
      exact fun e => sum_set_ne hHB hd c0 c1 hg e.symm
    · rw [List.set_append_right _ _ (by omega)]
      refine Or.inl (open_bad h0 h9 hb hl (byt_set hqb _ c0 c1) (by rw [List.length_set]; exact hq4) ?_)
      intro e
      have hw := word_four (q.set (i - (headL a l).length) c) (by rw [List.length_set]; exact hq4) (byt_set hqb _ c0 c1)
      have e2 : four (q.set (i - (headL a l).length) c) = crc (nats (headL a l)) := by unfold sumL at e; omega
      rw [e2, ← hq] at hw
      have hx : (headL a l ++ q).getD i 0 = c := by
        rw [List.getD_eq_getElem?_getD, List.getElem?_append_right (by omega)]
        conv => lhs; rw [hw]
        rw [List.getElem?_set_self (by omega)]
        rfl
      exact hne hx

theorem SectionOne : rolodexlaw02_SectionOne.Pure := by
  intro a l i c ha hl _ hw _ hc
  have hb := bytes_of_lits hw
  have hcb := byte_of_lit hc
  refine ⟨100, ?_⟩
  unfold rolodexlaw02_SectionOne.f rolodexlaw02_awake.f
  simp only [Option.bind_some, if_true]
  have hj : ∀ p, rolodexlaw02_SectionOne.j0 100 l i c true p true [] = some true := fun p => by rw [rolodexlaw02_SectionOne.j0, if_pos rfl]
  by_cases h : a < 0 ∨ 9 < a ∨ 100000 < l.length
  · rw [Pack_none h 100 (by omega)]
    simp only [Option.bind_some]
    rw [if_neg (by decide), hj]
  · have h0 : 0 ≤ a := by omega
    have h9 : a ≤ 9 := by omega
    have hl5 : l.length ≤ 100000 := by omega
    rw [Pack_eq h0 h9 hb hl5 100 (by omega)]
    simp only [Option.bind_some, if_true]
    by_cases h3 : (l.length : Int) > 300
    · rw [if_pos h3, hj]
    · have hp := packL_length a l
      have hp10 := put_length l.length (by omega)
      have hp1 := Go.Proofs.Ytchaegfdcdlfaaa.Y.put_length_pos l.length
      rw [if_neg h3, if_neg (by omega)]
      by_cases h1 : i < 0
      · rw [if_pos h1, hj]
      · rw [if_neg h1]
        by_cases h2 : i ≥ ((packL a l).length : Int)
        · rw [if_pos h2, hj]
        · rw [if_neg h2, if_pos (by omega), if_pos (by omega)]
          by_cases he : rd (packL a l) i = c
          · rw [show (rd (packL a l) i == c) = true from beq_iff_eq.2 he, hj]
          · rw [show (rd (packL a l) i == c) = false from beq_false_of_ne he, rolodexlaw02_SectionOne.j0, if_neg (by decide)]
            have hw4 : wrap64 (wrap64 (((packL a l).length : Int) - 4) - (l.length : Int)) = 1 + ((put l.length).length : Int) := by
              rw [w64s (((packL a l).length : Int) - 4) (by omega) (by omega), w64s _ (by omega) (by omega)]
              omega
            have hgo : (i = 0 ∨ 1 + ((put l.length).length : Int) ≤ i) → (∃ r, section_Open.f 99 ((packL a l).set i.toNat c) = some r ∧ (r = (0, [], 0, 3) ∨ r = (0, [], 0, 2) ∧ i = 0)) := fun hpi => by
              refine ⟨_, Open_eq 99 (byt_set (packL_byt h0 h9 hb) _ hcb.1 hcb.2) (by rw [List.length_set]; omega), ?_⟩
              rcases one_changed h0 h9 hb hl5 (i := i.toNat) (by omega) (by omega) hcb.1 hcb.2 he with h | ⟨h, hz⟩
              · exact Or.inl h
              · exact Or.inr ⟨h, by omega⟩
            have hlen : ([] : List Int).length + (packL a l).length < 140737488355328 := by rw [hp]; simp; omega
            by_cases hi0 : i > 0
            · rw [if_pos hi0, hw4]
              by_cases hi1 : i < 1 + ((put l.length).length : Int)
              · rw [if_pos hi1]
              · rw [if_neg hi1, if_pos hlen]
                simp only [Option.bind_some, List.nil_append]
                rw [if_pos (by omega), if_pos (by omega)]
                obtain ⟨r, hr, hrr⟩ := hgo (Or.inr (by omega))
                rw [hr]
                rcases hrr with rfl | ⟨rfl, hz⟩
                · rfl
                · omega
            · rw [if_neg hi0, if_pos hlen]
              simp only [Option.bind_some, List.nil_append]
              rw [if_pos (by omega), if_pos (by omega)]
              obtain ⟨r, hr, hrr⟩ := hgo (Or.inl (by omega))
              rw [hr]
              rcases hrr with rfl | ⟨rfl, hz⟩
              · rfl
              · subst hz
                rfl
end Go.Proofs.Ytchaegfdcdlfaaa.Pure

/- Bytes that differ in one place have other checks; three lists' checks: the walk. -/
namespace Go.Proofs.Ytchaegfdcdlfaaa.X
set_option linter.unusedVariables false
set_option linter.unusedSimpArgs false
open Go.RowKit Go.Maps Go.Proofs.Ytchaegfdcdlfaaa.Y Go.Proofs.YtchaegfdcdlfaaaW.PrintWords Go.Proofs.YtchaegfdcdlfaaaW.PrintLast Go.Proofs.YtchaegfdcdlfaaaW.PrintMore

theorem rdn (l : List Int) (j : Nat) : rd l (j : Int) = l.getD j 0 := by unfold rd; rw [Int.toNat_natCast]
def xorAt (la lb ld : List Int) (j : Nat) : Nat := (la.getD j 0).toNat ^^^ (lb.getD j 0).toNat ^^^ (ld.getD j 0).toNat
theorem xor3_get : ∀ (l m n : List Nat) (j : Nat), l.length = m.length → m.length = n.length → (xor3 l m n).getD j 0 = (l.getD j 0 ^^^ m.getD j 0 ^^^ n.getD j 0)
  | [], [], [], j, _, _ => by simp [xor3]
  | a :: l, b :: m, d :: n, 0, h1, h2 => by simp [xor3]
  | a :: l, b :: m, d :: n, j + 1, h1, h2 => by
    show (xor3 l m n).getD j 0 = (l.getD j 0 ^^^ m.getD j 0 ^^^ n.getD j 0)
    exact xor3_get l m n j (by simpa using h1) (by simpa using h2)
  | [], _ :: _, _, _, h1, _ => by simp at h1
  | _ :: _, [], _, _, h1, _ => by simp at h1
  | _, [], _ :: _, _, _, h2 => by simp at h2
  | _, _ :: _, [], _, _, h2 => by simp at h2
theorem xor3_length : ∀ (l m n : List Nat), l.length = m.length → m.length = n.length → (xor3 l m n).length = l.length
  | [], [], [], _, _ => by simp [xor3]
  | a :: l, b :: m, d :: n, h1, h2 => by
    show (xor3 l m n).length + 1 = l.length + 1
    rw [xor3_length l m n (by simpa using h1) (by simpa using h2)]
  | [], _ :: _, _, h1, _ => by simp at h1
  | _ :: _, [], _, h1, _ => by simp at h1
  | _, [], _ :: _, _, h2 => by simp at h2
  | _, _ :: _, [], _, h2 => by simp at h2
theorem sum_xor3 {la lb ld X : List Int} {n : Nat} (ha : la.length = n) (hb : lb.length = n) (hd : ld.length = n) (hX : X.length = n) (ba : Bytes la) (bb : Bytes lb) (bd : Bytes ld) (hx : ∀ j, j < n → X.getD j 0 = (xorAt la lb ld j : Int)) :
    Bytes X ∧ ∃ p q r : Nat, sumL la = (p : Int) ∧ sumL lb = (q : Int) ∧ sumL ld = (r : Int) ∧ p < 4294967296 ∧ q < 4294967296 ∧ r < 4294967296 ∧ sumL X = ((p ^^^ q ^^^ r : Nat) : Int) := by
  have hN : nats X = xor3 (nats la) (nats lb) (nats ld) := by
    apply List.ext_getElem
    · rw [xor3_length _ _ _ (by simp [nats, ha, hb]) (by simp [nats, hb, hd])]
      simp [nats, ha, hX]
    · intro j h1 h2
      have hj : j < n := by simpa [nats, hX] using h1
      have e1 := xor3_get (nats la) (nats lb) (nats ld) j (by simp [nats, ha, hb]) (by simp [nats, hb, hd])
      rw [Pure.nats_get, Pure.nats_get, Pure.nats_get] at e1
      have e2 : (xor3 (nats la) (nats lb) (nats ld)).getD j 0 = (xor3 (nats la) (nats lb) (nats ld))[j] := by rw [List.getD_eq_getElem?_getD, List.getElem?_eq_getElem h2]; rfl
      have e3 : (nats X).getD j 0 = (nats X)[j] := by rw [List.getD_eq_getElem?_getD, List.getElem?_eq_getElem h1]; rfl
      rw [← e2, ← e3, Pure.nats_get, hx j hj, e1]
      rfl
  have hlt := xor3_lt (nats_lt ba) (nats_lt bb) (nats_lt bd)
  refine ⟨?_, crc (nats la), crc (nats lb), crc (nats ld), rfl, rfl, rfl, crc_lt _, crc_lt _, crc_lt _, ?_⟩
  · intro x hx2
    obtain ⟨j, hj, rfl⟩ := List.mem_iff_getElem.1 hx2
    have e : X.getD j 0 = X[j] := by rw [List.getD_eq_getElem?_getD, List.getElem?_eq_getElem hj]; rfl
    have hm : X[j].toNat ∈ nats X := List.mem_map.2 ⟨X[j], List.getElem_mem hj, rfl⟩
    rw [hN] at hm
    have := hlt _ hm
    have := hx j (by omega)
    omega
  · unfold sumL
    rw [hN, crc_xor3 (by simp [nats, ha, hb]) (by simp [nats, hb, hd]) (nats_lt ba) (nats_lt bb) (nats_lt bd) hlt]
theorem r_form {W : World} {base n : Nat} {ok : Nat → Prop} {v : Value} {X : List Int} (hn : X.length = n) (h : Kd.R (Kd.int .u8) 5 W base ok v X) (hp : 0 < n) : ∃ g cap, v = .slice (some ⟨g, 0, none⟩) n cap ∧ base ≤ g := by
  subst hn
  obtain ⟨g, cap, rfl, hg, _⟩ := Kd.R_form h hp
  exact ⟨g, cap, rfl, hg⟩
theorem r_read {W : World} {base n : Nat} {ok : Nat → Prop} {v : Value} {X : List Int} (hn : X.length = n) (h : Kd.R (Kd.int .u8) 5 W base ok v X) : ∃ A c, v = .slice A n c ∧ n ≤ c ∧ RdB W A n X := by
  subst hn
  exact Kd.R_reads h
theorem set_xor {la lb ld X : List Int} {n i : Nat} (hX : X.length = n) (hi : i < n) (h : ∀ j, j < n → X.getD j 0 = if j < i then (xorAt la lb ld j : Int) else la.getD j 0) :
    (X.set i (xorAt la lb ld i : Int)).length = n ∧ ∀ j, j < n → (X.set i (xorAt la lb ld i : Int)).getD j 0 = if j < i + 1 then (xorAt la lb ld j : Int) else la.getD j 0 := by
  refine ⟨by simp [hX], fun j hj => ?_⟩
  rw [List.getD_eq_getElem?_getD, List.getElem?_set]
  by_cases hji : i = j
  · subst hji
    rw [if_pos rfl, if_pos (by omega), if_pos (by omega)]
    rfl
  · rw [if_neg hji, ← List.getD_eq_getElem?_getD, h j hj]
    by_cases h2 : j < i
    · rw [if_pos h2, if_pos (by omega)]
    · rw [if_neg h2, if_neg (by omega)]
set_option maxHeartbeats 4000000 in
set_option maxRecDepth 100000 in
theorem sums_off0 (A B D : Option Addr) (na ca nb cb nd cd : Nat) (at_ c : Int) (w : World)  (h : 100 < na) : Calls Try.prog 12 #[.slice A na ca, .slice B nb cb, .slice D nd cd, .int .i64 at_, .int .u8 c] w fun e w' => e = .returned (.bool true) ∧ Below w.heap.size w w' := by
  have e0 : decide ((na : Int) > 100) = true := decide_eq_true (by omega)
  have e0b : decide (100 < na) = true := decide_eq_true h
  go_enter Try.func12, Try.ntmps12
  go_wp2_with fail
  refine (awake2_call _).mono ?_
  rintro e w1 ⟨rfl, hb1⟩
  go_wp2_with fail
  go_ret
  exact ⟨rfl, hb1⟩
set_option maxHeartbeats 4000000 in
set_option maxRecDepth 100000 in
theorem sums_off1 (A B D : Option Addr) (na ca nb cb nd cd : Nat) (at_ c : Int) (w : World) (h0 : ¬ 100 < na) (h : nb ≠ na) : Calls Try.prog 12 #[.slice A na ca, .slice B nb cb, .slice D nd cd, .int .i64 at_, .int .u8 c] w fun e w' => e = .returned (.bool true) ∧ Below w.heap.size w w' := by
  have d0 : decide ((na : Int) > 100) = false := decide_eq_false (by omega)
  have d0b : decide (100 < na) = false := decide_eq_false (by omega)
  have e1 : ((nb : Int) != (na : Int)) = true := by simp; omega
  have e1b : (((nb : Nat) : Int) = (na : Int)) = False := by simp; omega
  have e1n : (nb = na) = False := by simp; omega
  go_enter Try.func12, Try.ntmps12
  go_wp2_with fail
  refine (awake2_call _).mono ?_
  rintro e w1 ⟨rfl, hb1⟩
  go_wp2_with fail
  go_ret
  exact ⟨rfl, hb1⟩
set_option maxHeartbeats 4000000 in
set_option maxRecDepth 100000 in
theorem sums_off2 (A B D : Option Addr) (na ca nb cb nd cd : Nat) (at_ c : Int) (w : World) (h0 : ¬ 100 < na) (h1 : ¬ nb ≠ na) (h : nd ≠ na) : Calls Try.prog 12 #[.slice A na ca, .slice B nb cb, .slice D nd cd, .int .i64 at_, .int .u8 c] w fun e w' => e = .returned (.bool true) ∧ Below w.heap.size w w' := by
  have d0 : decide ((na : Int) > 100) = false := decide_eq_false (by omega)
  have d0b : decide (100 < na) = false := decide_eq_false (by omega)
  have d1 : ((nb : Int) != (na : Int)) = false := by simp; omega
  have d1b : (((nb : Nat) : Int) = (na : Int)) = True := by simp; omega
  have d1n : (nb = na) = True := by simp; omega
  have e2 : ((nd : Int) != (na : Int)) = true := by simp; omega
  have e2b : (((nd : Nat) : Int) = (na : Int)) = False := by simp; omega
  have e2n : (nd = na) = False := by simp; omega
  go_enter Try.func12, Try.ntmps12
  go_wp2_with fail
  refine (awake2_call _).mono ?_
  rintro e w1 ⟨rfl, hb1⟩
  go_wp2_with fail
  go_ret
  exact ⟨rfl, hb1⟩
set_option maxHeartbeats 4000000 in
set_option maxRecDepth 100000 in
theorem sums_on (A B D : Option Addr) (n ca cb cd : Nat) (la lb ld : List Int) (at_ c : Int) (w : World) (hla : la.length = n) (hlb : lb.length = n) (hld : ld.length = n) (hca : n ≤ ca) (hra : RdB w A n la) (hrb : RdB w B n lb) (hrd : RdB w D n ld) (ba : Bytes la) (bb : Bytes lb) (bd : Bytes ld) (c0 : 0 ≤ c) (c1 : c ≤ 255) (h0 : ¬ 100 < n) : Calls Try.prog 12 #[.slice A n ca, .slice B n cb, .slice D n cd, .int .i64 at_, .int .u8 c] w fun e w' => e = .returned (.bool true) ∧ Below w.heap.size w w' := by
  have d0 : decide ((n : Int) > 100) = false := decide_eq_false (by omega)
  have d0b : decide (100 < n) = false := decide_eq_false (by omega)
  have d1 : ((n : Int) != (n : Int)) = false := by simp
  have HRA := Aside0.mk hra
  have HRB := Aside0.mk hrb
  have HRD := Aside0.mk hrd
  have HBA := Aside0.mk ba
  have HBB := Aside0.mk bb
  have HBD := Aside0.mk bd
  have HLA := Aside0.mk hla
  have HLB := Aside0.mk hlb
  have HLD := Aside0.mk hld
  have HC0 := Aside0.mk c0
  have HC1 := Aside0.mk c1
  have HN : Aside0 (n ≤ 100) := ⟨by omega⟩
  clear hla hlb hld hra hrb hrd ba bb bd c0 c1 h0
  go_enter Try.func12, Try.ntmps12
  go_wp2_with fail
  refine (awake2_call _).mono ?_
  rintro e w1 ⟨rfl, hb1⟩
  have HB1 := Aside0.mk hb1
  clear hb1
  go_wp2_with (first
    | ((with_reducible refine gate_builtin (b := .append) (xs := #[.const (.slice none 0 0), .tmp 38]) rfl ?_); at_builtin; refine Kd.R_append_rows (Kd.int .u8) (w0 := w) w.heap.size rfl _ _ 40 5 (.int .u8 0) 1 rfl Try.underlying40 info5 rfl (by decide) (by omega) (.slice none 0 0) ([] : List Int) la _ _ _ (fun _ => True) (fun _ => False) rfl rfl (Kd.R_nil _ _ _ _ _) (Kd.C_below HRA.out HB1.out) (fun _ _ h => h) (fun _ h => h.elim) ?aF HB1.out (below_size HB1.out) (by have := HN.out; simp; omega) ?_; (case aF => exact fun _ _ => trivial); intro vx w2 hx2 hb2 hg2 hat2; have HX0 := Aside0.mk hx2; have HB2 := Aside0.mk hb2; clear hx2 hb2 hg2 hat2)
    | ((with_reducible refine gate_builtin (b := .append) (xs := #[.const (.slice none 0 0), .tmp 40]) rfl ?_); at_builtin; refine Kd.R_append_rows (Kd.int .u8) (w0 := w) w.heap.size rfl _ _ 40 5 (.int .u8 0) 1 rfl Try.underlying40 info5 rfl (by decide) (by omega) (.slice none 0 0) ([] : List Int) la _ _ _ (fun k => some k ≠ vx.ownBlock) (fun _ => False) rfl rfl (Kd.R_nil _ _ _ _ _) (Kd.C_below HRA.out HB2.out) (fun _ _ h => h) (fun _ h => h.elim) ?aF HB2.out (below_size HB2.out) (by have := HN.out; simp; omega) ?_; (case aF => exact Kd.fresh' (Kd.R_lt HX0.out)); intro vy w3 hy3 hb3 hg3 hat3; have HX : Aside0 (Kd.R (Kd.int .u8) 5 w3 w.heap.size (fun k => True ∧ some k ≠ vy.ownBlock) vx la) := ⟨Kd.R_after (ok := fun _ => True) (Kd.R_mono HX0.out (fun k _ => ⟨trivial, by simp [Value.ownBlock]⟩)) hg3 hat3⟩; have HY : Aside0 (Kd.R (Kd.int .u8) 5 w3 w.heap.size (fun k => some k ≠ vx.ownBlock) vy la) := ⟨hy3⟩; have HB3 := Aside0.mk hb3; clear hy3 hb3 hg3 hat3)
    | fail)
  go_loopg [14] n (fun k v w' => ∃ (j : Nat) (X : List Int), v = .int .i64 j ∧ Aside0 (k = n - j ∧ j ≤ n) ∧ Aside0 (X.length = n ∧ ∀ i, i < n → X.getD i 0 = if i < j then (xorAt la lb ld i : Int) else la.getD i 0) ∧ Aside0 (Kd.R (Kd.int .u8) 5 w' w.heap.size (fun k => True ∧ some k ≠ vy.ownBlock) vx X) ∧ Aside0 (Kd.R (Kd.int .u8) 5 w' w.heap.size (fun k => some k ≠ vx.ownBlock) vy la) ∧ Aside0 (Below w.heap.size w w'))
  case atStart => exact ⟨0, la, rfl, ⟨by omega, by omega⟩, ⟨HLA.out, fun i _ => by simp⟩, HX, HY, HB3⟩
  case round =>
    clear HX HY HX0 HB1 HB2 HB3
    obtain ⟨j, X, rfl, HJ, HXJ, HX, HY, HB⟩ := hrel
    by_cases hj : j < n
    · obtain ⟨gx, capx, rfl, hgx⟩ := r_form HXJ.out.1 HX.out (by omega)
      have e1 : decide ((j : Int) < (n : Int)) = true := by simpa using hj
      have e2 : ((j : Int) < (n : Int)) = True := by simpa using hj
      have e3 : (0 ≤ (j : Int)) = True := by simp
      have e4 : IntKind.i64.wrap ((j : Int) + 1) = ((j + 1 : Nat) : Int) := by have := HN.out; simp [IntKind.wrap, IntKind.bits, IntKind.signed]; omega
      have HJN := Aside0.mk hj
      have HGX := Aside0.mk hgx
      obtain ⟨adA, eA, xA⟩ := Kd.at_int (Kd.C_below HRA.out HB.out) (j : Int) (by omega) (by omega)
      obtain ⟨adB, eB, xB⟩ := Kd.at_int (Kd.C_below HRB.out HB.out) (j : Int) (by omega) (by omega)
      obtain ⟨adD, eD, xD⟩ := Kd.at_int (Kd.C_below HRD.out HB.out) (j : Int) (by omega) (by omega)
      obtain ⟨za, hza⟩ : ∃ z, z = (la.getD j 0).toNat := ⟨_, rfl⟩
      obtain ⟨zb, hzb⟩ : ∃ z, z = (lb.getD j 0).toNat := ⟨_, rfl⟩
      obtain ⟨zd, hzd⟩ : ∃ z, z = (ld.getD j 0).toNat := ⟨_, rfl⟩
      have ra : rd la (j : Int) = (za : Int) := by have := Pure.getD_byte HBA.out j; rw [rdn]; omega
      have rb : rd lb (j : Int) = (zb : Int) := by have := Pure.getD_byte HBB.out j; rw [rdn]; omega
      have rd_ : rd ld (j : Int) = (zd : Int) := by have := Pure.getD_byte HBD.out j; rw [rdn]; omega
      have za256 : za < 256 := by have := Pure.getD_byte HBA.out j; omega
      have zb256 : zb < 256 := by have := Pure.getD_byte HBB.out j; omega
      have zd256 : zd < 256 := by have := Pure.getD_byte HBD.out j; omega
      rw [ra] at xA
      rw [rb] at xB
      rw [rd_] at xD
      rw [Int.toNat_natCast] at xA xB xD
      obtain ⟨q, hq⟩ : ∃ q, q = za ^^^ zb := ⟨_, rfl⟩
      have q256 : q < 256 := by rw [hq]; exact Nat.xor_lt_two_pow (n := 8) (by omega) (by omega)
      obtain ⟨r, hr⟩ : ∃ r, r = q ^^^ zd := ⟨_, rfl⟩
      have hx1 : bits .xor .u8 (za : Int) (zb : Int) = (q : Int) := by rw [hq]; exact u8_xor_nat za zb za256 zb256
      have hx2 : bits .xor .u8 (q : Int) (zd : Int) = (r : Int) := by rw [hr]; exact u8_xor_nat q zd q256 zd256
      have HRX : Aside0 (r = xorAt la lb ld j) := ⟨by rw [hr, hq, hza, hzb, hzd]; rfl⟩
      obtain ⟨y1, y2⟩ := Kd.R_celln 0 (Kd.R_drew HX.out) (j : Int) (by omega) (by omega)
      obtain ⟨y1', y2'⟩ := Kd.R_celln 0 HX.out (j : Int) (by omega) (by omega)
      rw [Int.toNat_natCast] at y1 y2 y1' y2'
      subst eA
      subst eB
      subst eD
      clear hza hzb hzd ra rb rd_ za256 zb256 zd256 hq q256 hr hj hgx
      go_wp2_with fail
      go_still_tail 17, (by kernel_rfl)
      go_wp2_with fail
      go_roundg (n - (j + 1))
      case measure => have := HJ.out; have := HJN.out; omega
      case rel =>
        have hp := Kd.R_putg (Kd.R_drew HX.out) (j : Int) (r : Int)
        rw [Int.toNat_natCast] at hp
        obtain ⟨s1, s2⟩ := set_xor HXJ.out.1 HJN.out HXJ.out.2
        refine ⟨j + 1, X.set j (r : Int), by simp [e4], ⟨rfl, by have := HJN.out; omega⟩, ⟨?_, ?_⟩, ⟨hp.1⟩, ⟨?_⟩, ⟨?_⟩⟩
        · rw [HRX.out]; exact s1
        · rw [HRX.out]; exact s2
        · exact Kd.R_mono (Kd.R_after (v := .slice (some ⟨gx, 0, none⟩) n capx) (v1 := .slice (some ⟨gx, 0, none⟩) n capx) (ok := fun _ => True) (Kd.R_mono (Kd.R_drew HY.out) (fun k hk => ⟨trivial, hk⟩)) hp.2 (.inl rfl)) (fun k hk => hk.2)
        · exact below_set (below_drew HB.out) HGX.out
    · have hjn : j = n := by have := HJ.out; omega
      subst hjn
      have e1 : decide ((j : Int) < (j : Int)) = false := by simp
      obtain ⟨hBX, p, q, r, hsa, hsb, hsd, hp, hq, hr, hsx⟩ := sum_xor3 HLA.out HLB.out HLD.out HXJ.out.1 HBA.out HBB.out HBD.out (fun i hi => by rw [HXJ.out.2 i hi, if_pos hi])
      have e1n : decide (j < j) = false := by simp
      obtain ⟨pq, hpq⟩ : ∃ z, z = p ^^^ q := ⟨_, rfl⟩
      have pq32 : pq < 4294967296 := by rw [hpq]; exact Nat.xor_lt_two_pow (n := 32) (by omega) (by omega)
      obtain ⟨pqr, hpqr⟩ : ∃ z, z = pq ^^^ r := ⟨_, rfl⟩
      have hx1 : bits .xor .u32 (p : Int) (q : Int) = (pq : Int) := by rw [hpq]; exact u32_xor_nat p q hp hq
      have hx2 : bits .xor .u32 (pq : Int) (r : Int) = (pqr : Int) := by rw [hpqr]; exact u32_xor_nat pq r pq32 hr
      have HSA := Aside0.mk hsa
      have HSB := Aside0.mk hsb
      have HSD := Aside0.mk hsd
      have HSX : Aside0 (sumL X = (pqr : Int)) := ⟨by rw [hsx, hpqr, hpq]⟩
      have HBX := Aside0.mk hBX
      have HLX := Aside0.mk HXJ.out.1
      have fin : ((pqr : Int) == (pqr : Int)) = true := by simp
      clear hpq pq32 hpqr hsa hsb hsd hsx hp hq hr hBX HXJ
      by_cases hat : 0 ≤ at_ ∧ at_ < j
      · obtain ⟨i, rfl⟩ := Int.eq_ofNat_of_zero_le hat.1
        have hi : i < j := by omega
        obtain ⟨gx, capx, rfl, hgx⟩ := r_form HLX.out HX.out (by omega)
        obtain ⟨gy, capy, rfl, hgy⟩ := r_form HLA.out HY.out (by omega)
        have f1 : decide ((i : Int) ≥ 0) = true := by simp
        have f1b : (0 ≤ (i : Int)) = True := by simp
        have f2 : decide ((i : Int) < (j : Int)) = true := by simp; omega
        have f2b : ((i : Int) < (j : Int)) = True := by simp; omega
        have f2n : decide (i < j) = true := by simp; omega
        obtain ⟨y1, y2⟩ := Kd.R_celln 0 (Kd.R_drew HY.out) (i : Int) (by omega) (by omega)
        obtain ⟨y1', y2'⟩ := Kd.R_celln 0 HY.out (i : Int) (by omega) (by omega)
        rw [Int.toNat_natCast] at y1 y2 y1' y2'
        obtain ⟨ai, hai⟩ : ∃ z, rd la (i : Int) = z := ⟨_, rfl⟩
        obtain ⟨adA, eA, xA⟩ := Kd.at_int HRA.out (i : Int) (by omega) (by omega)
        rw [hai, Int.toNat_natCast] at xA
        have HAC : Aside0 (∀ W, Below w.heap.size w W → W.cell? (adA.add i) = some (.int .u8 ai)) := ⟨fun W hW => (hW.cell (World.block_lt_of_cell? _ _ xA)).trans xA⟩
        subst eA
        obtain ⟨ly, hly⟩ : ∃ z, z = la.set i c := ⟨_, rfl⟩
        obtain ⟨sy, hsy⟩ : ∃ z, sumL ly = z := ⟨_, rfl⟩
        obtain ⟨b, hb, hb2⟩ : ∃ b, (sy == (p : Int)) = b ∧ (c == ai) = b := by
          by_cases hc : c = ai
          · refine ⟨true, ?_, by simpa using hc⟩
            have : ly = la := by
              rw [hly, hc, ← hai, rdn]
              apply List.ext_getElem?
              intro k
              rw [List.getElem?_set]
              by_cases hk : i = k
              · subst hk
                rw [if_pos rfl, if_pos (by have := HLA.out; omega), List.getD_eq_getElem?_getD, List.getElem?_eq_getElem (by have := HLA.out; omega)]
                rfl
              · rw [if_neg hk]
            rw [← hsy, this, HSA.out]
            simp
          · refine ⟨false, ?_, by simpa using hc⟩
            have := Pure.sum_set_ne HBA.out (i := i) (by have := HLA.out; omega) HC0.out HC1.out (by rw [← rdn, hai]; exact fun e => hc e.symm)
            rw [← hly, hsy, HSA.out] at this
            simpa using this
        have hbd : decide (sy = (p : Int)) = b := by rw [← hb]; rfl
        have hbd2 : decide (c = ai) = b := by rw [← hb2]; rfl
        have hbb : (b != b) = false := by simp
        have HSY := Aside0.mk hsy
        have HLY : Aside0 (ly.length = j) := ⟨by rw [hly, List.length_set]; exact HLA.out⟩
        have HBY : Aside0 (Bytes ly) := ⟨by
          rw [hly]
          intro x hx
          rcases List.mem_or_eq_of_mem_set hx with hx | rfl
          · exact HBA.out x hx
          · exact ⟨HC0.out, HC1.out⟩⟩
        have hpg := Kd.R_putg HY.out (i : Int) c
        rw [Int.toNat_natCast, ← hly] at hpg
        have HYC := Aside0.mk (by have := (Kd.R_reads' hpg.1).2.2; rwa [HLY.out] at this : RdB _ (some ⟨gy, 0, none⟩) j ly)
        have HXC := Aside0.mk (by have := (Kd.R_reads' (Kd.R_after (v := .slice (some ⟨gy, 0, none⟩) j capy) (v1 := .slice (some ⟨gy, 0, none⟩) j capy) (ok := fun _ => True) HX.out hpg.2 (.inl rfl))).2.2; rwa [HLX.out] at this : RdB _ (some ⟨gx, 0, none⟩) j X)
        have HB7 := Aside0.mk (below_set (j := i) (v := .int .u8 c) HB.out hgy)
        clear hat hi hgx hgy hai xA hly hsy hpg
        go_wp2_with fail
        refine wp_region_held_drew (S := (fun W => RdB W (some ⟨gy, 0, none⟩) j ly ∧ RdB W (some ⟨gx, 0, none⟩) j X ∧ Below w.heap.size w W)) (by kernel_rfl) ((And.intro HYC.out (And.intro HXC.out (below_drew HB7.out)))) (fun hHeld => ?_)
        refine wpAnyH_take (i := 0) (v := ?_) (by simp only [List.getElem?_toArray, List.getElem?_cons_succ, List.getElem?_cons_zero]; rfl) (by kernel_rfl) (by kernel_rfl) (by kernel_rfl) (by intro _ _ _ h; exact h) (Or.inl ⟨by rfl, ?hy⟩) (by assumption) ?_
        case hy => (intro W_ hW_; go_simp; first | done | with_reducible rfl)
        try simp only [Act.put, List.setIfInBounds_toArray, List.set_cons_zero, List.set_cons_succ]
        refine wpAnyH_take (i := 2) (v := ?_) (by simp only [List.getElem?_toArray, List.getElem?_cons_succ, List.getElem?_cons_zero]; rfl) (by kernel_rfl) (by kernel_rfl) (by kernel_rfl) (by intro _ _ _ h; exact h) (Or.inl ⟨by rfl, ?hy⟩) (by assumption) ?_
        case hy => (intro W_ hW_; go_simp; first | done | with_reducible rfl)
        try simp only [Act.put, List.setIfInBounds_toArray, List.set_cons_zero, List.set_cons_succ]
        refine wpAnyH_take (i := 5) (v := ?_) (by simp only [List.getElem?_toArray, List.getElem?_cons_succ, List.getElem?_cons_zero]; rfl) (by kernel_rfl) (by kernel_rfl) (by kernel_rfl) (by intro _ _ _ h; exact h) (Or.inl ⟨by rfl, ?hy⟩) (by assumption) ?_
        case hy => (intro W_ hW_; go_simp; first | done | with_reducible rfl)
        try simp only [Act.put, List.setIfInBounds_toArray, List.set_cons_zero, List.set_cons_succ]
        refine wpAnyH_take (i := 6) (v := ?_) (by simp only [List.getElem?_toArray, List.getElem?_cons_succ, List.getElem?_cons_zero]; rfl) (by kernel_rfl) (by kernel_rfl) (by kernel_rfl) (by intro _ _ _ h; exact h) (Or.inl ⟨by rfl, ?hy⟩) (by assumption) ?_
        case hy => (intro W_ hW_; go_simp; first | done | with_reducible rfl)
        try simp only [Act.put, List.setIfInBounds_toArray, List.set_cons_zero, List.set_cons_succ]
        refine wpAnyH_take (i := 7) (v := ?_) (by simp only [List.getElem?_toArray, List.getElem?_cons_succ, List.getElem?_cons_zero]; rfl) (by kernel_rfl) (by kernel_rfl) (by kernel_rfl) (by intro _ _ _ h; exact h) (Or.inl ⟨by rfl, ?hy⟩) (by assumption) ?_
        case hy => (intro W_ hW_; go_simp; first | done | with_reducible rfl)
        try simp only [Act.put, List.setIfInBounds_toArray, List.set_cons_zero, List.set_cons_succ]
        refine wpAnyH_take (i := 8) (v := ?_) (by simp only [List.getElem?_toArray, List.getElem?_cons_succ, List.getElem?_cons_zero]; rfl) (by kernel_rfl) (by kernel_rfl) (by kernel_rfl) (by intro _ _ _ h; exact h) (Or.inl ⟨by rfl, ?hy⟩) (by assumption) ?_
        case hy => (intro W_ hW_; go_simp; first | done | with_reducible rfl)
        try simp only [Act.put, List.setIfInBounds_toArray, List.set_cons_zero, List.set_cons_succ]
        refine wpAnyH_take (i := 9) (v := ?_) (by simp only [List.getElem?_toArray, List.getElem?_cons_succ, List.getElem?_cons_zero]; rfl) (by kernel_rfl) (by kernel_rfl) (by kernel_rfl) (by intro _ _ _ h; exact h) (Or.inl ⟨by rfl, ?hy⟩) (by assumption) ?_
        case hy => (intro W_ hW_; have f_ := HAC.out W_ hW_.2.2; go_simp; first | done | with_reducible rfl)
        try simp only [Act.put, List.setIfInBounds_toArray, List.set_cons_zero, List.set_cons_succ]
        refine wpAnyH_take (i := 10) (v := ?_) (by simp only [List.getElem?_toArray, List.getElem?_cons_succ, List.getElem?_cons_zero]; rfl) (by kernel_rfl) (by kernel_rfl) (by kernel_rfl) (by intro _ _ _ h; exact h) (Or.inl ⟨by rfl, ?hy⟩) (by assumption) ?_
        case hy => (intro W_ hW_; go_simp; first | done | with_reducible rfl)
        try simp only [Act.put, List.setIfInBounds_toArray, List.set_cons_zero, List.set_cons_succ]
        refine wpAnyH_ready (rs := [1]) (by kernel_rfl) (by simp) ?_
        refine AllReadyH.cons (by simp only [List.getElem?_toArray, List.getElem?_cons_succ, List.getElem?_cons_zero]; rfl) (fun K hK => ?_) AllReadyH.nil
        rw [if_pos (by rfl)]
        go_wp2_with fail
        refine (sum_call2 (some ⟨gy, 0, none⟩) capy ly j HLY.out _ hHeld.1 HBY.out (by have := HN.out; omega) sy HSY.out).mono ?_
        rintro e w5 ⟨rfl, hb5⟩
        refine hK.out _ _ (And.intro (Kd.C_below hHeld.1 hb5) (And.intro (Kd.C_below hHeld.2.1 hb5) (below_step hHeld.2.2 hb5))) (fun hHeld2 => ?_)
        clear hK K hHeld
        have hHeld := hHeld2
        clear hHeld2
        try simp only [Act.put, List.setIfInBounds_toArray, List.set_cons_zero, List.set_cons_succ]
        refine wpAnyH_ready (rs := [3]) (by kernel_rfl) (by simp) ?_
        refine AllReadyH.cons (by simp only [List.getElem?_toArray, List.getElem?_cons_succ, List.getElem?_cons_zero]; rfl) (fun K hK => ?_) AllReadyH.nil
        rw [if_pos (by rfl)]
        go_wp2_with fail
        refine (sum_call2 (some adA) ca la j HLA.out _ (Kd.C_below HRA.out hHeld.2.2) HBA.out (by have := HN.out; omega) (p : Int) HSA.out).mono ?_
        rintro e w6 ⟨rfl, hb5⟩
        refine hK.out _ _ (And.intro (Kd.C_below hHeld.1 hb5) (And.intro (Kd.C_below hHeld.2.1 hb5) (below_step hHeld.2.2 hb5))) (fun hHeld2 => ?_)
        clear hK K hHeld
        have hHeld := hHeld2
        clear hHeld2
        try simp only [Act.put, List.setIfInBounds_toArray, List.set_cons_zero, List.set_cons_succ]
        refine wpAnyH_take (i := 4) (v := ?_) (by simp only [List.getElem?_toArray, List.getElem?_cons_succ, List.getElem?_cons_zero]; rfl) (by kernel_rfl) (by kernel_rfl) (by kernel_rfl) (by intro _ _ _ h; exact h) (Or.inl ⟨by rfl, ?hy⟩) (by assumption) ?_
        case hy => (intro W_ hW_; go_simp; first | done | with_reducible rfl)
        try simp only [Act.put, List.setIfInBounds_toArray, List.set_cons_zero, List.set_cons_succ]
        refine wpAnyH_take (i := 11) (v := ?_) (by simp only [List.getElem?_toArray, List.getElem?_cons_succ, List.getElem?_cons_zero]; rfl) (by kernel_rfl) (by kernel_rfl) (by kernel_rfl) (by intro _ _ _ h; exact h) (Or.inl ⟨by rfl, ?hy⟩) (by assumption) ?_
        case hy => (intro W_ hW_; go_simp; first | done | with_reducible rfl)
        try simp only [Act.put, List.setIfInBounds_toArray, List.set_cons_zero, List.set_cons_succ]
        refine wpAnyH_done (by kernel_rfl) ?_ _
        go_wp2_with fail
        refine (sum_call2 (some ⟨gx, 0, none⟩) capx X j HLX.out _ hHeld.2.1 HBX.out (by have := HN.out; omega) (pqr : Int) HSX.out).mono ?_
        rintro e u0 ⟨rfl, hb⟩
        have HB8 := Aside0.mk (below_step hHeld.2.2 hb)
        clear hb
        go_wp2_with fail
        refine (sum_call2 (some adA) ca la j HLA.out _ (Kd.C_below HRA.out HB8.out) HBA.out (by have := HN.out; omega) (p : Int) HSA.out).mono ?_
        rintro e u1 ⟨rfl, hb⟩
        have HB9 := Aside0.mk (below_step HB8.out hb)
        clear hb
        go_wp2_with fail
        refine (sum_call2 B cb lb j HLB.out _ (Kd.C_below HRB.out HB9.out) HBB.out (by have := HN.out; omega) (q : Int) HSB.out).mono ?_
        rintro e u2 ⟨rfl, hb⟩
        have HB10 := Aside0.mk (below_step HB9.out hb)
        clear hb
        go_wp2_with fail
        refine (sum_call2 D cd ld j HLD.out _ (Kd.C_below HRD.out HB10.out) HBD.out (by have := HN.out; omega) (r : Int) HSD.out).mono ?_
        rintro e u3 ⟨rfl, hb⟩
        have HB11 := Aside0.mk (below_step HB10.out hb)
        clear hb
        go_wp2_with fail
        go_ret
        exact ⟨rfl, HB11.out⟩
      · obtain ⟨vA, cx, rfl, hcx, hXC⟩ := r_read HLX.out HX.out
        have HXC := Aside0.mk hXC
        clear hXC hcx
        have HB7 := HB
        by_cases h0 : 0 ≤ at_
        · have f1 : decide (at_ ≥ 0) = true := decide_eq_true h0
          have f1b : (0 ≤ at_) = True := eq_true h0
          have f2 : decide (at_ < (j : Int)) = false := decide_eq_false (by omega)
          clear hat h0
          go_wp2_with fail
          refine (sum_call2 vA cx X j HLX.out _ HXC.out HBX.out (by have := HN.out; omega) (pqr : Int) HSX.out).mono ?_
          rintro e u0 ⟨rfl, hb⟩
          have HB8 := Aside0.mk (below_step HB7.out hb)
          clear hb
          go_wp2_with fail
          refine (sum_call2 A ca la j HLA.out _ (Kd.C_below HRA.out HB8.out) HBA.out (by have := HN.out; omega) (p : Int) HSA.out).mono ?_
          rintro e u1 ⟨rfl, hb⟩
          have HB9 := Aside0.mk (below_step HB8.out hb)
          clear hb
          go_wp2_with fail
          refine (sum_call2 B cb lb j HLB.out _ (Kd.C_below HRB.out HB9.out) HBB.out (by have := HN.out; omega) (q : Int) HSB.out).mono ?_
          rintro e u2 ⟨rfl, hb⟩
          have HB10 := Aside0.mk (below_step HB9.out hb)
          clear hb
          go_wp2_with fail
          refine (sum_call2 D cd ld j HLD.out _ (Kd.C_below HRD.out HB10.out) HBD.out (by have := HN.out; omega) (r : Int) HSD.out).mono ?_
          rintro e u3 ⟨rfl, hb⟩
          have HB11 := Aside0.mk (below_step HB10.out hb)
          clear hb
          go_wp2_with fail
          go_ret
          exact ⟨rfl, HB11.out⟩
        · have f1 : decide (at_ ≥ 0) = false := decide_eq_false h0
          have f1b : (0 ≤ at_) = False := eq_false h0
          clear hat h0
          go_wp2_with fail
          refine (sum_call2 vA cx X j HLX.out _ HXC.out HBX.out (by have := HN.out; omega) (pqr : Int) HSX.out).mono ?_
          rintro e u0 ⟨rfl, hb⟩
          have HB8 := Aside0.mk (below_step HB7.out hb)
          clear hb
          go_wp2_with fail
          refine (sum_call2 A ca la j HLA.out _ (Kd.C_below HRA.out HB8.out) HBA.out (by have := HN.out; omega) (p : Int) HSA.out).mono ?_
          rintro e u1 ⟨rfl, hb⟩
          have HB9 := Aside0.mk (below_step HB8.out hb)
          clear hb
          go_wp2_with fail
          refine (sum_call2 B cb lb j HLB.out _ (Kd.C_below HRB.out HB9.out) HBB.out (by have := HN.out; omega) (q : Int) HSB.out).mono ?_
          rintro e u2 ⟨rfl, hb⟩
          have HB10 := Aside0.mk (below_step HB9.out hb)
          clear hb
          go_wp2_with fail
          refine (sum_call2 D cd ld j HLD.out _ (Kd.C_below HRD.out HB10.out) HBD.out (by have := HN.out; omega) (r : Int) HSD.out).mono ?_
          rintro e u3 ⟨rfl, hb⟩
          have HB11 := Aside0.mk (below_step HB10.out hb)
          clear hb
          go_wp2_with fail
          go_ret
          exact ⟨rfl, HB11.out⟩
theorem rolodexlaw02_SectionSums.walk (a0 : Option Addr) (len0 cap0 : Nat) (z0 : List Int) (a1 : Option Addr) (len1 cap1 : Nat) (z1 : List Int) (a2 : Option Addr) (len2 cap2 : Nat) (z2 : List Int) (a3 : Int) (a4 : Int) (w : World)
    (w0 : (a0 = none ∧ len0 = 0 ∧ cap0 = 0 ∧ z0 = []) ∨ ∃ x, a0 = some x ∧ len0 ≤ cap0 ∧ cap0 ≤ maxLen ∧ z0.length = cap0 ∧ (∀ i, i < z0.length → w.cell? (x.add i) = some (.int .u8 (z0.getD i 0))) ∧ ∀ n ∈ z0, (Lit.int .u8 n).wf = true) (y0 : len0 * 1 ≤ 140737488351232)
    (w1 : (a1 = none ∧ len1 = 0 ∧ cap1 = 0 ∧ z1 = []) ∨ ∃ x, a1 = some x ∧ len1 ≤ cap1 ∧ cap1 ≤ maxLen ∧ z1.length = cap1 ∧ (∀ i, i < z1.length → w.cell? (x.add i) = some (.int .u8 (z1.getD i 0))) ∧ ∀ n ∈ z1, (Lit.int .u8 n).wf = true) (y1 : len1 * 1 ≤ 140737488351232)
    (w2 : (a2 = none ∧ len2 = 0 ∧ cap2 = 0 ∧ z2 = []) ∨ ∃ x, a2 = some x ∧ len2 ≤ cap2 ∧ cap2 ≤ maxLen ∧ z2.length = cap2 ∧ (∀ i, i < z2.length → w.cell? (x.add i) = some (.int .u8 (z2.getD i 0))) ∧ ∀ n ∈ z2, (Lit.int .u8 n).wf = true) (y2 : len2 * 1 ≤ 140737488351232)
    (w3 : (Lit.int .i64 a3).wf = true) (w4 : (Lit.int .u8 a4).wf = true) : Calls Try.prog 12 #[.slice a0 len0 cap0, .slice a1 len1 cap1, .slice a2 len2 cap2, .int .i64 a3, .int .u8 a4] w fun e w' => e = .returned (.bool true) ∧ Below w.heap.size w w' := by
  obtain ⟨l0, hl0, hr0, hm0, hw0, hc0⟩ := ReadsInt.ofRowC w0
  obtain ⟨l1, hl1, hr1, hm1, hw1, hc1⟩ := ReadsInt.ofRowC w1
  obtain ⟨l2, hl2, hr2, hm2, hw2, hc2⟩ := ReadsInt.ofRowC w2
  by_cases h0 : 100 < len0
  · exact sums_off0 a0 a1 a2 len0 cap0 len1 cap1 len2 cap2 a3 a4 w h0
  · by_cases h1 : len1 ≠ len0
    · exact sums_off1 a0 a1 a2 len0 cap0 len1 cap1 len2 cap2 a3 a4 w h0 h1
    · by_cases h2 : len2 ≠ len0
      · exact sums_off2 a0 a1 a2 len0 cap0 len1 cap1 len2 cap2 a3 a4 w h0 h1 h2
      · obtain rfl : len1 = len0 := by omega
        obtain rfl : len2 = len1 := by omega
        have k4 := byte_of_lit w4
        exact sums_on a0 a1 a2 len2 cap0 cap1 cap2 l0 l1 l2 a3 a4 w hl0.symm hl1.symm hl2.symm (hl0 ▸ hc0) (hl0 ▸ Kd.C_of_reads (d := (0 : Int)) (h1 := fun _ => rfl) hr0) (hl1 ▸ Kd.C_of_reads (d := (0 : Int)) (h1 := fun _ => rfl) hr1) (hl2 ▸ Kd.C_of_reads (d := (0 : Int)) (h1 := fun _ => rfl) hr2) (fun x hx => byte_of_lit (hw0 x hx)) (fun x hx => byte_of_lit (hw1 x hx)) (fun x hx => byte_of_lit (hw2 x hx)) k4.1 k4.2 h0
end Go.Proofs.Ytchaegfdcdlfaaa.X

/- The row of SectionSums, over the walk that is proved by hand. -/
namespace Go.Proofs.Ytchaegfdcdlfaaa.sectionSums
open Go.ChangeShapes Go.WideShapes Go.ChangeAt Go.RowKit
open Go.ChangeMaps (open_string shut_string)
set_option linter.unusedVariables false
theorem own : ownKnob Try.prog.godebug = none := by kernel_rfl
theorem laidOut : laidOutB Try.prog = true := by kernel_rfl
def IsRow (k : IntKind) (w : World) (a : Option Addr) (len cap : Nat) (zs : List Int) : Prop :=
  (a = none ∧ len = 0 ∧ cap = 0 ∧ zs = []) ∨
  ∃ x, a = some x ∧ len ≤ cap ∧ cap ≤ maxLen ∧ zs.length = cap ∧ (∀ i, i < zs.length → w.cell? (x.add i) = some (.int k (zs.getD i 0))) ∧ ∀ n ∈ zs, (Lit.int k n).wf = true
set_option maxRecDepth 100000 in
theorem lifted (os : Os) (started : os.Started) (H : Type) (enc : TypeId × Value → H) :
    ReturnsInHanded {} Try.checked os 12 .any (Rows.sectionSumsSpec.pre6 enc Try.prog Try.f12 Rows.sectionSumsRow.domain false) (Rows.sectionSumsSpec.post enc Try.prog Try.f12 false true false false) := by
  refine returnsInHanded_of_change_sized (C := Try.checked) own started (by kernel_rfl) Try.func12
    (ChangeSpec.witness6 (enc := enc) (C := Try.checked) false ⟨#[], #[.slice none 0 0, .slice none 0 0, .slice none 0 0, .int .i64 0, .int .u8 0], []⟩ 8 (by kernel_rfl) (by kernel_rfl) (by kernel_rfl) (by kernel_rfl)) ?_
  intro W base args ds gs before hval0 hW hcnd hsz0 _
  have hsz : (DataW.weightsEach Try.prog (Try.f12.params.toList ++ Rows.sectionSumsSpec.plain.varTypes Try.prog) (ds ++ gs)).all (· ≤ reachBytes) = true := hsz0
  have hval : ∀ (j : Nat) t v, Try.f12.params[j]? = some t → args[j]? = some v → Value.okWide Try.prog W .any base t v := hval0
  have hW' := hW
  obtain ⟨p, q, hA0, hV, rfl, hfz, hnd⟩ := hW
  have hA : DataW.TrodAll enc Try.prog W 0 (fun _ => true) true Try.f12.params.toList args.toList ds p := hA0
  rw [Try.params12] at hA hval hsz
  obtain ⟨v0, vs0, d0, ds0, p0, q0, hargs, rfl, rfl, h0, r0⟩ := trodAll_cons hA
  obtain ⟨v1, vs1, d1, ds1, p1, q1, rfl, rfl, rfl, h1, r1⟩ := trodAll_cons r0
  obtain ⟨v2, vs2, d2, ds2, p2, q2, rfl, rfl, rfl, h2, r2⟩ := trodAll_cons r1
  obtain ⟨v3, vs3, d3, ds3, p3, q3, rfl, rfl, rfl, h3, r3⟩ := trodAll_cons r2
  obtain ⟨v4, vs4, d4, ds4, p4, q4, rfl, rfl, rfl, h4, r4⟩ := trodAll_cons r3
  obtain ⟨rfl, rfl, rfl⟩ := trodAll_nil r4
  obtain rfl : args = #[v0, v1, v2, v3, v4] := by cases args; simp_all
  obtain ⟨rfl, rfl⟩ := trodVars_none hV
  obtain ⟨a0, len0, cap0, rfl⟩ := okWide_slice Try.underlying40 (hval 0 40 v0 rfl rfl)
  have k0 := h0
  have lt0 : ∀ x ∈ p0, x.block < W.heap.size := by obtain ⟨m, hm⟩ := k0; exact DataW.trod_lt m _ _ _ hm
  obtain ⟨z0, w0⟩ : ∃ zs, IsRow .u8 W a0 len0 cap0 zs := by
    obtain ⟨fuel, hf⟩ := h0
    rcases open_ints Try.underlying40 Try.underlying5 (by kernel_rfl) hf with ⟨hcs, _⟩ | ⟨x, l, c, zs, hcs, _, hl, hm, hz, _, hcell, hwz⟩
    · simp [Value.cells] at hcs
      obtain ⟨rfl, rfl, rfl⟩ := hcs
      exact ⟨[], .inl ⟨rfl, rfl, rfl, rfl⟩⟩
    · simp [Value.cells] at hcs
      obtain ⟨rfl, rfl, rfl⟩ := hcs
      exact ⟨zs, .inr ⟨_, rfl, hl, hm, by simpa using hz, hcell, hwz⟩⟩
  have y0 : len0 * 1 ≤ 140737488351232 := Go.Proofs.YtchaegfdcdlfaaaW.PrintWords.sized_ints hsz (j := 0) (t := 40) rfl rfl Try.underlying40 Try.underlying5 (by kernel_rfl) (by kernel_rfl) h0
  obtain ⟨a1, len1, cap1, rfl⟩ := okWide_slice Try.underlying40 (hval 1 40 v1 rfl rfl)
  have k1 := h1
  have lt1 : ∀ x ∈ p1, x.block < W.heap.size := by obtain ⟨m, hm⟩ := k1; exact DataW.trod_lt m _ _ _ hm
  obtain ⟨z1, w1⟩ : ∃ zs, IsRow .u8 W a1 len1 cap1 zs := by
    obtain ⟨fuel, hf⟩ := h1
    rcases open_ints Try.underlying40 Try.underlying5 (by kernel_rfl) hf with ⟨hcs, _⟩ | ⟨x, l, c, zs, hcs, _, hl, hm, hz, _, hcell, hwz⟩
    · simp [Value.cells] at hcs
      obtain ⟨rfl, rfl, rfl⟩ := hcs
      exact ⟨[], .inl ⟨rfl, rfl, rfl, rfl⟩⟩
    · simp [Value.cells] at hcs
      obtain ⟨rfl, rfl, rfl⟩ := hcs
      exact ⟨zs, .inr ⟨_, rfl, hl, hm, by simpa using hz, hcell, hwz⟩⟩
  have y1 : len1 * 1 ≤ 140737488351232 := Go.Proofs.YtchaegfdcdlfaaaW.PrintWords.sized_ints hsz (j := 1) (t := 40) rfl rfl Try.underlying40 Try.underlying5 (by kernel_rfl) (by kernel_rfl) h1
  obtain ⟨a2, len2, cap2, rfl⟩ := okWide_slice Try.underlying40 (hval 2 40 v2 rfl rfl)
  have k2 := h2
  have lt2 : ∀ x ∈ p2, x.block < W.heap.size := by obtain ⟨m, hm⟩ := k2; exact DataW.trod_lt m _ _ _ hm
  obtain ⟨z2, w2⟩ : ∃ zs, IsRow .u8 W a2 len2 cap2 zs := by
    obtain ⟨fuel, hf⟩ := h2
    rcases open_ints Try.underlying40 Try.underlying5 (by kernel_rfl) hf with ⟨hcs, _⟩ | ⟨x, l, c, zs, hcs, _, hl, hm, hz, _, hcell, hwz⟩
    · simp [Value.cells] at hcs
      obtain ⟨rfl, rfl, rfl⟩ := hcs
      exact ⟨[], .inl ⟨rfl, rfl, rfl, rfl⟩⟩
    · simp [Value.cells] at hcs
      obtain ⟨rfl, rfl, rfl⟩ := hcs
      exact ⟨zs, .inr ⟨_, rfl, hl, hm, by simpa using hz, hcell, hwz⟩⟩
  have y2 : len2 * 1 ≤ 140737488351232 := Go.Proofs.YtchaegfdcdlfaaaW.PrintWords.sized_ints hsz (j := 2) (t := 40) rfl rfl Try.underlying40 Try.underlying5 (by kernel_rfl) (by kernel_rfl) h2
  obtain ⟨a3, rfl, rfl, rfl, w3⟩ := open_int Try.underlying3 (hval 3 3 v3 rfl rfl) h3
  obtain ⟨a4, rfl, rfl, rfl, w4⟩ := open_int Try.underlying5 (hval 4 5 v4 rfl rfl) h4
  clear hA0 hval0 hsz0 hsz
  refine (X.rolodexlaw02_SectionSums.walk a0 len0 cap0 z0 a1 len1 cap1 z1 a2 len2 cap2 z2 a3 a4 W w0 y0 w1 y1 w2 y2 w3 w4).mono fun e W' ⟨he, bel⟩ => ?_
  subst he
  exact ⟨_, rfl, _, _, _, [], _, [], hW', trodAll_mk1 (shut_bool Try.underlying4 _), (trodAll_cons_mk (Below.trod laidOut (by kernel_rfl) (of_decide_eq_true (by kernel_rfl)) k0 bel lt0) (trodAll_cons_mk (Below.trod laidOut (by kernel_rfl) (of_decide_eq_true (by kernel_rfl)) k1 bel lt1) (trodAll_cons_mk (Below.trod laidOut (by kernel_rfl) (of_decide_eq_true (by kernel_rfl)) k2 bel lt2) (trodAll_cons_mk (shut_int Try.underlying3 w3) (trodAll_cons_mk (shut_int Try.underlying5 w4) trodAll_mk0))))), rfl, bel.frame _, fun h => by cases h⟩
theorem clos0 : (J.closT Try.prog 185 [12] []).isSome = true := by kernel_rfl
theorem clos1 : Try.prog.closure 12 = (J.closT Try.prog 185 [12] []).getD [] := J.clos_eq (of_decide_eq_true (by kernel_rfl)) clos0
theorem fact1 : Try.prog.inPlace 12 = [] := by unfold Program.inPlace; rw [clos1]; kernel_rfl
theorem fact2 : Try.prog.unfollowed 12 = true := by unfold Program.unfollowed; rw [clos1]; kernel_rfl
theorem fact3 : Try.prog.recurses 12 = true := by unfold Program.recurses; rw [fact2]; rfl
theorem fact4 : Try.prog.varsNamed 12 = [] := by unfold Program.varsNamed; rw [clos1]; kernel_rfl
set_option maxRecDepth 100000 in
theorem facts : joinedFacts Try.prog 12 Try.f12 Rows.sectionSumsSpec Rows.sectionSumsRow = true := by
  unfold joinedFacts
  simp only [Bool.and_eq_true]
  repeat' apply And.intro
  all_goals first | (with_reducible exact J.mayEnter) | (rw [J.liftsFinal]; kernel_rfl) | (rw [J.make]; kernel_rfl) | (rw [fact1]; kernel_rfl) | (rw [fact2]; kernel_rfl) | (rw [fact3]; kernel_rfl) | (rw [fact4]; kernel_rfl) | kernel_rfl
theorem over : Rows.sectionSumsRow.holds Try.pinned (OpenSpec.ofChange Rows.sectionSumsSpec) :=
  OpenClaim.holds_of_wide 12 Try.f12 rfl rfl rfl rfl rfl rfl rfl ⟨rfl, rfl, rfl, rfl, rfl⟩ rfl rfl rfl rfl rfl (by kernel_rfl) Try.func12 facts
    (of_decide_eq_true (by kernel_rfl)) (by unfold Func.isWrapper; first | (rw [if_pos (by decide +kernel)]; kernel_rfl) | (rw [if_neg (by decide +kernel)]; exact ⟨rfl, rfl⟩))
    (fun os started H enc _ => lifted os started H enc)
theorem proved : Rows.SectionSumsSaid := over
#print axioms proved
end Go.Proofs.Ytchaegfdcdlfaaa.sectionSums
namespace Go.Proofs.Ytchaegfdcdlfaaa
/-- The row, under a short name, for the claim. -/
theorem sectionSums_holds : Rows.SectionSumsSaid := sectionSums.proved
end Go.Proofs.Ytchaegfdcdlfaaa
