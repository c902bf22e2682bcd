/- Texts of this claim, one behind the other: Xx79, Xx82, DRRd, Xx80. -/
import Derived.Test.YtchaegfdcdlfaaaE1v
import Derived.Test.YtchaegfdcdlfaaaF1v
import Derived.Test.YtchaegfdcdlfaaaG1v
import Derived.Test.YtchaegfdcdlfaaaE2v

namespace Go.Proofs.Ytchaegfdcdlfaaa.X
open Go.RowKit Go.Proofs.YtchaegfdcdlfaaaW.PrintWords Go.Proofs.YtchaegfdcdlfaaaW.PrintLast Go.Proofs.YtchaegfdcdlfaaaW.PrintMore
attribute [local go_sem] max2_int min2_int max_two min_two max_three min_three max_four min_four   -- for this text's walks alone
set_option linter.unusedVariables false
set_option linter.unusedSimpArgs false

/-! ### rolodexref11_Put: function 51 -/
def rolodexref11_Put.l0 : Nat → List (S67) → List Int → Int → Option (List Int × Bool)
  | 0, _, _, _ => none
  | k + 1, x0, x5, x6 => if x6 < (x0.length : Int) then (if 0 ≤ x6 then (if (rd_T67 x0 x6).f0 = true then (if x5.length < 140737488355328 then ((some (x5 ++ [1] : List Int)).bind fun y468 => ((rolodexref01_Put.f k (IntKind.u64.wrap ((rd_T67 x0 x6).f1))).bind fun t472 => (if y468.length + t472.length < 140737488355328 then ((some (y468 ++ t472 : List Int)).bind fun y475 => ((rolodexref01_Put.f k (IntKind.u64.wrap ((rd_T67 x0 x6).f2))).bind fun t479 => (if y475.length + t479.length < 140737488355328 then (rolodexref11_Put.l0 k x0 (y475 ++ t479) (wrap64 (x6 + 1))) else (none)))) else (none)))) else (none)) else (if x5.length < 140737488355328 then ((some (x5 ++ [0] : List Int)).bind fun y485 => ((rolodexref01_Text.f k ((rd_T67 x0 x6).f3)).bind fun t489 => (if y485.length + t489.length < 140737488355328 then (rolodexref11_Put.l0 k x0 (y485 ++ t489) (wrap64 (x6 + 1))) else (none)))) else (none))) else (none)) else (some (x5, true))
def rolodexref11_Put.f (k : Nat) (l0 : List (S67)) : Option (List Int × Bool) := (rolodexref11_May.f k l0).bind fun t463 => (if t463 = true then ((rolodexref01_Put.f k (IntKind.u64.wrap ((l0.length : Int)))).bind fun t464 => (rolodexref11_Put.l0 k l0 t464 0)) else (some (([] : List Int), false)))
theorem rolodexref11_Put.mono_l : ∀ k, (∀ y0 y1 y2, LeO (rolodexref11_Put.l0 k y0 y1 y2) (rolodexref11_Put.l0 (k + 1) y0 y1 y2))
  | 0 => fun _ _ _ r h => by simp [rolodexref11_Put.l0] at h
  | k + 1 => by
    have ih0 := rolodexref11_Put.mono_l k
    · intro y0 y1 y2
      unfold rolodexref11_Put.l0
      repeat' first
      | (with_reducible exact ih0 _ _ _)
      | (with_reducible exact rolodexref01_Put.mono _ _)
      | (with_reducible exact rolodexref01_Text.mono _ _)
      | (with_reducible exact rolodexref11_May.mono _ _)
      | (with_reducible exact LeO.refl _)
      | (with_reducible exact LeO.none _)
      | (with_reducible refine LeO.ite ?_ ?_)
      | (with_reducible refine LeO.bind ?_ (fun _ => ?_))
      | exact ih0 _ _ _
      | exact rolodexref01_Put.mono _ _
      | exact rolodexref01_Text.mono _ _
      | exact rolodexref11_May.mono _ _
      | exact LeO.none _
      | refine LeO.ite ?_ ?_
      | refine LeO.bind ?_ (fun _ => ?_)
theorem rolodexref11_Put.mono : ∀ a0 k, LeO (rolodexref11_Put.f k a0) (rolodexref11_Put.f (k + 1) a0) := by
  intro a0 k
  have ih0 := rolodexref11_Put.mono_l k
  unfold rolodexref11_Put.f
  repeat' first
      | (with_reducible exact ih0 _ _ _)
      | (with_reducible exact rolodexref01_Put.mono _ _)
      | (with_reducible exact rolodexref01_Text.mono _ _)
      | (with_reducible exact rolodexref11_May.mono _ _)
      | (with_reducible exact LeO.refl _)
      | (with_reducible exact LeO.none _)
      | (with_reducible refine LeO.ite ?_ ?_)
      | (with_reducible refine LeO.bind ?_ (fun _ => ?_))
      | exact ih0 _ _ _
      | exact rolodexref01_Put.mono _ _
      | exact rolodexref01_Text.mono _ _
      | exact rolodexref11_May.mono _ _
      | exact LeO.none _
      | refine LeO.ite ?_ ?_
      | refine LeO.bind ?_ (fun _ => ?_)
set_option maxHeartbeats 8000000 in
set_option maxRecDepth 100000 in
theorem rolodexref11_Put.calls (k : Nat) (A0 : Option Addr) (c0 : Nat) (l0 : List (S67)) (r1 : List Int) (r2 : Bool) (w : World) (hr0 : Kd.C k67 w A0 l0.length l0) (hc0 : l0.length ≤ c0) (h : rolodexref11_Put.f k l0 = some (r1, r2)) :
    Calls Try.prog 51 #[.slice A0 l0.length c0] w fun e w' => ∃ v0_ : Value, e = .returned (.tuple #[v0_, .bool r2]) ∧ Kd.R (Kd.int .u8) 5 w' w.heap.size (fun _ => True) v0_ r1 ∧ Below w.heap.size w w' := by
  have HR0 := Aside0.mk hr0
  have HC0 := Aside0.mk hc0
  clear hr0 hc0
  have HB := Aside0.mk (Below.refl w.heap.size w)
  have H : ((rolodexref11_May.f k l0).bind fun t463 => (if t463 = true then ((rolodexref01_Put.f k (IntKind.u64.wrap ((l0.length : Int)))).bind fun t464 => (rolodexref11_Put.l0 k l0 t464 0)) else (some (([] : List Int), false)))) = some (r1, r2) := h
  clear h
  replace H := Option.bind_eq_some_iff.mp H
  obtain ⟨t463, A20, H⟩ := H
  replace H : (if t463 = true then ((rolodexref01_Put.f k (IntKind.u64.wrap ((l0.length : Int)))).bind fun t464 => (rolodexref11_Put.l0 k l0 t464 0)) else (some (([] : List Int), false))) = some (r1, r2) := H
  have A2 := Aside0.mk A20
  clear A20
  by_cases c3 : t463 = true
  · subst c3
    have H1 : ((rolodexref01_Put.f k (IntKind.u64.wrap ((l0.length : Int)))).bind fun t464 => (rolodexref11_Put.l0 k l0 t464 0)) = some (r1, r2) := by rw [if_pos rfl] at H; exact H
    clear H
    have H := H1
    clear H1
    replace H := Option.bind_eq_some_iff.mp H
    obtain ⟨t464, A40, H⟩ := H
    replace H : (rolodexref11_Put.l0 k l0 t464 0) = some (r1, r2) := H
    have A4 := Aside0.mk A40
    clear A40
    have H' := Aside0.mk H
    clear H
    go_enter Try.func51, Try.ntmps51
    go_wp2_with (first | ((with_reducible refine gate_callee (f := 60) rfl ?_); refine goesL_ (some 8) rfl rfl Try.func60 (by kernel_rfl) rfl #[.slice A0 l0.length c0] rfl (by (try simp only [List.map_toArray, List.map_cons, List.map_nil]); first | done | rfl | (simp only [List.length_drop, List.length_take]; rfl)) ?_; (with_reducible refine (rolodexref11_May.calls k _ _ l0 true _ ?side1 ?side2 A2.out).mono ?_); (case side1 => repeat (first | exact HR0.out | (with_reducible refine Kd.C_alloc ?_ _) | (with_reducible refine Kd.C_drewN ?_ _) | (with_reducible refine Kd.C_drew ?_))); (case side2 => exact HC0.out); rintro e w5 ⟨rfl, hb⟩; refine ⟨_, rfl, ?_⟩; have n0_ := Aside0.mk (below_step (by repeat (first | (with_reducible first | exact HB.out | apply below_alloc | apply pw_below_drewN | apply below_drew1) | exact HB.out)) hb); clear HB; have HB := n0_; clear n0_; (try clear hb); (try clear hb2); (try clear hk); (try clear hi)) | ((with_reducible refine gate_callee (f := 86) rfl ?_); refine goesL_ (some 14) rfl rfl Try.func86 (by kernel_rfl) rfl #[.int .u64 (IntKind.u64.wrap ((l0.length : Int)))] rfl (by (try simp only [List.map_toArray, List.map_cons, List.map_nil]); first | done | rfl | (simp only [List.length_drop, List.length_take]; rfl)) ?_; (with_reducible refine (rolodexref01_Put.calls k (IntKind.u64.wrap ((l0.length : Int))) t464 _ A4.out).mono ?_); rintro e w6 ⟨v465, rfl, ho0, hb⟩; refine ⟨_, rfl, ?_⟩; have n0_ := Aside0.mk (Kd.R_lower ho0 (below_size (by repeat (first | (with_reducible first | exact HB.out | apply below_alloc | apply pw_below_drewN | apply below_drew1) | exact HB.out)))); have n1_ := Aside0.mk (below_step (by repeat (first | (with_reducible first | exact HB.out | apply below_alloc | apply pw_below_drewN | apply below_drew1) | exact HB.out)) hb); clear HB; have HO466 := n0_; have HB := n1_; clear n0_ n1_; (try clear hb); (try clear hb2); (try clear hk); (try clear hi); (try clear ho0)))
    go_loopg [5, 6] k (fun kq v5 v6 w' => ∃ (x5_1 : List Int) (x6_1 : Int), v6 = .int .i64 x6_1 ∧ Aside0 (rolodexref11_Put.l0 kq l0 x5_1 x6_1 = some (r1, r2)) ∧ Aside0 (kq ≤ k) ∧ Aside0 (Kd.R (Kd.int .u8) 5 w' w.heap.size (fun _ => True) v5 x5_1) ∧ Aside0 (Below w.heap.size w w'))
    case atStart => exact ⟨(t464), (0), (by first | rfl | (simp; done) | (simp [*]; done)), H', ⟨Nat.le_refl _⟩, ⟨by (with_reducible repeat (first | apply Kd.R_alloc | apply Kd.R_drewN | apply Kd.R_drew)); exact HO466.out⟩, ⟨by repeat (first | (with_reducible first | exact HB.out | apply below_alloc | apply pw_below_drewN | apply below_drew1) | exact HB.out)⟩⟩
    case round =>
      clear H'
      try clear p2
      try clear c3
      try clear c5
      try clear c6
      obtain ⟨x5_1, x6_1, rfl, HA, HK1, HO_5, HB⟩ := hrel
      cases gk with
      | zero => exact absurd HA.out (by simp [rolodexref11_Put.l0])
      | succ k1 =>
        have H := HA.out
        clear HA
        simp only [rolodexref11_Put.l0] at H
        by_cases c7 : x6_1 < (l0.length : Int)
        · rw [if_pos c7] at H
          have c7b0 : decide (x6_1 < (l0.length : Int)) = true := decide_eq_true c7
          clear c7
          by_cases c8 : 0 ≤ x6_1
          · rw [if_pos c8] at H
            have c8b0 : decide (0 ≤ x6_1) = true := decide_eq_true c8
            clear c8
            obtain ⟨bq9, hbq9⟩ : ∃ b_ : Bool, b_ = ((rd_T67 l0 x6_1).f0) := ⟨_, rfl⟩
            replace H : (if bq9 = true then (if x5_1.length < 140737488355328 then ((some (x5_1 ++ [1] : List Int)).bind fun y468 => ((rolodexref01_Put.f k1 (IntKind.u64.wrap ((rd_T67 l0 x6_1).f1))).bind fun t472 => (if y468.length + t472.length < 140737488355328 then ((some (y468 ++ t472 : List Int)).bind fun y475 => ((rolodexref01_Put.f k1 (IntKind.u64.wrap ((rd_T67 l0 x6_1).f2))).bind fun t479 => (if y475.length + t479.length < 140737488355328 then (rolodexref11_Put.l0 k1 l0 (y475 ++ t479) (wrap64 (x6_1 + 1))) else (none)))) else (none)))) else (none)) else (if x5_1.length < 140737488355328 then ((some (x5_1 ++ [0] : List Int)).bind fun y485 => ((rolodexref01_Text.f k1 ((rd_T67 l0 x6_1).f3)).bind fun t489 => (if y485.length + t489.length < 140737488355328 then (rolodexref11_Put.l0 k1 l0 (y485 ++ t489) (wrap64 (x6_1 + 1))) else (none)))) else (none))) = some (r1, r2) := by rw [← hbq9] at H; exact H
            have Nbq9 := Aside0.mk hbq9
            clear hbq9
            by_cases c10 : bq9 = true
            · subst c10
              have H1 : (if x5_1.length < 140737488355328 then ((some (x5_1 ++ [1] : List Int)).bind fun y468 => ((rolodexref01_Put.f k1 (IntKind.u64.wrap ((rd_T67 l0 x6_1).f1))).bind fun t472 => (if y468.length + t472.length < 140737488355328 then ((some (y468 ++ t472 : List Int)).bind fun y475 => ((rolodexref01_Put.f k1 (IntKind.u64.wrap ((rd_T67 l0 x6_1).f2))).bind fun t479 => (if y475.length + t479.length < 140737488355328 then (rolodexref11_Put.l0 k1 l0 (y475 ++ t479) (wrap64 (x6_1 + 1))) else (none)))) else (none)))) else (none)) = some (r1, r2) := by rw [if_pos rfl] at H; exact H
              clear H
              have H := H1
              clear H1
              by_cases c11 : x5_1.length < 140737488355328
              · rw [if_pos c11] at H
                have LMc11 := Aside0.mk c11
                clear c11
                obtain ⟨y468, hy468⟩ : ∃ y_ : List Int, y_ = (x5_1 ++ [1]) := ⟨_, rfl⟩
                replace H : ((rolodexref01_Put.f k1 (IntKind.u64.wrap ((rd_T67 l0 x6_1).f1))).bind fun t472 => (if y468.length + t472.length < 140737488355328 then ((some (y468 ++ t472 : List Int)).bind fun y475 => ((rolodexref01_Put.f k1 (IntKind.u64.wrap ((rd_T67 l0 x6_1).f2))).bind fun t479 => (if y475.length + t479.length < 140737488355328 then (rolodexref11_Put.l0 k1 l0 (y475 ++ t479) (wrap64 (x6_1 + 1))) else (none)))) else (none))) = some (r1, r2) := by first | (rw [hy468]; with_reducible exact H) | (have H2_ := (Option.bind_some _ _).symm.trans H; rw [hy468]; with_reducible exact H2_) | (have H2_ := (Option.bind_some _ _).symm.trans H; with_reducible exact H2_) | with_reducible exact H | (rw [hy468]; exact H) | exact H
                have Ny468 := Aside0.mk hy468
                clear hy468
                replace H := Option.bind_eq_some_iff.mp H
                obtain ⟨t472, A120, H⟩ := H
                replace H : (if y468.length + t472.length < 140737488355328 then ((some (y468 ++ t472 : List Int)).bind fun y475 => ((rolodexref01_Put.f k1 (IntKind.u64.wrap ((rd_T67 l0 x6_1).f2))).bind fun t479 => (if y475.length + t479.length < 140737488355328 then (rolodexref11_Put.l0 k1 l0 (y475 ++ t479) (wrap64 (x6_1 + 1))) else (none)))) else (none)) = some (r1, r2) := H
                have A12 := Aside0.mk A120
                clear A120
                by_cases c13 : y468.length + t472.length < 140737488355328
                · rw [if_pos c13] at H
                  have LMc13 := Aside0.mk c13
                  clear c13
                  obtain ⟨y475, hy475⟩ : ∃ y_ : List Int, y_ = (y468 ++ t472) := ⟨_, rfl⟩
                  replace H : ((rolodexref01_Put.f k1 (IntKind.u64.wrap ((rd_T67 l0 x6_1).f2))).bind fun t479 => (if y475.length + t479.length < 140737488355328 then (rolodexref11_Put.l0 k1 l0 (y475 ++ t479) (wrap64 (x6_1 + 1))) else (none))) = some (r1, r2) := by first | (rw [hy475]; with_reducible exact H) | (have H2_ := (Option.bind_some _ _).symm.trans H; rw [hy475]; with_reducible exact H2_) | (have H2_ := (Option.bind_some _ _).symm.trans H; with_reducible exact H2_) | with_reducible exact H | (rw [hy475]; exact H) | exact H
                  have Ny475 := Aside0.mk hy475
                  clear hy475
                  replace H := Option.bind_eq_some_iff.mp H
                  obtain ⟨t479, A140, H⟩ := H
                  replace H : (if y475.length + t479.length < 140737488355328 then (rolodexref11_Put.l0 k1 l0 (y475 ++ t479) (wrap64 (x6_1 + 1))) else (none)) = some (r1, r2) := H
                  have A14 := Aside0.mk A140
                  clear A140
                  by_cases c15 : y475.length + t479.length < 140737488355328
                  · rw [if_pos c15] at H
                    have LMc15 := Aside0.mk c15
                    clear c15
                    obtain ⟨y482, hy482⟩ : ∃ y_ : List Int, y_ = (y475 ++ t479) := ⟨_, rfl⟩
                    replace H : (rolodexref11_Put.l0 k1 l0 y482 (wrap64 (x6_1 + 1))) = some (r1, r2) := by first | (rw [hy482]; with_reducible exact H) | (have H2_ := (Option.bind_some _ _).symm.trans H; rw [hy482]; with_reducible exact H2_) | (have H2_ := (Option.bind_some _ _).symm.trans H; with_reducible exact H2_) | with_reducible exact H | (rw [hy482]; exact H) | exact H
                    have Ny482 := Aside0.mk hy482
                    clear hy482
                    have H' := Aside0.mk H
                    clear H
                    have p467 : 0 ≤ (x6_1 : Int) := of_decide_eq_true (by first | (with_reducible assumption) | assumption)
                    have q467 : x6_1 < (l0.length : Int) := of_decide_eq_true (by first | (with_reducible assumption) | assumption)
                    obtain ⟨ad467, e467, hx467_0, hx467_1, hx467_2, hx467_3⟩ := at_T67 HR0.out x6_1 p467 q467
                    (try rw [← Nbq9.out] at hx467_0)
                    cases e467
                    replace hx467_0 := (HB.out.cell (World.block_lt_of_cell? w _ hx467_0)).trans hx467_0
                    replace hx467_1 := (HB.out.cell (World.block_lt_of_cell? w _ hx467_1)).trans hx467_1
                    replace hx467_2 := (HB.out.cell (World.block_lt_of_cell? w _ hx467_2)).trans hx467_2
                    replace hx467_3 := (HB.out.cell (World.block_lt_of_cell? w _ hx467_3)).trans hx467_3
                    replace p467 := eq_true p467
                    replace q467 := eq_true q467
                    go_wp2_with (first | ((with_reducible refine gate_builtin (b := .append) (xs := #[.tmp 26, .tmp 27]) rfl ?_); at_builtin; refine Kd.R_append (Kd.int .u8) (w0 := w) w.heap.size rfl (.tmp 26) (.tmp 27) 40 5 (.int .u8 0) 1 rfl Try.underlying40 info5 rfl (by decide) (by omega) u5 x5_1 1 [.int .u8 1] (fun _ => True) (fun _ => False) rfl rfl ?aP (fun _ hk => hk.elim) ?aF ?aO ?aB ?aS ?aL ?_; (case aP => exact rfl); (case aB => exact (by repeat (first | (with_reducible first | exact HB.out | apply below_alloc | apply pw_below_drewN | apply below_drew1) | exact HB.out))); (case aF => exact (fun _ _ => trivial)); (case aO => exact (by (with_reducible repeat (first | apply Kd.R_alloc | apply Kd.R_drewN | apply Kd.R_drew)); exact HO_5.out)); (case aS => exact (below_size (by repeat (first | (with_reducible first | exact HB.out | apply below_alloc | apply pw_below_drewN | apply below_drew1) | exact HB.out)))); (case aL => have := LMc11.out; omega); intro v469 w16 ho hb hg hat; rw [← Ny468.out] at ho; have n0_ := Aside0.mk (hb); have n1_ := Aside0.mk (ho); clear HB; clear HO_5; have HB := n0_; have HO470 := n1_; clear n0_ n1_; clear ho hb hg hat; have p471 : 0 ≤ (x6_1 : Int) := of_decide_eq_true (by first | (with_reducible assumption) | assumption); have q471 : x6_1 < (l0.length : Int) := of_decide_eq_true (by first | (with_reducible assumption) | assumption); obtain ⟨ad471, e471, hx471_0, hx471_1, hx471_2, hx471_3⟩ := at_T67 HR0.out x6_1 p471 q471; (try rw [← Nbq9.out] at hx471_0); obtain rfl : ad467 = ad471 := (by injection e471); replace hx471_0 := (HB.out.cell (World.block_lt_of_cell? w _ hx471_0)).trans hx471_0; replace hx471_1 := (HB.out.cell (World.block_lt_of_cell? w _ hx471_1)).trans hx471_1; replace hx471_2 := (HB.out.cell (World.block_lt_of_cell? w _ hx471_2)).trans hx471_2; replace hx471_3 := (HB.out.cell (World.block_lt_of_cell? w _ hx471_3)).trans hx471_3; replace p471 := eq_true p471; replace q471 := eq_true q471) | ((with_reducible refine gate_callee (f := 86) rfl ?_); refine goesL_ (some 36) rfl rfl Try.func86 (by kernel_rfl) rfl #[.int .u64 (IntKind.u64.wrap ((rd_T67 l0 x6_1).f1))] rfl (by (try simp only [List.map_toArray, List.map_cons, List.map_nil]); first | done | rfl | (simp only [List.length_drop, List.length_take]; rfl)) ?_; (with_reducible refine (rolodexref01_Put.calls k1 (IntKind.u64.wrap ((rd_T67 l0 x6_1).f1)) t472 _ A12.out).mono ?_); rintro e w17 ⟨v473, rfl, ho0, hb⟩; refine ⟨_, rfl, ?_⟩; have n0_ := Aside0.mk (Kd.R_elder' (by (with_reducible repeat (first | apply Kd.R_alloc | apply Kd.R_drewN | apply Kd.R_drew)); exact HO470.out) (Kd.R_base ho0) hb); have n1_ := Aside0.mk (Kd.R_lower (Kd.R_new' ho0 (Kd.R_lt (by (with_reducible repeat (first | apply Kd.R_alloc | apply Kd.R_drewN | apply Kd.R_drew)); exact HO470.out))) (below_size (by repeat (first | (with_reducible first | exact HB.out | apply below_alloc | apply pw_below_drewN | apply below_drew1) | exact HB.out)))); have n2_ := Aside0.mk (below_step (by repeat (first | (with_reducible first | exact HB.out | apply below_alloc | apply pw_below_drewN | apply below_drew1) | exact HB.out)) hb); clear HO470; clear HB; have HO470 := n0_; have HO474 := n1_; have HB := n2_; clear n0_ n1_ n2_; (try clear hb); (try clear hb2); (try clear hk); (try clear hi); (try clear ho0); obtain ⟨Ao19, co19, eo19⟩ := Kd.R_slice HO474.out; subst eo19) | ((with_reducible refine gate_builtin (b := .append) (xs := #[.tmp 29, .tmp 36]) rfl ?_); at_builtin; refine Kd.R_append_rows (Kd.int .u8) (w0 := w) w.heap.size rfl (.tmp 29) (.tmp 36) 40 5 (.int .u8 0) 1 rfl Try.underlying40 info5 rfl (by decide) (by omega) v469 y468 t472 _ _ _ (fun k_ => some k_ ≠ (.slice Ao19 t472.length co19 : Value).ownBlock) (fun _ => False) rfl rfl ?aO ?aR (fun _ _ h => h) (fun _ h => h.elim) ?aF ?aB ?aS ?aL ?_; (case aR => repeat (first | exact (Kd.R_reads' HO474.out).2.2 | (with_reducible refine Kd.C_alloc ?_ _) | (with_reducible refine Kd.C_drewN ?_ _) | (with_reducible refine Kd.C_drew ?_))); (case aB => exact (by repeat (first | (with_reducible first | exact HB.out | apply below_alloc | apply pw_below_drewN | apply below_drew1) | exact HB.out))); (case aF => exact (fun k_ hk => Kd.fresh' (Kd.R_lt (by (with_reducible repeat (first | apply Kd.R_alloc | apply Kd.R_drewN | apply Kd.R_drew)); exact HO474.out)) k_ hk)); (case aO => exact (by (with_reducible repeat (first | apply Kd.R_alloc | apply Kd.R_drewN | apply Kd.R_drew)); exact Kd.R_mono HO470.out (fun _ hk => hk.2))); (case aS => exact (below_size (by repeat (first | (with_reducible first | exact HB.out | apply below_alloc | apply pw_below_drewN | apply below_drew1) | exact HB.out)))); (case aL => have := LMc13.out; omega); intro v476 w18 ho hb hg hat; rw [← Ny475.out] at ho; have n0_ := Aside0.mk (Kd.R_after (ok := (fun _ => True)) (by (with_reducible repeat (first | apply Kd.R_alloc | apply Kd.R_drewN | apply Kd.R_drew)); exact HO474.out) hg hat); have n1_ := Aside0.mk (hb); have n2_ := Aside0.mk (ho); clear HO474; clear HB; clear HO470; have HO474 := n0_; have HB := n1_; have HO477 := n2_; clear n0_ n1_ n2_; clear ho hb hg hat; have p478 : 0 ≤ (x6_1 : Int) := of_decide_eq_true (by first | (with_reducible assumption) | assumption); have q478 : x6_1 < (l0.length : Int) := of_decide_eq_true (by first | (with_reducible assumption) | assumption); obtain ⟨ad478, e478, hx478_0, hx478_1, hx478_2, hx478_3⟩ := at_T67 HR0.out x6_1 p478 q478; (try rw [← Nbq9.out] at hx478_0); obtain rfl : ad467 = ad478 := (by injection e478); replace hx478_0 := (HB.out.cell (World.block_lt_of_cell? w _ hx478_0)).trans hx478_0; replace hx478_1 := (HB.out.cell (World.block_lt_of_cell? w _ hx478_1)).trans hx478_1; replace hx478_2 := (HB.out.cell (World.block_lt_of_cell? w _ hx478_2)).trans hx478_2; replace hx478_3 := (HB.out.cell (World.block_lt_of_cell? w _ hx478_3)).trans hx478_3; replace p478 := eq_true p478; replace q478 := eq_true q478) | ((with_reducible refine gate_callee (f := 86) rfl ?_); refine goesL_ (some 45) rfl rfl Try.func86 (by kernel_rfl) rfl #[.int .u64 (IntKind.u64.wrap ((rd_T67 l0 x6_1).f2))] rfl (by (try simp only [List.map_toArray, List.map_cons, List.map_nil]); first | done | rfl | (simp only [List.length_drop, List.length_take]; rfl)) ?_; (with_reducible refine (rolodexref01_Put.calls k1 (IntKind.u64.wrap ((rd_T67 l0 x6_1).f2)) t479 _ A14.out).mono ?_); rintro e w20 ⟨v480, rfl, ho0, hb⟩; refine ⟨_, rfl, ?_⟩; have n0_ := Aside0.mk (Kd.R_elder' (by (with_reducible repeat (first | apply Kd.R_alloc | apply Kd.R_drewN | apply Kd.R_drew)); exact HO474.out) (Kd.R_base ho0) hb); have n1_ := Aside0.mk (Kd.R_elder' (by (with_reducible repeat (first | apply Kd.R_alloc | apply Kd.R_drewN | apply Kd.R_drew)); exact HO477.out) (Kd.R_base ho0) hb); have n2_ := Aside0.mk (Kd.R_lower (Kd.R_new' (Kd.R_new' ho0 (Kd.R_lt (by (with_reducible repeat (first | apply Kd.R_alloc | apply Kd.R_drewN | apply Kd.R_drew)); exact HO474.out))) (Kd.R_lt (by (with_reducible repeat (first | apply Kd.R_alloc | apply Kd.R_drewN | apply Kd.R_drew)); exact HO477.out))) (below_size (by repeat (first | (with_reducible first | exact HB.out | apply below_alloc | apply pw_below_drewN | apply below_drew1) | exact HB.out)))); have n3_ := Aside0.mk (below_step (by repeat (first | (with_reducible first | exact HB.out | apply below_alloc | apply pw_below_drewN | apply below_drew1) | exact HB.out)) hb); clear HO474; clear HO477; clear HB; have HO474 := n0_; have HO477 := n1_; have HO481 := n2_; have HB := n3_; clear n0_ n1_ n2_ n3_; (try clear hb); (try clear hb2); (try clear hk); (try clear hi); (try clear ho0); obtain ⟨Ao22, co22, eo22⟩ := Kd.R_slice HO481.out; subst eo22) | ((with_reducible refine gate_builtin (b := .append) (xs := #[.tmp 38, .tmp 45]) rfl ?_); at_builtin; refine Kd.R_append_rows (Kd.int .u8) (w0 := w) w.heap.size rfl (.tmp 38) (.tmp 45) 40 5 (.int .u8 0) 1 rfl Try.underlying40 info5 rfl (by decide) (by omega) v476 y475 t479 _ _ _ (fun k_ => some k_ ≠ (.slice Ao19 t472.length co19 : Value).ownBlock ∧ some k_ ≠ (.slice Ao22 t479.length co22 : Value).ownBlock) (fun _ => False) rfl rfl ?aO ?aR (fun _ _ h => h) (fun _ h => h.elim) ?aF ?aB ?aS ?aL ?_; (case aR => repeat (first | exact (Kd.R_reads' HO481.out).2.2 | (with_reducible refine Kd.C_alloc ?_ _) | (with_reducible refine Kd.C_drewN ?_ _) | (with_reducible refine Kd.C_drew ?_))); (case aB => exact (by repeat (first | (with_reducible first | exact HB.out | apply below_alloc | apply pw_below_drewN | apply below_drew1) | exact HB.out))); (case aF => exact (fun k_ hk => ⟨Kd.fresh' (Kd.R_lt (by (with_reducible repeat (first | apply Kd.R_alloc | apply Kd.R_drewN | apply Kd.R_drew)); exact HO474.out)) k_ hk, Kd.fresh' (Kd.R_lt (by (with_reducible repeat (first | apply Kd.R_alloc | apply Kd.R_drewN | apply Kd.R_drew)); exact HO481.out)) k_ hk⟩)); (case aO => exact (by (with_reducible repeat (first | apply Kd.R_alloc | apply Kd.R_drewN | apply Kd.R_drew)); exact HO477.out)); (case aS => exact (below_size (by repeat (first | (with_reducible first | exact HB.out | apply below_alloc | apply pw_below_drewN | apply below_drew1) | exact HB.out)))); (case aL => have := LMc15.out; omega); intro v483 w21 ho hb hg hat; rw [← Ny482.out] at ho; have n0_ := Aside0.mk (Kd.R_after (ok := (fun k_ => some k_ ≠ (.slice Ao22 t479.length co22 : Value).ownBlock)) (by (with_reducible repeat (first | apply Kd.R_alloc | apply Kd.R_drewN | apply Kd.R_drew)); exact Kd.R_mono HO474.out (fun _ hk => ⟨hk.2, hk.1.2⟩)) hg hat); have n1_ := Aside0.mk (Kd.R_after (ok := (fun k_ => some k_ ≠ (.slice Ao19 t472.length co19 : Value).ownBlock)) (by (with_reducible repeat (first | apply Kd.R_alloc | apply Kd.R_drewN | apply Kd.R_drew)); exact Kd.R_mono HO481.out (fun _ hk => ⟨hk.1.2, hk.2⟩)) hg hat); have n2_ := Aside0.mk (hb); have n3_ := Aside0.mk (ho); clear HO474; clear HO481; clear HB; clear HO477; have HO474 := n0_; have HO481 := n1_; have HB := n2_; have HO484 := n3_; clear n0_ n1_ n2_ n3_; clear ho hb hg hat))
                    go_roundg k1
                    case measure => have := HK1.out; omega
                    case rel => exact ⟨(y482), (wrap64 (x6_1 + 1)), (by first | rfl | (simp; done) | (simp [*]; done)), H', ⟨by have := HK1.out; omega⟩, ⟨by (with_reducible repeat (first | apply Kd.R_alloc | apply Kd.R_drewN | apply Kd.R_drew)); exact Kd.R_mono HO484.out (fun _ hk => trivial)⟩, ⟨by repeat (first | (with_reducible first | exact HB.out | apply below_alloc | apply pw_below_drewN | apply below_drew1) | exact HB.out)⟩⟩
                  · rw [if_neg c15] at H
                    exact absurd H (by simp)
                · rw [if_neg c13] at H
                  exact absurd H (by simp)
              · rw [if_neg c11] at H
                exact absurd H (by simp)
            · replace c10 := Bool.eq_false_iff.mpr c10
              subst c10
              have H1 : (if x5_1.length < 140737488355328 then ((some (x5_1 ++ [0] : List Int)).bind fun y485 => ((rolodexref01_Text.f k1 ((rd_T67 l0 x6_1).f3)).bind fun t489 => (if y485.length + t489.length < 140737488355328 then (rolodexref11_Put.l0 k1 l0 (y485 ++ t489) (wrap64 (x6_1 + 1))) else (none)))) else (none)) = some (r1, r2) := by rw [if_neg (show ¬ (false = true) by decide)] at H; exact H
              clear H
              have H := H1
              clear H1
              by_cases c23 : x5_1.length < 140737488355328
              · rw [if_pos c23] at H
                have LMc23 := Aside0.mk c23
                clear c23
                obtain ⟨y485, hy485⟩ : ∃ y_ : List Int, y_ = (x5_1 ++ [0]) := ⟨_, rfl⟩
                replace H : ((rolodexref01_Text.f k1 ((rd_T67 l0 x6_1).f3)).bind fun t489 => (if y485.length + t489.length < 140737488355328 then (rolodexref11_Put.l0 k1 l0 (y485 ++ t489) (wrap64 (x6_1 + 1))) else (none))) = some (r1, r2) := by first | (rw [hy485]; with_reducible exact H) | (have H2_ := (Option.bind_some _ _).symm.trans H; rw [hy485]; with_reducible exact H2_) | (have H2_ := (Option.bind_some _ _).symm.trans H; with_reducible exact H2_) | with_reducible exact H | (rw [hy485]; exact H) | exact H
                have Ny485 := Aside0.mk hy485
                clear hy485
                replace H := Option.bind_eq_some_iff.mp H
                obtain ⟨t489, A240, H⟩ := H
                replace H : (if y485.length + t489.length < 140737488355328 then (rolodexref11_Put.l0 k1 l0 (y485 ++ t489) (wrap64 (x6_1 + 1))) else (none)) = some (r1, r2) := H
                have A24 := Aside0.mk A240
                clear A240
                by_cases c25 : y485.length + t489.length < 140737488355328
                · rw [if_pos c25] at H
                  have LMc25 := Aside0.mk c25
                  clear c25
                  obtain ⟨y492, hy492⟩ : ∃ y_ : List Int, y_ = (y485 ++ t489) := ⟨_, rfl⟩
                  replace H : (rolodexref11_Put.l0 k1 l0 y492 (wrap64 (x6_1 + 1))) = some (r1, r2) := by first | (rw [hy492]; with_reducible exact H) | (have H2_ := (Option.bind_some _ _).symm.trans H; rw [hy492]; with_reducible exact H2_) | (have H2_ := (Option.bind_some _ _).symm.trans H; with_reducible exact H2_) | with_reducible exact H | (rw [hy492]; exact H) | exact H
                  have Ny492 := Aside0.mk hy492
                  clear hy492
                  have H' := Aside0.mk H
                  clear H
                  have p467 : 0 ≤ (x6_1 : Int) := of_decide_eq_true (by first | (with_reducible assumption) | assumption)
                  have q467 : x6_1 < (l0.length : Int) := of_decide_eq_true (by first | (with_reducible assumption) | assumption)
                  obtain ⟨ad467, e467, hx467_0, hx467_1, hx467_2, hx467_3⟩ := at_T67 HR0.out x6_1 p467 q467
                  (try rw [← Nbq9.out] at hx467_0)
                  cases e467
                  replace hx467_0 := (HB.out.cell (World.block_lt_of_cell? w _ hx467_0)).trans hx467_0
                  replace hx467_1 := (HB.out.cell (World.block_lt_of_cell? w _ hx467_1)).trans hx467_1
                  replace hx467_2 := (HB.out.cell (World.block_lt_of_cell? w _ hx467_2)).trans hx467_2
                  replace hx467_3 := (HB.out.cell (World.block_lt_of_cell? w _ hx467_3)).trans hx467_3
                  replace p467 := eq_true p467
                  replace q467 := eq_true q467
                  go_wp2_with (first | ((with_reducible refine gate_builtin (b := .append) (xs := #[.tmp 47, .tmp 48]) rfl ?_); at_builtin; refine Kd.R_append (Kd.int .u8) (w0 := w) w.heap.size rfl (.tmp 47) (.tmp 48) 40 5 (.int .u8 0) 1 rfl Try.underlying40 info5 rfl (by decide) (by omega) u5 x5_1 0 [.int .u8 0] (fun _ => True) (fun _ => False) rfl rfl ?aP (fun _ hk => hk.elim) ?aF ?aO ?aB ?aS ?aL ?_; (case aP => exact rfl); (case aB => exact (by repeat (first | (with_reducible first | exact HB.out | apply below_alloc | apply pw_below_drewN | apply below_drew1) | exact HB.out))); (case aF => exact (fun _ _ => trivial)); (case aO => exact (by (with_reducible repeat (first | apply Kd.R_alloc | apply Kd.R_drewN | apply Kd.R_drew)); exact HO_5.out)); (case aS => exact (below_size (by repeat (first | (with_reducible first | exact HB.out | apply below_alloc | apply pw_below_drewN | apply below_drew1) | exact HB.out)))); (case aL => have := LMc23.out; omega); intro v486 w26 ho hb hg hat; rw [← Ny485.out] at ho; have n0_ := Aside0.mk (hb); have n1_ := Aside0.mk (ho); clear HB; clear HO_5; have HB := n0_; have HO487 := n1_; clear n0_ n1_; clear ho hb hg hat; have p488 : 0 ≤ (x6_1 : Int) := of_decide_eq_true (by first | (with_reducible assumption) | assumption); have q488 : x6_1 < (l0.length : Int) := of_decide_eq_true (by first | (with_reducible assumption) | assumption); obtain ⟨ad488, e488, hx488_0, hx488_1, hx488_2, hx488_3⟩ := at_T67 HR0.out x6_1 p488 q488; (try rw [← Nbq9.out] at hx488_0); obtain rfl : ad467 = ad488 := (by injection e488); replace hx488_0 := (HB.out.cell (World.block_lt_of_cell? w _ hx488_0)).trans hx488_0; replace hx488_1 := (HB.out.cell (World.block_lt_of_cell? w _ hx488_1)).trans hx488_1; replace hx488_2 := (HB.out.cell (World.block_lt_of_cell? w _ hx488_2)).trans hx488_2; replace hx488_3 := (HB.out.cell (World.block_lt_of_cell? w _ hx488_3)).trans hx488_3; replace p488 := eq_true p488; replace q488 := eq_true q488) | ((with_reducible refine gate_callee (f := 94) rfl ?_); refine goesL_ (some 56) rfl rfl Try.func94 (by kernel_rfl) rfl #[.string ((rd_T67 l0 x6_1).f3)] rfl (by (try simp only [List.map_toArray, List.map_cons, List.map_nil]); first | done | rfl | (simp only [List.length_drop, List.length_take]; rfl)) ?_; (with_reducible refine (rolodexref01_Text.calls k1 ((rd_T67 l0 x6_1).f3) t489 _ A24.out).mono ?_); rintro e w27 ⟨v490, rfl, ho0, hb⟩; refine ⟨_, rfl, ?_⟩; have n0_ := Aside0.mk (Kd.R_elder' (by (with_reducible repeat (first | apply Kd.R_alloc | apply Kd.R_drewN | apply Kd.R_drew)); exact HO487.out) (Kd.R_base ho0) hb); have n1_ := Aside0.mk (Kd.R_lower (Kd.R_new' ho0 (Kd.R_lt (by (with_reducible repeat (first | apply Kd.R_alloc | apply Kd.R_drewN | apply Kd.R_drew)); exact HO487.out))) (below_size (by repeat (first | (with_reducible first | exact HB.out | apply below_alloc | apply pw_below_drewN | apply below_drew1) | exact HB.out)))); have n2_ := Aside0.mk (below_step (by repeat (first | (with_reducible first | exact HB.out | apply below_alloc | apply pw_below_drewN | apply below_drew1) | exact HB.out)) hb); clear HO487; clear HB; have HO487 := n0_; have HO491 := n1_; have HB := n2_; clear n0_ n1_ n2_; (try clear hb); (try clear hb2); (try clear hk); (try clear hi); (try clear ho0); obtain ⟨Ao29, co29, eo29⟩ := Kd.R_slice HO491.out; subst eo29) | ((with_reducible refine gate_builtin (b := .append) (xs := #[.tmp 50, .tmp 56]) rfl ?_); at_builtin; refine Kd.R_append_rows (Kd.int .u8) (w0 := w) w.heap.size rfl (.tmp 50) (.tmp 56) 40 5 (.int .u8 0) 1 rfl Try.underlying40 info5 rfl (by decide) (by omega) v486 y485 t489 _ _ _ (fun k_ => some k_ ≠ (.slice Ao29 t489.length co29 : Value).ownBlock) (fun _ => False) rfl rfl ?aO ?aR (fun _ _ h => h) (fun _ h => h.elim) ?aF ?aB ?aS ?aL ?_; (case aR => repeat (first | exact (Kd.R_reads' HO491.out).2.2 | (with_reducible refine Kd.C_alloc ?_ _) | (with_reducible refine Kd.C_drewN ?_ _) | (with_reducible refine Kd.C_drew ?_))); (case aB => exact (by repeat (first | (with_reducible first | exact HB.out | apply below_alloc | apply pw_below_drewN | apply below_drew1) | exact HB.out))); (case aF => exact (fun k_ hk => Kd.fresh' (Kd.R_lt (by (with_reducible repeat (first | apply Kd.R_alloc | apply Kd.R_drewN | apply Kd.R_drew)); exact HO491.out)) k_ hk)); (case aO => exact (by (with_reducible repeat (first | apply Kd.R_alloc | apply Kd.R_drewN | apply Kd.R_drew)); exact Kd.R_mono HO487.out (fun _ hk => hk.2))); (case aS => exact (below_size (by repeat (first | (with_reducible first | exact HB.out | apply below_alloc | apply pw_below_drewN | apply below_drew1) | exact HB.out)))); (case aL => have := LMc25.out; omega); intro v493 w28 ho hb hg hat; rw [← Ny492.out] at ho; have n0_ := Aside0.mk (Kd.R_after (ok := (fun _ => True)) (by (with_reducible repeat (first | apply Kd.R_alloc | apply Kd.R_drewN | apply Kd.R_drew)); exact HO491.out) hg hat); have n1_ := Aside0.mk (hb); have n2_ := Aside0.mk (ho); clear HO491; clear HB; clear HO487; have HO491 := n0_; have HB := n1_; have HO494 := n2_; clear n0_ n1_ n2_; clear ho hb hg hat))
                  go_roundg k1
                  case measure => have := HK1.out; omega
                  case rel => exact ⟨(y492), (wrap64 (x6_1 + 1)), (by first | rfl | (simp; done) | (simp [*]; done)), H', ⟨by have := HK1.out; omega⟩, ⟨by (with_reducible repeat (first | apply Kd.R_alloc | apply Kd.R_drewN | apply Kd.R_drew)); exact Kd.R_mono HO494.out (fun _ hk => trivial)⟩, ⟨by repeat (first | (with_reducible first | exact HB.out | apply below_alloc | apply pw_below_drewN | apply below_drew1) | exact HB.out)⟩⟩
                · rw [if_neg c25] at H
                  exact absurd H (by simp)
              · rw [if_neg c23] at H
                exact absurd H (by simp)
          · rw [if_neg c8] at H
            exact absurd H (by simp)
        · rw [if_neg c7] at H
          have c7b0 : decide (x6_1 < (l0.length : Int)) = false := decide_eq_false c7
          clear c7
          simp only [Option.some.injEq, Prod.mk.injEq] at H
          obtain ⟨rfl, rfl⟩ := H
          go_wp2
          go_ret2
          exact ⟨_, by first | rfl | (simp [errW_none, errW_some] <;> rfl) | (simp [*, errW_none, errW_some] <;> rfl), by (with_reducible repeat (first | apply Kd.R_alloc | apply Kd.R_drewN | apply Kd.R_drew)); exact HO_5.out, by repeat (first | (with_reducible first | exact HB.out | apply below_alloc | apply pw_below_drewN | apply below_drew1) | exact HB.out)⟩
  · replace c3 := Bool.eq_false_iff.mpr c3
    subst c3
    have H1 : (some (([] : List Int), false)) = some (r1, r2) := by rw [if_neg (show ¬ (false = true) by decide)] at H; exact H
    clear H
    have H := H1
    clear H1
    simp only [Option.some.injEq, Prod.mk.injEq] at H
    obtain ⟨rfl, rfl⟩ := H
    go_enter Try.func51, Try.ntmps51
    go_wp2_with (first | ((with_reducible refine gate_callee (f := 60) rfl ?_); refine goesL_ (some 8) rfl rfl Try.func60 (by kernel_rfl) rfl #[.slice A0 l0.length c0] rfl (by (try simp only [List.map_toArray, List.map_cons, List.map_nil]); first | done | rfl | (simp only [List.length_drop, List.length_take]; rfl)) ?_; (with_reducible refine (rolodexref11_May.calls k _ _ l0 false _ ?side1 ?side2 A2.out).mono ?_); (case side1 => repeat (first | exact HR0.out | (with_reducible refine Kd.C_alloc ?_ _) | (with_reducible refine Kd.C_drewN ?_ _) | (with_reducible refine Kd.C_drew ?_))); (case side2 => exact HC0.out); rintro e w30 ⟨rfl, hb⟩; refine ⟨_, rfl, ?_⟩; have n0_ := Aside0.mk (below_step (by repeat (first | (with_reducible first | exact HB.out | apply below_alloc | apply pw_below_drewN | apply below_drew1) | exact HB.out)) hb); clear HB; have HB := n0_; clear n0_; (try clear hb); (try clear hb2); (try clear hk); (try clear hi)))
    go_ret2
    exact ⟨_, by first | rfl | (simp [errW_none, errW_some] <;> rfl) | (simp [*, errW_none, errW_some] <;> rfl), by first | exact Kd.R_nil _ _ _ _ _ | exact Kd.N_nil _ _ _ _ _ | exact Kd.V_nil _ _ _ _ _ | exact Kd.Q_nil _ _ _ _ _ | exact Kd.S_nil _ _ _ _ _, by repeat (first | (with_reducible first | exact HB.out | apply below_alloc | apply pw_below_drewN | apply below_drew1) | exact HB.out)⟩

end Go.Proofs.Ytchaegfdcdlfaaa.X

namespace Go.Proofs.Ytchaegfdcdlfaaa.X
open Go.RowKit Go.Proofs.YtchaegfdcdlfaaaW.PrintWords Go.Proofs.YtchaegfdcdlfaaaW.PrintLast Go.Proofs.YtchaegfdcdlfaaaW.PrintMore
attribute [local go_sem] max2_int min2_int max_two min_two max_three min_three max_four min_four   -- for this text's walks alone
set_option linter.unusedVariables false
set_option linter.unusedSimpArgs false

attribute [local go_sem high] eqA67
/-! ### rolodexref11_Same: function 54 -/
def rolodexref11_Same.l0 : Nat → List (S67) → List (S67) → Int → Option (Bool)
  | 0, _, _, _ => none
  | k + 1, x0, x1, x5 => if x5 < (x0.length : Int) then (if 0 ≤ x5 then (if x5 < (x1.length : Int) then (if (!(((rd_T67 x0 x5).f0) == ((rd_T67 x1 x5).f0)) || (!(((rd_T67 x0 x5).f1) == ((rd_T67 x1 x5).f1)) || (!(((rd_T67 x0 x5).f2) == ((rd_T67 x1 x5).f2)) || (!((((rd_T67 x0 x5).f3).toList) == (((rd_T67 x1 x5).f3).toList)))))) = true then (some false) else (rolodexref11_Same.l0 k x0 x1 (wrap64 (x5 + 1)))) else (none)) else (none)) else (some true)
def rolodexref11_Same.f (k : Nat) (l0 : List (S67)) (l1 : List (S67)) : Option (Bool) := if (l0.length : Int) = (l1.length : Int) then (rolodexref11_Same.l0 k l0 l1 0) else (some false)
theorem rolodexref11_Same.mono_l : ∀ k, (∀ y0 y1 y2, LeO (rolodexref11_Same.l0 k y0 y1 y2) (rolodexref11_Same.l0 (k + 1) y0 y1 y2))
  | 0 => fun _ _ _ r h => by simp [rolodexref11_Same.l0] at h
  | k + 1 => by
    have ih0 := rolodexref11_Same.mono_l k
    · intro y0 y1 y2
      unfold rolodexref11_Same.l0
      repeat' first
      | (with_reducible exact ih0 _ _ _)
      | (with_reducible exact LeO.refl _)
      | (with_reducible exact LeO.none _)
      | (with_reducible refine LeO.ite ?_ ?_)
      | (with_reducible refine LeO.bind ?_ (fun _ => ?_))
      | exact ih0 _ _ _
      | exact LeO.none _
      | refine LeO.ite ?_ ?_
      | refine LeO.bind ?_ (fun _ => ?_)
theorem rolodexref11_Same.mono : ∀ a0 a1 k, LeO (rolodexref11_Same.f k a0 a1) (rolodexref11_Same.f (k + 1) a0 a1) := by
  intro a0 a1 k
  have ih0 := rolodexref11_Same.mono_l k
  unfold rolodexref11_Same.f
  repeat' first
      | (with_reducible exact ih0 _ _ _)
      | (with_reducible exact LeO.refl _)
      | (with_reducible exact LeO.none _)
      | (with_reducible refine LeO.ite ?_ ?_)
      | (with_reducible refine LeO.bind ?_ (fun _ => ?_))
      | exact ih0 _ _ _
      | exact LeO.none _
      | refine LeO.ite ?_ ?_
      | refine LeO.bind ?_ (fun _ => ?_)
set_option maxHeartbeats 8000000 in
set_option maxRecDepth 100000 in
theorem rolodexref11_Same.calls (k : Nat) (A0 : Option Addr) (c0 : Nat) (l0 : List (S67)) (A1 : Option Addr) (c1 : Nat) (l1 : List (S67)) (r : Bool) (w : World) (hr0 : Kd.C k67 w A0 l0.length l0) (hc0 : l0.length ≤ c0) (hr1 : Kd.C k67 w A1 l1.length l1) (hc1 : l1.length ≤ c1) (h : rolodexref11_Same.f k l0 l1 = some r) :
    Calls Try.prog 54 #[.slice A0 l0.length c0, .slice A1 l1.length c1] w fun e w' => e = .returned (.bool r) ∧ Drawn0 w w' := by
  have hu67 := Try.underlying67
  have HR0 := Aside0.mk hr0
  have HC0 := Aside0.mk hc0
  clear hr0 hc0
  have HR1 := Aside0.mk hr1
  have HC1 := Aside0.mk hc1
  clear hr1 hc1
  have H : (if (l0.length : Int) = (l1.length : Int) then (rolodexref11_Same.l0 k l0 l1 0) else (some false)) = some r := h
  clear h
  by_cases c3 : (l0.length : Int) = (l1.length : Int)
  · rw [if_pos c3] at H
    have c3b0 : ((l0.length : Int) == (l1.length : Int)) = true := beq_iff_eq.mpr c3
    have c3b1 : ((l0.length : Int) != (l1.length : Int)) = false := bne_eq_false_iff_eq.mpr c3
    have c3b2 : (l0.length == l1.length) = true := by first | simpa using c3 | (simp at c3 ⊢; omega)
    clear c3
    have H' := Aside0.mk H
    clear H
    go_enter Try.func54, Try.ntmps54
    go_wp2
    repeat (go_quiet (fail); try go_wp2)
    go_loopg [5] k (fun kq v5 w' => ∃ (x5_1 : Int), v5 = .int .i64 x5_1 ∧ Aside0 (rolodexref11_Same.l0 kq l0 l1 x5_1 = some r) ∧ Aside0 (kq ≤ k) ∧ Drawn0 w w')
    case atStart => exact ⟨(0), (by first | rfl | (simp; done) | (simp [*]; done)), H', ⟨Nat.le_refl _⟩, by repeat (first | exact Drawn0.refl _ | apply Drawn0.step)⟩
    case round =>
      clear H'
      try clear c1
      try clear p2
      try clear c3
      try clear c3b0
      try clear c3b1
      try clear c3b2
      obtain ⟨x5_1, rfl, HA, HK1, ⟨m1, rfl⟩⟩ := hrel
      cases gk with
      | zero => exact absurd HA.out (by simp [rolodexref11_Same.l0])
      | succ k1 =>
        have H := HA.out
        clear HA
        simp only [rolodexref11_Same.l0] at H
        by_cases c4 : x5_1 < (l0.length : Int)
        · rw [if_pos c4] at H
          have c4b0 : decide (x5_1 < (l0.length : Int)) = true := decide_eq_true c4
          clear c4
          by_cases c5 : 0 ≤ x5_1
          · rw [if_pos c5] at H
            have c5b0 : decide (0 ≤ x5_1) = true := decide_eq_true c5
            clear c5
            by_cases c6 : x5_1 < (l1.length : Int)
            · rw [if_pos c6] at H
              have c6b0 : decide (x5_1 < (l1.length : Int)) = true := decide_eq_true c6
              clear c6
              by_cases c7 : (!(((rd_T67 l0 x5_1).f0) == ((rd_T67 l1 x5_1).f0)) || (!(((rd_T67 l0 x5_1).f1) == ((rd_T67 l1 x5_1).f1)) || (!(((rd_T67 l0 x5_1).f2) == ((rd_T67 l1 x5_1).f2)) || (!((((rd_T67 l0 x5_1).f3).toList) == (((rd_T67 l1 x5_1).f3).toList)))))) = true
              · rw [if_pos c7] at H
                have c7b0 : (!(((rd_T67 l0 x5_1).f0) == ((rd_T67 l1 x5_1).f0)) || (!(((rd_T67 l0 x5_1).f1) == ((rd_T67 l1 x5_1).f1)) || (!(((rd_T67 l0 x5_1).f2) == ((rd_T67 l1 x5_1).f2)) || (!((((rd_T67 l0 x5_1).f3).toList) == (((rd_T67 l1 x5_1).f3).toList)))))) = true := c7
                clear c7
                obtain rfl := Option.some.inj H
                have p524 : 0 ≤ (x5_1 : Int) := of_decide_eq_true (by first | (with_reducible assumption) | assumption)
                have q524 : x5_1 < (l0.length : Int) := of_decide_eq_true (by first | (with_reducible assumption) | assumption)
                obtain ⟨ad524, e524, hx524_0, hx524_1, hx524_2, hx524_3⟩ := at_T67 HR0.out x5_1 p524 q524
                cases e524
                replace p524 := eq_true p524
                replace q524 := eq_true q524
                have p525 : 0 ≤ (x5_1 : Int) := of_decide_eq_true (by first | (with_reducible assumption) | assumption)
                have q525 : x5_1 < (l1.length : Int) := of_decide_eq_true (by first | (with_reducible assumption) | assumption)
                obtain ⟨ad525, e525, hx525_0, hx525_1, hx525_2, hx525_3⟩ := at_T67 HR1.out x5_1 p525 q525
                cases e525
                replace p525 := eq_true p525
                replace q525 := eq_true q525
                go_wp2
                repeat (go_quiet (fail); try go_wp2)
                go_ret
                exact ⟨by first | rfl | (simp; done) | (simp [*]; done), by repeat (first | exact Drawn0.refl _ | apply Drawn0.step)⟩
              · rw [if_neg c7] at H
                have c7b0 : (!(((rd_T67 l0 x5_1).f0) == ((rd_T67 l1 x5_1).f0)) || (!(((rd_T67 l0 x5_1).f1) == ((rd_T67 l1 x5_1).f1)) || (!(((rd_T67 l0 x5_1).f2) == ((rd_T67 l1 x5_1).f2)) || (!((((rd_T67 l0 x5_1).f3).toList) == (((rd_T67 l1 x5_1).f3).toList)))))) = false := by simpa using c7
                clear c7
                have H' := Aside0.mk H
                clear H
                have p524 : 0 ≤ (x5_1 : Int) := of_decide_eq_true (by first | (with_reducible assumption) | assumption)
                have q524 : x5_1 < (l0.length : Int) := of_decide_eq_true (by first | (with_reducible assumption) | assumption)
                obtain ⟨ad524, e524, hx524_0, hx524_1, hx524_2, hx524_3⟩ := at_T67 HR0.out x5_1 p524 q524
                cases e524
                replace p524 := eq_true p524
                replace q524 := eq_true q524
                have p525 : 0 ≤ (x5_1 : Int) := of_decide_eq_true (by first | (with_reducible assumption) | assumption)
                have q525 : x5_1 < (l1.length : Int) := of_decide_eq_true (by first | (with_reducible assumption) | assumption)
                obtain ⟨ad525, e525, hx525_0, hx525_1, hx525_2, hx525_3⟩ := at_T67 HR1.out x5_1 p525 q525
                cases e525
                replace p525 := eq_true p525
                replace q525 := eq_true q525
                go_wp2
                repeat (go_quiet (fail); try go_wp2)
                go_roundg k1
                case measure => have := HK1.out; omega
                case rel => exact ⟨(wrap64 (x5_1 + 1)), (by first | rfl | (simp; done) | (simp [*]; done)), H', ⟨by have := HK1.out; omega⟩, by repeat (first | exact Drawn0.refl _ | apply Drawn0.step)⟩
            · rw [if_neg c6] at H
              exact absurd H (by simp)
          · rw [if_neg c5] at H
            exact absurd H (by simp)
        · rw [if_neg c4] at H
          have c4b0 : decide (x5_1 < (l0.length : Int)) = false := decide_eq_false c4
          clear c4
          obtain rfl := Option.some.inj H
          go_wp2
          repeat (go_quiet (fail); try go_wp2)
          go_ret
          exact ⟨by first | rfl | (simp; done) | (simp [*]; done), by repeat (first | exact Drawn0.refl _ | apply Drawn0.step)⟩
  · rw [if_neg c3] at H
    have c3b0 : ((l0.length : Int) == (l1.length : Int)) = false := beq_eq_false_iff_ne.mpr c3
    have c3b1 : ((l0.length : Int) != (l1.length : Int)) = true := bne_iff_ne.mpr c3
    have c3b2 : (l0.length == l1.length) = false := by first | simpa using c3 | (simp at c3 ⊢; omega)
    obtain rfl := Option.some.inj H
    go_enter Try.func54, Try.ntmps54
    go_wp2
    repeat (go_quiet (fail); try go_wp2)
    go_ret
    exact ⟨by first | rfl | (simp; done) | (simp [*]; done), by repeat (first | exact Drawn0.refl _ | apply Drawn0.step)⟩

end Go.Proofs.Ytchaegfdcdlfaaa.X

/- The document's Read of layer 1, in the printed form. -/
namespace Go.Proofs.Ytchaegfdcdlfaaa.X
set_option linter.unusedVariables false
set_option linter.unusedSimpArgs false
open Go.Proofs.Ytchaegfdcdlfaaa.Y (IsGet Bytes readR rread_call)
open Go.RowKit Go.Maps Go.Proofs.YtchaegfdcdlfaaaW.PrintWords Go.Proofs.YtchaegfdcdlfaaaW.PrintLast Go.Proofs.YtchaegfdcdlfaaaW.PrintMore

def rolodexref01_Read.f (k : Nat) (l0 : List Int) (a1 : Int) : Option (ByteArray × Int × Bool) := if l0.all (fun x => decide (0 ≤ x ∧ x ≤ 255)) = true ∧ l0.length ≤ 1000000000 ∧ a1 < 9223372036854775808 then some (readR l0 (getL l0) a1) else none
theorem rolodexref01_Read.mono : ∀ a0 a1 k, LeO (rolodexref01_Read.f k a0 a1) (rolodexref01_Read.f (k + 1) a0 a1) := fun _ _ _ => LeO.refl _
theorem rolodexref01_Read.calls (k : Nat) (A0 : Option Addr) (c0 : Nat) (l0 : List Int) (a1 : Int) (r1 : ByteArray) (r2 : Int) (r3 : Bool) (w : World) (hr0 : Kd.C (Kd.int .u8) w A0 l0.length l0) (hc0 : l0.length ≤ c0) (h : rolodexref01_Read.f k l0 a1 = some (r1, r2, r3)) :
    Calls Try.prog 96 #[.slice A0 l0.length c0, .int .i64 a1] w fun e w' => e = .returned (.tuple #[.string r1, .int .i64 r2, .bool r3]) ∧ Below w.heap.size w w' := by
  unfold rolodexref01_Read.f at h
  split at h
  · rename_i hl
    have hb : Bytes l0 := fun x hx => by simpa using List.all_eq_true.1 hl.1 x hx
    exact rread_call (getL_is hb hl.2.1) hb (by omega) a1 hl.2.2 A0 c0 w hr0 hc0 (r1, r2, r3) (Option.some.inj h)
  · simp at h
theorem RRead_eq (k : Nat) {l : List Int} (hb : Bytes l) (hl : l.length ≤ 1000000000) (a1 : Int) (ha : a1 < 9223372036854775808) : rolodexref01_Read.f k l a1 = some (readR l (getL l) a1) := by
  unfold rolodexref01_Read.f
  rw [if_pos ⟨List.all_eq_true.2 fun x hx => by simpa using hb x hx, hl, ha⟩]
end Go.Proofs.Ytchaegfdcdlfaaa.X

-- Printed for this session by a program of its own over an edited copy of the translation's print.
