-- Printed for this session by a program of its own over an edited copy of the translation's print.
import Derived.Test.YtkicolloiagadaaXx0
import Derived.Test.YtkicolloiagadaaXx2
import Derived.Test.YtkicolloiagadaaXx4
import Derived.Test.YtkicolloiagadaaXx5
import Derived.Test.YtkicolloiagadaaXx6
import Derived.Test.YtkicolloiagadaaXx7
import Derived.Test.YtkicolloiagadaaXx8
import Derived.Test.YtkicolloiagadaaXx9
import Derived.Test.YtkicolloiagadaaXx11
namespace Go.Proofs.Ytkicolloiagadaa.X
open Go.RowKit Go.Proofs.YtkicolloiagadaaW.PrintWords Go.Proofs.YtkicolloiagadaaW.PrintLast Go.Proofs.YtkicolloiagadaaW.PrintMore
attribute [local go_sem] max2_int min2_int max_two min_two max_three min_three max_four min_four   -- for this text's walks alone
set_option linter.unusedVariables false
set_option linter.unusedSimpArgs false

/-! ### rolodexlaw09_RollTells: function 3 -/
def rolodexlaw09_RollTells.j0 : Nat → ByteArray → Int → Int → Int → Int → Bool → Bool → Option (Bool)
  | 0, _, _, _, _, _, _, _ => none
  | k + 1, x0, x1, x2, x3, x4, x11, x20 => if x20 = true then (some x11) else ((roll_All.f k x0 x2).bind fun t124 => ((rolodexref09_All.f k x0 x2).bind fun t127 => ((rolodexref09_Same.f k t124 t127).bind fun t130 => (if t130 = true then ((roll_Sum.f k x0).bind fun t131 => ((rolodexref09_Sum.f k x0).bind fun t132 => (if t131 = t132 then ((roll_Next.f x1 x2 x3 x4).bind fun t133 => ((rolodexref09_Next.f x1 x2 x3 x4).bind fun t134 => (some (t133 == t134)))) else (some false)))) else (some false)))))
def rolodexlaw09_RollTells.f (k : Nat) (a0 : ByteArray) (a1 : Int) (a2 : Int) (a3 : Int) (a4 : Int) : Option (Bool) := (rolodexlaw09_awake.f k).bind fun t123 => (if t123 = true then (rolodexlaw09_RollTells.j0 k a0 a1 a2 a3 a4 t123 (decide ((a0.size : Int) > 600))) else (rolodexlaw09_RollTells.j0 k a0 a1 a2 a3 a4 t123 true))
theorem rolodexlaw09_RollTells.mono_l : ∀ k, (∀ y0 y1 y2 y3 y4 y5 y6, LeO (rolodexlaw09_RollTells.j0 k y0 y1 y2 y3 y4 y5 y6) (rolodexlaw09_RollTells.j0 (k + 1) y0 y1 y2 y3 y4 y5 y6))
  | 0 => fun _ _ _ _ _ _ _ r h => by simp [rolodexlaw09_RollTells.j0] at h
  | k + 1 => by
    have ih0 := rolodexlaw09_RollTells.mono_l k
    · intro y0 y1 y2 y3 y4 y5 y6
      unfold rolodexlaw09_RollTells.j0
      repeat' first
      | (with_reducible exact ih0 _ _ _ _ _ _ _)
      | (with_reducible exact roll_All.mono _ _ _)
      | (with_reducible exact roll_Sum.mono _ _)
      | (with_reducible exact rolodexlaw09_awake.mono _)
      | (with_reducible exact rolodexref09_All.mono _ _ _)
      | (with_reducible exact rolodexref09_Same.mono _ _ _)
      | (with_reducible exact rolodexref09_Sum.mono _ _)
      | (with_reducible exact LeO.refl _)
      | (with_reducible exact LeO.none _)
      | (with_reducible refine LeO.ite ?_ ?_)
      | (with_reducible refine LeO.bind ?_ (fun _ => ?_))
      | exact ih0 _ _ _ _ _ _ _
      | exact roll_All.mono _ _ _
      | exact roll_Sum.mono _ _
      | exact rolodexlaw09_awake.mono _
      | exact rolodexref09_All.mono _ _ _
      | exact rolodexref09_Same.mono _ _ _
      | exact rolodexref09_Sum.mono _ _
      | exact LeO.none _
      | refine LeO.ite ?_ ?_
      | refine LeO.bind ?_ (fun _ => ?_)
theorem rolodexlaw09_RollTells.mono : ∀ a0 a1 a2 a3 a4 k, LeO (rolodexlaw09_RollTells.f k a0 a1 a2 a3 a4) (rolodexlaw09_RollTells.f (k + 1) a0 a1 a2 a3 a4) := by
  intro a0 a1 a2 a3 a4 k
  have ih0 := rolodexlaw09_RollTells.mono_l k
  unfold rolodexlaw09_RollTells.f
  repeat' first
      | (with_reducible exact ih0 _ _ _ _ _ _ _)
      | (with_reducible exact roll_All.mono _ _ _)
      | (with_reducible exact roll_Sum.mono _ _)
      | (with_reducible exact rolodexlaw09_awake.mono _)
      | (with_reducible exact rolodexref09_All.mono _ _ _)
      | (with_reducible exact rolodexref09_Same.mono _ _ _)
      | (with_reducible exact rolodexref09_Sum.mono _ _)
      | (with_reducible exact LeO.refl _)
      | (with_reducible exact LeO.none _)
      | (with_reducible refine LeO.ite ?_ ?_)
      | (with_reducible refine LeO.bind ?_ (fun _ => ?_))
      | exact ih0 _ _ _ _ _ _ _
      | exact roll_All.mono _ _ _
      | exact roll_Sum.mono _ _
      | exact rolodexlaw09_awake.mono _
      | exact rolodexref09_All.mono _ _ _
      | exact rolodexref09_Same.mono _ _ _
      | exact rolodexref09_Sum.mono _ _
      | exact LeO.none _
      | refine LeO.ite ?_ ?_
      | refine LeO.bind ?_ (fun _ => ?_)
set_option maxHeartbeats 8000000 in
set_option maxRecDepth 100000 in
theorem rolodexlaw09_RollTells.calls (k : Nat) (a0 : ByteArray) (a1 : Int) (a2 : Int) (a3 : Int) (a4 : Int) (r : Bool) (w : World) (h : rolodexlaw09_RollTells.f k a0 a1 a2 a3 a4 = some r) :
    Calls Try.prog 3 #[.string a0, .int .u32 a1, .int .i64 a2, .int .u8 a3, .int .u8 a4] w fun e w' => e = .returned (.bool r) ∧ Below w.heap.size w w' := by
  have HB := Aside0.mk (Below.refl w.heap.size w)
  have H : ((rolodexlaw09_awake.f k).bind fun t123 => (if t123 = true then (rolodexlaw09_RollTells.j0 k a0 a1 a2 a3 a4 t123 (decide ((a0.size : Int) > 600))) else (rolodexlaw09_RollTells.j0 k a0 a1 a2 a3 a4 t123 true))) = some r := h
  clear h
  replace H := Option.bind_eq_some_iff.mp H
  obtain ⟨t123, A60, H⟩ := H
  replace H : (if t123 = true then (rolodexlaw09_RollTells.j0 k a0 a1 a2 a3 a4 t123 (decide ((a0.size : Int) > 600))) else (rolodexlaw09_RollTells.j0 k a0 a1 a2 a3 a4 t123 true)) = some r := H
  have A6 := Aside0.mk A60
  clear A60
  have HC7 := Aside0.mk H
  clear H
  go_enter Try.func3, Try.ntmps3
  go_upto_region 2 with (first | ((with_reducible refine gate_callee (f := 9) rfl ?_); refine goesL_ (some 13) rfl rfl Try.func9 (by kernel_rfl) rfl #[] rfl (by (try simp only [List.map_toArray, List.map_cons, List.map_nil]); first | done | rfl | (simp only [List.length_drop, List.length_take]; rfl)) ?_; (with_reducible refine (rolodexlaw09_awake.calls k  t123 _ A6.out).mono ?_); rintro e w8 ⟨rfl, hb⟩; refine ⟨_, rfl, ?_⟩; have n0_ := Aside0.mk (below_step (by repeat (first | (with_reducible first | exact HB.out | apply below_alloc | apply pw_below_drewN | apply below_drew1) | exact HB.out)) hb); clear HB; have HB := n0_; clear n0_; (try clear hb); (try clear hb2); (try clear hk); (try clear hi)))
  (try simp only [Act.put, List.setIfInBounds_toArray, List.set_cons_zero, List.set_cons_succ])
  go_cut [20] (fun v20 wc => ∃ (kq : Nat) (x20_6 : Bool), v20 = .bool x20_6 ∧ Aside0 (rolodexlaw09_RollTells.j0 kq a0 a1 a2 a3 a4 t123 x20_6 = some r) ∧ Aside0 (kq ≤ k) ∧ Aside0 (Below w.heap.size w wc))
  case first =>
    have H := HC7.out
    clear HC7
    by_cases c9 : t123 = true
    · subst c9
      have H1 : (rolodexlaw09_RollTells.j0 k a0 a1 a2 a3 a4 true (decide ((a0.size : Int) > 600))) = some r := by rw [if_pos rfl] at H; exact H
      clear H
      have H := H1
      clear H1
      have H' := Aside0.mk H
      clear H
      go_wp2
      go_meet
      case rel => exact ⟨_, (decide ((a0.size : Int) > 600)), (by first | rfl | (simp; done) | (simp [*]; done)), H', ⟨by first | omega | exact Nat.le_refl _⟩, ⟨by repeat (first | (with_reducible first | exact HB.out | apply below_alloc | apply pw_below_drewN | apply below_drew1) | exact HB.out)⟩⟩
    · replace c9 := Bool.eq_false_iff.mpr c9
      subst c9
      have H1 : (rolodexlaw09_RollTells.j0 k a0 a1 a2 a3 a4 false true) = some r := by rw [if_neg (show ¬ (false = true) by decide)] at H; exact H
      clear H
      have H := H1
      clear H1
      have H' := Aside0.mk H
      clear H
      go_wp2
      go_meet
      case rel => exact ⟨_, (true), (by first | rfl | (simp; done) | (simp [*]; done)), H', ⟨by first | omega | exact Nat.le_refl _⟩, ⟨by repeat (first | (with_reducible first | exact HB.out | apply below_alloc | apply pw_below_drewN | apply below_drew1) | exact HB.out)⟩⟩
  case rest =>
    clear HC7
    try clear p2
    try clear c3
    try clear c9
    obtain ⟨kq, x20_6, rfl, HA, HJ6, HB⟩ := hcut
    cases kq with
    | zero => exact absurd HA.out (by simp [rolodexlaw09_RollTells.j0])
    | succ kj6 =>
      have H := HA.out
      clear HA
      simp only [rolodexlaw09_RollTells.j0] at H
      by_cases c10 : x20_6 = true
      · subst c10
        have H1 : (some t123) = some r := by rw [if_pos rfl] at H; exact H
        clear H
        have H := H1
        clear H1
        obtain rfl := Option.some.inj H
        go_wp2
        go_ret
        exact ⟨by first | rfl | (simp [errW_none, errW_some] <;> rfl) | (simp [*, errW_none, errW_some] <;> rfl), by repeat (first | (with_reducible first | exact HB.out | apply below_alloc | apply pw_below_drewN | apply below_drew1) | exact HB.out)⟩
      · replace c10 := Bool.eq_false_iff.mpr c10
        subst c10
        have H1 : ((roll_All.f kj6 a0 a2).bind fun t124 => ((rolodexref09_All.f kj6 a0 a2).bind fun t127 => ((rolodexref09_Same.f kj6 t124 t127).bind fun t130 => (if t130 = true then ((roll_Sum.f kj6 a0).bind fun t131 => ((rolodexref09_Sum.f kj6 a0).bind fun t132 => (if t131 = t132 then ((roll_Next.f a1 a2 a3 a4).bind fun t133 => ((rolodexref09_Next.f a1 a2 a3 a4).bind fun t134 => (some (t133 == t134)))) else (some false)))) else (some false))))) = some r := by rw [if_neg (show ¬ (false = true) by decide)] at H; exact H
        clear H
        have H := H1
        clear H1
        replace H := Option.bind_eq_some_iff.mp H
        obtain ⟨t124, A110, H⟩ := H
        replace H : ((rolodexref09_All.f kj6 a0 a2).bind fun t127 => ((rolodexref09_Same.f kj6 t124 t127).bind fun t130 => (if t130 = true then ((roll_Sum.f kj6 a0).bind fun t131 => ((rolodexref09_Sum.f kj6 a0).bind fun t132 => (if t131 = t132 then ((roll_Next.f a1 a2 a3 a4).bind fun t133 => ((rolodexref09_Next.f a1 a2 a3 a4).bind fun t134 => (some (t133 == t134)))) else (some false)))) else (some false)))) = some r := H
        have A11 := Aside0.mk A110
        clear A110
        replace H := Option.bind_eq_some_iff.mp H
        obtain ⟨t127, A120, H⟩ := H
        replace H : ((rolodexref09_Same.f kj6 t124 t127).bind fun t130 => (if t130 = true then ((roll_Sum.f kj6 a0).bind fun t131 => ((rolodexref09_Sum.f kj6 a0).bind fun t132 => (if t131 = t132 then ((roll_Next.f a1 a2 a3 a4).bind fun t133 => ((rolodexref09_Next.f a1 a2 a3 a4).bind fun t134 => (some (t133 == t134)))) else (some false)))) else (some false))) = some r := H
        have A12 := Aside0.mk A120
        clear A120
        replace H := Option.bind_eq_some_iff.mp H
        obtain ⟨t130, A130, H⟩ := H
        replace H : (if t130 = true then ((roll_Sum.f kj6 a0).bind fun t131 => ((rolodexref09_Sum.f kj6 a0).bind fun t132 => (if t131 = t132 then ((roll_Next.f a1 a2 a3 a4).bind fun t133 => ((rolodexref09_Next.f a1 a2 a3 a4).bind fun t134 => (some (t133 == t134)))) else (some false)))) else (some false)) = some r := H
        have A13 := Aside0.mk A130
        clear A130
        by_cases c14 : t130 = true
        · subst c14
          have H1 : ((roll_Sum.f kj6 a0).bind fun t131 => ((rolodexref09_Sum.f kj6 a0).bind fun t132 => (if t131 = t132 then ((roll_Next.f a1 a2 a3 a4).bind fun t133 => ((rolodexref09_Next.f a1 a2 a3 a4).bind fun t134 => (some (t133 == t134)))) else (some false)))) = some r := by rw [if_pos rfl] at H; exact H
          clear H
          have H := H1
          clear H1
          replace H := Option.bind_eq_some_iff.mp H
          obtain ⟨t131, A150, H⟩ := H
          replace H : ((rolodexref09_Sum.f kj6 a0).bind fun t132 => (if t131 = t132 then ((roll_Next.f a1 a2 a3 a4).bind fun t133 => ((rolodexref09_Next.f a1 a2 a3 a4).bind fun t134 => (some (t133 == t134)))) else (some false))) = some r := H
          have A15 := Aside0.mk A150
          clear A150
          replace H := Option.bind_eq_some_iff.mp H
          obtain ⟨t132, A160, H⟩ := H
          replace H : (if t131 = t132 then ((roll_Next.f a1 a2 a3 a4).bind fun t133 => ((rolodexref09_Next.f a1 a2 a3 a4).bind fun t134 => (some (t133 == t134)))) else (some false)) = some r := H
          have A16 := Aside0.mk A160
          clear A160
          by_cases c17 : t131 = t132
          · rw [if_pos c17] at H
            have c17b0 : (t131 == t132) = true := beq_iff_eq.mpr c17
            have c17b1 : (t131 != t132) = false := bne_eq_false_iff_eq.mpr c17
            clear c17
            replace H := Option.bind_eq_some_iff.mp H
            obtain ⟨t133, A180, H⟩ := H
            replace H : ((rolodexref09_Next.f a1 a2 a3 a4).bind fun t134 => (some (t133 == t134))) = some r := H
            have A18 := Aside0.mk A180
            clear A180
            replace H := Option.bind_eq_some_iff.mp H
            obtain ⟨t134, A190, H⟩ := H
            replace H : (some (t133 == t134)) = some r := H
            have A19 := Aside0.mk A190
            clear A190
            obtain rfl := Option.some.inj H
            go_wp2_with (first | ((with_reducible refine gate_callee (f := 11) rfl ?_); refine goesL_ (some 24) rfl rfl Try.func11 (by kernel_rfl) rfl #[.string a0, .int .i64 a2] rfl (by (try simp only [List.map_toArray, List.map_cons, List.map_nil]); first | done | rfl | (simp only [List.length_drop, List.length_take]; rfl)) ?_; (with_reducible refine (roll_All.calls kj6 a0 a2 t124 _ A11.out).mono ?_); rintro e w20 ⟨v125, rfl, ho0, hb⟩; refine ⟨_, rfl, ?_⟩; have n0_ := Aside0.mk (Kd.R_lower ho0 (below_size (by repeat (first | (with_reducible first | exact HB.out | apply below_alloc | apply pw_below_drewN | apply below_drew1) | exact HB.out)))); have n1_ := Aside0.mk (below_step (by repeat (first | (with_reducible first | exact HB.out | apply below_alloc | apply pw_below_drewN | apply below_drew1) | exact HB.out)) hb); clear HB; have HO126 := n0_; have HB := n1_; clear n0_ n1_; (try clear hb); (try clear hb2); (try clear hk); (try clear hi); (try clear ho0)) | ((with_reducible refine gate_callee (f := 12) rfl ?_); refine goesL_ (some 27) rfl rfl Try.func12 (by kernel_rfl) rfl #[.string a0, .int .i64 a2] rfl (by (try simp only [List.map_toArray, List.map_cons, List.map_nil]); first | done | rfl | (simp only [List.length_drop, List.length_take]; rfl)) ?_; (with_reducible refine (rolodexref09_All.calls kj6 a0 a2 t127 _ A12.out).mono ?_); rintro e w21 ⟨v128, rfl, ho0, hb⟩; refine ⟨_, rfl, ?_⟩; have n0_ := Aside0.mk (Kd.R_elder' (by (with_reducible repeat (first | apply Kd.R_alloc | apply Kd.R_drewN | apply Kd.R_drew)); exact HO126.out) (Kd.R_base ho0) hb); have n1_ := Aside0.mk (Kd.R_lower (Kd.R_new' ho0 (Kd.R_lt (by (with_reducible repeat (first | apply Kd.R_alloc | apply Kd.R_drewN | apply Kd.R_drew)); exact HO126.out))) (below_size (by repeat (first | (with_reducible first | exact HB.out | apply below_alloc | apply pw_below_drewN | apply below_drew1) | exact HB.out)))); have n2_ := Aside0.mk (below_step (by repeat (first | (with_reducible first | exact HB.out | apply below_alloc | apply pw_below_drewN | apply below_drew1) | exact HB.out)) hb); clear HO126; clear HB; have HO126 := n0_; have HO129 := n1_; have HB := n2_; clear n0_ n1_ n2_; (try clear hb); (try clear hb2); (try clear hk); (try clear hi); (try clear ho0); obtain ⟨Ao22, co22, eo22⟩ := Kd.R_slice HO126.out; subst eo22; obtain ⟨Ao23, co23, eo23⟩ := Kd.R_slice HO129.out; subst eo23) | ((with_reducible refine gate_callee (f := 10) rfl ?_); refine goesL_ (some 28) rfl rfl Try.func10 (by kernel_rfl) rfl #[.slice Ao22 t124.length co22, .slice Ao23 t127.length co23] rfl (by (try simp only [List.map_toArray, List.map_cons, List.map_nil]); first | done | rfl | (simp only [List.length_drop, List.length_take]; rfl)) ?_; (with_reducible refine (rolodexref09_Same.calls kj6 _ _ t124 _ _ t127 true _ ?side1 ?side2 ?side3 ?side4 A13.out).mono ?_); (case side1 => repeat (first | exact (Kd.R_reads' HO126.out).2.2 | (with_reducible refine Kd.C_alloc ?_ _) | (with_reducible refine Kd.C_drewN ?_ _) | (with_reducible refine Kd.C_drew ?_))); (case side2 => exact (Kd.R_reads' HO126.out).2.1); (case side3 => repeat (first | exact (Kd.R_reads' HO129.out).2.2 | (with_reducible refine Kd.C_alloc ?_ _) | (with_reducible refine Kd.C_drewN ?_ _) | (with_reducible refine Kd.C_drew ?_))); (case side4 => exact (Kd.R_reads' HO129.out).2.1); rintro e w' ⟨rfl, ⟨nd, rfl⟩⟩; refine ⟨_, rfl, ?_⟩) | (go_at_call 13; (with_reducible refine (roll_Sum.calls kj6 a0 t131 _ A15.out).mono ?_); rintro e w' ⟨rfl, ⟨nd, rfl⟩⟩) | (go_at_call 14; (with_reducible refine (rolodexref09_Sum.calls kj6 a0 t132 _ A16.out).mono ?_); rintro e w' ⟨rfl, ⟨nd, rfl⟩⟩) | (go_at_call 15; (with_reducible refine (roll_Next.calls a1 a2 a3 a4 t133 _ A18.out).mono ?_); rintro e w' ⟨rfl, ⟨nd, rfl⟩⟩) | (go_at_call 16; (with_reducible refine (rolodexref09_Next.calls a1 a2 a3 a4 t134 _ A19.out).mono ?_); rintro e w' ⟨rfl, ⟨nd, rfl⟩⟩))
            go_ret
            exact ⟨by first | rfl | (simp [errW_none, errW_some] <;> rfl) | (simp [*, errW_none, errW_some] <;> rfl), by repeat (first | (with_reducible first | exact HB.out | apply below_alloc | apply pw_below_drewN | apply below_drew1) | exact HB.out)⟩
          · rw [if_neg c17] at H
            have c17b0 : (t131 == t132) = false := beq_eq_false_iff_ne.mpr c17
            have c17b1 : (t131 != t132) = true := bne_iff_ne.mpr c17
            obtain rfl := Option.some.inj H
            go_wp2_with (first | ((with_reducible refine gate_callee (f := 11) rfl ?_); refine goesL_ (some 24) rfl rfl Try.func11 (by kernel_rfl) rfl #[.string a0, .int .i64 a2] rfl (by (try simp only [List.map_toArray, List.map_cons, List.map_nil]); first | done | rfl | (simp only [List.length_drop, List.length_take]; rfl)) ?_; (with_reducible refine (roll_All.calls kj6 a0 a2 t124 _ A11.out).mono ?_); rintro e w24 ⟨v125, rfl, ho0, hb⟩; refine ⟨_, rfl, ?_⟩; have n0_ := Aside0.mk (Kd.R_lower ho0 (below_size (by repeat (first | (with_reducible first | exact HB.out | apply below_alloc | apply pw_below_drewN | apply below_drew1) | exact HB.out)))); have n1_ := Aside0.mk (below_step (by repeat (first | (with_reducible first | exact HB.out | apply below_alloc | apply pw_below_drewN | apply below_drew1) | exact HB.out)) hb); clear HB; have HO126 := n0_; have HB := n1_; clear n0_ n1_; (try clear hb); (try clear hb2); (try clear hk); (try clear hi); (try clear ho0)) | ((with_reducible refine gate_callee (f := 12) rfl ?_); refine goesL_ (some 27) rfl rfl Try.func12 (by kernel_rfl) rfl #[.string a0, .int .i64 a2] rfl (by (try simp only [List.map_toArray, List.map_cons, List.map_nil]); first | done | rfl | (simp only [List.length_drop, List.length_take]; rfl)) ?_; (with_reducible refine (rolodexref09_All.calls kj6 a0 a2 t127 _ A12.out).mono ?_); rintro e w25 ⟨v128, rfl, ho0, hb⟩; refine ⟨_, rfl, ?_⟩; have n0_ := Aside0.mk (Kd.R_elder' (by (with_reducible repeat (first | apply Kd.R_alloc | apply Kd.R_drewN | apply Kd.R_drew)); exact HO126.out) (Kd.R_base ho0) hb); have n1_ := Aside0.mk (Kd.R_lower (Kd.R_new' ho0 (Kd.R_lt (by (with_reducible repeat (first | apply Kd.R_alloc | apply Kd.R_drewN | apply Kd.R_drew)); exact HO126.out))) (below_size (by repeat (first | (with_reducible first | exact HB.out | apply below_alloc | apply pw_below_drewN | apply below_drew1) | exact HB.out)))); have n2_ := Aside0.mk (below_step (by repeat (first | (with_reducible first | exact HB.out | apply below_alloc | apply pw_below_drewN | apply below_drew1) | exact HB.out)) hb); clear HO126; clear HB; have HO126 := n0_; have HO129 := n1_; have HB := n2_; clear n0_ n1_ n2_; (try clear hb); (try clear hb2); (try clear hk); (try clear hi); (try clear ho0); obtain ⟨Ao26, co26, eo26⟩ := Kd.R_slice HO126.out; subst eo26; obtain ⟨Ao27, co27, eo27⟩ := Kd.R_slice HO129.out; subst eo27) | ((with_reducible refine gate_callee (f := 10) rfl ?_); refine goesL_ (some 28) rfl rfl Try.func10 (by kernel_rfl) rfl #[.slice Ao26 t124.length co26, .slice Ao27 t127.length co27] rfl (by (try simp only [List.map_toArray, List.map_cons, List.map_nil]); first | done | rfl | (simp only [List.length_drop, List.length_take]; rfl)) ?_; (with_reducible refine (rolodexref09_Same.calls kj6 _ _ t124 _ _ t127 true _ ?side1 ?side2 ?side3 ?side4 A13.out).mono ?_); (case side1 => repeat (first | exact (Kd.R_reads' HO126.out).2.2 | (with_reducible refine Kd.C_alloc ?_ _) | (with_reducible refine Kd.C_drewN ?_ _) | (with_reducible refine Kd.C_drew ?_))); (case side2 => exact (Kd.R_reads' HO126.out).2.1); (case side3 => repeat (first | exact (Kd.R_reads' HO129.out).2.2 | (with_reducible refine Kd.C_alloc ?_ _) | (with_reducible refine Kd.C_drewN ?_ _) | (with_reducible refine Kd.C_drew ?_))); (case side4 => exact (Kd.R_reads' HO129.out).2.1); rintro e w' ⟨rfl, ⟨nd, rfl⟩⟩; refine ⟨_, rfl, ?_⟩) | (go_at_call 13; (with_reducible refine (roll_Sum.calls kj6 a0 t131 _ A15.out).mono ?_); rintro e w' ⟨rfl, ⟨nd, rfl⟩⟩) | (go_at_call 14; (with_reducible refine (rolodexref09_Sum.calls kj6 a0 t132 _ A16.out).mono ?_); rintro e w' ⟨rfl, ⟨nd, rfl⟩⟩))
            go_ret
            exact ⟨by first | rfl | (simp [errW_none, errW_some] <;> rfl) | (simp [*, errW_none, errW_some] <;> rfl), by repeat (first | (with_reducible first | exact HB.out | apply below_alloc | apply pw_below_drewN | apply below_drew1) | exact HB.out)⟩
        · replace c14 := Bool.eq_false_iff.mpr c14
          subst c14
          have H1 : (some false) = some r := by rw [if_neg (show ¬ (false = true) by decide)] at H; exact H
          clear H
          have H := H1
          clear H1
          obtain rfl := Option.some.inj H
          go_wp2_with (first | ((with_reducible refine gate_callee (f := 11) rfl ?_); refine goesL_ (some 24) rfl rfl Try.func11 (by kernel_rfl) rfl #[.string a0, .int .i64 a2] rfl (by (try simp only [List.map_toArray, List.map_cons, List.map_nil]); first | done | rfl | (simp only [List.length_drop, List.length_take]; rfl)) ?_; (with_reducible refine (roll_All.calls kj6 a0 a2 t124 _ A11.out).mono ?_); rintro e w28 ⟨v125, rfl, ho0, hb⟩; refine ⟨_, rfl, ?_⟩; have n0_ := Aside0.mk (Kd.R_lower ho0 (below_size (by repeat (first | (with_reducible first | exact HB.out | apply below_alloc | apply pw_below_drewN | apply below_drew1) | exact HB.out)))); have n1_ := Aside0.mk (below_step (by repeat (first | (with_reducible first | exact HB.out | apply below_alloc | apply pw_below_drewN | apply below_drew1) | exact HB.out)) hb); clear HB; have HO126 := n0_; have HB := n1_; clear n0_ n1_; (try clear hb); (try clear hb2); (try clear hk); (try clear hi); (try clear ho0)) | ((with_reducible refine gate_callee (f := 12) rfl ?_); refine goesL_ (some 27) rfl rfl Try.func12 (by kernel_rfl) rfl #[.string a0, .int .i64 a2] rfl (by (try simp only [List.map_toArray, List.map_cons, List.map_nil]); first | done | rfl | (simp only [List.length_drop, List.length_take]; rfl)) ?_; (with_reducible refine (rolodexref09_All.calls kj6 a0 a2 t127 _ A12.out).mono ?_); rintro e w29 ⟨v128, rfl, ho0, hb⟩; refine ⟨_, rfl, ?_⟩; have n0_ := Aside0.mk (Kd.R_elder' (by (with_reducible repeat (first | apply Kd.R_alloc | apply Kd.R_drewN | apply Kd.R_drew)); exact HO126.out) (Kd.R_base ho0) hb); have n1_ := Aside0.mk (Kd.R_lower (Kd.R_new' ho0 (Kd.R_lt (by (with_reducible repeat (first | apply Kd.R_alloc | apply Kd.R_drewN | apply Kd.R_drew)); exact HO126.out))) (below_size (by repeat (first | (with_reducible first | exact HB.out | apply below_alloc | apply pw_below_drewN | apply below_drew1) | exact HB.out)))); have n2_ := Aside0.mk (below_step (by repeat (first | (with_reducible first | exact HB.out | apply below_alloc | apply pw_below_drewN | apply below_drew1) | exact HB.out)) hb); clear HO126; clear HB; have HO126 := n0_; have HO129 := n1_; have HB := n2_; clear n0_ n1_ n2_; (try clear hb); (try clear hb2); (try clear hk); (try clear hi); (try clear ho0); obtain ⟨Ao30, co30, eo30⟩ := Kd.R_slice HO126.out; subst eo30; obtain ⟨Ao31, co31, eo31⟩ := Kd.R_slice HO129.out; subst eo31) | ((with_reducible refine gate_callee (f := 10) rfl ?_); refine goesL_ (some 28) rfl rfl Try.func10 (by kernel_rfl) rfl #[.slice Ao30 t124.length co30, .slice Ao31 t127.length co31] rfl (by (try simp only [List.map_toArray, List.map_cons, List.map_nil]); first | done | rfl | (simp only [List.length_drop, List.length_take]; rfl)) ?_; (with_reducible refine (rolodexref09_Same.calls kj6 _ _ t124 _ _ t127 false _ ?side1 ?side2 ?side3 ?side4 A13.out).mono ?_); (case side1 => repeat (first | exact (Kd.R_reads' HO126.out).2.2 | (with_reducible refine Kd.C_alloc ?_ _) | (with_reducible refine Kd.C_drewN ?_ _) | (with_reducible refine Kd.C_drew ?_))); (case side2 => exact (Kd.R_reads' HO126.out).2.1); (case side3 => repeat (first | exact (Kd.R_reads' HO129.out).2.2 | (with_reducible refine Kd.C_alloc ?_ _) | (with_reducible refine Kd.C_drewN ?_ _) | (with_reducible refine Kd.C_drew ?_))); (case side4 => exact (Kd.R_reads' HO129.out).2.1); rintro e w' ⟨rfl, ⟨nd, rfl⟩⟩; refine ⟨_, rfl, ?_⟩))
          go_ret
          exact ⟨by first | rfl | (simp [errW_none, errW_some] <;> rfl) | (simp [*, errW_none, errW_some] <;> rfl), by repeat (first | (with_reducible first | exact HB.out | apply below_alloc | apply pw_below_drewN | apply below_drew1) | exact HB.out)⟩

/-- THE ONE PURE STATEMENT of rolodexlaw09_RollTells: yours. -/
def rolodexlaw09_RollTells.Pure : Prop := ∀ (a0 : ByteArray) (a1 : Int) (a2 : Int) (a3 : Int) (a4 : Int), a0.size ≤ 140737488351232 → (Lit.int .u32 a1).wf = true → (Lit.int .i64 a2).wf = true → (Lit.int .u8 a3).wf = true → (Lit.int .u8 a4).wf = true → ∃ k, rolodexlaw09_RollTells.f k a0 a1 a2 a3 a4 = some true
theorem rolodexlaw09_RollTells.walk (P : rolodexlaw09_RollTells.Pure) (a0 : ByteArray) (a1 : Int) (a2 : Int) (a3 : Int) (a4 : Int) (w : World) (w0 : a0.size ≤ 140737488351232) (w1 : (Lit.int .u32 a1).wf = true) (w2 : (Lit.int .i64 a2).wf = true) (w3 : (Lit.int .u8 a3).wf = true) (w4 : (Lit.int .u8 a4).wf = true) :
    Calls Try.prog 3 #[.string a0, .int .u32 a1, .int .i64 a2, .int .u8 a3, .int .u8 a4] w fun e w' => e = .returned (.bool true) ∧ Below w.heap.size w w' := by
  obtain ⟨k, h⟩ := P a0 a1 a2 a3 a4 w0 w1 w2 w3 w4
  refine (rolodexlaw09_RollTells.calls k a0 a1 a2 a3 a4 true w h).mono ?_
  rintro e w' ⟨rfl, hd⟩
  exact ⟨rfl, hd⟩

end Go.Proofs.Ytkicolloiagadaa.X
