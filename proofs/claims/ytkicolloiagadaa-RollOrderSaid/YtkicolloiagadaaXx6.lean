-- Printed for this session by a program of its own over an edited copy of the translation's print.
import Derived.Test.YtkicolloiagadaaXx0
import Derived.Test.YtkicolloiagadaaXx2
import Derived.Test.YtkicolloiagadaaXx4
import Derived.Test.YtkicolloiagadaaXx5
namespace Go.Proofs.Ytkicolloiagadaa.X
open Go.RowKit Go.Proofs.YtkicolloiagadaaW.PrintWords Go.Proofs.YtkicolloiagadaaW.PrintLast Go.Proofs.YtkicolloiagadaaW.PrintMore
attribute [local go_sem] max2_int min2_int max_two min_two max_three min_three max_four min_four   -- for this text's walks alone
set_option linter.unusedVariables false
set_option linter.unusedSimpArgs false

/-! ### rolodexlaw09_awake: function 9 -/
def rolodexlaw09_awake.f (k : Nat)  : Option (Bool) := (roll_Sum.f k (⟨#[97, 98]⟩ : ByteArray)).bind fun t107 => (if t107 = 19136707 then ((roll_Sum.f k (⟨#[97, 98]⟩ : ByteArray)).bind fun t108 => ((roll_Next.f t108 2 97 99).bind fun t109 => ((roll_Sum.f k (⟨#[98, 99]⟩ : ByteArray)).bind fun t110 => (if t109 = t110 then ((roll_All.f k (⟨#[97, 98, 99]⟩ : ByteArray) 2).bind fun t111 => (some ((t111.length : Int) == 2))) else (some false))))) else (some false))
theorem rolodexlaw09_awake.mono : ∀ k, LeO (rolodexlaw09_awake.f k ) (rolodexlaw09_awake.f (k + 1) ) := by
  intro  k
  unfold rolodexlaw09_awake.f
  repeat' first
      | (with_reducible exact roll_All.mono _ _ _)
      | (with_reducible exact roll_Sum.mono _ _)
      | (with_reducible exact LeO.refl _)
      | (with_reducible exact LeO.none _)
      | (with_reducible refine LeO.ite ?_ ?_)
      | (with_reducible refine LeO.bind ?_ (fun _ => ?_))
      | exact roll_All.mono _ _ _
      | exact roll_Sum.mono _ _
      | exact LeO.none _
      | refine LeO.ite ?_ ?_
      | refine LeO.bind ?_ (fun _ => ?_)
set_option maxHeartbeats 8000000 in
set_option maxRecDepth 100000 in
theorem rolodexlaw09_awake.calls (k : Nat)  (r : Bool) (w : World) (h : rolodexlaw09_awake.f k  = some r) :
    Calls Try.prog 9 #[] w fun e w' => e = .returned (.bool r) ∧ Below w.heap.size w w' := by
  have HB := Aside0.mk (Below.refl w.heap.size w)
  have H : ((roll_Sum.f k (⟨#[97, 98]⟩ : ByteArray)).bind fun t107 => (if t107 = 19136707 then ((roll_Sum.f k (⟨#[97, 98]⟩ : ByteArray)).bind fun t108 => ((roll_Next.f t108 2 97 99).bind fun t109 => ((roll_Sum.f k (⟨#[98, 99]⟩ : ByteArray)).bind fun t110 => (if t109 = t110 then ((roll_All.f k (⟨#[97, 98, 99]⟩ : ByteArray) 2).bind fun t111 => (some ((t111.length : Int) == 2))) else (some false))))) else (some false))) = some r := h
  clear h
  replace H := Option.bind_eq_some_iff.mp H
  obtain ⟨t107, A10, H⟩ := H
  replace H : (if t107 = 19136707 then ((roll_Sum.f k (⟨#[97, 98]⟩ : ByteArray)).bind fun t108 => ((roll_Next.f t108 2 97 99).bind fun t109 => ((roll_Sum.f k (⟨#[98, 99]⟩ : ByteArray)).bind fun t110 => (if t109 = t110 then ((roll_All.f k (⟨#[97, 98, 99]⟩ : ByteArray) 2).bind fun t111 => (some ((t111.length : Int) == 2))) else (some false))))) else (some false)) = some r := H
  have A1 := Aside0.mk A10
  clear A10
  by_cases c2 : t107 = 19136707
  · rw [if_pos c2] at H
    have c2b0 : (t107 == 19136707) = true := beq_iff_eq.mpr c2
    have c2b1 : (t107 != 19136707) = false := bne_eq_false_iff_eq.mpr c2
    clear c2
    replace H := Option.bind_eq_some_iff.mp H
    obtain ⟨t108, A30, H⟩ := H
    replace H : ((roll_Next.f t108 2 97 99).bind fun t109 => ((roll_Sum.f k (⟨#[98, 99]⟩ : ByteArray)).bind fun t110 => (if t109 = t110 then ((roll_All.f k (⟨#[97, 98, 99]⟩ : ByteArray) 2).bind fun t111 => (some ((t111.length : Int) == 2))) else (some false)))) = some r := H
    have A3 := Aside0.mk A30
    clear A30
    replace H := Option.bind_eq_some_iff.mp H
    obtain ⟨t109, A40, H⟩ := H
    replace H : ((roll_Sum.f k (⟨#[98, 99]⟩ : ByteArray)).bind fun t110 => (if t109 = t110 then ((roll_All.f k (⟨#[97, 98, 99]⟩ : ByteArray) 2).bind fun t111 => (some ((t111.length : Int) == 2))) else (some false))) = some r := H
    have A4 := Aside0.mk A40
    clear A40
    replace H := Option.bind_eq_some_iff.mp H
    obtain ⟨t110, A50, H⟩ := H
    replace H : (if t109 = t110 then ((roll_All.f k (⟨#[97, 98, 99]⟩ : ByteArray) 2).bind fun t111 => (some ((t111.length : Int) == 2))) else (some false)) = some r := H
    have A5 := Aside0.mk A50
    clear A50
    by_cases c6 : t109 = t110
    · rw [if_pos c6] at H
      have c6b0 : (t109 == t110) = true := beq_iff_eq.mpr c6
      have c6b1 : (t109 != t110) = false := bne_eq_false_iff_eq.mpr c6
      clear c6
      replace H := Option.bind_eq_some_iff.mp H
      obtain ⟨t111, A70, H⟩ := H
      replace H : (some ((t111.length : Int) == 2)) = some r := H
      have A7 := Aside0.mk A70
      clear A70
      obtain rfl := Option.some.inj H
      go_enter Try.func9, Try.ntmps9
      go_wp2_with (first | ((with_reducible refine gate_callee (f := 13) rfl ?_); refine goesL_ (some 1) rfl rfl Try.func13 (by kernel_rfl) rfl #[.string (⟨#[97, 98]⟩ : ByteArray)] rfl (by (try simp only [List.map_toArray, List.map_cons, List.map_nil]); first | done | rfl | (simp only [List.length_drop, List.length_take]; rfl)) ?_; (with_reducible refine (roll_Sum.calls k (⟨#[97, 98]⟩ : ByteArray) t107 _ A1.out).mono ?_); rintro e w' ⟨rfl, ⟨nd, rfl⟩⟩; refine ⟨_, rfl, ?_⟩) | (go_at_call 13; (with_reducible refine (roll_Sum.calls k (⟨#[97, 98]⟩ : ByteArray) t108 _ A3.out).mono ?_); rintro e w' ⟨rfl, ⟨nd, rfl⟩⟩) | (go_at_call 15; (with_reducible refine (roll_Next.calls t108 2 97 99 t109 _ A4.out).mono ?_); rintro e w' ⟨rfl, ⟨nd, rfl⟩⟩) | (go_at_call 13; (with_reducible refine (roll_Sum.calls k (⟨#[98, 99]⟩ : ByteArray) t110 _ A5.out).mono ?_); rintro e w' ⟨rfl, ⟨nd, rfl⟩⟩) | (go_at_call 11; (with_reducible refine (roll_All.calls k (⟨#[97, 98, 99]⟩ : ByteArray) 2 t111 _ A7.out).mono ?_); rintro e w8 ⟨v112, rfl, ho0, hb⟩; have n0_ := Aside0.mk (Kd.R_lower ho0 (below_size (by repeat (first | (with_reducible first | exact HB.out | apply below_alloc | apply pw_below_drewN | apply below_drew1) | exact HB.out)))); have n1_ := Aside0.mk (below_step (by repeat (first | (with_reducible first | exact HB.out | apply below_alloc | apply pw_below_drewN | apply below_drew1) | exact HB.out)) hb); clear HB; have HO113 := n0_; have HB := n1_; clear n0_ n1_; (try clear hb); (try clear hb2); (try clear hk); (try clear hi); (try clear ho0); obtain ⟨Ao9, co9, eo9⟩ := Kd.R_slice HO113.out; subst eo9))
      go_ret
      exact ⟨by first | rfl | (simp [errW_none, errW_some] <;> rfl) | (simp [*, errW_none, errW_some] <;> rfl), by repeat (first | (with_reducible first | exact HB.out | apply below_alloc | apply pw_below_drewN | apply below_drew1) | exact HB.out)⟩
    · rw [if_neg c6] at H
      have c6b0 : (t109 == t110) = false := beq_eq_false_iff_ne.mpr c6
      have c6b1 : (t109 != t110) = true := bne_iff_ne.mpr c6
      obtain rfl := Option.some.inj H
      go_enter Try.func9, Try.ntmps9
      go_wp2_with (first | ((with_reducible refine gate_callee (f := 13) rfl ?_); refine goesL_ (some 1) rfl rfl Try.func13 (by kernel_rfl) rfl #[.string (⟨#[97, 98]⟩ : ByteArray)] rfl (by (try simp only [List.map_toArray, List.map_cons, List.map_nil]); first | done | rfl | (simp only [List.length_drop, List.length_take]; rfl)) ?_; (with_reducible refine (roll_Sum.calls k (⟨#[97, 98]⟩ : ByteArray) t107 _ A1.out).mono ?_); rintro e w' ⟨rfl, ⟨nd, rfl⟩⟩; refine ⟨_, rfl, ?_⟩) | (go_at_call 13; (with_reducible refine (roll_Sum.calls k (⟨#[97, 98]⟩ : ByteArray) t108 _ A3.out).mono ?_); rintro e w' ⟨rfl, ⟨nd, rfl⟩⟩) | (go_at_call 15; (with_reducible refine (roll_Next.calls t108 2 97 99 t109 _ A4.out).mono ?_); rintro e w' ⟨rfl, ⟨nd, rfl⟩⟩) | (go_at_call 13; (with_reducible refine (roll_Sum.calls k (⟨#[98, 99]⟩ : ByteArray) t110 _ A5.out).mono ?_); rintro e w' ⟨rfl, ⟨nd, rfl⟩⟩))
      go_ret
      exact ⟨by first | rfl | (simp [errW_none, errW_some] <;> rfl) | (simp [*, errW_none, errW_some] <;> rfl), by repeat (first | (with_reducible first | exact HB.out | apply below_alloc | apply pw_below_drewN | apply below_drew1) | exact HB.out)⟩
  · rw [if_neg c2] at H
    have c2b0 : (t107 == 19136707) = false := beq_eq_false_iff_ne.mpr c2
    have c2b1 : (t107 != 19136707) = true := bne_iff_ne.mpr c2
    obtain rfl := Option.some.inj H
    go_enter Try.func9, Try.ntmps9
    go_wp2_with (first | ((with_reducible refine gate_callee (f := 13) rfl ?_); refine goesL_ (some 1) rfl rfl Try.func13 (by kernel_rfl) rfl #[.string (⟨#[97, 98]⟩ : ByteArray)] rfl (by (try simp only [List.map_toArray, List.map_cons, List.map_nil]); first | done | rfl | (simp only [List.length_drop, List.length_take]; rfl)) ?_; (with_reducible refine (roll_Sum.calls k (⟨#[97, 98]⟩ : ByteArray) t107 _ A1.out).mono ?_); rintro e w' ⟨rfl, ⟨nd, rfl⟩⟩; refine ⟨_, rfl, ?_⟩))
    go_ret
    exact ⟨by first | rfl | (simp [errW_none, errW_some] <;> rfl) | (simp [*, errW_none, errW_some] <;> rfl), by repeat (first | (with_reducible first | exact HB.out | apply below_alloc | apply pw_below_drewN | apply below_drew1) | exact HB.out)⟩

end Go.Proofs.Ytkicolloiagadaa.X
