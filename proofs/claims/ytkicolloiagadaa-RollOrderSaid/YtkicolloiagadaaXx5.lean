-- Printed for this session by a program of its own over an edited copy of the translation's print.
import Derived.Test.YtkicolloiagadaaXx0
import Derived.Test.YtkicolloiagadaaXx1
namespace Go.Proofs.Ytkicolloiagadaa.X
open Go.RowKit Go.Proofs.YtkicolloiagadaaW.PrintWords Go.Proofs.YtkicolloiagadaaW.PrintLast Go.Proofs.YtkicolloiagadaaW.PrintMore
attribute [local go_sem] max2_int min2_int max_two min_two max_three min_three max_four min_four   -- for this text's walks alone
set_option linter.unusedVariables false
set_option linter.unusedSimpArgs false

/-! ### roll_Next: function 15 -/
def roll_Next.f (a0 : Int) (a1 : Int) (a2 : Int) (a3 : Int) : Option (Int) := (roll_pair.f (IntKind.u16.wrap ((IntKind.u16.wrap ((IntKind.u16.wrap (a0)) - (IntKind.u16.wrap (a2)))) + (IntKind.u16.wrap (a3)))) (IntKind.u16.wrap ((IntKind.u16.wrap ((IntKind.u16.wrap (a0 / 65536)) - (IntKind.u16.wrap ((IntKind.u16.wrap (a1)) * (IntKind.u16.wrap (a2)))))) + (IntKind.u16.wrap ((IntKind.u16.wrap ((IntKind.u16.wrap (a0)) - (IntKind.u16.wrap (a2)))) + (IntKind.u16.wrap (a3))))))).bind fun t106 => (some t106)
set_option maxHeartbeats 8000000 in
set_option maxRecDepth 100000 in
theorem roll_Next.calls (a0 : Int) (a1 : Int) (a2 : Int) (a3 : Int) (r : Int) (w : World) (h : roll_Next.f a0 a1 a2 a3 = some r) :
    Calls Try.prog 15 #[.int .u32 a0, .int .i64 a1, .int .u8 a2, .int .u8 a3] w fun e w' => e = .returned (.int .u32 r) ∧ Drawn0 w w' := by
  have H : ((roll_pair.f (IntKind.u16.wrap ((IntKind.u16.wrap ((IntKind.u16.wrap (a0)) - (IntKind.u16.wrap (a2)))) + (IntKind.u16.wrap (a3)))) (IntKind.u16.wrap ((IntKind.u16.wrap ((IntKind.u16.wrap (a0 / 65536)) - (IntKind.u16.wrap ((IntKind.u16.wrap (a1)) * (IntKind.u16.wrap (a2)))))) + (IntKind.u16.wrap ((IntKind.u16.wrap ((IntKind.u16.wrap (a0)) - (IntKind.u16.wrap (a2)))) + (IntKind.u16.wrap (a3))))))).bind fun t106 => (some t106)) = some r := h
  clear h
  replace H := Option.bind_eq_some_iff.mp H
  obtain ⟨t106, A50, H⟩ := H
  replace H : (some t106) = some r := H
  have A5 := Aside0.mk A50
  clear A50
  obtain rfl := Option.some.inj H
  go_enter Try.func15, Try.ntmps15
  go_wp2_with (first | ((with_reducible refine gate_callee (f := 18) rfl ?_); refine goesL_ (some 32) rfl rfl Try.func18 (by kernel_rfl) rfl #[.int .u16 (IntKind.u16.wrap ((IntKind.u16.wrap ((IntKind.u16.wrap (a0)) - (IntKind.u16.wrap (a2)))) + (IntKind.u16.wrap (a3)))), .int .u16 (IntKind.u16.wrap ((IntKind.u16.wrap ((IntKind.u16.wrap (a0 / 65536)) - (IntKind.u16.wrap ((IntKind.u16.wrap (a1)) * (IntKind.u16.wrap (a2)))))) + (IntKind.u16.wrap ((IntKind.u16.wrap ((IntKind.u16.wrap (a0)) - (IntKind.u16.wrap (a2)))) + (IntKind.u16.wrap (a3))))))] rfl (by (try simp only [List.map_toArray, List.map_cons, List.map_nil]); first | done | rfl | (simp only [List.length_drop, List.length_take]; rfl)) ?_; (with_reducible refine (roll_pair.calls (IntKind.u16.wrap ((IntKind.u16.wrap ((IntKind.u16.wrap (a0)) - (IntKind.u16.wrap (a2)))) + (IntKind.u16.wrap (a3)))) (IntKind.u16.wrap ((IntKind.u16.wrap ((IntKind.u16.wrap (a0 / 65536)) - (IntKind.u16.wrap ((IntKind.u16.wrap (a1)) * (IntKind.u16.wrap (a2)))))) + (IntKind.u16.wrap ((IntKind.u16.wrap ((IntKind.u16.wrap (a0)) - (IntKind.u16.wrap (a2)))) + (IntKind.u16.wrap (a3)))))) t106 _ A5.out).mono ?_); rintro e w' ⟨rfl, ⟨nd, rfl⟩⟩; refine ⟨_, rfl, ?_⟩))
  go_ret
  exact ⟨by first | rfl | (simp; done) | (simp [*]; done), by repeat (first | exact Drawn0.refl _ | apply Drawn0.step)⟩

end Go.Proofs.Ytkicolloiagadaa.X
