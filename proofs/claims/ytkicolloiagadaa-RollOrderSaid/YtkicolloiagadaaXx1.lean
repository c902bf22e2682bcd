-- Printed for this session by a program of its own over an edited copy of the translation's print.
import Derived.Test.YtkicolloiagadaaXx0
namespace Go.Proofs.Ytkicolloiagadaa.X
open Go.RowKit Go.Proofs.YtkicolloiagadaaW.PrintWords Go.Proofs.YtkicolloiagadaaW.PrintLast Go.Proofs.YtkicolloiagadaaW.PrintMore
attribute [local go_sem] max2_int min2_int max_two min_two max_three min_three max_four min_four   -- for this text's walks alone
set_option linter.unusedVariables false
set_option linter.unusedSimpArgs false

/-! ### roll_pair: function 18 -/
def roll_pair.f (a0 : Int) (a1 : Int) : Option (Int) := some (Go.bits .or .u32 ((((a1) % 4294967296) * 65536) % 4294967296) ((a0) % 4294967296))
set_option maxHeartbeats 8000000 in
set_option maxRecDepth 100000 in
theorem roll_pair.calls (a0 : Int) (a1 : Int) (r : Int) (w : World) (h : roll_pair.f a0 a1 = some r) :
    Calls Try.prog 18 #[.int .u16 a0, .int .u16 a1] w fun e w' => e = .returned (.int .u32 r) ∧ Drawn0 w w' := by
  have H : (some (Go.bits .or .u32 ((((a1) % 4294967296) * 65536) % 4294967296) ((a0) % 4294967296))) = some r := h
  clear h
  obtain rfl := Option.some.inj H
  go_enter Try.func18, Try.ntmps18
  go_wp2
  go_ret
  exact ⟨by first | rfl | (simp; done) | (simp [*]; done), by repeat (first | exact Drawn0.refl _ | apply Drawn0.step)⟩

end Go.Proofs.Ytkicolloiagadaa.X
