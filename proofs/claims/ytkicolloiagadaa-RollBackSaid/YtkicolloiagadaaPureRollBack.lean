/- For every input of the law RollBack its answer is true. -/
import Derived.Test.YtkicolloiagadaaRLaws
import Derived.Test.YtkicolloiagadaaXx16
namespace Go.Proofs.Ytkicolloiagadaa.Pure
set_option linter.unusedSimpArgs false
set_option linter.unusedVariables false
open Go.RowKit Go.Proofs.Ytkicolloiagadaa.X Go.Proofs.YtkicolloiagadaaW.PrintWords Go.Proofs.YtkicolloiagadaaW.PrintLast

theorem bs_one (a : Int) (h0 : 0 ≤ a) (h1 : a ≤ 255) : bs (strOfNums [a]) = [a] := by
  simp [bs, strOfNums]
  omega

theorem RollBack : rolodexlaw09_RollBack.Pure := by
  intro a b h1 h2
  simp only [Lit.wf, IntKind.min, IntKind.max, IntKind.bits, IntKind.signed, Bool.and_eq_true, decide_eq_true_eq] at h1 h2
  simp at h1 h2
  refine ⟨20, ?_⟩
  unfold rolodexlaw09_RollBack.f
  have z1 : (strOfNums [a]).size = 1 := by rw [strOfNums_size]; rfl
  have z2 : (strOfNums [b]).size = 1 := by rw [strOfNums_size]; rfl
  rw [awake_eq _ (by omega), Sum_eq _ (by omega) _ (by omega), Sum_eq _ (by omega) _ (by omega), bs_one a (by omega) (by omega), bs_one b (by omega) (by omega)]
  simp only [Option.bind_some, if_true, next_some, nxt_eq]
  have e : ∀ x y : Int, nextI (roll [x]) 1 x y = roll [y] := fun x y => by
    have := next_roll [] x y
    simpa using this
  rw [e, e]
  simp only [Option.bind_some, if_true]
  rw [Sum_eq _ (by show 0 ≤ _; omega) _ (by show 0 < _; omega)]
  simp only [Option.bind_some]
  rw [if_pos (by rfl)]
  have hr : roll [a] = 65536 * (a % 65536) + a % 65536 := by simp [roll, sA, sB]
  rw [hr, show a % 65536 = a by omega, show a % 4294967296 = a by omega, show 65537 * a % 4294967296 = 65537 * a by omega]
  simp only [Option.some.injEq, beq_iff_eq]
  omega

end Go.Proofs.Ytkicolloiagadaa.Pure
