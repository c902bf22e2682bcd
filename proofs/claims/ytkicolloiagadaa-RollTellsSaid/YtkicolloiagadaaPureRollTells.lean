/- For every input of the law RollTells its answer is true (a text of more than 600 bytes is let by). -/
import Derived.Test.YtkicolloiagadaaRRef
import Derived.Test.YtkicolloiagadaaXx12
namespace Go.Proofs.Ytkicolloiagadaa.Pure
set_option linter.unusedSimpArgs false
set_option linter.unusedVariables false
open Go.RowKit Go.Proofs.Ytkicolloiagadaa.X Go.Proofs.YtkicolloiagadaaW.PrintWords Go.Proofs.YtkicolloiagadaaW.PrintLast

theorem RollTells : rolodexlaw09_RollTells.Pure := by
  intro s sum many out inn hs h1 h2 h3 h4
  simp only [Lit.wf, IntKind.min, IntKind.max, IntKind.bits, IntKind.signed, Bool.and_eq_true, decide_eq_true_eq] at h1 h2 h3 h4
  refine ⟨2 * s.size + 20, ?_⟩
  unfold rolodexlaw09_RollTells.f
  rw [awake_eq _ (by omega)]
  simp only [Option.bind_some, if_true]
  rw [show 2 * s.size + 20 = (2 * s.size + 19) + 1 by omega]
  simp only [rolodexlaw09_RollTells.j0]
  by_cases hl : (s.size : Int) > 600
  · rw [if_pos (by simpa using hl)]
  rw [if_neg (by simpa using hl), All_eq _ _ (by omega) _ (by omega), refAll_eq _ (by omega) _ (by simp at h2; omega) (by simp at h2; omega) _ (by omega)]
  simp only [Option.bind_some]
  rw [same_eq _ (by unfold allI; split; · simp
                    split
                    · simp
                    · rw [upto_length]; omega) _ (by unfold allI; split; · simp
                                                     split
                                                     · simp
                                                     · rw [upto_length]; omega)]
  simp only [Option.bind_some, if_true]
  rw [Sum_eq _ (by omega) _ (by omega), refSum_eq _ (by omega) _ (by omega), refNext_eq _ _ _ _ (by simp at h1; omega) (by simp at h1; omega) (by simp at h3; omega) (by simp at h3; omega) (by simp at h4; omega) (by simp at h4; omega), next_some, nxt_eq]
  simp

end Go.Proofs.Ytkicolloiagadaa.Pure
