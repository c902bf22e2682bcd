/- For every input of the law RollNext its answer is true (what its guards let by). -/
import Derived.Test.YtkicolloiagadaaRLaws
import Derived.Test.YtkicolloiagadaaXx13
namespace Go.Proofs.Ytkicolloiagadaa.Pure
set_option linter.unusedSimpArgs false
set_option linter.unusedVariables false
open Go.RowKit Go.Proofs.Ytkicolloiagadaa.X Go.Proofs.YtkicolloiagadaaW.PrintWords Go.Proofs.YtkicolloiagadaaW.PrintLast

theorem RollNext : rolodexlaw09_RollNext.Pure := by
  intro s i many hs h1 h2
  simp only [Lit.wf, IntKind.min, IntKind.max, IntKind.bits, IntKind.signed, Bool.and_eq_true, decide_eq_true_eq] at h1 h2
  simp at h1 h2
  refine ⟨2 * s.size + 20, ?_⟩
  unfold rolodexlaw09_RollNext.f
  rw [awake_eq _ (by omega)]
  simp only [Option.bind_some, if_true]
  rw [show 2 * s.size + 20 = (2 * s.size + 19) + 1 by omega]
  simp only [rolodexlaw09_RollNext.j0, if_true]
  by_cases c1 : (s.size : Int) > 600
  · rw [if_pos c1]
  rw [if_neg c1]
  by_cases c2 : i < 0
  · rw [if_pos c2]
  rw [if_neg c2]
  by_cases c3 : i > 600
  · rw [if_pos c3]
  rw [if_neg c3]
  by_cases c4 : many < 1
  · rw [if_pos c4]
  rw [if_neg c4]
  by_cases c5 : many > 600
  · rw [if_pos c5]
  rw [if_neg c5]
  rw [wrap64_small (i + many) (by omega) (by omega)]
  by_cases c6 : i + many ≥ (s.size : Int)
  · rw [if_pos (by simpa using c6)]
  rw [if_neg (by simpa using c6), wrap64_small (i + many + 1) (by omega) (by omega), wrap64_small (i + 1) (by omega) (by omega)]
  have z1 : (s.extract i.toNat (i + many).toNat).size ≤ s.size := by simp; omega
  have z2 : (s.extract (i + 1).toNat (i + many + 1).toNat).size ≤ s.size := by simp; omega
  rw [if_pos (by omega), if_pos (by omega), if_pos (by omega), Sum_eq _ (by omega) _ (by omega)]
  simp only [Option.bind_some]
  rw [if_pos (by omega), if_pos (by omega), if_pos (by omega), next_some]
  simp only [Option.bind_some]
  rw [if_pos (by omega), if_pos (by omega), if_pos (by omega), Sum_eq _ (by omega) _ (by omega)]
  simp only [Option.bind_some]
  obtain ⟨j, rfl⟩ : ∃ j : Nat, i = j := ⟨i.toNat, by omega⟩
  obtain ⟨m, rfl⟩ : ∃ m : Nat, many = m := ⟨many.toNat, by omega⟩
  obtain ⟨r, e1, e2, e3⟩ := win_head (bs s) m j (by omega) (by rw [bs_length]; omega)
  have f1 : bs (s.extract ((j : Int)).toNat ((j : Int) + m).toNat) = win (bs s) m j := by
    rw [bs_extract, show ((j : Int) + m).toNat - (j : Int).toNat = m by omega, Int.toNat_natCast]; rfl
  have f2 : bs (s.extract ((j : Int) + 1).toNat ((j : Int) + m + 1).toNat) = win (bs s) m (j + 1) := by
    rw [bs_extract, show ((j : Int) + m + 1).toNat - ((j : Int) + 1).toNat = m by omega, show ((j : Int) + 1).toNat = j + 1 by omega]; rfl
  rw [f1, f2, nxt_eq, bt_eq s j (by omega), show (j : Int) + (m : Int) = ((j + m : Nat) : Int) by simp, bt_eq s (j + m) (by omega), e1, e2, show (m : Int) = (r.length : Int) + 1 by omega, next_roll]
  simp

end Go.Proofs.Ytkicolloiagadaa.Pure
