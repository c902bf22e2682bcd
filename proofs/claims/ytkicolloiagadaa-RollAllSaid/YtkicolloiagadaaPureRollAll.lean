/- For every input of the law RollAll its answer is true (a text of more than 300 bytes is let by). -/
import Derived.Test.YtkicolloiagadaaRLaws
import Derived.Test.YtkicolloiagadaaXx14
namespace Go.Proofs.Ytkicolloiagadaa.Pure
set_option linter.unusedSimpArgs false
set_option linter.unusedVariables false
open Go.RowKit Go.Proofs.Ytkicolloiagadaa.X Go.Proofs.YtkicolloiagadaaW.PrintWords Go.Proofs.YtkicolloiagadaaW.PrintLast

theorem all_l0 (s : ByteArray) (hs : s.size ≤ 300) (many : Int) (h1 : 1 ≤ many) (h2 : many ≤ (s.size : Int)) (d : Nat) : ∀ (k i : Nat), i ≤ s.size - many.toNat + 1 → s.size - many.toNat + 1 - i = d → s.size + d < k →
    rolodexlaw09_RollAll.l0 k s many (upto (fun j => roll (win (bs s) many.toNat j)) (s.size - many.toNat + 1)) (i : Int) = some true := by
  induction d with
  | zero =>
    intro k i h0 hd hk
    obtain ⟨k, rfl⟩ : ∃ m, k = m + 1 := ⟨k - 1, by omega⟩
    simp only [rolodexlaw09_RollAll.l0]
    rw [if_neg (by rw [upto_length]; omega)]
  | succ d ih =>
    intro k i h0 hd hk
    obtain ⟨k, rfl⟩ : ∃ m, k = m + 1 := ⟨k - 1, by omega⟩
    have hz : (s.extract (i : Int).toNat ((i : Int) + many).toNat).size ≤ s.size := by simp; omega
    simp only [rolodexlaw09_RollAll.l0]
    rw [wrap64_small ((i : Int) + many) (by omega) (by omega), if_pos (by rw [upto_length]; omega), if_pos (by omega), if_pos (by omega), if_pos (by omega), Sum_eq _ (by omega) k (by omega)]
    simp only [Option.bind_some]
    have e : rd (upto (fun j => roll (win (bs s) many.toNat j)) (s.size - many.toNat + 1)) (i : Int) = roll (win (bs s) many.toNat i) := by
      unfold rd upto
      rw [Int.toNat_natCast, List.getD_eq_getElem?_getD, List.getElem?_map, List.getElem?_range (by omega)]
      rfl
    have e2 : roll (bs (s.extract (i : Int).toNat ((i : Int) + many).toNat)) = roll (win (bs s) many.toNat i) := by
      rw [bs_extract, show ((i : Int) + many).toNat - (i : Int).toNat = many.toNat by omega, Int.toNat_natCast]
      rfl
    rw [e, e2, if_pos rfl, wrap64_small ((i : Int) + 1) (by omega) (by omega)]
    have e3 := ih k (i + 1) (by omega) (by omega) (by omega)
    rwa [show ((i + 1 : Nat) : Int) = (i : Int) + 1 by simp] at e3

theorem RollAll : rolodexlaw09_RollAll.Pure := by
  intro s many hs h2
  simp only [Lit.wf, IntKind.min, IntKind.max, IntKind.bits, IntKind.signed, Bool.and_eq_true, decide_eq_true_eq] at h2
  simp at h2
  refine ⟨2 * s.size + 20, ?_⟩
  unfold rolodexlaw09_RollAll.f
  rw [awake_eq _ (by omega)]
  simp only [Option.bind_some, if_true]
  rw [show 2 * s.size + 20 = ((2 * s.size + 18) + 1) + 1 by omega]
  simp only [rolodexlaw09_RollAll.j0]
  by_cases hl : (s.size : Int) > 300
  · rw [if_pos (by simpa using hl)]
  rw [if_neg (by simpa using hl), All_eq _ _ (by omega) _ (by omega)]
  simp only [Option.bind_some, rolodexlaw09_RollAll.j1]
  unfold allI
  by_cases h3 : many < 1
  · rw [if_pos h3, if_pos h3]
    simp
  rw [if_neg h3, if_neg h3]
  by_cases h4 : (s.size : Int) < many
  · rw [if_pos h4, if_pos (by simpa using h4)]
    simp
  rw [if_neg h4, if_neg (by simpa using h4), upto_length, wrap64_small ((s.size : Int) - many) (by omega) (by omega), wrap64_small _ (by omega) (by omega), if_pos (by omega)]
  exact all_l0 s (by omega) many (by omega) (by omega) (s.size - many.toNat + 1) _ 0 (by omega) (by omega) (by omega)

end Go.Proofs.Ytkicolloiagadaa.Pure
