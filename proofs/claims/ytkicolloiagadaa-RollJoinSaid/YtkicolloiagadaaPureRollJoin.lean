/- For every input of the law RollJoin its answer is true (texts of more than 300 bytes are let by). -/
import Derived.Test.YtkicolloiagadaaRLaws
import Derived.Test.YtkicolloiagadaaXx15
namespace Go.Proofs.Ytkicolloiagadaa.Pure
set_option linter.unusedSimpArgs false
set_option linter.unusedVariables false
open Go.RowKit Go.Proofs.Ytkicolloiagadaa.X Go.Proofs.YtkicolloiagadaaW.PrintWords Go.Proofs.YtkicolloiagadaaW.PrintLast

theorem join_roll (l m : List Int) (n : Int) (hn : n = (m.length : Int)) (h0 : n ≤ 300) (h3 : (65536 * (sB l % 65536) + sA l % 65536) / 65536 = sB l % 65536) : roll (l ++ m) = 65536 * (((roll l / 65536 + roll m / 65536 + n % 4294967296 * (roll l % 65536)) % 4294967296) % 65536) + (roll l % 65536 + roll m % 65536) % 65536 := by
  have e1 : ∀ l, roll l / 65536 = sB l % 65536 := fun l => by unfold roll; omega
  have e2 : ∀ l, roll l % 65536 = sA l % 65536 := fun l => by unfold roll; omega
  rw [e1, e1, e2, e2]
  unfold roll
  rw [sA_append, sB_append, ← hn]
  have hm : (n % 4294967296 * (sA l % 65536)) % 65536 = (n * sA l) % 65536 := by
    rw [Int.emod_eq_of_lt (show 0 ≤ n by omega) (by omega), Int.mul_emod, Int.emod_emod_of_dvd (sA l) (show (65536 : Int) ∣ 65536 by decide), ← Int.mul_emod]
  generalize n % 4294967296 * (sA l % 65536) = P at *
  generalize n * sA l = Q at *
  omega

theorem RollJoin : rolodexlaw09_RollJoin.Pure := by
  intro s t hs ht
  refine ⟨s.size + t.size + 20, ?_⟩
  unfold rolodexlaw09_RollJoin.f
  rw [awake_eq _ (by omega)]
  simp only [Option.bind_some, if_true]
  rw [show s.size + t.size + 20 = (s.size + t.size + 19) + 1 by omega]
  simp only [rolodexlaw09_RollJoin.j0, if_true]
  by_cases c1 : (s.size : Int) > 300
  · rw [if_pos c1]
  rw [if_neg c1]
  by_cases c2 : (t.size : Int) > 300
  · rw [if_pos (by simpa using c2)]
  rw [if_neg (by simpa using c2), Sum_eq _ (by omega) _ (by omega), Sum_eq _ (by omega) _ (by omega)]
  simp only [Option.bind_some]
  rw [if_pos (by omega), Sum_eq _ (by rw [ByteArray.size_append]; omega) _ (by rw [ByteArray.size_append]; omega)]
  simp only [Option.bind_some]
  have hr : ∀ l, 0 ≤ roll l ∧ roll l < 4294967296 := fun l => by unfold roll; omega
  have h1 := hr (bs s)
  have h2 := hr (bs t)
  rw [bs_append, join_roll (bs s) (bs t) (t.size : Int) (by rw [bs_length]) (by omega) (by omega)]
  rw [Int.tdiv_eq_ediv_of_nonneg h1.1, Int.tdiv_eq_ediv_of_nonneg h2.1, Int.tmod_eq_emod_of_nonneg h1.1, Int.tmod_eq_emod_of_nonneg h2.1]
  have hp0 : 0 ≤ (t.size : Int) % 4294967296 * (roll (bs s) % 65536) := Int.mul_nonneg (by omega) (by omega)
  have hp1 : (t.size : Int) % 4294967296 * (roll (bs s) % 65536) ≤ 300 * 65535 := Int.mul_le_mul (by omega) (by omega) (by omega) (by omega)
  generalize (t.size : Int) % 4294967296 * (roll (bs s) % 65536) = P at *
  generalize roll (bs s) = A at *
  generalize roll (bs t) = B at *
  simp only [Option.some.injEq, beq_iff_eq]
  omega

end Go.Proofs.Ytkicolloiagadaa.Pure
