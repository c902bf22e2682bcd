import Derived.Test.YtkicolloiagadaaRLaws
import Derived.Test.YtkicolloiagadaaXx7
import Derived.Test.YtkicolloiagadaaXx9
import Derived.Test.YtkicolloiagadaaXx11
namespace Go.Proofs.Ytkicolloiagadaa.X
set_option linter.unusedSimpArgs false
set_option linter.unusedVariables false
open Go.RowKit Go.Proofs.YtkicolloiagadaaW.PrintWords Go.Proofs.YtkicolloiagadaaW.PrintLast

theorem tmod_eq (n : Int) (h : 0 ≤ n) : Int.tmod n 65536 = n % 65536 := Int.tmod_eq_emod_of_nonneg h
theorem tdiv_eq (n : Int) (h : 0 ≤ n) : Int.tdiv n 65536 = n / 65536 := Int.tdiv_eq_ediv_of_nonneg h

theorem refSum_l0 (s : ByteArray) (hs : s.size ≤ 140737488351232) (d : Nat) : ∀ (k i : Nat), i ≤ s.size → s.size - i = d → d < k →
    rolodexref09_Sum.l0 k s (sA ((bs s).take i) % 65536) ((sB ((bs s).take i) + ((s.size : Int) - i) * sA ((bs s).take i)) % 65536) (i : Int) = some (roll (bs s)) := by
  induction d with
  | zero =>
    intro k i h0 hd hk
    obtain ⟨k, rfl⟩ : ∃ m, k = m + 1 := ⟨k - 1, by omega⟩
    obtain rfl : i = s.size := by omega
    simp only [rolodexref09_Sum.l0]
    rw [if_neg (by omega), List.take_of_length_le (by rw [bs_length]; omega)]
    congr 1
    unfold roll
    rw [show ((s.size : Int) - s.size) = 0 by omega, Int.zero_mul, Int.add_zero]
    unfold wrap64
    omega
  | succ d ih =>
    intro k i h0 hd hk
    obtain ⟨k, rfl⟩ : ∃ m, k = m + 1 := ⟨k - 1, by omega⟩
    have hlt : i < s.size := by omega
    have hr := bt_range s i
    simp only [rolodexref09_Sum.l0]
    rw [if_pos (by omega), if_pos (by omega), wrap64_small ((i : Int) + 1) (by omega) (by omega), wrap64_small (bt s i) (by omega) (by omega), wrap64_small ((s.size : Int) - i) (by omega) (by omega), tmod_eq ((s.size : Int) - i) (by omega)]
    have e := ih k (i + 1) (by omega) (by omega) (by omega)
    rw [take_snoc _ _ (by rw [bs_length]; exact hlt), sA_snoc, sB_snoc, ← bt_eq s i hlt] at e
    rw [show ((i + 1 : Nat) : Int) = (i : Int) + 1 by simp] at e
    rw [← e]
    generalize sA ((bs s).take i) = A at *
    generalize sB ((bs s).take i) = B at *
    generalize bt s i = x at *
    have hp0 : 0 ≤ ((s.size : Int) - i) % 65536 * x := Int.mul_nonneg (by omega) (by omega)
    have hp1 : ((s.size : Int) - i) % 65536 * x ≤ 65535 * 255 := Int.mul_le_mul (by omega) (by omega) (by omega) (by omega)
    have hm : (((s.size : Int) - i) % 65536 * x) % 65536 = (((s.size : Int) - i) * x) % 65536 := by rw [Int.mul_emod, Int.emod_emod_of_dvd _ (by decide), ← Int.mul_emod]
    rw [wrap64_small (((s.size : Int) - i) % 65536 * x) (by omega) (by omega), wrap64_small _ (by omega) (by omega), wrap64_small _ (by omega) (by omega), tmod_eq _ (by omega), tmod_eq _ (by omega)]
    have e3 : B + A + x + ((s.size : Int) - (i + 1)) * (A + x) = B + ((s.size : Int) - i) * A + ((s.size : Int) - i) * x := by
      rw [show ((s.size : Int) - (i + 1)) = ((s.size : Int) - i) - 1 by omega, Int.sub_mul, Int.mul_add]; omega
    rw [e3]
    generalize ((s.size : Int) - i) % 65536 * x = P at *
    generalize ((s.size : Int) - i) * x = Q at *
    generalize ((s.size : Int) - i) * A = R at *
    congr 1 <;> omega

theorem refSum_eq (s : ByteArray) (hs : s.size ≤ 140737488351232) (k : Nat) (hk : s.size < k) : rolodexref09_Sum.f k s = some (roll (bs s)) := by
  unfold rolodexref09_Sum.f
  have := refSum_l0 s hs s.size k 0 (by omega) (by omega) hk
  simpa [sA, sB] using this

theorem refAll_l0 (s : ByteArray) (hs : s.size ≤ 35184372087999) (many : Int) (h1 : 1 ≤ many) (h2 : many ≤ (s.size : Int)) (d : Nat) : ∀ (k i : Nat), (i : Int) ≤ (s.size : Int) - many + 1 → (s.size : Int) - many + 1 - i = d → s.size + d + 1 < k →
    rolodexref09_All.l0 k s many (upto (fun j => roll (win (bs s) many.toNat j)) i) (i : Int) = some (upto (fun j => roll (win (bs s) many.toNat j)) (s.size - many.toNat + 1)) := by
  induction d with
  | zero =>
    intro k i h0 hd hk
    obtain ⟨k, rfl⟩ : ∃ m, k = m + 1 := ⟨k - 1, by omega⟩
    simp only [rolodexref09_All.l0]
    rw [wrap64_small ((s.size : Int) - many) (by omega) (by omega), if_neg (by omega)]
    congr 2
    omega
  | succ d ih =>
    intro k i h0 hd hk
    obtain ⟨k, rfl⟩ : ∃ m, k = m + 1 := ⟨k - 1, by omega⟩
    simp only [rolodexref09_All.l0]
    rw [wrap64_small ((s.size : Int) - many) (by omega) (by omega), if_pos (by omega), if_pos (by omega), wrap64_small ((i : Int) + many) (by omega) (by omega), if_pos (by omega), if_pos (by omega)]
    have hz : (s.extract (i : Int).toNat ((i : Int) + many).toNat).size ≤ s.size := by simp; omega
    rw [refSum_eq _ (by omega) k (by omega)]
    simp only [Option.bind_some]
    rw [if_pos (by rw [upto_length]; omega), wrap64_small ((i : Int) + 1) (by omega) (by omega)]
    have e := ih k (i + 1) (by omega) (by omega) (by omega)
    rw [show ((i + 1 : Nat) : Int) = (i : Int) + 1 by simp] at e
    rw [← e, upto_succ, bs_extract]
    rw [show ((i : Int) + many).toNat - (i : Int).toNat = many.toNat by omega, Int.toNat_natCast]
    rfl

theorem refAll_eq (s : ByteArray) (hs : s.size ≤ 35184372087999) (many : Int) (h0 : -9223372036854775808 ≤ many) (h2 : many ≤ 9223372036854775807) (k : Nat) (hk : 2 * s.size + 4 < k) : rolodexref09_All.f k s many = some (allI s many) := by
  unfold rolodexref09_All.f allI
  by_cases h1 : many < 1
  · rw [if_pos h1, if_pos h1]
  rw [if_neg h1, if_neg h1]
  by_cases h3 : (s.size : Int) < many
  · rw [if_pos h3]
    obtain ⟨k, rfl⟩ : ∃ m, k = m + 1 := ⟨k - 1, by omega⟩
    simp only [rolodexref09_All.l0]
    rw [wrap64_small ((s.size : Int) - many) (by omega) (by omega), if_neg (by omega)]
  rw [if_neg h3]
  exact refAll_l0 s hs many (by omega) (by omega) (s.size - many.toNat + 1) k 0 (by omega) (by omega) (by omega)

theorem same_l0 (l : List Int) (hl : l.length ≤ 140737488355328) (d : Nat) : ∀ (k i : Nat), i ≤ l.length → l.length - i = d → d < k → rolodexref09_Same.l0 k l l (i : Int) = some true := by
  induction d with
  | zero =>
    intro k i h0 hd hk
    obtain ⟨k, rfl⟩ : ∃ m, k = m + 1 := ⟨k - 1, by omega⟩
    simp only [rolodexref09_Same.l0]
    rw [if_neg (by omega)]
  | succ d ih =>
    intro k i h0 hd hk
    obtain ⟨k, rfl⟩ : ∃ m, k = m + 1 := ⟨k - 1, by omega⟩
    simp only [rolodexref09_Same.l0]
    rw [if_pos (by omega), if_pos (by omega), if_pos (by omega)]
    simp only [if_true]
    rw [wrap64_small ((i : Int) + 1) (by omega) (by omega)]
    have e := ih k (i + 1) (by omega) (by omega) (by omega)
    rwa [show ((i + 1 : Nat) : Int) = (i : Int) + 1 by simp] at e

theorem same_eq (l : List Int) (hl : l.length ≤ 140737488355328) (k : Nat) (hk : l.length < k) : rolodexref09_Same.f k l l = some true := by
  unfold rolodexref09_Same.f
  rw [if_pos rfl]
  exact same_l0 l hl l.length k 0 (by omega) (by omega) hk

theorem mod_eq (a : Int) : rolodexref09_mod.f a = some (a % 65536) := by
  unfold rolodexref09_mod.f
  have e : Int.tmod a 65536 = a % 65536 ∨ (a % 65536 ≠ 0 ∧ Int.tmod a 65536 = a % 65536 - 65536) := by
    rcases Int.le_total 0 a with h | h
    · exact .inl (Int.tmod_eq_emod_of_nonneg h)
    · by_cases hz : a % 65536 = 0
      · refine .inl ?_
        rw [Int.tmod_eq_emod, if_pos (.inr (Int.dvd_of_emod_eq_zero hz))]
        simp
      · refine .inr ⟨hz, ?_⟩
        rw [Int.tmod_eq_emod, if_neg]
        · rfl
        · rintro (h2 | h2)
          · omega
          · exact hz (Int.emod_eq_zero_of_dvd h2)
  have h0 := Int.emod_nonneg a (show (65536 : Int) ≠ 0 by decide)
  have h1 := Int.emod_lt_of_pos a (show (0 : Int) < 65536 by decide)
  unfold wrap64
  rcases e with e | ⟨e0, e⟩
  · rw [e, if_neg (by omega)]
  · rw [e, if_pos (by omega)]
    congr 1
    omega

theorem refNext_eq (a b c d : Int) (ha : 0 ≤ a) (ha' : a < 4294967296) (hc : 0 ≤ c) (hc' : c ≤ 255) (hd : 0 ≤ d) (hd' : d ≤ 255) :
    rolodexref09_Next.f a b c d = some (nextI a b c d) := by
  unfold rolodexref09_Next.f
  rw [tmod_eq a ha, tdiv_eq a ha, wrap64_small (a % 65536) (by omega) (by omega), wrap64_small c (by omega) (by omega), wrap64_small d (by omega) (by omega), wrap64_small (a % 65536 - c) (by omega) (by omega), wrap64_small (a % 65536 - c + d) (by omega) (by omega), mod_eq, mod_eq]
  simp only [Option.bind_some]
  have hp0 : 0 ≤ b % 65536 * c := Int.mul_nonneg (by omega) (by omega)
  have hp1 : b % 65536 * c ≤ 65535 * 255 := Int.mul_le_mul (by omega) (by omega) (by omega) (by omega)
  have hm : (b % 65536 * c) % 65536 = (b * c) % 65536 := by rw [Int.mul_emod, Int.emod_emod_of_dvd _ (by decide), ← Int.mul_emod]
  rw [wrap64_small (b % 65536 * c) (by omega) (by omega), wrap64_small (a / 65536 % 4294967296 - b % 65536 * c) (by omega) (by omega), wrap64_small (a / 65536 % 4294967296 - b % 65536 * c + (a % 65536 - c + d) % 65536) (by omega) (by omega), mod_eq]
  simp only [Option.bind_some]
  unfold nextI
  generalize b % 65536 * c = P at *
  generalize b * c = Q at *
  have e1 : (a % 65536 - c + d) % 65536 = (a - c + d) % 65536 := by omega
  have e2 : (a / 65536 % 4294967296 - P + (a % 65536 - c + d) % 65536) % 65536 = (a / 65536 - Q + (a - c + d)) % 65536 := by omega
  rw [e2, e1]
  generalize (a / 65536 - Q + (a - c + d)) % 65536 = Y at *
  generalize hX : (a - c + d) % 65536 = X at *
  have hX0 : 0 ≤ X := by omega
  have hX1 : X < 65536 := by omega
  have hY0 : 0 ≤ Y := by omega
  have hY1 : Y < 65536 := by omega
  clear e1 e2 hX
  rw [wrap64_small (65536 * Y) (by omega) (by omega), wrap64_small _ (by omega) (by omega)]
  congr 1
  omega

end Go.Proofs.Ytkicolloiagadaa.X
