/- For every input of the law WireSmall its answer is true. -/
import Derived.Test.YtghafocfbamcdaaWLaws
import Derived.Test.YtghafocfbamcdaaXx12
namespace Go.Proofs.Ytghafocfbamcdaa.Pure
set_option linter.unusedSimpArgs false
set_option linter.unusedVariables false
open Go.RowKit Go.Proofs.Ytghafocfbamcdaa.X Go.Proofs.YtghafocfbamcdaaW.PrintWords Go.Proofs.YtghafocfbamcdaaW.PrintLast

theorem small_l1 (n : Nat) (hn : n < 18446744073709551616) (d : Nat) : ∀ (k i : Nat), i < (put n).length → (put n).length - 1 - i = d → d < k → rolodexlaw01_WireSmall.l1 k (put n) (i : Int) = some true := by
  obtain ⟨q, c, e, hq, h0, h1⟩ := put_form n
  have h10 := put_length n hn
  have hl : (put n).length = q.length + 1 := by rw [e]; simp
  have hi : ∀ i : Nat, i < q.length → ∃ x, rd (put n) (i : Int) = x ∧ 128 ≤ x := fun i h => by
    refine ⟨_, rfl, ?_⟩
    unfold rd
    rw [e, Int.toNat_natCast, List.getD_eq_getElem?_getD, List.getElem?_append_left h, List.getElem?_eq_getElem h]
    exact (hq.1 _ (List.getElem_mem h)).1
  have hlast : rd (put n) ((q.length : Int)) = c := by
    unfold rd
    rw [e, Int.toNat_natCast, List.getD_eq_getElem?_getD, List.getElem?_append_right (Nat.le_refl _)]
    simp
  induction d with
  | zero =>
    intro k i h2 hd hk
    obtain ⟨k, rfl⟩ : ∃ m, k = m + 1 := ⟨k - 1, by omega⟩
    simp only [rolodexlaw01_WireSmall.l1]
    rw [wrap64_small _ (by omega) (by omega), if_neg (by omega), if_pos (by omega), if_pos (by omega), show ((put n).length : Int) - 1 = (q.length : Int) by omega, hlast, if_pos h1]
    by_cases h3 : ((put n).length : Int) = 1
    · rw [if_pos h3]
    · rw [if_neg h3, if_pos (by omega)]
      obtain ⟨x, hx, hx2⟩ := hi 0 (by omega)
      have hh : x ≠ 128 := by
        intro h5
        have := hq.2
        unfold rd at hx
        cases q with
        | nil => simp at hl; omega
        | cons a q => rw [e] at hx; simp at hx this; omega
      rw [show (0 : Int) = ((0 : Nat) : Int) from rfl, hx]
      congr 1
      simp; omega
  | succ d ih =>
    intro k i h2 hd hk
    obtain ⟨k, rfl⟩ : ∃ m, k = m + 1 := ⟨k - 1, by omega⟩
    obtain ⟨x, hx, hx2⟩ := hi i (by omega)
    simp only [rolodexlaw01_WireSmall.l1]
    rw [wrap64_small (((put n).length : Int) - 1) (by omega) (by omega), if_pos (by omega), if_pos (by omega), if_pos (by omega), hx, if_neg (by omega), wrap64_small _ (by omega) (by omega)]
    have := ih k (i + 1) (by omega) (by omega) (by omega)
    rwa [show ((i + 1 : Nat) : Int) = (i : Int) + 1 by simp] at this

theorem small_l0 (n : Nat) (hn : n < 18446744073709551616) (d : Nat) : ∀ (k m : Nat) (x : Int), m < 128 ^ d → m < 18446744073709551616 → x + ((more m).length : Nat) - 1 = ((put n).length : Int) → 0 ≤ x → d + 20 < k → rolodexlaw01_WireSmall.l0 k true (put n) x (m : Int) = some true := by
  have h10 := put_length n hn
  have hfin : ∀ k, 12 < k → rolodexlaw01_WireSmall.j1 k (put n) (((put n).length : Int) != ((put n).length : Int)) = some true := fun k hk => by
    obtain ⟨k, rfl⟩ : ∃ m, k = m + 1 := ⟨k - 1, by omega⟩
    simp only [rolodexlaw01_WireSmall.j1, bne_self_eq_false, Bool.false_eq_true, if_false]
    have := put_length_pos n
    exact small_l1 n hn ((put n).length - 1) k 0 (by omega) (by omega) (by omega)
  induction d with
  | zero =>
    intro k m x hm hm2 hx h0 hk
    obtain ⟨k, rfl⟩ : ∃ q, k = q + 1 := ⟨k - 1, by omega⟩
    obtain rfl : m = 0 := by simpa using hm
    simp only [rolodexlaw01_WireSmall.l0]
    rw [if_neg (by omega)]
    rw [more_small (by decide)] at hx
    simp only [if_true]
    rw [show x = ((put n).length : Int) by simp at hx; omega]
    exact hfin k (by omega)
  | succ d ih =>
    intro k m x hm hm2 hx h0 hk
    obtain ⟨k, rfl⟩ : ∃ q, k = q + 1 := ⟨k - 1, by omega⟩
    simp only [rolodexlaw01_WireSmall.l0]
    by_cases hb : m < 128
    · rw [if_neg (by omega)]
      rw [more_small hb] at hx
      simp only [if_true]
      rw [show x = ((put n).length : Int) by simp at hx; omega]
      exact hfin k (by omega)
    · rw [more_big hb] at hx
      simp only [List.length_append, List.length_cons, List.length_nil] at hx
      have hp : 1 ≤ (more (m / 128)).length := by rw [← put_more_length]; exact put_length_pos _
      rw [Nat.pow_succ] at hm
      rw [if_pos (by omega), wrap64_small _ (by omega) (by omega), Int.tdiv_eq_ediv_of_nonneg (by omega), wrap_u64, show (m : Int) / 128 % 18446744073709551616 = ((m / 128 : Nat) : Int) by omega]
      exact ih k (m / 128) (x + 1) (by omega) (by omega) (by omega) (by omega) (by omega)

theorem WireSmall : rolodexlaw01_WireSmall.Pure := by
  intro n h1
  simp only [Lit.wf, IntKind.min, IntKind.max, IntKind.bits, IntKind.signed, Bool.and_eq_true, decide_eq_true_eq] at h1
  simp at h1
  obtain ⟨n, rfl⟩ := Int.eq_ofNat_of_zero_le h1.1
  have hn : n < 18446744073709551616 := by omega
  have e : (128 : Nat) ^ 10 = 1180591620717411303424 := by decide
  refine ⟨100, ?_⟩
  unfold rolodexlaw01_WireSmall.f
  rw [awake_eq _ (by omega), Put_eq n hn _ (by omega)]
  simp only [Option.bind_some]
  exact small_l0 n hn 10 100 n 1 (by omega) hn (by rw [put_more_length]; omega) (by omega) (by omega)

end Go.Proofs.Ytghafocfbamcdaa.Pure
