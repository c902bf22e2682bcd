/- The document's answer of the wire: what its functions' printed forms give, in words of lists. -/
import Derived.Test.YtghafocfbamcdaaWWord
import Derived.Test.YtghafocfbamcdaaXx14
import Derived.Test.YtghafocfbamcdaaXx15
import Derived.Test.YtghafocfbamcdaaXx18
import Derived.Test.YtghafocfbamcdaaXx19
import Derived.Test.YtghafocfbamcdaaXx21
namespace Go.Proofs.Ytghafocfbamcdaa.X
set_option linter.unusedVariables false
set_option linter.unusedSimpArgs false
open Go.RowKit Go.Proofs.YtghafocfbamcdaaW.PrintWords Go.Proofs.YtghafocfbamcdaaW.PrintLast Go.Proofs.YtghafocfbamcdaaW.PrintMore

theorem td (n m : Nat) : Int.tdiv (n : Int) (m : Int) = ((n / m : Nat) : Int) := by
  rw [Int.tdiv_eq_ediv_of_nonneg (by omega)]; norm_cast
theorem tm (n m : Nat) : Int.tmod (n : Int) (m : Int) = ((n % m : Nat) : Int) := by
  rw [Int.tmod_eq_emod_of_nonneg (by omega)]; norm_cast

def ahead (n : Nat) : List Int := if n < 128 then [] else more (n / 128)
theorem ahead_more (n : Nat) : more n = ahead n ++ [((n % 128 : Nat) : Int) + 128] := by
  unfold ahead
  by_cases h : n < 128
  · rw [if_pos h, more_small h, Nat.mod_eq_of_lt h]; rfl
  · rw [if_neg h, more_big h]
theorem ahead_put (n : Nat) : put n = ahead n ++ [((n % 128 : Nat) : Int)] := by
  unfold ahead
  by_cases h : n < 128
  · rw [if_pos h, put, if_pos h, Nat.mod_eq_of_lt h]; rfl
  · rw [if_neg h, put, if_neg h]

theorem rput_l0 : ∀ (d n k : Nat) (s : List Int), n < 18446744073709551616 → n < 128 ^ d → d < k → s.length + d ≤ 1000 → rolodexref01_Put.l0 k (n : Int) s = some (ahead n ++ s)
  | 0, n, k, s, hn, hd, hk, hs => by
    obtain ⟨k, rfl⟩ : ∃ m, k = m + 1 := ⟨k - 1, by omega⟩
    have : n < 128 := by omega
    simp only [rolodexref01_Put.l0]
    rw [if_neg (by omega)]
    unfold ahead
    rw [if_pos this]; rfl
  | d + 1, n, k, s, hn, hd, hk, hs => by
    obtain ⟨k, rfl⟩ : ∃ m, k = m + 1 := ⟨k - 1, by omega⟩
    simp only [rolodexref01_Put.l0]
    by_cases h : n < 128
    · rw [if_neg (by omega)]
      unfold ahead
      rw [if_pos h]; rfl
    · rw [if_pos (by omega)]
      have e1 : IntKind.u64.wrap (Int.tdiv (n : Int) 128) = ((n / 128 : Nat) : Int) := by
        rw [show (128 : Int) = ((128 : Nat) : Int) from rfl, td, wrap_u64]; omega
      have e2 : ((Int.tmod ((n / 128 : Nat) : Int) 128 % 256 + 128) % 256 : Int) = ((n / 128 % 128 : Nat) : Int) + 128 := by
        rw [show Int.tmod ((n / 128 : Nat) : Int) 128 = ((n / 128 % 128 : Nat) : Int) from tm _ 128]; omega
      rw [e1, e2]
      simp only [Option.bind_some]
      rw [if_pos (by simp; omega)]
      have hd' : n / 128 < 128 ^ d := by
        rw [Nat.pow_succ] at hd
        exact Nat.div_lt_of_lt_mul (by omega)
      rw [rput_l0 d (n / 128) k _ (by omega) hd' (by omega) (by simp; omega)]
      rw [← List.append_assoc, ← ahead_more]
      congr 2
      unfold ahead
      rw [if_neg h]
theorem RPut_eq (n : Nat) (hn : n < 18446744073709551616) (k : Nat) (hk : 12 < k) : rolodexref01_Put.f k (n : Int) = some (put n) := by
  unfold rolodexref01_Put.f
  rw [show (Int.tmod (n : Int) 128 % 256 : Int) = ((n % 128 : Nat) : Int) by
    rw [show Int.tmod (n : Int) 128 = ((n % 128 : Nat) : Int) from tm _ 128]; omega]
  rw [rput_l0 10 n k _ hn (by have : (128 : Nat) ^ 10 = 1180591620717411303424 := by decide
                              omega) (by omega) (by simp), ← ahead_put]

theorem rget_l0 (l : List Int) : ∀ (s q : List Int) (k : Nat), l = q ++ s → (∀ x ∈ q, 128 ≤ x ∧ x ≤ 255) → q.length ≤ 10 → Bytes s → l.length ≤ 4611686018427387904 → 2 * s.length + 30 < k →
    ∃ r, rolodexref01_Get.l0 k l ((V q % 18446744073709551616 : Nat) : Int) (q.length : Int) = some r ∧ IsGet l r := by
  intro s
  induction s with
  | nil =>
    intro q k hl hq h10 hb hll hk
    obtain ⟨k, rfl⟩ : ∃ m, k = m + 1 + 1 := ⟨k - 2, by omega⟩
    rw [List.append_nil] at hl
    subst hl
    simp only [rolodexref01_Get.l0, rolodexref01_Get.j1]
    rw [if_neg (by omega), if_neg (by simp)]
    exact ⟨_, rfl, .inr ⟨fun m _ => put_not_marks m _ (fun x hx => (hq x hx).1), rfl⟩⟩
  | cons c t ih =>
    intro q k hl hq h10 hb hll hk
    obtain ⟨k, rfl⟩ : ∃ m, k = m + 1 + 1 := ⟨k - 2, by omega⟩
    have hlen : l.length = q.length + t.length + 1 := by rw [hl]; simp; omega
    simp only [rolodexref01_Get.l0, rolodexref01_Get.j1]
    rw [if_pos (by omega)]
    by_cases h9 : q.length < 10
    · have hrd : rd l (q.length : Int) = c := by rw [hl]; simp [rd]
      have hc := hb c (by simp)
      have hw : wrap64 ((q.length : Int) + 1) = ((q.length + 1 : Nat) : Int) := by rw [wrap64_small _ (by omega) (by omega)]; omega
      have hv : IntKind.u64.wrap (IntKind.u64.wrap (128 * ((V q % 18446744073709551616 : Nat) : Int)) + IntKind.u64.wrap (Int.tmod c 128)) = ((V (q ++ [c]) % 18446744073709551616 : Nat) : Int) := by
        rw [V_snoc, wrap_u64, wrap_u64, wrap_u64, Int.tmod_eq_emod_of_nonneg hc.1]
        omega
      rw [if_pos (by simp; omega), if_pos (by omega), if_pos (by omega), hrd, hw, hv]
      have htk : l.take ((q.length + 1 : Nat) : Int).toNat = q ++ [c] := by
        rw [Int.toNat_natCast, hl, show q ++ c :: t = (q ++ [c]) ++ t by simp, List.take_left' (by simp)]
      have hqc : Bytes (q ++ [c]) := bytes_app (fun x hx => ⟨by have := hq x hx; omega, (hq x hx).2⟩) (fun x hx => by simp at hx; subst hx; exact hc)
      by_cases hcc : c < 128
      · rw [if_pos hcc, RPut_eq _ (by omega) k (by omega)]
        simp only [Option.bind_some]
        rw [if_pos (by omega), if_pos (by omega), htk]
        have hpre : q ++ [c] <+: l := ⟨t, by rw [hl]; simp⟩
        by_cases he : put (V (q ++ [c]) % 18446744073709551616) = q ++ [c]
        · rw [if_pos ((strs_inj (put_range _) hqc).2 he)]
          refine ⟨_, rfl, .inl ⟨V (q ++ [c]) % 18446744073709551616, by omega, by rw [he]; exact hpre, ?_⟩⟩
          rw [he]
          simp
        · rw [if_neg (fun h => he ((strs_inj (put_range _) hqc).1 h))]
          refine ⟨_, rfl, .inr ⟨fun m hm hp => ?_, rfl⟩⟩
          have h1 := put_exact m q c t (fun x hx => (hq x hx).1) hcc (by rw [← hl]; exact hp)
          apply he
          rw [← h1, V_put, Nat.mod_eq_of_lt hm]
      · rw [if_neg hcc]
        have := ih (q ++ [c]) k (by rw [hl]; simp) (fun x hx => by
          rcases List.mem_append.1 hx with hx | hx
          · exact hq x hx
          · simp at hx; subst hx; omega) (by simp; omega) (fun x hx => hb x (by simp [hx])) hll (by simp at hk; omega)
        rw [List.length_append] at this
        exact this
    · rw [if_neg (by simp; omega)]
      refine ⟨_, rfl, .inr ⟨fun m hm hp => ?_, rfl⟩⟩
      have h10' := put_length m hm
      refine put_not_marks m q (fun x hx => (hq x hx).1) ?_
      exact List.prefix_of_prefix_length_le hp ⟨c :: t, hl.symm⟩ (by omega)

theorem RGet_eq {l : List Int} {r : Int × Int × Bool} (h : IsGet l r) (hb : Bytes l) (hl : l.length ≤ 4611686018427387904) (k : Nat) (hk : 2 * l.length + 30 < k) : rolodexref01_Get.f k l = some r := by
  unfold rolodexref01_Get.f
  obtain ⟨r', hr, hi⟩ := rget_l0 l l [] k rfl (by simp) (by simp) hb hl hk
  rw [h.unique hi]
  exact hr

theorem RText_eq (s : ByteArray) (hs : s.size ≤ 300) (k : Nat) (hk : 12 < k) : rolodexref01_Text.f k s = some (put s.size ++ bytesOf s) := by
  unfold rolodexref01_Text.f
  have hp := put_length s.size (by omega)
  rw [wraps_u64 _ (by omega) (by omega), RPut_eq _ (by omega) k hk]
  simp only [Option.bind_some]
  rw [if_pos (by omega)]
theorem RWord_eq (n : Nat) (hn : n < 4294967296) : rolodexref01_Word.f (n : Int) = some (word n) := by
  unfold rolodexref01_Word.f word
  rw [show Int.tdiv (n : Int) 16777216 = ((n / 16777216 : Nat) : Int) from td n 16777216, show Int.tdiv (n : Int) 65536 = ((n / 65536 : Nat) : Int) from td n 65536, show Int.tdiv (n : Int) 256 = ((n / 256 : Nat) : Int) from td n 256, show Int.tmod (n : Int) 256 = ((n % 256 : Nat) : Int) from tm n 256]
  congr 2 <;> (try congr 1) <;> (try congr 1) <;> (try congr 1) <;> first | omega | rfl
theorem RFour_yes (l : List Int) (h4 : l.length = 4) (hb : Bytes l) : rolodexref01_Four.f l = some ((four l : Int), true) := by
  match l, h4 with
  | [a, b, c, d], _ =>
    have ha := hb a (by simp)
    have hb' := hb b (by simp)
    have hc := hb c (by simp)
    have hd := hb d (by simp)
    obtain ⟨a, rfl⟩ := Int.eq_ofNat_of_zero_le ha.1
    obtain ⟨b, rfl⟩ := Int.eq_ofNat_of_zero_le hb'.1
    obtain ⟨c, rfl⟩ := Int.eq_ofNat_of_zero_le hc.1
    obtain ⟨d, rfl⟩ := Int.eq_ofNat_of_zero_le hd.1
    unfold rolodexref01_Four.f four
    simp [rd]
    omega
theorem RFour_no (l : List Int) (h4 : l.length ≠ 4) : rolodexref01_Four.f l = some (0, false) := by
  unfold rolodexref01_Four.f
  rw [if_neg (by omega)]

end Go.Proofs.Ytghafocfbamcdaa.X
