/- What wire.Put, Get, Text and Read, and the reference's, come to: in words of lists. -/
import Derived.Laws.BitsLemmas
import Derived.Test.YtghafocfbamcdaaWMath
import Derived.Test.YtghafocfbamcdaaWRead
import Derived.Test.YtghafocfbamcdaaXx4
namespace Go.Proofs.Ytghafocfbamcdaa.X
set_option linter.unusedVariables false
set_option linter.unusedSimpArgs false
open Go.RowKit Go.Proofs.YtghafocfbamcdaaW.PrintWords Go.Proofs.YtghafocfbamcdaaW.PrintLast Go.Proofs.YtghafocfbamcdaaW.PrintMore

theorem wrap64_small (n : Int) (h0 : -9223372036854775808 ≤ n) (h1 : n ≤ 9223372036854775807) : wrap64 n = n := by unfold wrap64; omega
theorem wrap_u64 (n : Int) : IntKind.u64.wrap n = n % 18446744073709551616 := by simp [IntKind.wrap, IntKind.bits, IntKind.signed]
theorem wraps_u64 (n : Int) (h₀ : 0 ≤ n) (h₁ : n < 2 ^ 64) : IntKind.u64.wrap n = n := by rw [wrap_u64]; omega

theorem or128 (x : Nat) (h : x < 256) : Go.bits .or .u8 (x : Int) 128 = ((x % 128 + 128 : Nat) : Int) := by
  have : ∀ x : Fin 256, Go.bits .or .u8 (x.val : Int) 128 = ((x.val % 128 + 128 : Nat) : Int) := by decide +kernel
  exact this ⟨x, h⟩
theorem andNot128 (x : Nat) (h : x < 256) : Go.bits .andNot .u8 (x : Int) 128 = ((x % 128 : Nat) : Int) := by
  have : ∀ x : Fin 256, Go.bits .andNot .u8 (x.val : Int) 128 = ((x.val % 128 : Nat) : Int) := by decide +kernel
  exact this ⟨x, h⟩

theorem groups_l0 (d : Nat) : ∀ (m k : Nat) (x : Int), m < 128 ^ d → d < k → 0 ≤ x → x + d ≤ 1000000 →
    wire_groups.l0 k (m : Int) x = some (x + (if m = 0 then 0 else (more m).length : Nat)) := by
  induction d with
  | zero =>
    intro m k x hm hk h0 h1
    obtain ⟨k, rfl⟩ : ∃ q, k = q + 1 := ⟨k - 1, by omega⟩
    obtain rfl : m = 0 := by simpa using hm
    simp only [wire_groups.l0]
    rw [if_neg (by omega)]; simp
  | succ d ih =>
    intro m k x hm hk h0 h1
    obtain ⟨k, rfl⟩ : ∃ q, k = q + 1 := ⟨k - 1, by omega⟩
    simp only [wire_groups.l0]
    by_cases hz : m = 0
    · subst hz
      rw [if_neg (by omega)]; simp
    · rw [Nat.pow_succ] at hm
      rw [if_pos (by omega), show (m : Int) / 128 = ((m / 128 : Nat) : Int) by omega, wrap64_small _ (by omega) (by omega), ih (m / 128) k (x + 1) (by omega) (by omega) (by omega) (by omega), if_neg hz]
      congr 1
      by_cases hb : m < 128
      · rw [if_pos (by omega), more_small hb]; simp
      · rw [if_neg (by omega), more_big hb]; simp; omega

theorem put_more_length (n : Nat) : (put n).length = (more n).length := by
  unfold put
  by_cases h : n < 128
  · rw [if_pos h, more_small h]; rfl
  · rw [if_neg h, more_big h]; simp
theorem put_more (n : Nat) : ∃ (q : List Int) (d : Nat), d < 128 ∧ more n = q ++ [(d : Int) + 128] ∧ put n = q ++ [(d : Int)] := by
  unfold put
  by_cases h : n < 128
  · rw [if_pos h, more_small h]; exact ⟨[], n, h, rfl, rfl⟩
  · rw [if_neg h, more_big h]; exact ⟨_, n % 128, by omega, rfl, rfl⟩

theorem groups_eq (n : Nat) (hn : n < 18446744073709551616) (k : Nat) (hk : 12 < k) : wire_groups.f k (n : Int) = some ((put n).length : Int) := by
  unfold wire_groups.f
  have e : (128 : Nat) ^ 10 = 1180591620717411303424 := by decide
  rw [show (n : Int) / 128 = ((n / 128 : Nat) : Int) by omega, groups_l0 10 (n / 128) k 1 (by omega) (by omega) (by omega) (by omega)]
  congr 1
  rw [put_more_length]
  by_cases h : n < 128
  · rw [if_pos (by omega), more_small h]; simp
  · rw [if_neg (by omega), more_big h]; simp; omega

theorem more_get (n : Nat) : ∀ i, i < (more n).length → (more n)[(more n).length - 1 - i]? = some (((n / 128 ^ i % 128 + 128 : Nat)) : Int) := by
  induction n using Nat.strongRecOn with
  | _ n ih =>
    intro i hi
    by_cases h : n < 128
    · rw [more_small h] at hi ⊢
      obtain rfl : i = 0 := by simpa using hi
      simp; omega
    · rw [more_big h] at hi ⊢
      simp only [List.length_append, List.length_cons, List.length_nil] at hi ⊢
      cases i with
      | zero =>
        rw [List.getElem?_append_right (by omega)]
        simp
      | succ i =>
        rw [List.getElem?_append_left (by omega), show (more (n / 128)).length + 1 - 1 - (i + 1) = (more (n / 128)).length - 1 - i by omega, ih (n / 128) (by omega) i (by omega)]
        rw [Nat.div_div_eq_div_mul, Nat.pow_succ, Nat.mul_comm]

theorem put_l0 (n : Nat) (hn : n < 18446744073709551616) (d : Nat) : ∀ (k i : Nat), i ≤ (put n).length → (put n).length - i = d → d < k →
    wire_Put.l0 k (n : Int) ((put n).length : Int) (List.replicate ((put n).length - i) 0 ++ (more n).drop ((put n).length - i)) ((put n).length : Int) (i : Int) = some (put n) := by
  have hlen := put_length n hn
  have hpos := put_length_pos n
  induction d with
  | zero =>
    intro k i h0 hd hk
    obtain ⟨k, rfl⟩ : ∃ m, k = m + 1 := ⟨k - 1, by omega⟩
    obtain rfl : i = (put n).length := by omega
    obtain ⟨q, e, he, hm, hp⟩ := put_more n
    simp only [wire_Put.l0]
    rw [if_neg (by omega), wrap64_small _ (by omega) (by omega), if_pos (by omega), Nat.sub_self]
    simp only [List.replicate_zero, List.nil_append, List.drop_zero]
    have hl : (put n).length = q.length + 1 := by rw [hp]; simp
    rw [if_pos (by rw [← put_more_length]; omega), show (((put n).length : Int) - 1).toNat = q.length by omega]
    have hrd : rd (more n) (((put n).length : Int) - 1) = ((e + 128 : Nat) : Int) := by
      unfold rd
      rw [show (((put n).length : Int) - 1).toNat = q.length by omega, hm]
      simp
    rw [hrd, andNot128 _ (by omega), hm, hp, List.set_append_right _ _ (by omega)]
    simp
    omega
  | succ d ih =>
    intro k i h0 hd hk
    obtain ⟨k, rfl⟩ : ∃ m, k = m + 1 := ⟨k - 1, by omega⟩
    simp only [wire_Put.l0]
    obtain ⟨j, hj⟩ : ∃ j, (put n).length - i = j + 1 := ⟨(put n).length - i - 1, by omega⟩
    have hml : (more n).length = (put n).length := (put_more_length n).symm
    rw [if_pos (by omega), wrap64_small (7 * (i : Int)) (by omega) (by omega), if_pos (by omega), wrap64_small (((put n).length : Int) - 1) (by omega) (by omega), wrap64_small (((put n).length : Int) - 1 - i) (by omega) (by omega), if_pos (by omega),
      if_pos (by simp only [List.length_append, List.length_replicate, List.length_drop]; omega), wrap64_small ((i : Int) + 1) (by omega) (by omega)]
    have hs : shr .u64 (n : Int) (7 * (i : Int)) = ((n / 128 ^ i : Nat) : Int) := by
      unfold shr
      rw [show min (7 * (i : Int)).toNat IntKind.u64.bits = 7 * i by show min (7 * (i : Int)).toNat 64 = _; omega, show (2 : Int) ^ (7 * i) = ((128 ^ i : Nat) : Int) by rw [Int.pow_mul]; norm_cast]
      norm_cast
    have hv : (more n)[j]? = some (((n / 128 ^ i % 128 + 128 : Nat)) : Int) := by
      have := more_get n i (by omega)
      rwa [show (more n).length - 1 - i = j by omega] at this
    rw [hs, show ((n / 128 ^ i : Nat) : Int) % 256 = ((n / 128 ^ i % 256 : Nat) : Int) by omega, or128 _ (by omega), show n / 128 ^ i % 256 % 128 = n / 128 ^ i % 128 by omega]
    have e := ih k (i + 1) (by omega) (by omega) (by omega)
    rw [show ((i + 1 : Nat) : Int) = (i : Int) + 1 by simp] at e
    rw [← e]
    congr 1
    rw [hj, show (put n).length - (i + 1) = j by omega, show (((put n).length : Int) - 1 - i).toNat = j by omega, List.replicate_succ', List.append_assoc, List.set_append_right _ _ (by simp)]
    congr 1
    rw [List.drop_eq_getElem_cons (show j < (more n).length by omega)]
    rw [List.getElem?_eq_getElem (show j < (more n).length by omega)] at hv
    have hv' := Option.some.inj hv
    simp [hv']

theorem Put_eq (n : Nat) (hn : n < 18446744073709551616) (k : Nat) (hk : 12 < k) : wire_Put.f k (n : Int) = some (put n) := by
  unfold wire_Put.f
  have hlen := put_length n hn
  rw [groups_eq n hn k hk]
  simp only [Option.bind_some]
  rw [if_pos (by omega), Int.toNat_natCast, if_pos (by omega)]
  have e := put_l0 n hn (put n).length k 0 (by omega) (by omega) (by omega)
  rw [Nat.sub_zero, put_more_length, List.drop_length, List.append_nil, ← put_more_length] at e
  exact e

/-- A list of bytes. -/
def Bytes (l : List Int) : Prop := ∀ x ∈ l, 0 ≤ x ∧ x ≤ 255

theorem step_or (n : Nat) (c : Int) (hn : n * 128 < 18446744073709551616) (h0 : 0 ≤ c) (h1 : c ≤ 255) :
    Go.bits .or .u64 (IntKind.u64.wrap ((n : Int) * 128)) (IntKind.u64.wrap (Go.bits .andNot .u8 c 128)) = ((n * 128 + (c % 128).toNat : Nat) : Int) := by
  obtain ⟨c, rfl⟩ := Int.eq_ofNat_of_zero_le h0
  rw [andNot128 c (by omega), wrap_u64, wrap_u64, show (n : Int) * 128 % 18446744073709551616 = (n : Int) * 128 by omega, show ((c % 128 : Nat) : Int) % 18446744073709551616 = ((c % 128 : Nat) : Int) by omega]
  rw [bits_join .u64 64 (by decide) wraps_u64 7 _ _ (by omega) (by omega) (by omega) (by omega) (by omega) (by omega)]
  omega

theorem get_l0 (l s : List Int) : ∀ (q : List Int) (k : Nat), l = q ++ s → Marks q → q.length ≤ 10 → V q < 18446744073709551616 → Bytes s → l.length ≤ 4611686018427387904 → 2 * s.length + 2 < k →
    ∃ r, wire_Get.l0 k (V q : Int) 0 l (l.length : Int) (q.length : Int) = some r ∧ IsGet l r := by
  induction s with
  | nil =>
    intro q k hl hq h10 hv hb hll hk
    obtain ⟨k, rfl⟩ : ∃ m, k = m + 1 := ⟨k - 1, by omega⟩
    rw [List.append_nil] at hl
    subst hl
    simp only [wire_Get.l0]
    rw [if_neg (by omega)]
    refine ⟨_, rfl, .inr ⟨fun m _ hp => put_not_marks m _ (fun x hx => (hq.1 x hx).1) hp, rfl⟩⟩
  | cons c s ih =>
    intro q k hl hq h10 hv hb hll hk
    obtain ⟨k, rfl⟩ : ∃ m, k = m + 1 + 1 := ⟨k - 2, by simp at hk; omega⟩
    have hlen : l.length = q.length + (s.length + 1) := by rw [hl]; simp
    have hc := hb c (by simp)
    have hrd : rd l (q.length : Int) = c := by
      unfold rd
      rw [hl]
      simp
    have hlt := V_lt q
    simp only [wire_Get.l0]
    rw [if_pos (by omega), if_pos (by omega), if_pos (by omega), hrd]
    -- what is left of a round that goes on
    have goes : V q * 128 < 18446744073709551616 → (q = [] → c ≠ 128) → ∃ r, wire_Get.j1 (k + 1) (V q : Int) 0 (q.length : Int) c l (l.length : Int) (q.length : Int) false = some r ∧ IsGet l r := by
      intro hov hne
      simp only [wire_Get.j1]
      rw [if_neg (by simp)]
      by_cases hcc : c < 128
      · have hvv : V (q ++ [c]) < 18446744073709551616 := by rw [V_snoc]; omega
        rw [if_pos hcc, wrap64_small _ (by omega) (by omega), if_neg (by omega), step_or _ _ hov hc.1 hc.2, ← V_snoc]
        have hp := put_of q c hq hc.1 hcc
        refine ⟨_, rfl, .inl ⟨V (q ++ [c]), hvv, ?_, ?_⟩⟩
        · rw [hp, hl]; exact ⟨s, by simp⟩
        · rw [hp]; simp
      · have h9 : q.length ≤ 9 := by
          rcases Nat.lt_or_ge q.length 10 with h | h
          · omega
          · exfalso
            have hg := marks_V_ge q hq (by intro e; rw [e] at h; simp at h)
            have : 128 ^ 9 ≤ 128 ^ (q.length - 1) := Nat.pow_le_pow_right (by decide) (by omega)
            have e9 : 128 ^ 9 = 9223372036854775808 := by decide
            omega
        rw [if_neg hcc, wrap64_small _ (by omega) (by omega), step_or _ _ hov hc.1 hc.2, ← V_snoc]
        have e := ih (q ++ [c]) k (by rw [hl]; simp) (hq.snoc (by omega) hc.2 hne) (by simp; omega) (by rw [V_snoc]; omega) (fun x hx => hb x (by simp [hx])) hll (by simp at hk; omega)
        rw [show (((q ++ [c]).length : Nat) : Int) = (q.length : Int) + 1 by simp] at e
        exact e
    have stops : ∀ b : Bool, b = true → (∀ m, m < 18446744073709551616 → ¬ put m <+: l) → ∃ r, wire_Get.j1 (k + 1) (V q : Int) 0 (q.length : Int) c l (l.length : Int) (q.length : Int) b = some r ∧ IsGet l r := by
      intro b hb' hno
      subst hb'
      simp only [wire_Get.j1, if_true]
      exact ⟨_, rfl, .inr ⟨hno, rfl⟩⟩
    have exact_ : ∀ m, put m <+: l → c < 128 → put m = q ++ [c] := fun m hp hcc => put_exact m q c s (fun x hx => (hq.1 x hx).1) hcc (by rw [← hl]; exact hp)
    have longer : ∀ m, put m <+: l → q.length < (put m).length := fun m hp => by
      rcases Nat.lt_or_ge q.length (put m).length with h | h
      · exact h
      · exact absurd (List.prefix_of_prefix_length_le hp ⟨c :: s, hl.symm⟩ h) (put_not_marks m q (fun x hx => (hq.1 x hx).1))
    by_cases e10 : (q.length : Int) = 10
    · rw [if_pos e10]
      refine stops _ (by simpa using e10) fun m hm hp => ?_
      have := longer m hp
      have := put_length m hm
      omega
    · rw [if_neg e10]
      by_cases e9 : (q.length : Int) = 9
      · rw [if_pos e9]
        have hd : (V q : Int) / 144115188075855872 = ((V q / 144115188075855872 : Nat) : Int) := by omega
        by_cases eo : (V q : Int) / 144115188075855872 > 0
        · rw [if_pos eo]
          refine stops _ (by simpa using eo) fun m hm hp => ?_
          have h1 := longer m hp
          have h2 := put_length m hm
          obtain ⟨q', d, e, hq', h0, h3⟩ := put_form m
          have hl1 : (put m).length = q.length + 1 := by omega
          have hpre : put m = q ++ [c] := by
            have := List.prefix_of_prefix_length_le hp (show q ++ [c] <+: l by rw [hl]; exact ⟨s, by simp⟩) (by simp; omega)
            exact this.eq_of_length (by simp; omega)
          have := V_put m
          rw [hpre, V_snoc] at this
          omega
        · rw [if_neg eo, if_neg (by omega)]
          exact goes (by omega) (fun e => by rw [e] at e9; simp at e9)
      · rw [if_neg e9]
        by_cases e0 : (q.length : Int) = 0
        · rw [if_pos e0]
          have hq0 : q = [] := List.eq_nil_of_length_eq_zero (by omega)
          by_cases ec : c = 128
          · refine stops _ (by simpa using ec) fun m hm hp => ?_
            obtain ⟨t, ht⟩ := hp
            have h5 := put_head m
            cases hpm : put m with
            | nil => exact put_ne m hpm
            | cons a r =>
              rw [hpm] at ht h5
              rw [hl, hq0] at ht
              simp at ht h5
              omega
          · have := goes (by rw [hq0, V_nil]; omega) (fun _ => ec)
            rwa [show (c == 128) = false by simpa using ec]
        · rw [if_neg e0]
          refine goes ?_ (fun e => by rw [e] at e0; simp at e0)
          have h128 : 128 ^ q.length ≤ 128 ^ 8 := Nat.pow_le_pow_right (by decide) (by omega)
          have e8 : 128 ^ 8 = 72057594037927936 := by decide
          omega

theorem Get_is (l : List Int) (hb : Bytes l) (hl : l.length ≤ 4611686018427387904) (k : Nat) (hk : 2 * l.length + 2 < k) : ∃ r, wire_Get.f k l = some r ∧ IsGet l r := by
  unfold wire_Get.f
  exact get_l0 l l [] k rfl Marks.nil (by simp) (by rw [V_nil]; omega) hb hl hk
theorem Get_eq {l : List Int} {r : Int × Int × Bool} (h : IsGet l r) (hb : Bytes l) (hl : l.length ≤ 4611686018427387904) (k : Nat) (hk : 2 * l.length + 2 < k) : wire_Get.f k l = some r := by
  obtain ⟨r', hr, hi⟩ := Get_is l hb hl k hk
  rw [hr, h.unique hi]
theorem Get_put (m : Nat) (hm : m < 18446744073709551616) (s : List Int) (hb : Bytes s) (hl : s.length ≤ 4611686018427387000) (k : Nat) (hk : 2 * s.length + 30 < k) :
    wire_Get.f k (put m ++ s) = some ((m : Int), ((put m).length : Int), true) := by
  have h10 := put_length m hm
  refine Get_eq (isGet_put m hm s) (fun x hx => ?_) (by simp; omega) k (by simp; omega)
  rcases List.mem_append.1 hx with hx | hx
  · exact put_range m x hx
  · exact hb x hx

theorem bytesOf_bytes (s : ByteArray) : Bytes (bytesOf s) := by
  intro x hx
  unfold bytesOf at hx
  obtain ⟨b, _, rfl⟩ := List.mem_map.1 hx
  have := b.toNat_lt
  omega
theorem Text_eq (s : ByteArray) (hs : s.size ≤ 140737488351232) (k : Nat) (hk : 12 < k) : wire_Text.f k s = some (put s.size ++ bytesOf s) := by
  unfold wire_Text.f
  have h10 := put_length s.size (by omega)
  rw [wrap_u64, show (s.size : Int) % 18446744073709551616 = (s.size : Int) by omega, Put_eq s.size (by omega) k hk]
  simp only [Option.bind_some]
  rw [if_pos (by omega)]

end Go.Proofs.Ytghafocfbamcdaa.X
