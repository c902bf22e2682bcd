/- Numbers in groups of seven bits, as lists: what is put, and what of a list is such a number. No program in sight. -/
import Derived.RowKit
namespace Go.Proofs.Ytghafocfbamcdaa.X
set_option linter.unusedVariables false
set_option linter.unusedSimpArgs false

/-- A number's groups, each with a mark that another one follows. -/
def more (n : Nat) : List Int := if n < 128 then [(n : Int) + 128] else more (n / 128) ++ [((n % 128 : Nat) : Int) + 128]
termination_by n
decreasing_by omega
/-- A number as bytes. -/
def put (n : Nat) : List Int := if n < 128 then [(n : Int)] else more (n / 128) ++ [((n % 128 : Nat) : Int)]

/-- The number that groups make. -/
def V (l : List Int) : Nat := l.foldl (fun a x => a * 128 + (x % 128).toNat) 0
theorem V_snoc (l : List Int) (x : Int) : V (l ++ [x]) = V l * 128 + (x % 128).toNat := by simp [V]
theorem V_nil : V [] = 0 := rfl

theorem more_small {n : Nat} (h : n < 128) : more n = [(n : Int) + 128] := by rw [more, if_pos h]
theorem more_big {n : Nat} (h : ¬ n < 128) : more n = more (n / 128) ++ [((n % 128 : Nat) : Int) + 128] := by rw [more, if_neg h]

theorem V_more (n : Nat) : V (more n) = n := by
  induction n using Nat.strongRecOn with
  | _ n ih =>
    by_cases h : n < 128
    · rw [more_small h]; simp [V]; omega
    · rw [more_big h, V_snoc, ih _ (by omega)]; omega
theorem V_put (n : Nat) : V (put n) = n := by
  unfold put
  by_cases h : n < 128
  · rw [if_pos h]; simp [V]; omega
  · rw [if_neg h, V_snoc, V_more]; omega

/-- A list of groups, each of which another one follows: no group of nothing ahead. -/
def Marks (q : List Int) : Prop := (∀ x ∈ q, 128 ≤ x ∧ x ≤ 255) ∧ q.head? ≠ some 128
theorem Marks.nil : Marks [] := ⟨by simp, by simp⟩
theorem Marks.snoc {q : List Int} {c : Int} (h : Marks q) (h0 : 128 ≤ c) (h1 : c ≤ 255) (hc : q = [] → c ≠ 128) : Marks (q ++ [c]) := by
  refine ⟨fun x hx => ?_, ?_⟩
  · rcases List.mem_append.1 hx with hx | hx
    · exact h.1 x hx
    · simp at hx; omega
  · cases q with
    | nil => simpa using hc rfl
    | cons a q => simpa using h.2
theorem Marks.init {q : List Int} {c : Int} (h : Marks (q ++ [c])) : Marks q := by
  refine ⟨fun x hx => h.1 x (List.mem_append_left _ hx), ?_⟩
  cases q with
  | nil => simp
  | cons a q => simpa using h.2

theorem more_marks (n : Nat) (hn : 1 ≤ n) : Marks (more n) := by
  induction n using Nat.strongRecOn with
  | _ n ih =>
    by_cases h : n < 128
    · rw [more_small h]
      exact ⟨fun x hx => by simp at hx; omega, by simp; omega⟩
    · rw [more_big h]
      refine (ih _ (by omega) (by omega)).snoc (by omega) (by omega) (fun e => ?_)
      exfalso
      have : V (more (n / 128)) = 0 := by rw [e]; rfl
      rw [V_more] at this; omega
theorem snoc_cases {α : Type} (l : List α) : l = [] ∨ ∃ q c, l = q ++ [c] := by
  rcases List.eq_nil_or_concat l with h | ⟨q, c, h⟩
  · exact .inl h
  · exact .inr ⟨q, c, by simpa [List.concat_eq_append] using h⟩
theorem marks_V_pos (q : List Int) (h : Marks q) (hne : q ≠ []) : 1 ≤ V q := by
  induction hL : q.length generalizing q with
  | zero => exact absurd (List.eq_nil_of_length_eq_zero hL) hne
  | succ k ih =>
    obtain ⟨q', c, rfl⟩ := (snoc_cases q).resolve_left hne
    rw [V_snoc]
    by_cases e : q' = []
    · subst e
      have h1 := h.1 c (by simp)
      have h2 := h.2
      simp at h2
      rw [V_nil]; omega
    · have := ih q' h.init e (by simpa using hL)
      omega
theorem more_of_marks (q : List Int) (h : Marks q) (hne : q ≠ []) : more (V q) = q := by
  induction hL : q.length generalizing q with
  | zero => exact absurd (List.eq_nil_of_length_eq_zero hL) hne
  | succ k ih =>
    obtain ⟨q', c, rfl⟩ := (snoc_cases q).resolve_left hne
    have h1 := h.1 c (by simp)
    by_cases e : q' = []
    · subst e
      rw [V_snoc, V_nil, more_small (by omega)]
      simp; omega
    · have h2 := ih q' h.init e (by simpa using hL)
      have h3 := marks_V_pos q' h.init e
      rw [V_snoc, more_big (by omega), show (V q' * 128 + (c % 128).toNat) / 128 = V q' by omega, h2]
      congr 2
      omega
/-- What a number's bytes are. -/
theorem put_form (n : Nat) : ∃ q c, put n = q ++ [c] ∧ Marks q ∧ 0 ≤ c ∧ c < 128 := by
  unfold put
  by_cases h : n < 128
  · rw [if_pos h]; exact ⟨[], _, rfl, Marks.nil, by omega, by omega⟩
  · rw [if_neg h]; exact ⟨_, _, rfl, more_marks _ (by omega), by omega, by omega⟩
theorem put_of (q : List Int) (c : Int) (h : Marks q) (h0 : 0 ≤ c) (h1 : c < 128) : put (V (q ++ [c])) = q ++ [c] := by
  rw [V_snoc]
  by_cases e : q = []
  · subst e
    rw [V_nil]
    unfold put
    rw [if_pos (by omega)]
    simp; omega
  · have h3 := marks_V_pos q h e
    unfold put
    rw [if_neg (by omega), show (V q * 128 + (c % 128).toNat) / 128 = V q by omega, more_of_marks q h e]
    congr 2
    omega
theorem put_range (n : Nat) : ∀ x ∈ put n, 0 ≤ x ∧ x ≤ 255 := by
  obtain ⟨q, c, e, hq, h0, h1⟩ := put_form n
  intro x hx
  rw [e] at hx
  rcases List.mem_append.1 hx with hx | hx
  · have := hq.1 x hx; omega
  · simp at hx; omega
theorem put_ne (n : Nat) : put n ≠ [] := by
  obtain ⟨q, c, e, _⟩ := put_form n
  rw [e]; simp
theorem put_head (n : Nat) : (put n).head? ≠ some 128 := by
  obtain ⟨q, c, e, hq, h0, h1⟩ := put_form n
  rw [e]
  cases q with
  | nil => simp; omega
  | cons a q => simpa using hq.2

theorem V_lt (q : List Int) : V q < 128 ^ q.length := by
  induction hL : q.length generalizing q with
  | zero => rw [List.eq_nil_of_length_eq_zero hL]; simp [V]
  | succ k ih =>
    rcases snoc_cases q with rfl | ⟨q', c, rfl⟩
    · simp at hL
    · have h := ih q' (by simpa using hL)
      rw [V_snoc, Nat.pow_succ]
      omega
theorem marks_V_ge (q : List Int) (h : Marks q) (hne : q ≠ []) : 128 ^ (q.length - 1) ≤ V q := by
  induction hL : q.length generalizing q with
  | zero => exact absurd (List.eq_nil_of_length_eq_zero hL) hne
  | succ k ih =>
    obtain ⟨q', c, rfl⟩ := (snoc_cases q).resolve_left hne
    by_cases e : q' = []
    · subst e
      have := marks_V_pos _ h (by simp)
      simp at hL
      subst hL
      simpa using this
    · have hl : 0 < q'.length := List.length_pos_iff.2 e
      have h2 := ih q' h.init e (by simpa using hL)
      have hk : k = q'.length := by simpa using hL.symm
      rw [V_snoc]
      obtain ⟨j, hj⟩ : ∃ j, k = j + 1 := ⟨k - 1, by omega⟩
      subst hj
      simp only [Nat.add_sub_cancel] at h2 ⊢
      rw [Nat.pow_succ]
      omega
theorem put_length (n : Nat) (h : n < 18446744073709551616) : (put n).length ≤ 10 := by
  obtain ⟨q, c, e, hq, h0, h1⟩ := put_form n
  have hv := V_put n
  rw [e, V_snoc] at hv
  rw [e, List.length_append]
  by_cases hne : q = []
  · subst hne; simp
  · have hg := marks_V_ge q hq hne
    rcases Nat.lt_or_ge q.length 10 with h2 | h2
    · simp; omega
    · have : 128 ^ 9 ≤ 128 ^ (q.length - 1) := Nat.pow_le_pow_right (by decide) (by omega)
      have e9 : 128 ^ 9 = 9223372036854775808 := by decide
      omega
theorem put_length_pos (n : Nat) : 1 ≤ (put n).length := by
  have := put_ne n
  have := List.length_pos_iff.2 this
  omega

/-- Of two lists that a third one begins by, one is the other's beginning. -/
theorem pre_cases {α : Type} {a b l : List α} (ha : a <+: l) (hb : b <+: l) : a <+: b ∨ b <+: a := List.prefix_or_prefix_of_prefix ha hb

/-- No number's bytes lie within marks alone. -/
theorem put_not_marks (n : Nat) (q : List Int) (hq : ∀ x ∈ q, 128 ≤ x) : ¬ put n <+: q := by
  obtain ⟨q', c, e, _, h0, h1⟩ := put_form n
  rintro ⟨t, ht⟩
  have : c ∈ q := by rw [← ht, e]; simp
  have := hq c this
  omega
/-- A number's bytes that a list begins by, which begins by marks, and one that is none: they are just these. -/
theorem put_exact (n : Nat) (q : List Int) (c : Int) (s : List Int) (hq : ∀ x ∈ q, 128 ≤ x) (hc : c < 128) (h : put n <+: q ++ c :: s) : put n = q ++ [c] := by
  have h2 : q ++ [c] <+: q ++ c :: s := ⟨s, by simp⟩
  rcases pre_cases h h2 with h3 | h3
  · obtain ⟨t, ht⟩ := h3
    rcases snoc_cases t with rfl | ⟨t', d, rfl⟩
    · simpa using ht
    · exfalso
      have ht2 : put n ++ t' ++ [d] = q ++ [c] := by rw [← ht]; simp
      have := (List.append_inj' ht2 rfl).1
      exact put_not_marks n q hq ⟨t', this⟩
  · obtain ⟨q', d, e, hq', h0, h1⟩ := put_form n
    obtain ⟨t, ht⟩ := h3
    rw [e] at ht ⊢
    rcases snoc_cases t with rfl | ⟨t', d', rfl⟩
    · simpa using ht.symm
    · exfalso
      have ht2 : (q ++ [c] ++ t') ++ [d'] = q' ++ [d] := by rw [← ht]; simp
      have h5 := (List.append_inj' ht2 rfl).1
      have : c ∈ q' := by rw [← h5]; simp
      have := hq'.1 c this
      omega
/-- A list begins by one number's bytes at most. -/
theorem put_unique {n m : Nat} {l : List Int} (h : put n <+: l) (h2 : put m <+: l) : n = m := by
  obtain ⟨q, c, e, hq, h0, h1⟩ := put_form n
  obtain ⟨t, ht⟩ := h
  have h3 : put m <+: q ++ c :: t := by rw [show q ++ c :: t = put n ++ t by rw [e]; simp, ht]; exact h2
  have h4 := put_exact m q c t (fun x hx => (hq.1 x hx).1) h1 h3
  rw [← V_put n, ← V_put m, e, h4]

/-- What is got of a list: its number, how many bytes that has, and whether there is one. -/
def IsGet (l : List Int) (r : Int × Int × Bool) : Prop :=
  (∃ m, m < 18446744073709551616 ∧ put m <+: l ∧ r = ((m : Int), ((put m).length : Int), true)) ∨ ((∀ m, m < 18446744073709551616 → ¬ put m <+: l) ∧ r = (0, 0, false))
theorem IsGet.unique {l : List Int} {r r' : Int × Int × Bool} (h : IsGet l r) (h' : IsGet l r') : r = r' := by
  rcases h with ⟨m, hm, hp, rfl⟩ | ⟨hn, rfl⟩
  · rcases h' with ⟨m', hm', hp', rfl⟩ | ⟨hn', rfl⟩
    · obtain rfl := put_unique hp hp'; rfl
    · exact absurd hp (hn' m hm)
  · rcases h' with ⟨m', hm', hp', rfl⟩ | ⟨hn', rfl⟩
    · exact absurd hp' (hn m' hm')
    · rfl
theorem isGet_put (m : Nat) (hm : m < 18446744073709551616) (s : List Int) : IsGet (put m ++ s) ((m : Int), ((put m).length : Int), true) := .inl ⟨m, hm, ⟨s, rfl⟩, rfl⟩

end Go.Proofs.Ytghafocfbamcdaa.X
