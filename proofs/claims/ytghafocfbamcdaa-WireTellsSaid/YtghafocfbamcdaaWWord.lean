/- Words of four bytes, as lists. -/
import Derived.Test.YtghafocfbamcdaaWTools
import Derived.Test.YtghafocfbamcdaaXx17
import Derived.Test.YtghafocfbamcdaaXx20
namespace Go.Proofs.Ytghafocfbamcdaa.X
set_option linter.unusedVariables false
set_option linter.unusedSimpArgs false
open Go.RowKit Go.Proofs.YtghafocfbamcdaaW.PrintWords Go.Proofs.YtghafocfbamcdaaW.PrintLast Go.Proofs.YtghafocfbamcdaaW.PrintMore

def word (n : Nat) : List Int := [((n / 16777216 % 256 : Nat) : Int), ((n / 65536 % 256 : Nat) : Int), ((n / 256 % 256 : Nat) : Int), ((n % 256 : Nat) : Int)]
theorem word_length (n : Nat) : (word n).length = 4 := rfl
theorem word_bytes (n : Nat) : Bytes (word n) := by
  intro x hx
  simp only [word, List.mem_cons, List.not_mem_nil, or_false] at hx
  omega

theorem shr32 (n : Nat) (y : Int) (j : Nat) (h : y.toNat = j) (hj : j ≤ 32) : shr .u32 (n : Int) y = ((n / 2 ^ j : Nat) : Int) := by
  unfold shr
  rw [show min y.toNat IntKind.u32.bits = j by show min y.toNat 32 = j; omega]
  norm_cast

theorem word_step (n k i : Nat) (hi : i < 4) (x3 : List Int) (hx : x3.length = 4) :
    wire_Word.l0 (k + 1) (n : Int) x3 (i : Int) = wire_Word.l0 k (n : Int) (x3.set (3 - i) ((n / 2 ^ (8 * i) % 256 : Nat) : Int)) ((i + 1 : Nat) : Int) := by
  generalize hR : wire_Word.l0 k (n : Int) (x3.set (3 - i) ((n / 2 ^ (8 * i) % 256 : Nat) : Int)) ((i + 1 : Nat) : Int) = R
  unfold wire_Word.l0
  rw [if_pos (by omega), wrap64_small (8 * (i : Int)) (by omega) (by omega), if_pos (by omega), wrap64_small (3 - (i : Int)) (by omega) (by omega), if_pos (by omega), if_pos (by omega), wrap64_small ((i : Int) + 1) (by omega) (by omega),
    shr32 n (8 * (i : Int)) (8 * i) (by omega) (by omega), show (3 - (i : Int)).toNat = 3 - i by omega]
  rw [← hR]
  generalize n / 2 ^ (8 * i) = z
  rw [show (z : Int) % 256 = ((z % 256 : Nat) : Int) by omega, show ((i : Int) + 1) = ((i + 1 : Nat) : Int) by omega]
theorem word_end (n k : Nat) (x3 : List Int) : wire_Word.l0 (k + 1) (n : Int) x3 ((4 : Nat) : Int) = some x3 := by
  simp only [wire_Word.l0]
  rw [if_neg (by omega)]
theorem Word_eq (n : Nat) (k : Nat) (hk : 5 < k) : wire_Word.f k (n : Int) = some (word n) := by
  obtain ⟨k, rfl⟩ : ∃ m, k = m + 5 := ⟨k - 5, by omega⟩
  unfold wire_Word.f
  rw [if_pos (by decide), show (0 : Int) = ((0 : Nat) : Int) from rfl, word_step n (k + 4) 0 (by decide) _ (by rfl), word_step n (k + 3) 1 (by decide) _ (by rfl), word_step n (k + 2) 2 (by decide) _ (by rfl), word_step n (k + 1) 3 (by decide) _ (by rfl), word_end]
  congr 1
  simp [word, List.replicate]

/-- The number of four bytes. -/
def four (l : List Int) : Nat := l.foldl (fun a x => a * 256 + x.toNat) 0
theorem wraps_u32 (n : Int) (h₀ : 0 ≤ n) (h₁ : n < 2 ^ 32) : IntKind.u32.wrap n = n := by rw [IntKind.wrap_u32]; omega
theorem four_or (x : Nat) (c : Int) (hx : x < 16777216) (h0 : 0 ≤ c) (h1 : c ≤ 255) : Go.bits .or .u32 (((x : Int) * 256) % 4294967296) (c % 4294967296) = ((x * 256 + c.toNat : Nat) : Int) := by
  rw [show ((x : Int) * 256) % 4294967296 = (x : Int) * 256 by omega, show c % 4294967296 = c by omega]
  rw [bits_join .u32 32 (by decide) wraps_u32 8 _ _ (by omega) (by omega) (by omega) (by omega) (by omega) (by omega)]
  omega
theorem four_l0 (l s : List Int) : ∀ (q : List Int) (k : Nat), l = q ++ s → l.length = 4 → Bytes l → s.length < k → wire_Four.l0 k (four q : Int) l ((4 : Nat) : Int) (q.length : Int) = some ((four l : Int), true) := by
  induction s with
  | nil =>
    intro q k hl h4 hb hk
    obtain ⟨k, rfl⟩ : ∃ m, k = m + 1 := ⟨k - 1, by omega⟩
    rw [List.append_nil] at hl
    subst hl
    simp only [wire_Four.l0]
    rw [if_neg (by omega)]
  | cons c s ih =>
    intro q k hl h4 hb hk
    obtain ⟨k, rfl⟩ : ∃ m, k = m + 1 := ⟨k - 1, by omega⟩
    have hlen : l.length = q.length + (s.length + 1) := by rw [hl]; simp
    have hc := hb c (by rw [hl]; simp)
    have hq : four q < 256 ^ q.length := by
      have hbq : Bytes q := fun x hx => hb x (by rw [hl]; simp [hx])
      clear hl hlen ih
      induction hL : q.length generalizing q with
      | zero => rw [List.eq_nil_of_length_eq_zero hL]; simp [four]
      | succ j ihj =>
        rcases snoc_cases q with rfl | ⟨q', d, rfl⟩
        · simp at hL
        · have h1 := ihj q' (fun x hx => hbq x (by simp [hx])) (by simpa using hL)
          have h2 := hbq d (by simp)
          have h3 : four (q' ++ [d]) = four q' * 256 + d.toNat := by simp [four]
          rw [h3, Nat.pow_succ]
          omega
    have h3 : 256 ^ q.length ≤ 256 ^ 3 := Nat.pow_le_pow_right (by decide) (by omega)
    have e3 : 256 ^ 3 = 16777216 := by decide
    have hrd : rd l (q.length : Int) = c := by
      unfold rd
      rw [hl]
      simp
    simp only [wire_Four.l0]
    rw [if_pos (by omega), if_pos (by omega), if_pos (by omega), hrd, four_or _ _ (by omega) hc.1 hc.2, wrap64_small _ (by omega) (by omega)]
    have e := ih (q ++ [c]) k (by rw [hl]; simp) h4 hb (by simp at hk; omega)
    rw [show (((q ++ [c]).length : Nat) : Int) = (q.length : Int) + 1 by simp, show four (q ++ [c]) = four q * 256 + c.toNat by simp [four]] at e
    exact e
theorem Four_yes (l : List Int) (h4 : l.length = 4) (hb : Bytes l) (k : Nat) (hk : 5 < k) : wire_Four.f k l = some ((four l : Int), true) := by
  unfold wire_Four.f
  rw [if_pos (by omega), show (l.length : Int) = ((4 : Nat) : Int) by omega]
  exact four_l0 l l [] k rfl h4 hb (by omega)
theorem Four_no (l : List Int) (h4 : l.length ≠ 4) (k : Nat) : wire_Four.f k l = some (0, false) := by
  unfold wire_Four.f
  rw [if_neg (by omega)]
theorem four_word (n : Nat) (h : n < 4294967296) : four (word n) = n := by
  simp only [four, word, List.foldl_cons, List.foldl_nil]
  omega
theorem word_four (l : List Int) (h4 : l.length = 4) (hb : Bytes l) : word (four l) = l := by
  match l, h4, hb with
  | [a, b, c, d], _, hb =>
    have h1 := hb a (by simp)
    have h2 := hb b (by simp)
    have h3 := hb c (by simp)
    have h4 := hb d (by simp)
    simp only [four, word, List.foldl_cons, List.foldl_nil, List.cons.injEq, and_true]
    omega
theorem four_lt (l : List Int) (h4 : l.length = 4) (hb : Bytes l) : four l < 4294967296 := by
  match l, h4, hb with
  | [a, b, c, d], _, hb =>
    have h1 := hb a (by simp)
    have h2 := hb b (by simp)
    have h3 := hb c (by simp)
    have h4 := hb d (by simp)
    simp only [four, List.foldl_cons, List.foldl_nil]
    omega
theorem digits4 (n : Nat) (hn : n < 4294967296) : ∃ a b c d, a < 256 ∧ b < 256 ∧ c < 256 ∧ d < 256 ∧ n = 16777216 * a + 65536 * b + 256 * c + d ∧ n / 16777216 % 256 = a ∧ n / 65536 % 256 = b ∧ n / 256 % 256 = c ∧ n % 256 = d := by
  refine ⟨n / 16777216 % 256, n / 65536 % 256, n / 256 % 256, n % 256, by omega, by omega, by omega, by omega, ?_, rfl, rfl, rfl, rfl⟩
  have e1 : n / 256 / 256 = n / 65536 := by omega
  have e2 : n / 65536 / 256 = n / 16777216 := by omega
  omega
theorem word_less (n m : Nat) (hn : n < 4294967296) (hm : m < 4294967296) : Op.bytesLess (strOfNums (word n)).toList (strOfNums (word m)).toList = decide (n < m) := by
  rw [ByteArray.toList_eq, ByteArray.toList_eq, strOfNums_data, strOfNums_data]
  obtain ⟨a, b, c, d, ha, hb, hc, hd, he, e1, e2, e3, e4⟩ := digits4 n hn
  obtain ⟨a', b', c', d', ha', hb', hc', hd', he', e1', e2', e3', e4'⟩ := digits4 m hm
  simp only [word, e1, e2, e3, e4, e1', e2', e3', e4', List.map_cons, List.map_nil, Op.bytesLess]
  clear e1 e2 e3 e4 e1' e2' e3' e4'
  rw [Bool.eq_iff_iff]
  simp only [Bool.or_eq_true, Bool.and_eq_true, decide_eq_true_eq, beq_iff_eq, UInt8.lt_iff_toNat_lt, ← UInt8.toNat_inj, UInt8.toNat_ofNat', Int.toNat_natCast]
  rw [Nat.mod_eq_of_lt (show a < 2 ^ 8 by omega), Nat.mod_eq_of_lt (show b < 2 ^ 8 by omega), Nat.mod_eq_of_lt (show c < 2 ^ 8 by omega), Nat.mod_eq_of_lt (show d < 2 ^ 8 by omega), Nat.mod_eq_of_lt (show a' < 2 ^ 8 by omega), Nat.mod_eq_of_lt (show b' < 2 ^ 8 by omega), Nat.mod_eq_of_lt (show c' < 2 ^ 8 by omega), Nat.mod_eq_of_lt (show d' < 2 ^ 8 by omega)]
  simp only [Bool.false_eq_true, and_false, or_false]
  omega

theorem word_call (n : Nat) (w : World) : Calls Try.prog 23 #[.int .u32 n] w fun e w' => ∃ A c, e = .returned (.slice A 4 c) ∧ 4 ≤ c ∧ RdB w' A 4 (word n) ∧ Below w.heap.size w w' := by
  refine (wire_Word.calls 20 n _ w (Word_eq n 20 (by omega))).mono ?_
  rintro e w' ⟨v, rfl, ho, hb⟩
  obtain ⟨A, c, rfl, hc, hr⟩ := row_slice ho
  exact ⟨A, c, rfl, hc, hr, hb⟩
theorem four_call (l : List Int) (h4 : l.length = 4) (hb : Bytes l) (A : Option Addr) (c : Nat) (w : World) (hr : RdB w A 4 l) (hc : 4 ≤ c) :
    Calls Try.prog 19 #[.slice A 4 c] w fun e w' => e = .returned (.tuple #[.int .u32 (four l), .bool true]) ∧ ∃ q, w' = w.drewN q := by
  have := wire_Four.calls 20 A c l _ _ w (by rw [h4]; exact hr) (by rw [h4]; exact hc) (Four_yes l h4 hb 20 (by omega))
  rw [h4] at this
  refine this.mono ?_
  rintro e w' ⟨rfl, ⟨q, rfl⟩⟩
  exact ⟨rfl, q, rfl⟩
theorem four_none (l : List Int) (h4 : l.length ≠ 4) (A : Option Addr) (c : Nat) (w : World) (hr : RdB w A l.length l) (hc : l.length ≤ c) :
    Calls Try.prog 19 #[.slice A l.length c] w fun e w' => e = .returned (.tuple #[.int .u32 0, .bool false]) ∧ ∃ q, w' = w.drewN q := by
  refine (wire_Four.calls 20 A c l _ _ w hr hc (Four_no l h4 20)).mono ?_
  rintro e w' ⟨rfl, ⟨q, rfl⟩⟩
  exact ⟨rfl, q, rfl⟩

end Go.Proofs.Ytghafocfbamcdaa.X
