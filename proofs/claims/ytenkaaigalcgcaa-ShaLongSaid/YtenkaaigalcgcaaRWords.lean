/- The document's words of a chunk are the schedule. -/
import Derived.Laws.BitsLemmas
import Derived.Test.YtenkaaigalcgcaaXx17
import Derived.Test.YtenkaaigalcgcaaSSch
namespace Go.Proofs.Ytenkaaigalcgcaa.X
set_option linter.unusedVariables false
set_option linter.unusedSimpArgs false
open Go.RowKit Go.Proofs.YtenkaaigalcgcaaW.PrintWords Go.Proofs.YtenkaaigalcgcaaW.PrintLast Go.Proofs.YtenkaaigalcgcaaW.PrintMore

/-- Numbers that are bytes. -/
def Bytes8 (l : List Int) : Prop := ∀ x ∈ l, 0 ≤ x ∧ x ≤ 255
theorem or_comm32 (k : IntKind) (x y : Int) : bits .or k x y = bits .or k y x := by
  simp only [bits, BitVec.or_comm]
theorem turned_eq (x : Int) (n : Nat) (h0 : 0 < n) (h1 : n < 32) : rolodexref03_turned.f x n = some (rotr x n) := by
  unfold rolodexref03_turned.f rotr
  rw [if_pos (by omega), or_comm32, show (32 - (n : Int)) % 4294967296 = 32 - n by omega]
theorem u32_wrap (n : Int) (h0 : 0 ≤ n) (h1 : n < 2 ^ 32) : IntKind.u32.wrap n = n := by rw [IntKind.wrap_u32]; omega
theorem or_join (x y : Int) (i : Nat) (hx0 : 0 ≤ x) (hx : x % 2 ^ i = 0) (hx1 : x < 2 ^ 32) (hy0 : 0 ≤ y) (hy : y < 2 ^ i) (hy1 : y < 2 ^ 32) : bits .or .u32 x y = x + y :=
  bits_join .u32 32 (by decide) u32_wrap i x y hx0 hx hx1 hy0 hy hy1
theorem be4_sum (a b c d : Int) (ha : 0 ≤ a ∧ a ≤ 255) (hb : 0 ≤ b ∧ b ≤ 255) (hc : 0 ≤ c ∧ c ≤ 255) (hd : 0 ≤ d ∧ d ≤ 255) :
    bits .or .u32 (bits .or .u32 (bits .or .u32 (a % 4294967296 * 16777216 % 4294967296) (b % 4294967296 * 65536 % 4294967296)) (c % 4294967296 * 256 % 4294967296)) (d % 4294967296) = a * 16777216 + b * 65536 + c * 256 + d := by
  have e1 : a % 4294967296 * 16777216 % 4294967296 = a * 16777216 := by omega
  have e2 : b % 4294967296 * 65536 % 4294967296 = b * 65536 := by omega
  have e3 : c % 4294967296 * 256 % 4294967296 = c * 256 := by omega
  have e4 : d % 4294967296 = d := by omega
  have j1 := or_join (a * 16777216) (b * 65536) 24 (by omega) (by omega) (by omega) (by omega) (by omega) (by omega)
  have j2 := or_join (a * 16777216 + b * 65536) (c * 256) 16 (by omega) (by omega) (by omega) (by omega) (by omega) (by omega)
  have j3 := or_join (a * 16777216 + b * 65536 + c * 256) d 8 (by omega) (by omega) (by omega) (by omega) (by omega) (by omega)
  rw [e1, e2, e3, e4, j1, j2, j3]
theorem take_set (xs : List Int) (i : Nat) (v : Int) (h : i < xs.length) : (xs.set i v).take (i + 1) = xs.take i ++ [v] := by
  apply List.ext_getElem
  · simp; omega
  · intro j h1 h2
    simp at h1
    by_cases hj : j = i
    · subst hj; simp [List.getElem_append]; omega
    · have : j < i := by omega
      simp [List.getElem_append, this, Ne.symm hj]; omega
theorem rd_take (xs : List Int) (n : Nat) (j : Nat) (h : j < n) (hn : n ≤ xs.length) : rd (xs.take n) (j : Int) = xs.getD j 0 := by
  unfold rd
  simp [List.getElem?_take, h]
theorem rd_byte {l : List Int} (hb : Bytes8 l) (j : Nat) : 0 ≤ rd l j ∧ rd l j ≤ 255 := by
  unfold rd
  rw [Int.toNat_natCast, List.getD_eq_getElem?_getD]
  by_cases h : j < l.length
  · rw [List.getElem?_eq_getElem h]; exact hb _ (List.getElem_mem h)
  · rw [List.getElem?_eq_none (by omega)]; simp
theorem words_step0 (l : List Int) (hl : l.length = 64) (hb : Bytes8 l) (i : Nat) (hi : i < 16) (k : Nat) :
    rolodexref03_words.l0 (k + 1) l ((schedAt l i).take i) i = rolodexref03_words.l0 k l ((schedAt l (i + 1)).take (i + 1)) ((i + 1 : Nat) : Int) := by
  have w0 : wrap64 (4 * (i : Int)) = ((4 * i : Nat) : Int) := by unfold wrap64; omega
  have w1 : wrap64 (((4 * i : Nat) : Int) + 1) = ((4 * i + 1 : Nat) : Int) := by unfold wrap64; omega
  have w2 : wrap64 (((4 * i : Nat) : Int) + 2) = ((4 * i + 2 : Nat) : Int) := by unfold wrap64; omega
  have w3 : wrap64 (((4 * i : Nat) : Int) + 3) = ((4 * i + 3 : Nat) : Int) := by unfold wrap64; omega
  have w4 : wrap64 ((i : Int) + 1) = ((i + 1 : Nat) : Int) := by unfold wrap64; omega
  have hlen : ((schedAt l i).take i).length < 35184372088832 := by rw [List.length_take, schedAt_length]; omega
  simp only [rolodexref03_words.l0, w0, w1, w2, w3, w4, hl]
  rw [if_pos (by omega), if_pos (by omega), if_pos (by omega), if_pos (by omega), if_pos (by omega), if_pos (by omega), if_pos (by omega), if_pos (by omega), if_pos (by omega), if_pos hlen]
  congr 1
  simp only [schedAt, if_pos hi]
  rw [take_set _ _ _ (by rw [schedAt_length]; omega)]
  congr 2
  unfold be4
  have c0 : 4 * (i : Int) = ((4 * i : Nat) : Int) := by omega
  have c1 : 4 * (i : Int) + 1 = ((4 * i + 1 : Nat) : Int) := by omega
  have c2 : 4 * (i : Int) + 2 = ((4 * i + 2 : Nat) : Int) := by omega
  have c3 : 4 * (i : Int) + 3 = ((4 * i + 3 : Nat) : Int) := by omega
  rw [c1, c2, c3, c0, be4_sum _ _ _ _ (rd_byte hb _) (rd_byte hb _) (rd_byte hb _) (rd_byte hb _)]
  have h0 := rd_byte hb (4 * i)
  have h1 := rd_byte hb (4 * i + 1)
  have h2 := rd_byte hb (4 * i + 2)
  have h3 := rd_byte hb (4 * i + 3)
  omega
theorem words_step1 (l : List Int) (i : Nat) (hi : 16 ≤ i) (hi2 : i < 64) (k : Nat) :
    rolodexref03_words.l1 (k + 1) ((schedAt l i).take i) i = rolodexref03_words.l1 k ((schedAt l (i + 1)).take (i + 1)) ((i + 1 : Nat) : Int) := by
  have w0 : wrap64 ((i : Int) - 15) = ((i - 15 : Nat) : Int) := by unfold wrap64; omega
  have w1 : wrap64 ((i : Int) - 2) = ((i - 2 : Nat) : Int) := by unfold wrap64; omega
  have w2 : wrap64 ((i : Int) - 16) = ((i - 16 : Nat) : Int) := by unfold wrap64; omega
  have w3 : wrap64 ((i : Int) - 7) = ((i - 7 : Nat) : Int) := by unfold wrap64; omega
  have w4 : wrap64 ((i : Int) + 1) = ((i + 1 : Nat) : Int) := by unfold wrap64; omega
  have hlen : ((schedAt l i).take i).length = i := by rw [List.length_take, schedAt_length]; omega
  have t7 : ∀ x, rolodexref03_turned.f x 7 = some (rotr x 7) := fun x => turned_eq x 7 (by decide) (by decide)
  have t18 : ∀ x, rolodexref03_turned.f x 18 = some (rotr x 18) := fun x => turned_eq x 18 (by decide) (by decide)
  have t17 : ∀ x, rolodexref03_turned.f x 17 = some (rotr x 17) := fun x => turned_eq x 17 (by decide) (by decide)
  have t19 : ∀ x, rolodexref03_turned.f x 19 = some (rotr x 19) := fun x => turned_eq x 19 (by decide) (by decide)
  simp only [rolodexref03_words.l1, w0, w1, w2, w3, w4, hlen]
  rw [if_pos (by omega), if_pos (by omega), if_pos (by omega), if_pos (by omega), if_pos (by omega)]
  rw [t7, Option.bind_some, t18, Option.bind_some, t17, Option.bind_some, t19, Option.bind_some]
  rw [if_pos (by omega), if_pos (by omega), if_pos (by omega), if_pos (by omega), if_pos (by omega)]
  congr 1
  have hs : (schedAt l i).length = 64 := schedAt_length l i
  simp only [schedAt, if_neg (show ¬ i < 16 by omega)]
  rw [take_set _ _ _ (by omega), rd_take _ _ _ (by omega) (by omega), rd_take _ _ _ (by omega) (by omega), rd_take _ _ _ (by omega) (by omega), rd_take _ _ _ (by omega) (by omega)]
  congr 2
  unfold later mix0 mix1
  omega
theorem words_l1 (l : List Int) : ∀ (d i k : Nat), i + d = 64 → 16 ≤ i → d < k → rolodexref03_words.l1 k ((schedAt l i).take i) i = some (schedAt l 64)
  | 0, i, k, h, _, hk => by
    obtain ⟨k, rfl⟩ : ∃ m, k = m + 1 := ⟨k - 1, by omega⟩
    obtain rfl : i = 64 := by omega
    simp only [rolodexref03_words.l1]
    rw [if_neg (by omega), List.take_of_length_le (by rw [schedAt_length]; omega)]
  | d + 1, i, k, h, h2, hk => by
    obtain ⟨k, rfl⟩ : ∃ m, k = m + 1 := ⟨k - 1, by omega⟩
    rw [words_step1 l i h2 (by omega)]
    exact words_l1 l d (i + 1) k (by omega) (by omega) (by omega)
theorem words_l0 (l : List Int) (hl : l.length = 64) (hb : Bytes8 l) : ∀ (d i k : Nat), i + d = 16 → d + 50 < k → rolodexref03_words.l0 k l ((schedAt l i).take i) i = some (schedAt l 64)
  | 0, i, k, h, hk => by
    obtain ⟨k, rfl⟩ : ∃ m, k = m + 1 := ⟨k - 1, by omega⟩
    obtain rfl : i = 16 := by omega
    simp only [rolodexref03_words.l0]
    rw [if_neg (by omega)]
    exact words_l1 l 48 16 k (by omega) (by omega) (by omega)
  | d + 1, i, k, h, hk => by
    obtain ⟨k, rfl⟩ : ∃ m, k = m + 1 := ⟨k - 1, by omega⟩
    rw [words_step0 l hl hb i (by omega)]
    exact words_l0 l hl hb d (i + 1) k (by omega) (by omega)
theorem words_eq (l : List Int) (hl : l.length = 64) (hb : Bytes8 l) : rolodexref03_words.f 100 l = some (schedAt l 64) := words_l0 l hl hb 16 0 100 (by omega) (by omega)
end Go.Proofs.Ytenkaaigalcgcaa.X
