/- The document's round is the code's. -/
import Derived.Test.YtenkaaigalcgcaaSTake
namespace Go.Proofs.Ytenkaaigalcgcaa.X
set_option linter.unusedVariables false
set_option linter.unusedSimpArgs false
open Go.RowKit
def Words (l : List Int) : Prop := ∀ x ∈ l, 0 ≤ x ∧ x < 4294967296
theorem words_get {l : List Int} (h : Words l) (i : Nat) : 0 ≤ l.getD i 0 ∧ l.getD i 0 < 4294967296 := by
  rw [List.getD_eq_getElem?_getD]
  by_cases hi : i < l.length
  · rw [List.getElem?_eq_getElem hi]; exact h _ (List.getElem_mem hi)
  · rw [List.getElem?_eq_none (by omega)]; simp
/-- The document's round. -/
def refT (xs : List Int) (k v : Int) : Int :=
  xs.getD 7 0 + bits .xor .u32 (bits .xor .u32 (rotr (xs.getD 4 0) 6) (rotr (xs.getD 4 0) 11)) (rotr (xs.getD 4 0) 25) + bits .or .u32 (bits .and .u32 (xs.getD 4 0) (xs.getD 5 0)) (bits .and .u32 ((4294967295 - xs.getD 4 0) % 4294967296) (xs.getD 6 0)) + k + v
def refU (xs : List Int) : Int :=
  bits .xor .u32 (bits .xor .u32 (rotr (xs.getD 0 0) 2) (rotr (xs.getD 0 0) 13)) (rotr (xs.getD 0 0) 22) + bits .or .u32 (bits .or .u32 (bits .and .u32 (xs.getD 0 0) (xs.getD 1 0)) (bits .and .u32 (xs.getD 0 0) (xs.getD 2 0))) (bits .and .u32 (xs.getD 1 0) (xs.getD 2 0))
def refL (xs : List Int) (k v : Int) : List Int :=
  [(refT xs k v + refU xs) % 4294967296, xs.getD 0 0, xs.getD 1 0, xs.getD 2 0, (xs.getD 3 0 + refT xs k v) % 4294967296, xs.getD 4 0, xs.getD 5 0, xs.getD 6 0]
theorem wrap_bv (b : BitVec 32) : IntKind.u32.wrap (b.toNat : Int) = b.toNat := by
  have := b.isLt
  simp [IntKind.wrap, IntKind.bits, IntKind.signed]
  omega
theorem and32 (x y : Int) : bits .and .u32 x y = ((BitVec.ofInt 32 x &&& BitVec.ofInt 32 y).toNat : Int) := wrap_bv _
theorem or32 (x y : Int) : bits .or .u32 x y = ((BitVec.ofInt 32 x ||| BitVec.ofInt 32 y).toNat : Int) := wrap_bv _
theorem xor32 (x y : Int) : bits .xor .u32 x y = ((BitVec.ofInt 32 x ^^^ BitVec.ofInt 32 y).toNat : Int) := wrap_bv _
theorem bv_back (b : BitVec 32) : BitVec.ofInt 32 (b.toNat : Int) = b := by
  rw [BitVec.ofInt_natCast]; simp
theorem bv_of {x : Int} (h : 0 ≤ x ∧ x < 4294967296) : ∃ b : BitVec 32, x = (b.toNat : Int) := by
  refine ⟨BitVec.ofNat 32 x.toNat, ?_⟩
  simp
  try omega
theorem not32 (b : BitVec 32) : bits .xor .u32 IntKind.u32.max (b.toNat : Int) = ((~~~b).toNat : Int) := by
  rw [xor32, bv_back]
  congr 2
theorem sub32 (b : BitVec 32) : (4294967295 - (b.toNat : Int)) % 4294967296 = ((~~~b).toNat : Int) := by
  have := b.isLt
  rw [BitVec.toNat_not]
  omega
theorem ch_bv (e f g : BitVec 32) : (e &&& f) ^^^ (~~~e &&& g) = (e &&& f) ||| (~~~e &&& g) := by
  ext i
  simp
  cases e[i] <;> cases f[i] <;> cases g[i] <;> rfl
theorem maj_bv (a b c : BitVec 32) : (a &&& b) ^^^ (a &&& c) ^^^ (b &&& c) = (a &&& b) ||| (a &&& c) ||| (b &&& c) := by
  ext i
  simp
  cases a[i] <;> cases b[i] <;> cases c[i] <;> rfl
theorem ch_eq {e f g : Int} (he : 0 ≤ e ∧ e < 4294967296) (hf : 0 ≤ f ∧ f < 4294967296) (hg : 0 ≤ g ∧ g < 4294967296) :
    bits .or .u32 (bits .and .u32 e f) (bits .and .u32 ((4294967295 - e) % 4294967296) g) = bits .xor .u32 (bits .and .u32 e f) (bits .and .u32 (bits .xor .u32 IntKind.u32.max e) g) := by
  obtain ⟨b, rfl⟩ := bv_of he
  obtain ⟨c, rfl⟩ := bv_of hf
  obtain ⟨d, rfl⟩ := bv_of hg
  rw [sub32, not32, and32, and32, or32, xor32]
  simp only [bv_back]
  rw [ch_bv]
theorem maj_eq {a b c : Int} (ha : 0 ≤ a ∧ a < 4294967296) (hb : 0 ≤ b ∧ b < 4294967296) (hc : 0 ≤ c ∧ c < 4294967296) :
    bits .or .u32 (bits .or .u32 (bits .and .u32 a b) (bits .and .u32 a c)) (bits .and .u32 b c) = bits .xor .u32 (bits .xor .u32 (bits .and .u32 a b) (bits .and .u32 a c)) (bits .and .u32 b c) := by
  obtain ⟨x, rfl⟩ := bv_of ha
  obtain ⟨y, rfl⟩ := bv_of hb
  obtain ⟨z, rfl⟩ := bv_of hc
  simp only [and32, or32, xor32, bv_back]
  rw [maj_bv]
theorem refT_eq {xs : List Int} (h : Words xs) (k v : Int) : refT xs k v = shaT xs k v := by
  unfold refT shaT
  rw [ch_eq (words_get h 4) (words_get h 5) (words_get h 6)]
theorem refU_eq {xs : List Int} (h : Words xs) : refU xs = shaU xs := by
  unfold refU shaU
  rw [maj_eq (words_get h 0) (words_get h 1) (words_get h 2)]
theorem ref_round {xs : List Int} (hl : xs.length = 8) (h : Words xs) (k v : Int) : refL xs k v = shaRound xs k v := by
  unfold refL shaRound
  rw [refT_eq h, refU_eq h]
  generalize shaT xs k v = T
  generalize shaU xs = U
  match xs, hl with
  | [x0, x1, x2, x3, x4, x5, x6, x7], _ => simp [splice]
theorem words_set {l : List Int} (h : Words l) (i : Nat) (v : Int) (hv : 0 ≤ v ∧ v < 4294967296) : Words (l.set i v) := by
  intro x hx
  rcases List.mem_or_eq_of_mem_set hx with h1 | h1
  · exact h x h1
  · rw [h1]; exact hv
theorem round_words {xs : List Int} (h : Words xs) (k v : Int) : Words (shaRound xs k v) := by
  unfold shaRound
  refine words_set (words_set ?_ _ _ (by omega)) _ _ (by omega)
  intro x hx
  unfold splice at hx
  simp only [List.mem_append] at hx
  rcases hx with hx | hx | hx
  · exact h x (List.mem_of_mem_take hx)
  · exact h x (List.mem_of_mem_take hx)
  · exact h x (List.mem_of_mem_drop hx)
theorem rounds_words {ss : List Int} (h : Words ss) (ws ks : List Int) : ∀ i, Words (shaRounds ss ws ks i)
  | 0 => h
  | i + 1 => round_words (rounds_words h ws ks i) _ _
theorem round_length {xs : List Int} (h : xs.length = 8) (k v : Int) : (shaRound xs k v).length = 8 := by
  unfold shaRound
  rw [List.length_set, List.length_set, length_splice _ _ _ (by rw [List.length_take, h]; decide), h]
theorem addUp_words {ss : List Int} (h : Words ss) (xs : List Int) : ∀ i, Words (addUp ss xs i)
  | 0 => h
  | i + 1 => words_set (addUp_words h xs i) _ _ (by omega)
/-- Three times an eighth. -/
theorem div_back (x : Int) (i : Nat) (h : i < 4) : x / 2 ^ (24 - 8 * i) % 256 = x / 256 ^ (3 - i) % 256 := by
  have : (2 : Int) ^ (24 - 8 * i) = 256 ^ (3 - i) := by
    obtain rfl | rfl | rfl | rfl : i = 0 ∨ i = 1 ∨ i = 2 ∨ i = 3 := by omega
    all_goals decide
  rw [this]
theorem div_step (x : Int) (n : Nat) : x / 256 ^ n / 256 = x / 256 ^ (n + 1) := by
  rw [Int.ediv_ediv_of_nonneg (Int.pow_nonneg (by decide)), ← Int.pow_succ]
end Go.Proofs.Ytenkaaigalcgcaa.X
