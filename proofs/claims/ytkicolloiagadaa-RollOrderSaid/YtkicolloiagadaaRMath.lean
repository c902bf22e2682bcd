import Derived.Test.YtkicolloiagadaaRAll
import Derived.Laws.BitsLemmas
namespace Go.Proofs.Ytkicolloiagadaa.X
set_option linter.unusedSimpArgs false
set_option linter.unusedVariables false
open Go.RowKit Go.Proofs.YtkicolloiagadaaW.PrintWords Go.Proofs.YtkicolloiagadaaW.PrintLast

/-! ### Sums over lists -/
def sA : List Int → Int
  | [] => 0
  | x :: l => x + sA l
def sB : List Int → Int
  | [] => 0
  | x :: l => ((l.length : Int) + 1) * x + sB l
theorem sA_append (l m : List Int) : sA (l ++ m) = sA l + sA m := by
  induction l with
  | nil => simp [sA]
  | cons x l ih => simp only [List.cons_append, sA, ih]; omega
theorem sB_append (l m : List Int) : sB (l ++ m) = sB l + (m.length : Int) * sA l + sB m := by
  induction l with
  | nil => simp [sB, sA]
  | cons x l ih =>
    simp only [List.cons_append, sB, sA, ih, List.length_append, Int.natCast_add, Int.mul_add, Int.add_mul]
    omega
theorem sB_snoc (l : List Int) (x : Int) : sB (l ++ [x]) = sB l + sA l + x := by
  rw [sB_append]; simp [sB]
theorem sA_snoc (l : List Int) (x : Int) : sA (l ++ [x]) = sA l + x := by
  rw [sA_append]; simp [sA]

/-- The bytes of a text as numbers. -/
def bs (s : ByteArray) : List Int := s.data.toList.map fun c => (c.toNat : Int)
theorem bs_length (s : ByteArray) : (bs s).length = s.size := by simp [bs]
theorem bt_eq (s : ByteArray) (i : Nat) (h : i < s.size) : bt s i = (bs s)[i]'(by rw [bs_length]; exact h) := by
  simp [bt, bs, h]
  rfl
theorem bs_range (s : ByteArray) (i : Nat) (h : i < (bs s).length) : 0 ≤ (bs s)[i] ∧ (bs s)[i] ≤ 255 := by
  simp only [bs, List.getElem_map]
  have := (s.data.toList[i]'(by simpa [bs] using h)).toNat_lt
  omega
theorem take_snoc (l : List Int) (i : Nat) (h : i < l.length) : l.take (i + 1) = l.take i ++ [l[i]] := by
  rw [List.take_succ_eq_append_getElem h]
theorem bs_append (s t : ByteArray) : bs (s ++ t) = bs s ++ bs t := by simp [bs]
theorem bs_extract (s : ByteArray) (i j : Nat) : bs (s.extract i j) = ((bs s).drop i).take (j - i) := by
  simp [bs]

/-- The rolling check of a list. -/
def roll (l : List Int) : Int := 65536 * (sB l % 65536) + sA l % 65536

theorem u16_wrap (n : Int) : IntKind.u16.wrap n = n % 65536 := by simp [IntKind.wrap, IntKind.bits, IntKind.signed]

theorem wraps_u32 (n : Int) (h₀ : 0 ≤ n) (h₁ : n < 2 ^ 32) : IntKind.u32.wrap n = n := by rw [IntKind.wrap_u32]; omega

theorem pair_eq (a b : Int) (ha : 0 ≤ a) (ha' : a < 65536) (hb : 0 ≤ b) (hb' : b < 65536) : roll_pair.f a b = some (65536 * b + a) := by
  unfold roll_pair.f
  rw [show b % 4294967296 = b by omega, show b * 65536 % 4294967296 = b * 65536 by omega, show a % 4294967296 = a by omega]
  rw [bits_join .u32 32 (by decide) wraps_u32 16 _ _ (by omega) (by omega) (by omega) ha (by omega) (by omega)]
  congr 1; omega

theorem wrap64_small (n : Int) (h0 : -9223372036854775808 ≤ n) (h1 : n ≤ 9223372036854775807) : wrap64 n = n := by unfold wrap64; omega

theorem sum_l0 (s : ByteArray) (hs : s.size ≤ 140737488351232) (d : Nat) : ∀ (k i : Nat), i ≤ s.size → s.size - i = d → d < k →
    roll_Sum.l0 k s (sA ((bs s).take i) % 65536) (sB ((bs s).take i) % 65536) (s.size : Int) (i : Int) = some (roll (bs s)) := by
  induction d with
  | zero =>
    intro k i h0 hd hk
    obtain ⟨k, rfl⟩ : ∃ m, k = m + 1 := ⟨k - 1, by omega⟩
    obtain rfl : i = s.size := by omega
    simp only [roll_Sum.l0]
    rw [if_neg (by omega), pair_eq _ _ (by omega) (by omega) (by omega) (by omega), List.take_of_length_le (by rw [bs_length]; omega)]
    rfl
  | succ d ih =>
    intro k i h0 hd hk
    obtain ⟨k, rfl⟩ : ∃ m, k = m + 1 := ⟨k - 1, by omega⟩
    have hlt : i < s.size := by omega
    simp only [roll_Sum.l0]
    rw [if_pos (by omega), if_pos (by omega), if_pos (by omega), wrap64_small _ (by omega) (by omega)]
    have e := ih k (i + 1) (by omega) (by omega) (by omega)
    rw [take_snoc _ _ (by rw [bs_length]; exact hlt), sA_snoc, sB_snoc, ← bt_eq s i hlt] at e
    rw [show ((i + 1 : Nat) : Int) = (i : Int) + 1 by simp] at e
    simp only [u16_wrap]
    rw [← e]
    congr 1 <;> omega

theorem Sum_eq (s : ByteArray) (hs : s.size ≤ 140737488351232) (k : Nat) (hk : s.size < k) : roll_Sum.f k s = some (roll (bs s)) := by
  unfold roll_Sum.f
  have := sum_l0 s hs s.size k 0 (by omega) (by omega) hk
  simpa [sA, sB] using this

/-- What is next, of numbers. -/
def nextI (sum many out inn : Int) : Int :=
  65536 * ((sum / 65536 - many * out + (sum - out + inn)) % 65536) + (sum - out + inn) % 65536

theorem nxt_eq (a b c d : Int) : nxt a b c d = nextI a b c d := by
  unfold nxt roll_Next.f
  simp only [u16_wrap]
  rw [pair_eq _ _ (by omega) (by omega) (by omega) (by omega)]
  simp only [Option.bind_some, Option.getD_some, nextI]
  have e1 : ((a % 65536 - c % 65536) % 65536 + d % 65536) % 65536 = (a - c + d) % 65536 := by omega
  have e2 : (b % 65536 * (c % 65536)) % 65536 = (b * c) % 65536 := by rw [← Int.mul_emod]
  rw [e1, e2]
  congr 2
  generalize b * c = m
  generalize a / 65536 = q
  omega

/-- The check of the part a place further. -/
theorem next_roll (l : List Int) (x y : Int) : nextI (roll (x :: l)) ((l.length : Int) + 1) x y = roll (l ++ [y]) := by
  have e1 : roll (x :: l) / 65536 = sB (x :: l) % 65536 := by unfold roll; omega
  unfold nextI
  rw [e1]
  unfold roll
  rw [sA_snoc, sB_snoc]
  simp only [sA, sB]
  generalize ((l.length : Int) + 1) * x = m
  omega

end Go.Proofs.Ytkicolloiagadaa.X
