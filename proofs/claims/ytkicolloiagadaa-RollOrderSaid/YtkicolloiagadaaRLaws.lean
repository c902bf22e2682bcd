import Derived.Test.YtkicolloiagadaaRMath
import Derived.Test.YtkicolloiagadaaXx6
namespace Go.Proofs.Ytkicolloiagadaa.X
set_option linter.unusedSimpArgs false
set_option linter.unusedVariables false
open Go.RowKit Go.Proofs.YtkicolloiagadaaW.PrintWords Go.Proofs.YtkicolloiagadaaW.PrintLast

/-- So many numbers from a place on. -/
def win (l : List Int) (m j : Nat) : List Int := (l.drop j).take m
theorem win_head (l : List Int) (m j : Nat) (hm : 0 < m) (h : j + m < l.length) :
    ∃ r, win l m j = l[j] :: r ∧ win l m (j + 1) = r ++ [l[j + m]] ∧ r.length + 1 = m := by
  obtain ⟨m, rfl⟩ : ∃ q, m = q + 1 := ⟨m - 1, by omega⟩
  refine ⟨(l.drop (j + 1)).take m, ?_, ?_, ?_⟩
  · unfold win
    rw [List.drop_eq_getElem_cons (by omega), List.take_succ_cons]
  · unfold win
    rw [List.take_succ_eq_append_getElem (by simp; omega)]
    simp only [List.getElem_drop, List.append_cancel_left_eq, List.cons.injEq, and_true]
    congr 1
    omega
  · simp; omega

theorem sumAt_eq (s : ByteArray) (many : Int) (h1 : 1 ≤ many) (j : Nat) (h : (j : Int) + many ≤ s.size) :
    sumAt s many (roll (win (bs s) many.toNat 0)) j = roll (win (bs s) many.toNat j) := by
  induction j with
  | zero => rfl
  | succ j ih =>
    obtain ⟨m, rfl⟩ : ∃ m : Nat, many = m := ⟨many.toNat, by omega⟩
    simp only [Int.toNat_natCast] at *
    obtain ⟨r, e1, e2, e3⟩ := win_head (bs s) m j (by omega) (by rw [bs_length]; omega)
    rw [sumAt, ih (by omega), nxt_eq, bt_eq s j (by omega), show (j : Int) + (m : Int) = ((j + m : Nat) : Int) by simp, bt_eq s (j + m) (by omega), e1, e2, ← next_roll]
    congr 1
    omega

def allI (s : ByteArray) (many : Int) : List Int :=
  if many < 1 then [] else if (s.size : Int) < many then [] else upto (fun j => roll (win (bs s) many.toNat j)) (s.size - many.toNat + 1)

theorem upto_congr {f g : Nat → Int} {k : Nat} (h : ∀ j, j < k → f j = g j) : upto f k = upto g k := by
  unfold upto
  exact List.map_congr_left fun j hj => h j (List.mem_range.1 hj)

theorem All_eq (s : ByteArray) (many : Int) (hs : s.size ≤ 35184372087999) (k : Nat) (hk : s.size < k) : roll_All.f k s many = some (allI s many) := by
  unfold roll_All.f allI
  by_cases h1 : many < 1
  · rw [if_pos h1, if_pos h1]
  rw [if_neg h1, if_neg h1]
  by_cases h2 : (s.size : Int) < many
  · rw [if_pos h2, if_pos h2]
  rw [if_neg h2, if_neg h2]
  have hz : (s.extract 0 many.toNat).size ≤ s.size := by simp; omega
  rw [Sum_eq _ (by omega) k (by omega)]
  simp only [Option.bind_some]
  rw [if_pos (by omega)]
  congr 1
  refine upto_congr fun j hj => ?_
  rw [← sumAt_eq s many (by omega) j (by omega), bs_extract]
  rfl

theorem awake_eq (k : Nat) (hk : 5 < k) : rolodexlaw09_awake.f k = some true := by
  unfold rolodexlaw09_awake.f
  have z1 : (⟨#[97, 98]⟩ : ByteArray).size = 2 := rfl
  have z2 : (⟨#[98, 99]⟩ : ByteArray).size = 2 := rfl
  have z3 : (⟨#[97, 98, 99]⟩ : ByteArray).size = 3 := rfl
  rw [Sum_eq _ (by omega) k (by omega), Sum_eq _ (by omega) k (by omega), All_eq _ _ (by omega) k (by omega)]
  simp only [Option.bind_some, next_some, nxt_eq]
  rw [if_pos (by decide), if_pos (by decide)]
  rfl

end Go.Proofs.Ytkicolloiagadaa.X
