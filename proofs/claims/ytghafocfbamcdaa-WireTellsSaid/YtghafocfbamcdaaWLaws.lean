/- Reading, and the chapter's examples, in words of lists. -/
import Derived.Laws.Strings
import Derived.Test.YtghafocfbamcdaaWEq
import Derived.Test.YtghafocfbamcdaaXx6
namespace Go.Proofs.Ytghafocfbamcdaa.X
set_option linter.unusedVariables false
set_option linter.unusedSimpArgs false
open Go.RowKit Go.Proofs.YtghafocfbamcdaaW.PrintWords Go.Proofs.YtghafocfbamcdaaW.PrintLast Go.Proofs.YtghafocfbamcdaaW.PrintMore

/-- What is read of a list of which r is got. -/
def readR (l : List Int) (r : Int × Int × Bool) (a1 : Int) : ByteArray × Int × Bool :=
  if r.2.2 = true ∧ 0 ≤ a1 ∧ r.1 ≤ a1 ∧ r.1 ≤ (l.length : Int) - r.2.1 then (strOfNums ((l.drop r.2.1.toNat).take r.1.toNat), r.2.1 + r.1, true) else (⟨#[]⟩, 0, false)

theorem IsGet.used {l : List Int} {r : Int × Int × Bool} (h : IsGet l r) : 0 ≤ r.2.1 ∧ r.2.1 ≤ l.length ∧ 0 ≤ r.1 ∧ r.1 < 18446744073709551616 := by
  rcases h with ⟨m, hm, hp, rfl⟩ | ⟨hn, rfl⟩
  · have := hp.length_le
    exact ⟨by show (0 : Int) ≤ ((put m).length : Int); omega, by show ((put m).length : Int) ≤ _; omega, by show (0 : Int) ≤ (m : Int); omega, by show (m : Int) < _; omega⟩
  · exact ⟨by show (0 : Int) ≤ 0; omega, by show (0 : Int) ≤ _; omega, by show (0 : Int) ≤ 0; omega, by show (0 : Int) < _; omega⟩

theorem Read_of {l : List Int} {r : Int × Int × Bool} (h : IsGet l r) (hb : Bytes l) (hl : l.length ≤ 4611686018427387904) (a1 : Int) (k : Nat) (hk : 2 * l.length + 2 < k) :
    wire_Read.f k l a1 = some (readR l r a1) := by
  unfold wire_Read.f readR
  have hu := h.used
  rw [Get_eq h hb hl k hk]
  simp only [Option.bind_some]
  rw [if_pos ⟨hu.1, hu.2.1, hu.2.2.1, hl⟩]
  split <;> rfl

theorem put_300 : put 300 = [130, 44] := by
  unfold put
  rw [if_neg (by decide), more_small (by decide)]
  rfl
theorem put_2 : put 2 = [2] := by unfold put; rw [if_pos (by decide)]; rfl

theorem awake_eq (k : Nat) (hk : 50 < k) : rolodexlaw01_awake.f k = some true := by
  unfold rolodexlaw01_awake.f
  have e1 := Put_eq 300 (by decide) k (by omega)
  have e2 := Text_eq (⟨#[97, 98]⟩ : ByteArray) (by decide) k (by omega)
  have z : (⟨#[97, 98]⟩ : ByteArray).size = 2 := rfl
  have zb : bytesOf (⟨#[97, 98]⟩ : ByteArray) = [97, 98] := by rfl
  rw [z, zb, put_2] at e2
  rw [put_300] at e1
  have e3 := Get_eq (l := [130, 44]) (r := (300, 2, true)) (.inl ⟨300, by decide, by rw [put_300]; exact List.prefix_refl _, by rw [put_300]; rfl⟩) (by intro x hx; simp at hx; omega) (by simp) k (by simp; omega)
  have e4 := Read_of (l := [2, 97, 98]) (r := (2, 1, true)) (.inl ⟨2, by decide, by rw [put_2]; exact ⟨[97, 98], rfl⟩, by rw [put_2]; rfl⟩) (by intro x hx; simp at hx; omega) (by simp) 2 k (by simp; omega)
  rw [show ((300 : Nat) : Int) = 300 from rfl] at e1
  rw [e1]
  simp only [Option.bind_some]
  rw [e3, e2]
  simp only [Option.bind_some]
  have t1 : readR [2, 97, 98] (2, 1, true) 2 = (strOfNums [97, 98], 3, true) := rfl
  rw [show ([2] ++ [97, 98] : List Int) = [2, 97, 98] from rfl, e4, t1]
  simp only [Option.bind_some]
  rw [if_pos (by rfl), if_pos (by decide), if_pos (by rfl), if_pos (by decide), if_pos (by rfl)]
  simp only [if_true]
  rw [if_pos (by rw [ByteArray.toList_eq]; rfl)]

theorem strs_inj {l m : List Int} (hl : Bytes l) (hm : Bytes m) : (strOfNums l).toList = (strOfNums m).toList ↔ l = m := by
  refine ⟨fun h => ?_, fun h => by rw [h]⟩
  rw [ByteArray.toList_eq, ByteArray.toList_eq, strOfNums_data, strOfNums_data] at h
  have hlen : l.length = m.length := by simpa using congrArg List.length h
  apply List.ext_getElem hlen
  intro i h1 h2
  have := congrArg (fun z : List UInt8 => (z[i]?).map UInt8.toNat) h
  simp [h1, h2] at this
  have b1 := hl l[i] (List.getElem_mem h1)
  have b2 := hm m[i] (List.getElem_mem h2)
  omega

end Go.Proofs.Ytghafocfbamcdaa.X
