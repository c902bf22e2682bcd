/- Arrays of bytes compared; bytes that an entry of the library's reads. -/
import Derived.ChangeKeysEq
import Derived.Lib.BytesEntry
import Derived.Lib.Bytealg
import Derived.Test.YtenkaaigalcgcaaSSum
namespace Go.Proofs.Ytenkaaigalcgcaa.X
set_option linter.unusedVariables false
set_option linter.unusedSimpArgs false
open Go.RowKit Go.Proofs.YtenkaaigalcgcaaW.PrintWords Go.Proofs.YtenkaaigalcgcaaW.PrintLast Go.Proofs.YtenkaaigalcgcaaW.PrintMore

theorem part8 {P : Program} {w : World} {e : TypeId} (he : P.underlying e = some (.int .u8)) {a : List Int} {j : Nat} (hj : j < a.length) : (part e (cells8 a) (j * 1)).run P w = .ok (.int .u8 (a.getD j 0)) w := by
  simp [part, isAgg, run_underlying he, cells8, hj]
theorem eqItems8 {P : Program} {w : World} (d : Nat) {e : TypeId} (he : P.underlying e = some (.int .u8)) (hc : P.cellsOf e = 1) (a b : List Int) (n : Nat) (ha : a.length = n) (hb : b.length = n) :
    ∀ js : List Nat, (∀ j ∈ js, j < n) → (Op.eqItems (d + 1) e (P.cellsOf e) (cells8 a) (cells8 b) js).run P w = .ok (js.all fun j => a.getD j 0 == b.getD j 0) w := by
  intro js
  induction js with
  | nil => intro _; simp [Op.eqItems]
  | cons j js ih =>
    intro h
    have hj := h j (by simp)
    simp only [Op.eqItems, Sem.run_bind, hc]
    rw [part8 he (by omega), Result.andThen_ok, part8 he (by omega), Result.andThen_ok, run_equalIn_int w d e .u8 .u8 _ _ he, Result.andThen_ok]
    have h2 := ih (fun k hk => h k (by simp [hk]))
    rw [hc] at h2
    cases hq : (a.getD j 0 == b.getD j 0)
    · rw [List.all_cons, hq]; simp
    · rw [List.all_cons, hq, Bool.true_and, ← h2]; simp
theorem all_eq (a b : List Int) (n : Nat) (ha : a.length = n) (hb : b.length = n) : ((List.range n).all fun j => a.getD j 0 == b.getD j 0) = (a == b) := by
  rw [Bool.eq_iff_iff, List.all_eq_true, beq_iff_eq]
  constructor
  · intro h
    apply List.ext_getElem (by omega)
    intro i h1 h2
    have := h i (by simp; omega)
    simpa [h1, h2] using this
  · rintro rfl
    simp
theorem equal8 {P : Program} {w : World} {t e : TypeId} {n : Nat} {i : TypeInfo} (hu : P.underlying t = some (.array n e)) (hi : P.info? e = some i) (he : P.underlying e = some (.int .u8)) (hc : P.cellsOf e = 1) (a b : List Int) (ha : a.length = n) (hb : b.length = n) :
    (Op.equalIn 10000 t (.agg (cells8 a)) (.agg (cells8 b))).run P w = .ok (a == b) w := by
  rw [run_equalIn_array w 9999 _ _ hu hi, eqItems8 9998 he hc a b n ha hb _ (fun j hj => List.mem_range.1 hj), all_eq a b n ha hb]
theorem eql8 {P : Program} {w : World} {t e : TypeId} {n : Nat} {i : TypeInfo} (hu : P.underlying t = some (.array n e)) (hi : P.info? e = some i) (he : P.underlying e = some (.int .u8)) (hc : P.cellsOf e = 1) (a b : List Int) (ha : a.length = n) (hb : b.length = n) :
    (binOp .eql t (.agg (cells8 a)) (.agg (cells8 b))).run P w = .ok (.bool (a == b)) w := by
  rw [run_eql_struct, equal8 hu hi he hc a b ha hb]; rfl
theorem neq8 {P : Program} {w : World} {t e : TypeId} {n : Nat} {i : TypeInfo} (hu : P.underlying t = some (.array n e)) (hi : P.info? e = some i) (he : P.underlying e = some (.int .u8)) (hc : P.cellsOf e = 1) (a b : List Int) (ha : a.length = n) (hb : b.length = n) :
    (binOp .neq t (.agg (cells8 a)) (.agg (cells8 b))).run P w = .ok (.bool (!(a == b))) w := by
  rw [run_neq_struct, equal8 hu hi he hc a b ha hb]; rfl

end Go.Proofs.Ytenkaaigalcgcaa.X
