/- An array of bytes that came in, opened. -/
import Derived.ProofKit
import Derived.OpenShut
import Derived.Test.YtenkaaigalcgcaaSLess
namespace Go.Proofs.Ytenkaaigalcgcaa.X
set_option linter.unusedVariables false
open Go.ChangeShapes Go.WideShapes Go.ChangeAt Go.RowKit
theorem open_arr8 {H : Type} {enc : TypeId × Value → H} {P : Program} {w W : World} {base b0 : Nat} {spare : Nat → Bool} {held : Bool} {r : Reach} {t e : TypeId} {n : Nat} {v : Value} {d : DataW H} {p : List MemPlace}
    (hu : P.underlying t = some (.array n e)) (he : P.underlying e = some (.int .u8)) (hc : P.cellsOf e = 1) (hct : P.cellsOf t = n) (hv : Value.okWide P W r b0 t v) (h : DataW.Trod enc P w base spare held t v d p) :
    ∃ l : List Int, v = .agg (cells8 l) ∧ l.length = n ∧ ∀ x ∈ l, (Lit.int .u8 x).wf = true := by
  unfold Value.okWide at hv
  rw [hu] at hv
  obtain ⟨cs, rfl, hsz, _⟩ := hv
  obtain ⟨fuel, hf⟩ := h
  obtain ⟨xs, m, _, _, hl, hxl, hel⟩ := DataW.trod_array hu hf
  have hcl : cs.size = n := hsz.trans hct
  have hat : ∀ i (hi : i < n), ∃ x, cs[i]? = some (.int .u8 x) ∧ (Lit.int .u8 x).wf = true := by
    intro i hi
    have h1 := hel i hi
    rw [List.getElem?_eq_getElem (by omega)] at h1
    obtain ⟨x, hx, _, hw⟩ := DataW.trod_int he h1
    refine ⟨x, ?_, hw⟩
    rw [hc, Nat.mul_one] at hx
    have h2 := congrArg (·[0]?) hx
    simp only [Value.cells, List.getElem?_take, Nat.zero_lt_one, if_true, List.getElem?_drop, Nat.add_zero, List.getElem?_cons_zero] at h2
    simpa using h2
  refine ⟨cs.toList.map fun v => match v with | .int _ x => x | _ => 0, ?_, by simp [hcl], ?_⟩
  · congr 1
    apply Array.ext
    · simp [cells8]
    · intro i h1 h2
      obtain ⟨x, hx, _⟩ := hat i (by omega)
      have hx2 : cs[i] = .int .u8 x := by rw [Array.getElem?_eq_getElem h1] at hx; injection hx
      simp [cells8, hx2]
  · intro x hx
    obtain ⟨u, hu2, rfl⟩ := List.mem_map.1 hx
    obtain ⟨i, hi, rfl⟩ := List.mem_iff_getElem.1 hu2
    obtain ⟨y, hy, hw⟩ := hat i (by simpa [hcl] using hi)
    have hy2 : cs.toList[i] = .int .u8 y := by
      rw [Array.getElem?_eq_getElem (by simpa using hi)] at hy
      injection hy
    rw [hy2]
    exact hw
end Go.Proofs.Ytenkaaigalcgcaa.X
