/- Arrays that a call lays: the beginning state, the roots. -/
import Derived.Test.YtenkaaigalcgcaaXx0
import Derived.Laws.Tables
namespace Go.Proofs.Ytenkaaigalcgcaa.X
set_option linter.unusedVariables false
set_option linter.unusedSimpArgs false
open Go.RowKit Go.Proofs.YtenkaaigalcgcaaW.PrintWords Go.Proofs.YtenkaaigalcgcaaW.PrintLast Go.Proofs.YtenkaaigalcgcaaW.PrintMore

/-- The state that begins, the roots, as numbers. -/
def begunL : List Int := [1779033703, 3144134277, 1013904242, 2773480762, 1359893119, 2600822924, 528734635, 1541459225]
def rootsL : List Int := [1116352408, 1899447441, 3049323471, 3921009573, 961987163, 1508970993, 2453635748, 2870763221, 3624381080, 310598401, 607225278, 1426881987, 1925078388, 2162078206, 2614888103, 3248222580, 3835390401, 4022224774, 264347078, 604807628, 770255983, 1249150122, 1555081692, 1996064986, 2554220882, 2821834349, 2952996808, 3210313671, 3336571891, 3584528711, 113926993, 338241895, 666307205, 773529912, 1294757372, 1396182291, 1695183700, 1986661051, 2177026350, 2456956037, 2730485921, 2820302411, 3259730800, 3345764771, 3516065817, 3600352804, 4094571909, 275423344, 430227734, 506948616, 659060556, 883997877, 958139571, 1322822218, 1537002063, 1747873779, 1955562222, 2024104815, 2227730452, 2361852424, 2428436474, 2756734187, 3204031479, 3329325298]
/-- An array of words. -/
def wordsV (l : List Int) : Value := .agg (l.map (Value.int .u32)).toArray

/-- The roots' cells. -/
def rootsA : Array Value := (rootsL.map (Value.int .u32)).toArray
theorem rootsA_size : rootsA.size = 64 := by kernel_rfl
/-- A function's one result, a variable that holds an array. -/
theorem results_one {P : Program} {fn : Func} {p : Tmp} {ty : TypeId} (h : fn.results = #[.cell p ty]) (tmps : Array Value) (w : World) :
    (results fn tmps).run P w = ((asAddr (tmps.getD p undef)).run P w).andThen fun a w₁ => (loadVar ty a).run P w₁ := by
  simp only [results, h]
  simp [Sem.run_bind, Result.andThen]
theorem setRow_alloc (w : World) (old cs : Array Value) (t : TypeId) : (w.alloc (.cells old t (0, 0))).setRow w.heap.size cs = w.alloc (.cells cs t (0, 0)) := by
  unfold World.setRow World.alloc
  congr 1
  apply Array.ext
  · simp
  · intro k h1 h2
    simp only [Array.getElem_modify, Array.getElem_push]
    simp at h1
    by_cases hk : k < w.heap.size
    · rw [if_neg (by omega), dif_pos hk, dif_pos hk]
    · rw [if_pos (by omega), dif_neg hk, dif_neg hk]
/-- An array's cells, laid into a block that is new. -/
theorem store_new (w : World) (old cs : Array Value) (t : TypeId) (hs : old.size = cs.size) (h1 : cs.all (·.oneCell') = true) :
    (storeCells ⟨w.heap.size, 0, none⟩ cs.toList).run Try.prog (w.alloc (.cells old t (0, 0))) = .ok () (w.alloc (.cells cs t (0, 0))) := by
  have := run_storeCells_from (P := Try.prog) w.heap.size t cs.toList 0 old (w.alloc (.cells old t (0, 0))) (by show (w.heap.push _)[w.heap.size]? = _; simp) (by simp; omega) (fun v hv => (Array.all_eq_true_iff_forall_mem.1 h1) v (by simpa using hv))
  simp only [List.take_zero, List.nil_append, Array.toArray_toList] at this
  rw [setRow_alloc] at this
  exact this
set_option maxHeartbeats 1000000 in
set_option maxRecDepth 100000 in
theorem roots_call (w : World) : Calls Try.prog 17 #[] w fun e w' => e = .returned (.agg rootsA) ∧ Below w.heap.size w w' := by
  have hst := store_new w #[.int .u32 0, .int .u32 0, .int .u32 0, .int .u32 0, .int .u32 0, .int .u32 0, .int .u32 0, .int .u32 0, .int .u32 0, .int .u32 0, .int .u32 0, .int .u32 0, .int .u32 0, .int .u32 0, .int .u32 0, .int .u32 0, .int .u32 0, .int .u32 0, .int .u32 0, .int .u32 0, .int .u32 0, .int .u32 0, .int .u32 0, .int .u32 0, .int .u32 0, .int .u32 0, .int .u32 0, .int .u32 0, .int .u32 0, .int .u32 0, .int .u32 0, .int .u32 0, .int .u32 0, .int .u32 0, .int .u32 0, .int .u32 0, .int .u32 0, .int .u32 0, .int .u32 0, .int .u32 0, .int .u32 0, .int .u32 0, .int .u32 0, .int .u32 0, .int .u32 0, .int .u32 0, .int .u32 0, .int .u32 0, .int .u32 0, .int .u32 0, .int .u32 0, .int .u32 0, .int .u32 0, .int .u32 0, .int .u32 0, .int .u32 0, .int .u32 0, .int .u32 0, .int .u32 0, .int .u32 0, .int .u32 0, .int .u32 0, .int .u32 0, .int .u32 0] rootsA 42 (by kernel_rfl) (by kernel_rfl)
  go_enter Try.func17, Try.ntmps17
  go_wp2_with (first
    | ((with_reducible refine gate_dst (N := 1) rfl ?_); refine wpList_build rfl 42 _ rfl (by kernel_rfl) ?_; generalize hX : (Program.built _ _ _).getD #[] = X; obtain rfl : X = rootsA := hX.symm.trans (by kernel_rfl); clear hX)
    | fail)
  go_wp2_with fail
  refine bodyPost_ret (v := .agg rootsA) ?_ rfl ⟨rfl, ?_⟩
  · have hl := run_loadVar_row (P := Try.prog) (w.alloc (.cells rootsA 42)) w.heap.size 42 42 rootsA (0, 0) _ (by show (w.heap.push _)[w.heap.size]? = _; simp) (by rfl) (by kernel_rfl) (by kernel_rfl)
    rw [results_one (P := Try.prog) Try.results17]
    exact hl
  · exact below_alloc (Below.refl _ _) _

set_option maxHeartbeats 4000000 in
set_option maxRecDepth 100000 in
theorem begun_call (w : World) : Calls Try.prog 16 #[] w fun e w' => e = .returned (wordsV begunL) ∧ Below w.heap.size w w' := by
  go_enter Try.func16, Try.ntmps16
  go_wp2_with fail
  refine bodyPost_ret (v := wordsV begunL) ?_ rfl ⟨rfl, ?_⟩
  · simp [results, Try.results16, go_sem, wordsV, begunL]
  · exact below_alloc (Below.refl _ _) _

end Go.Proofs.Ytenkaaigalcgcaa.X
