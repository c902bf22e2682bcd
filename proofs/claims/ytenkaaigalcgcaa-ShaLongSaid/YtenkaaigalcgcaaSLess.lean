/- Digests compared: the walks. -/
import Derived.Test.YtenkaaigalcgcaaSEq
namespace Go.Proofs.Ytenkaaigalcgcaa.X
set_option linter.unusedVariables false
set_option linter.unusedSimpArgs false
open Go.RowKit Go.Proofs.YtenkaaigalcgcaaW.PrintWords Go.Proofs.YtenkaaigalcgcaaW.PrintLast Go.Proofs.YtenkaaigalcgcaaW.PrintMore

theorem Blk8.load {P : Program} {w : World} {g : Nat} {t : TypeId} {xs : List Int} (h : Blk8 w g t xs) (n : Nat) (hn : xs.length = n) : (loadCellsFrom ⟨g, 0, none⟩ 0 n #[]).run P w = .ok (cells8 xs) w := by
  have := run_loadCells_list (P := P) w ⟨g, 0, none⟩ (cells8 xs).toList (fun j v hv => by
    rw [add_plain, cell_of_row w g j _ t (0, 0) h]
    simpa [cells8] using hv)
  simpa [loadCells, cells8, hn] using this
theorem Blk8.reads {w : World} {g : Nat} {t : TypeId} {xs : List Int} (h : Blk8 w g t xs) (hm : xs.length ≤ 1000000000) : RdB w (some ⟨g, 0, none⟩) xs.length xs :=
  Kd.C_of_reads (d := (0 : Int)) (h1 := fun _ => rfl) ⟨rfl, by omega, fun _ => ⟨_, rfl, fun j hj => by rw [add_plain]; exact h.cell hj⟩⟩
theorem rdb_bytes {P : Program} {w : World} {A : Option Addr} {l : List Int} (h : RdB w A l.length l) (c : Nat) : (Extern.Bytes.bytesOf (.slice A l.length c)).run P w = .ok ⟨(Lib.bytesOf l).toArray⟩ w := by
  cases A with
  | none =>
    have h0 := rdb_nil h
    obtain rfl : l = [] := List.eq_nil_of_length_eq_zero h0
    simp [Extern.Bytes.bytesOf, Lib.bytesOf]
    rfl
  | some ad =>
    have := Lib.run_loadBytesX (P := P) w l ad .empty (fun j x hj => by
      have hjl : j < l.length := (List.getElem?_eq_some_iff.1 hj).1
      obtain ⟨ad2, e, hc⟩ := Kd.at_int h (j : Int) (by omega) (by omega)
      obtain rfl : ad = ad2 := by injection e
      rw [Int.toNat_natCast] at hc
      rw [hc]
      simp [rd, hj])
    simp only [Extern.Bytes.bytesOf]
    rw [this]
    simp [show ByteArray.empty.data = #[] from rfl]
theorem exec_load_row {P : Program} {a : Act} {o : Oper} {W : World} (ty : TypeId) (x : Operand) (ho : o.op = .load ty x) (g : Nat) (hx : a.eval x = .pointer (some ⟨g, 0, none⟩)) (t : TypeId) (cs : Array Value) (fr : Nat × Nat) (d : TypeDesc) (hg : W.heap[g]? = some (.cells cs t fr))
    (hu : P.underlying ty = some d) (hd : (match d with | .struct _ | .array _ _ => true | _ => false) = true) (hi : (P.info? ty).map (·.size) = some cs.size) : (execOp a.eval o).run P W = .ok (.value (.agg cs)) W := by
  have h := run_loadVar_row (P := P) W g t ty cs fr d hg hu hd hi
  simp only [execOp, ho, hx, Instr.loadAt, Instr.sureAddr, Sem.run_bind, Sem.run_pure, Result.andThen_ok, h]
theorem wpList_load_row_g {P : Program} {ops : Array Oper} {rest : List Oper} {o : Oper} {a : Act} {w : World} {Q : Exit → Act → World → Prop} (hgd : Region.wanted o (yielded ops a.tmps) = true) (ty : TypeId) (x : Operand) (ho : o.op = .load ty x)
    (g : Nat) (hx : a.eval x = .pointer (some ⟨g, 0, none⟩)) (t : TypeId) (cs : Array Value) (fr : Nat × Nat) (d : TypeDesc) (hg : w.heap[g]? = some (.cells cs t fr))
    (hu : P.underlying ty = some d) (hd : (match d with | .struct _ | .array _ _ => true | _ => false) = true) (hi : (P.info? ty).map (·.size) = some cs.size)
    (h : wpList P ops Q rest (a.put o.dst (.agg cs)) w) : wpList P ops Q (o :: rest) a w := by
  unfold wpList
  rw [if_pos hgd]
  exact .inl (wp_load_row ty x ho g hx t cs fr d hg hu hd hi h)
theorem exec_load24 {a : Act} {o : Oper} {W : World} (x : Operand) (ho : o.op = .load 24 x) (g : Nat) (hx : a.eval x = .pointer (some ⟨g, 0, none⟩)) (xs : List Int) (hl : xs.length = 32) (h : Blk8 W g 24 xs) : (execOp a.eval o).run Try.prog W = .ok (.value (.agg (cells8 xs))) W :=
  exec_load_row 24 x ho g hx 24 (cells8 xs) (0, 0) _ h Try.underlying24 rfl (by rw [cells8_size, hl]; kernel_rfl)
def cmpL (a b : List Int) : Int := Lib.compareBytes (Lib.bytesOf a) (Lib.bytesOf b)
def lessL (a b : List Int) : Bool := !(a == b) && decide (cmpL a b < 0)

set_option maxHeartbeats 1000000 in
set_option maxRecDepth 100000 in
theorem compare_call (A B : Option Addr) (c d : Nat) (a b : List Int) (w : World) (ha : RdB w A a.length a) (hb : RdB w B b.length b) :
    Calls Try.prog 23 #[.slice A a.length c, .slice B b.length d] w fun e w' => e = .returned (.int .i64 (cmpL a b)) ∧ w = w' := by
  have hrun : (Extern.BytealgCompare.compare #[.slice A a.length c, .slice B b.length d]).run Try.prog w = .ok (.int .i64 (cmpL a b)) w := by
    change Sem.run Try.prog (do pure (goInt (Extern.BytealgCompare.cmp (← Extern.Bytes.bytesOf (.slice A a.length c)) (← Extern.Bytes.bytesOf (.slice B b.length d))))) w = _
    simp only [Sem.run_bind, rdb_bytes ha, rdb_bytes hb, Sem.run_pure, Result.andThen]
    rw [Lib.cmp_eq]
    rfl
  have HRUN := Aside0.mk hrun
  clear hrun ha hb
  go_enter Try.func23, Try.ntmps23
  go_wp2
  rw [run_callFunc_extern Try.func26 (by kernel_rfl) (by kernel_rfl) (by kernel_rfl) (e := Extern.BytealgCompare.compare) (by kernel_rfl), HRUN.out]
  simp only [Result.andThen]
  rw [Oper.upon_value]
  go_wp2
  go_ret
  exact ⟨rfl, rfl⟩

theorem cells5 : Try.prog.cellsOf 5 = 1 := by kernel_rfl
theorem Try.info5i : Try.prog.info? 5 = some Try.t5 := by kernel_rfl
theorem guard24 : Try.prog.eqGuardType Try.prog.depth 24 = false := by kernel_rfl
theorem cmp32_call (g h : Nat) (a b : List Int) (w : World) (ha : Blk8 w g 24 a) (hb : Blk8 w h 24 b) (hal : a.length = 32) (hbl : b.length = 32) :
    Calls Try.prog 23 #[.slice (some ⟨g, 0, none⟩) 32 32, .slice (some ⟨h, 0, none⟩) 32 32] w fun e w' => e = .returned (.int .i64 (cmpL a b)) ∧ w = w' := by
  have := compare_call (some ⟨g, 0, none⟩) (some ⟨h, 0, none⟩) 32 32 a b w (ha.reads (by omega)) (hb.reads (by omega))
  rw [hal, hbl] at this
  exact this
set_option maxHeartbeats 1000000 in
set_option maxRecDepth 100000 in
theorem less_no (a b : List Int) (w : World) (hal : a.length = 32) (hbl : b.length = 32) (hab : (a == b) = true) :
    Calls Try.prog 14 #[.agg (cells8 a), .agg (cells8 b)] w fun e w' => e = .returned (.bool false) ∧ Below w.heap.size w w' := by
  have HA := Aside0.mk hal
  have HB := Aside0.mk hbl
  have g24 := guard24
  have hza : (cells8 a).size = 32 := by rw [cells8_size, hal]
  have hzb : (cells8 b).size = 32 := by rw [cells8_size, hbl]
  have HS : Blk8 ((w.alloc (.cells (cells8 a) 24 (0, 0))).alloc (.cells (cells8 b) 24 (0, 0))).drew w.heap.size 24 a ∧ Blk8 ((w.alloc (.cells (cells8 a) 24 (0, 0))).alloc (.cells (cells8 b) 24 (0, 0))).drew (w.heap.size + 1) 24 b := ⟨heap_alloc2_old w _ _, heap_alloc2_new w _ _⟩
  clear hal hbl
  go_enter Try.func14, Try.ntmps14
  go_wp2_with fail
  refine wp_region_held_drew (S := (fun W => Blk8 W w.heap.size 24 a ∧ Blk8 W (w.heap.size + 1) 24 b)) (by kernel_rfl) (HS) (fun hHeld => ?_)
  refine wpAnyH_take (i := 0) (v := ?_) (by simp only [List.getElem?_toArray, List.getElem?_cons_succ, List.getElem?_cons_zero]; rfl) (by kernel_rfl) (by kernel_rfl) (by kernel_rfl) (by intro _ _ _ h; exact h) (Or.inl ⟨by rfl, ?hy⟩) (by assumption) ?_
  case hy => (intro W_ hW_; refine Eq.trans (exec_load24 (.tmp 2) ?_ w.heap.size ?_ a HA.out hW_.1) ?_ <;> (first | with_reducible rfl | rfl))
  try simp only [Act.put, List.setIfInBounds_toArray, List.set_cons_zero, List.set_cons_succ]
  refine wpAnyH_take (i := 1) (v := ?_) (by simp only [List.getElem?_toArray, List.getElem?_cons_succ, List.getElem?_cons_zero]; rfl) (by kernel_rfl) (by kernel_rfl) (by kernel_rfl) (by intro _ _ _ h; exact h) (Or.inl ⟨by rfl, ?hy⟩) (by assumption) ?_
  case hy => (intro W_ hW_; refine Eq.trans (exec_load24 (.tmp 3) ?_ (w.heap.size + 1) ?_ b HB.out hW_.2) ?_ <;> (first | with_reducible rfl | rfl))
  try simp only [Act.put, List.setIfInBounds_toArray, List.set_cons_zero, List.set_cons_succ]
  refine wpAnyH_take (i := 2) (v := ?_) (by simp only [List.getElem?_toArray, List.getElem?_cons_succ, List.getElem?_cons_zero]; rfl) (by kernel_rfl) (by kernel_rfl) (by kernel_rfl) (by intro _ _ _ h; exact h) (Or.inl ⟨by rfl, ?hy⟩) (by assumption) ?_
  case hy => (intro W_ hW_; have f_ := equal8 (w := W_) Try.underlying24 Try.info5i Try.underlying5 cells5 a b HA.out HB.out; go_simp; first | done | with_reducible rfl)
  try simp only [Act.put, List.setIfInBounds_toArray, List.set_cons_zero, List.set_cons_succ]
  refine wpAnyH_take (i := 3) (v := ?_) (by simp only [List.getElem?_toArray, List.getElem?_cons_succ, List.getElem?_cons_zero]; rfl) (by kernel_rfl) (by kernel_rfl) (by kernel_rfl) (by intro _ _ _ h; exact h) (Or.inl ⟨by rfl, ?hy⟩) (by assumption) ?_
  case hy => (intro W_ hW_; go_simp; first | done | with_reducible rfl)
  try simp only [Act.put, List.setIfInBounds_toArray, List.set_cons_zero, List.set_cons_succ]
  refine wpAnyH_take (i := 4) (v := undef) (by simp only [List.getElem?_toArray, List.getElem?_cons_succ, List.getElem?_cons_zero]; rfl) (by kernel_rfl) (by kernel_rfl) (by kernel_rfl) (by intro _ _ _ h; exact h) (Or.inr ⟨by rfl, rfl⟩) (by assumption) ?_
  try simp only [Act.put, List.setIfInBounds_toArray, List.set_cons_zero, List.set_cons_succ]
  refine wpAnyH_take (i := 5) (v := undef) (by simp only [List.getElem?_toArray, List.getElem?_cons_succ, List.getElem?_cons_zero]; rfl) (by kernel_rfl) (by kernel_rfl) (by kernel_rfl) (by intro _ _ _ h; exact h) (Or.inr ⟨by rfl, rfl⟩) (by assumption) ?_
  try simp only [Act.put, List.setIfInBounds_toArray, List.set_cons_zero, List.set_cons_succ]
  refine wpAnyH_take (i := 6) (v := undef) (by simp only [List.getElem?_toArray, List.getElem?_cons_succ, List.getElem?_cons_zero]; rfl) (by kernel_rfl) (by kernel_rfl) (by kernel_rfl) (by intro _ _ _ h; exact h) (Or.inr ⟨by rfl, rfl⟩) (by assumption) ?_
  try simp only [Act.put, List.setIfInBounds_toArray, List.set_cons_zero, List.set_cons_succ]
  refine wpAnyH_take (i := 7) (v := undef) (by simp only [List.getElem?_toArray, List.getElem?_cons_succ, List.getElem?_cons_zero]; rfl) (by kernel_rfl) (by kernel_rfl) (by kernel_rfl) (by intro _ _ _ h; exact h) (Or.inr ⟨by rfl, rfl⟩) (by assumption) ?_
  try simp only [Act.put, List.setIfInBounds_toArray, List.set_cons_zero, List.set_cons_succ]
  refine wpAnyH_take (i := 8) (v := ?_) (by simp only [List.getElem?_toArray, List.getElem?_cons_succ, List.getElem?_cons_zero]; rfl) (by kernel_rfl) (by kernel_rfl) (by kernel_rfl) (by intro _ _ _ h; exact h) (Or.inl ⟨by rfl, ?hy⟩) (by assumption) ?_
  case hy => (intro W_ hW_; go_simp; first | done | with_reducible rfl)
  try simp only [Act.put, List.setIfInBounds_toArray, List.set_cons_zero, List.set_cons_succ]
  refine wpAnyH_take (i := 9) (v := ?_) (by simp only [List.getElem?_toArray, List.getElem?_cons_succ, List.getElem?_cons_zero]; rfl) (by kernel_rfl) (by kernel_rfl) (by kernel_rfl) (by intro _ _ _ h; exact h) (Or.inl ⟨by rfl, ?hy⟩) (by assumption) ?_
  case hy => (intro W_ hW_; go_simp; first | done | with_reducible rfl)
  try simp only [Act.put, List.setIfInBounds_toArray, List.set_cons_zero, List.set_cons_succ]
  refine wpAnyH_done (by kernel_rfl) ?_ _
  go_wp2_with fail
  go_ret
  exact ⟨rfl, below_drew (below_alloc (below_alloc (Below.refl _ _) _) _)⟩
set_option maxHeartbeats 1000000 in
set_option maxRecDepth 100000 in
theorem less_yes (a b : List Int) (w : World) (hal : a.length = 32) (hbl : b.length = 32) (hab : (a == b) = false) :
    Calls Try.prog 14 #[.agg (cells8 a), .agg (cells8 b)] w fun e w' => e = .returned (.bool (decide (cmpL a b < 0))) ∧ Below w.heap.size w w' := by
  have HA := Aside0.mk hal
  have HB := Aside0.mk hbl
  have g24 := guard24
  have hza : (cells8 a).size = 32 := by rw [cells8_size, hal]
  have hzb : (cells8 b).size = 32 := by rw [cells8_size, hbl]
  have HS : Blk8 ((w.alloc (.cells (cells8 a) 24 (0, 0))).alloc (.cells (cells8 b) 24 (0, 0))).drew w.heap.size 24 a ∧ Blk8 ((w.alloc (.cells (cells8 a) 24 (0, 0))).alloc (.cells (cells8 b) 24 (0, 0))).drew (w.heap.size + 1) 24 b := ⟨heap_alloc2_old w _ _, heap_alloc2_new w _ _⟩
  clear hal hbl
  go_enter Try.func14, Try.ntmps14
  go_wp2_with fail
  refine wp_region_held_drew (S := (fun W => Blk8 W w.heap.size 24 a ∧ Blk8 W (w.heap.size + 1) 24 b)) (by kernel_rfl) (HS) (fun hHeld => ?_)
  refine wpAnyH_take (i := 0) (v := ?_) (by simp only [List.getElem?_toArray, List.getElem?_cons_succ, List.getElem?_cons_zero]; rfl) (by kernel_rfl) (by kernel_rfl) (by kernel_rfl) (by intro _ _ _ h; exact h) (Or.inl ⟨by rfl, ?hy⟩) (by assumption) ?_
  case hy => (intro W_ hW_; refine Eq.trans (exec_load24 (.tmp 2) ?_ w.heap.size ?_ a HA.out hW_.1) ?_ <;> (first | with_reducible rfl | rfl))
  try simp only [Act.put, List.setIfInBounds_toArray, List.set_cons_zero, List.set_cons_succ]
  refine wpAnyH_take (i := 1) (v := ?_) (by simp only [List.getElem?_toArray, List.getElem?_cons_succ, List.getElem?_cons_zero]; rfl) (by kernel_rfl) (by kernel_rfl) (by kernel_rfl) (by intro _ _ _ h; exact h) (Or.inl ⟨by rfl, ?hy⟩) (by assumption) ?_
  case hy => (intro W_ hW_; refine Eq.trans (exec_load24 (.tmp 3) ?_ (w.heap.size + 1) ?_ b HB.out hW_.2) ?_ <;> (first | with_reducible rfl | rfl))
  try simp only [Act.put, List.setIfInBounds_toArray, List.set_cons_zero, List.set_cons_succ]
  refine wpAnyH_take (i := 2) (v := ?_) (by simp only [List.getElem?_toArray, List.getElem?_cons_succ, List.getElem?_cons_zero]; rfl) (by kernel_rfl) (by kernel_rfl) (by kernel_rfl) (by intro _ _ _ h; exact h) (Or.inl ⟨by rfl, ?hy⟩) (by assumption) ?_
  case hy => (intro W_ hW_; have f_ := equal8 (w := W_) Try.underlying24 Try.info5i Try.underlying5 cells5 a b HA.out HB.out; go_simp; first | done | with_reducible rfl)
  try simp only [Act.put, List.setIfInBounds_toArray, List.set_cons_zero, List.set_cons_succ]
  refine wpAnyH_take (i := 3) (v := ?_) (by simp only [List.getElem?_toArray, List.getElem?_cons_succ, List.getElem?_cons_zero]; rfl) (by kernel_rfl) (by kernel_rfl) (by kernel_rfl) (by intro _ _ _ h; exact h) (Or.inl ⟨by rfl, ?hy⟩) (by assumption) ?_
  case hy => (intro W_ hW_; go_simp; first | done | with_reducible rfl)
  try simp only [Act.put, List.setIfInBounds_toArray, List.set_cons_zero, List.set_cons_succ]
  refine wpAnyH_take (i := 4) (v := ?_) (by simp only [List.getElem?_toArray, List.getElem?_cons_succ, List.getElem?_cons_zero]; rfl) (by kernel_rfl) (by kernel_rfl) (by kernel_rfl) (by intro _ _ _ h; exact h) (Or.inl ⟨by rfl, ?hy⟩) (by assumption) ?_
  case hy => (intro W_ hW_; go_simp; first | done | with_reducible rfl)
  try simp only [Act.put, List.setIfInBounds_toArray, List.set_cons_zero, List.set_cons_succ]
  refine wpAnyH_take (i := 5) (v := ?_) (by simp only [List.getElem?_toArray, List.getElem?_cons_succ, List.getElem?_cons_zero]; rfl) (by kernel_rfl) (by kernel_rfl) (by kernel_rfl) (by intro _ _ _ h; exact h) (Or.inl ⟨by rfl, ?hy⟩) (by assumption) ?_
  case hy => (intro W_ hW_; go_simp; first | done | with_reducible rfl)
  try simp only [Act.put, List.setIfInBounds_toArray, List.set_cons_zero, List.set_cons_succ]
  refine wpAnyH_ready (rs := [6]) (by kernel_rfl) (by simp) ?_
  refine AllReadyH.cons (by simp only [List.getElem?_toArray, List.getElem?_cons_succ, List.getElem?_cons_zero]; rfl) (fun K hK => ?_) AllReadyH.nil
  rw [if_pos (by rfl)]
  go_wp2_with fail
  refine (cmp32_call w.heap.size (w.heap.size + 1) a b _ hHeld.1 hHeld.2 HA.out HB.out).mono ?_
  rintro e w2 ⟨rfl, rfl⟩
  refine hK.out _ _ (hHeld) (fun hHeld2 => ?_)
  clear hK K hHeld
  have hHeld := hHeld2
  clear hHeld2
  try simp only [Act.put, List.setIfInBounds_toArray, List.set_cons_zero, List.set_cons_succ]
  refine wpAnyH_take (i := 7) (v := ?_) (by simp only [List.getElem?_toArray, List.getElem?_cons_succ, List.getElem?_cons_zero]; rfl) (by kernel_rfl) (by kernel_rfl) (by kernel_rfl) (by intro _ _ _ h; exact h) (Or.inl ⟨by rfl, ?hy⟩) (by assumption) ?_
  case hy => (intro W_ hW_; go_simp; first | done | with_reducible rfl)
  try simp only [Act.put, List.setIfInBounds_toArray, List.set_cons_zero, List.set_cons_succ]
  refine wpAnyH_take (i := 8) (v := ?_) (by simp only [List.getElem?_toArray, List.getElem?_cons_succ, List.getElem?_cons_zero]; rfl) (by kernel_rfl) (by kernel_rfl) (by kernel_rfl) (by intro _ _ _ h; exact h) (Or.inl ⟨by rfl, ?hy⟩) (by assumption) ?_
  case hy => (intro W_ hW_; go_simp; first | done | with_reducible rfl)
  try simp only [Act.put, List.setIfInBounds_toArray, List.set_cons_zero, List.set_cons_succ]
  refine wpAnyH_take (i := 9) (v := ?_) (by simp only [List.getElem?_toArray, List.getElem?_cons_succ, List.getElem?_cons_zero]; rfl) (by kernel_rfl) (by kernel_rfl) (by kernel_rfl) (by intro _ _ _ h; exact h) (Or.inl ⟨by rfl, ?hy⟩) (by assumption) ?_
  case hy => (intro W_ hW_; go_simp; first | done | with_reducible rfl)
  try simp only [Act.put, List.setIfInBounds_toArray, List.set_cons_zero, List.set_cons_succ]
  refine wpAnyH_done (by kernel_rfl) ?_ _
  go_wp2_with fail
  go_ret
  exact ⟨rfl, below_drew (below_alloc (below_alloc (Below.refl _ _) _) _)⟩
theorem less_call (a b : List Int) (w : World) (hal : a.length = 32) (hbl : b.length = 32) :
    Calls Try.prog 14 #[.agg (cells8 a), .agg (cells8 b)] w fun e w' => e = .returned (.bool (lessL a b)) ∧ Below w.heap.size w w' := by
  unfold lessL
  cases hab : (a == b) with
  | true => exact less_no a b w hal hbl hab
  | false => rw [Bool.not_false, Bool.true_and]; exact less_yes a b w hal hbl hab

theorem shaOf_length (l : List Int) : (shaOf l).length = 32 := outAt_length _ _
theorem store8 {w : World} {g : Nat} {t : TypeId} {old xs : List Int} (h : Blk8 w g t old) (hl : old.length = xs.length) : (storeCells ⟨g, 0, none⟩ (cells8 xs).toList).run Try.prog w = .ok () (w.setRow g (cells8 xs)) := by
  have := run_storeCells_from (P := Try.prog) g t (cells8 xs).toList 0 _ w h (by simp [cells8, hl]) (fun v hv => (Array.all_eq_true_iff_forall_mem.1 (cells8_all xs)) v (by simpa using hv))
  simpa using this
theorem below_row {w W : World} {g : Nat} {cs : Array Value} (h : Below w.heap.size w W) (hg : w.heap.size ≤ g) : Below w.heap.size w (W.setRow g cs) :=
  h.trans ⟨rfl, rfl, rfl, by rw [setRow_size]; exact Nat.le_refl _, fun k hk => by rw [setRow_other _ _ _ _ (by omega)]⟩
set_option maxHeartbeats 1000000 in
set_option maxRecDepth 100000 in
theorem of_call (s : ByteArray) (w : World) (hs : s.size ≤ 100000000) :
    Calls Try.prog 12 #[.string s] w fun e w' => e = .returned (.agg (cells8 (shaOf (bytesOf s)))) ∧ Below w.heap.size w w' := by
  have hcv := fun W => print_bytes (P := Try.prog) 9 22 5 Try.underlying9 Try.underlying22 Try.underlying5 s W
  have hz : (cells8 (shaOf (bytesOf s))).size = 32 := by rw [cells8_size, shaOf_length]
  obtain ⟨d, hd⟩ : ∃ d, d = shaOf (bytesOf s) := ⟨_, rfl⟩
  rw [← hd] at hz ⊢
  have HD : Aside0 (shaOf (bytesOf s) = d) := ⟨hd.symm⟩
  clear hd
  go_enter Try.func12, Try.ntmps12
  go_wp2_with fail
  obtain ⟨wA, hwA⟩ : ∃ wA : World, wA = Lib.bytesWorld (w.alloc (.cells #[.int .u8 0, .int .u8 0, .int .u8 0, .int .u8 0, .int .u8 0, .int .u8 0, .int .u8 0, .int .u8 0, .int .u8 0, .int .u8 0, .int .u8 0, .int .u8 0, .int .u8 0, .int .u8 0, .int .u8 0, .int .u8 0, .int .u8 0, .int .u8 0, .int .u8 0, .int .u8 0, .int .u8 0, .int .u8 0, .int .u8 0, .int .u8 0, .int .u8 0, .int .u8 0, .int .u8 0, .int .u8 0, .int .u8 0, .int .u8 0, .int .u8 0, .int .u8 0] 24 (0, 0))) 5 s := ⟨_, rfl⟩
  have HZA : Aside0 (Blk8 wA w.heap.size 24 (List.replicate 32 0)) := ⟨by rw [hwA]; unfold Blk8; rw [Lib.bytesWorld_at_old _ _ _ _ (by simp)]; exact heap_alloc_new w _⟩
  have HBA : Aside0 (Below w.heap.size w wA) := ⟨by rw [hwA]; exact bytes_below (below_alloc (Below.refl _ _) _) (by simp) _ _⟩
  have HRA : Aside0 (RdB wA (some ⟨w.heap.size + 1, 0, none⟩) s.size (bytesOf s)) := ⟨by rw [hwA]; have h_ := bytes_reads (w.alloc (.cells #[.int .u8 0, .int .u8 0, .int .u8 0, .int .u8 0, .int .u8 0, .int .u8 0, .int .u8 0, .int .u8 0, .int .u8 0, .int .u8 0, .int .u8 0, .int .u8 0, .int .u8 0, .int .u8 0, .int .u8 0, .int .u8 0, .int .u8 0, .int .u8 0, .int .u8 0, .int .u8 0, .int .u8 0, .int .u8 0, .int .u8 0, .int .u8 0, .int .u8 0, .int .u8 0, .int .u8 0, .int .u8 0, .int .u8 0, .int .u8 0, .int .u8 0, .int .u8 0] 24 (0, 0))) 5 s (by omega); rw [show (w.alloc (.cells #[.int .u8 0, .int .u8 0, .int .u8 0, .int .u8 0, .int .u8 0, .int .u8 0, .int .u8 0, .int .u8 0, .int .u8 0, .int .u8 0, .int .u8 0, .int .u8 0, .int .u8 0, .int .u8 0, .int .u8 0, .int .u8 0, .int .u8 0, .int .u8 0, .int .u8 0, .int .u8 0, .int .u8 0, .int .u8 0, .int .u8 0, .int .u8 0, .int .u8 0, .int .u8 0, .int .u8 0, .int .u8 0, .int .u8 0, .int .u8 0, .int .u8 0, .int .u8 0] 24 (0, 0))).heap.size = w.heap.size + 1 from Array.size_push ..] at h_; exact Kd.C_of_reads (h1 := fun _ => rfl) h_⟩
  rw [← hwA]
  clear hwA
  obtain ⟨cc, hcc⟩ : ∃ cc, cc = grownCap (w.alloc (.cells #[.int .u8 0, .int .u8 0, .int .u8 0, .int .u8 0, .int .u8 0, .int .u8 0, .int .u8 0, .int .u8 0, .int .u8 0, .int .u8 0, .int .u8 0, .int .u8 0, .int .u8 0, .int .u8 0, .int .u8 0, .int .u8 0, .int .u8 0, .int .u8 0, .int .u8 0, .int .u8 0, .int .u8 0, .int .u8 0, .int .u8 0, .int .u8 0, .int .u8 0, .int .u8 0, .int .u8 0, .int .u8 0, .int .u8 0, .int .u8 0, .int .u8 0, .int .u8 0] 24 (0, 0))) s.size 0 5 := ⟨_, rfl⟩
  have HCC : Aside0 (s.size ≤ cc) := ⟨by rw [hcc]; exact grownCap_ge _ _ _ _⟩
  rw [← hcc]
  clear hcc
  have hsum := sum_call (some ⟨w.heap.size + 1, 0, none⟩) cc (bytesOf s) wA (by rw [bytesOf_length]; exact HRA.out) (by rw [bytesOf_length]; exact HCC.out) (by rw [bytesOf_length]; exact hs)
  rw [bytesOf_length, HD.out] at hsum
  refine hsum.mono ?_
  clear hsum
  rintro e w2 ⟨rfl, hb2⟩
  have HZ2 : Aside0 (Blk8 w2 w.heap.size 24 (List.replicate 32 0)) := ⟨Blk8.below HZA.out hb2 (Blk8.lt HZA.out)⟩
  have HB2 : Aside0 (Below w.heap.size w w2) := ⟨below_step HBA.out hb2⟩
  have HL2 : Aside0 (d.length = 32) := ⟨by rw [← HD.out, shaOf_length]⟩
  have hst := store8 (xs := d) HZ2.out (by rw [HL2.out]; rfl)
  clear hb2
  go_wp2_with fail
  refine bodyPost_ret (v := .agg (cells8 d)) ?_ rfl ⟨rfl, below_row HB2.out (Nat.le_refl _)⟩
  exact results_cell_row (P := Try.prog) Try.results12 _ _ w.heap.size 24 (cells8 d) (0, 0) _ rfl (setRow_heap _ _ _ _ _ _ HZ2.out) rfl (by kernel_rfl) (by rw [hz]; kernel_rfl)

end Go.Proofs.Ytenkaaigalcgcaa.X
