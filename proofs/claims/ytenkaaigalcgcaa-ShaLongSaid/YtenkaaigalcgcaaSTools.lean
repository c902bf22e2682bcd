/- Rows of bytes, arrays of bytes: small tools; bytes.Clone by hand. -/
import Derived.WalkLawsBesides
import Derived.Lib.LazyBuf
import Derived.Test.YtenkaaigalcgcaaSTake
namespace Go.Proofs.Ytenkaaigalcgcaa.X
set_option linter.unusedVariables false
set_option linter.unusedSimpArgs false
open Go.RowKit Go.Proofs.YtenkaaigalcgcaaW.PrintWords Go.Proofs.YtenkaaigalcgcaaW.PrintLast Go.Proofs.YtenkaaigalcgcaaW.PrintMore

theorem info5 : (Try.prog.info? 5).map (fun i => (i.zero, i.size, i.bytes)) = some (some (.int .u8 0), 1, 1) := by kernel_rfl
/-- A slice that reads as a list, whoever owns it. -/
abbrev RdB (w : World) (A : Option Addr) (n : Nat) (l : List Int) : Prop := Kd.C (Kd.int .u8) w A n l
theorem row_slice {w : World} {base : Nat} {ok : Nat → Prop} {v : Value} {l : List Int} (h : Kd.R (Kd.int .u8) 5 w base ok v l) : ∃ A c, v = .slice A l.length c ∧ l.length ≤ c ∧ RdB w A l.length l := Kd.R_reads h
theorem rdb_take {w : World} {A : Option Addr} {l : List Int} (h : RdB w A l.length l) (m : Nat) (hm : m ≤ l.length) : RdB w A m (l.take m) := by
  obtain ⟨i0, hi0, _, hsz0, _⟩ := info_parts info5
  obtain ⟨_, hA, _⟩ := print_take_of (P := Try.prog) (Value.int .u8) 0 22 5 .i64 Try.underlying22 hi0 hsz0 A l.length l (m : Int) (by omega) (by omega) (Nat.le_refl _)
  have := hA w (Kd.reads_of_C h)
  simp only [Int.toNat_natCast] at this
  rw [List.length_take, Nat.min_eq_left hm] at this
  exact Kd.C_of_reads (h1 := fun _ => rfl) this
theorem rdb_drop (A : Option Addr) (c : Nat) (l : List Int) (m : Nat) (hm : m ≤ l.length) (hc : l.length ≤ c) :
    ∃ A' : Option Addr, (∀ W : World, (Instr.slice 22 (.slice A l.length c) (some (.int .i64 (m : Int))) none none).run Try.prog W = .ok (.slice A' (l.length - m) (c - m)) W) ∧ (∀ w : World, RdB w A l.length l → RdB w A' (l.length - m) (l.drop m)) ∧ l.length - m ≤ c - m := by
  obtain ⟨i0, hi0, _, hsz0, _⟩ := info_parts info5
  obtain ⟨A', hcut, hA, hC⟩ := print_drop_of (P := Try.prog) (Value.int .u8) 0 22 5 .i64 Try.underlying22 hi0 hsz0 A c l (m : Int) (by omega) (by omega) hc
  simp only [Int.toNat_natCast, List.length_drop] at hcut hA hC
  exact ⟨A', hcut, fun w h => Kd.C_of_reads (h1 := fun _ => rfl) (hA w (Kd.reads_of_C h)), hC⟩
theorem rdb_cut (A : Option Addr) (c : Nat) (l : List Int) (m : Nat) (hm : m ≤ l.length) (hc : l.length ≤ c) :
    ∀ W : World, (Instr.slice 22 (.slice A l.length c) none (some (.int .i64 (m : Int))) none).run Try.prog W = .ok (.slice A m c) W := by
  obtain ⟨i0, hi0, _, hsz0, _⟩ := info_parts info5
  obtain ⟨h, _, _⟩ := print_take_of (P := Try.prog) (Value.int .u8) 0 22 5 .i64 Try.underlying22 hi0 hsz0 A c l (m : Int) (by omega) (by omega) hc
  simp only [Int.toNat_natCast, List.length_take, Nat.min_eq_left hm] at h
  exact h
theorem rdb_below {w w' : World} {A : Option Addr} {n : Nat} {l : List Int} (h : RdB w A n l) (hb : Below w.heap.size w w') : RdB w' A n l := Kd.C_below h hb
theorem rdb_drewN {w : World} {A : Option Addr} {n : Nat} {l : List Int} (h : RdB w A n l) (q : Nat) : RdB (w.drewN q) A n l := Kd.C_drewN h q
theorem rdb_nil {w : World} {n : Nat} {l : List Int} (h : RdB w none n l) : n = 0 := by
  rcases Nat.eq_zero_or_pos n with h0 | h0
  · exact h0
  · obtain ⟨ad, e, _⟩ := Kd.at_int h 0 (by omega) (by omega)
    cases e
theorem own_row {w : World} {base n : Nat} {v : Value} {l : List Int} (h : w.ownsRow base 5 1 v n (nums .u8 l)) : ∃ A c, v = .slice A n c ∧ n ≤ c ∧ RdB w A n l := by
  have hn : n = l.length := by have := h.1; simp [nums] at this; omega
  subst hn
  exact row_slice (Kd.R_of_own (ok := fun _ => True) h (fun _ _ => trivial))

/-- An array of bytes in a block of its own. -/
def Blk8 (w : World) (g : Nat) (t : TypeId) (xs : List Int) : Prop := w.heap[g]? = some (.cells (xs.map (Value.int .u8)).toArray t (0, 0))
theorem Blk8.cell {w : World} {g : Nat} {t : TypeId} {xs : List Int} (h : Blk8 w g t xs) {i : Nat} (hi : i < xs.length) : w.cell? ⟨g, i, none⟩ = some (.int .u8 (xs.getD i 0)) := by
  rw [cell_of_row w g i _ t (0, 0) h]
  simp [hi]
theorem Blk8.set {w : World} {g : Nat} {t : TypeId} {xs : List Int} (h : Blk8 w g t xs) (i : Nat) (v : Int) : Blk8 (w.setCell ⟨g, i, none⟩ (.int .u8 v)) g t (xs.set i v) := by
  rw [setCell_eq_setRow w g i _ t (0, 0) _ h]
  unfold Blk8
  rw [setRow_heap w g _ _ t (0, 0) h]
  congr 2
  simp [List.map_set]
theorem Blk8.free {w : World} {g : Nat} {t : TypeId} {xs : List Int} (h : Blk8 w g t xs) (i : Nat) : w.frozen? ⟨g, i, none⟩ = false := by
  unfold Blk8 at h
  simp [World.frozen?, h]
theorem Blk8.below {B : Nat} {w w' : World} {g : Nat} {t : TypeId} {xs : List Int} (h : Blk8 w g t xs) (hb : Below B w w') (hg : g < B) : Blk8 w' g t xs := (hb.block g hg).trans h
theorem Blk8.lt {w : World} {g : Nat} {t : TypeId} {xs : List Int} (h : Blk8 w g t xs) : g < w.heap.size := (Array.getElem?_eq_some_iff.1 h).1
def cells8 (xs : List Int) : Array Value := (xs.map (Value.int .u8)).toArray
theorem cells8_size (xs : List Int) : (cells8 xs).size = xs.length := by simp [cells8]
theorem cells8_all (xs : List Int) : (cells8 xs).all (·.oneCell') = true := by simp [cells8, Value.oneCell']

theorem setRow_alloc2 (w : World) (old cs : Array Value) (t : TypeId) (B : Obj) : ((w.alloc (.cells old t (0, 0))).alloc B).setRow w.heap.size cs = (w.alloc (.cells cs t (0, 0))).alloc B := by
  unfold World.setRow World.alloc
  congr 1
  apply Array.ext
  · simp
  · intro k h1 h2
    simp only [Array.getElem_modify, Array.getElem_push]
    simp at h1
    by_cases hk : k < w.heap.size
    · rw [if_neg (by omega)]
      simp [hk, Nat.lt_succ_of_lt hk]
    · by_cases hk2 : k = w.heap.size
      · subst hk2
        simp
      · rw [if_neg (by omega)]
        simp [hk, show ¬ k < w.heap.size + 1 by omega]
/-- An array's cells, laid into the last block but one. -/
theorem store_new2 (w : World) (old cs : Array Value) (t : TypeId) (B : Obj) (hs : old.size = cs.size) (h1 : cs.all (·.oneCell') = true) :
    (storeCells ⟨w.heap.size, 0, none⟩ cs.toList).run Try.prog ((w.alloc (.cells old t (0, 0))).alloc B) = .ok () ((w.alloc (.cells cs t (0, 0))).alloc B) := by
  have := run_storeCells_from (P := Try.prog) w.heap.size t cs.toList 0 old ((w.alloc (.cells old t (0, 0))).alloc B) (heap_alloc2_old w _ _) (by simp; omega) (fun v hv => (Array.all_eq_true_iff_forall_mem.1 h1) v (by simpa using hv))
  simp only [List.take_zero, List.nil_append, Array.toArray_toList] at this
  rw [setRow_alloc2] at this
  exact this
theorem begun_call' (w : World) : Calls Try.prog 16 #[] w fun e w' => e = .returned (.agg (cellsOf begunL)) ∧ Below w.heap.size w w' := begun_call w
theorem roots_call' (w : World) : Calls Try.prog 17 #[] w fun e w' => e = .returned (.agg (cellsOf rootsL)) ∧ Below w.heap.size w w' := roots_call w
/-- A chunk's state; all chunks'. -/
def nextState (ss l : List Int) : List Int := addUp ss (shaRounds ss (schedAt l 64) rootsL 64) 8
def stateAt (m : List Int) : Nat → List Int
  | 0 => begunL
  | j + 1 => nextState (stateAt m j) ((m.drop (64 * j)).take 64)
theorem stateAt_length (m : List Int) : ∀ j, (stateAt m j).length = 8
  | 0 => rfl
  | j + 1 => by rw [stateAt, nextState, addUp_length]; exact stateAt_length m j
theorem reads_lit (W : World) (y : Int) : ReadsInt (W.alloc (.cells #[.int .u8 y] 5)) .u8 (some ⟨W.heap.size, 0, none⟩) 1 [y] := by
  refine ⟨rfl, by decide, fun _ => ⟨_, rfl, fun j hj => ?_⟩⟩
  obtain rfl : j = 0 := by omega
  rw [add_plain, cell_of_row _ _ _ _ _ _ (heap_alloc_new W _)]
  rfl
/-- 'all = append(all, y)' of a row of bytes. -/
theorem app_one {w0 W : World} {ops : Array Oper} {rest : List Oper} {o : Oper} {a : Act} {Q : Exit → Act → World → Prop} (base : Nat) (hgd : o.guard = none) (s x : Operand)
    (ho : o.op = .call { callee := .builtin .append, args := #[s, x], argTypes := #[22, 22] }) (v : Value) (xs : List Int) (y : Int) (hs : a.eval s = v) (hx : a.eval x = .slice (some ⟨W.heap.size, 0, none⟩) 1 1)
    (HO : W.ownsRow base 5 1 v xs.length (nums .u8 xs)) (HB : Below base w0 W) (hbase : base ≤ W.heap.size) (hl : xs.length ≤ 1000000000)
    (h : ∀ v1 w1, Aside0 (w1.ownsRow base 5 1 v1 (xs ++ [y]).length (nums .u8 (xs ++ [y]))) → Aside0 (Below base w0 w1) → wpList Try.prog ops Q rest (a.put o.dst v1) w1) :
    wpList Try.prog ops Q (o :: rest) a (W.alloc (.cells #[.int .u8 y] 5)) :=
  print_append_row (w0 := w0) base hgd s x 22 5 .u8 1 ho Try.underlying22 info5 (by decide) v xs [y] (some ⟨W.heap.size, 0, none⟩) 1 1 hs hx (own_alloc HO _) (reads_lit W y) (HB.alloc hbase _) (by simp; omega) (by omega)
    fun v1 w1 h1 h2 _ _ => h v1 w1 ⟨h1⟩ ⟨h2⟩
set_option maxHeartbeats 1000000 in
set_option maxRecDepth 100000 in
theorem clone_some (ad : Addr) (c : Nat) (l : List Int) (w : World) (hr : RdB w (some ad) l.length l) (hc : l.length ≤ c) (hl : l.length ≤ 1000000000) :
    Calls Try.prog 15 #[.slice (some ad) l.length c] w fun e w' => ∃ v, e = .returned v ∧ Aside0 (w'.ownsRow w.heap.size 5 1 v l.length (nums .u8 l)) ∧ Aside0 (Below w.heap.size w w') := by
  have heq : ∀ W : World, (binOp .eql 22 (.slice (some ad) l.length c) (.slice none 0 0)).run Try.prog W = .ok (.bool false) W := fun W => run_eql_slice_nil W 22 5 _ _ _ Try.underlying22
  have HR := Aside0.mk hr
  clear hr
  go_enter Try.func15, Try.ntmps15
  go_wp2_with (first
    | ((with_reducible refine gate_builtin (b := .append) (xs := #[.tmp 5, .tmp 6]) rfl ?_); at_builtin; refine print_append_row (w0 := w) w.heap.size rfl _ _ 22 5 .u8 1 rfl Try.underlying22 info5 (by decide) _ [] l (some ad) l.length c rfl rfl (by exact own_lit w w.heap.size 5 .u8 [] (Nat.le_refl _) (by decide)) (Kd.reads_of_C (rdb_below HR.out (below_alloc (Below.refl _ _) _))) (below_alloc (Below.refl _ _) _) (by simp) (by simp; omega) ?_; intro v1 w3 ho3 hB3 hg3 _)
    | fail)
  go_ret
  exact ⟨_, rfl, ⟨by simpa using ho3⟩, ⟨hB3⟩⟩
theorem clone_none (c : Nat) (w : World) :
    Calls Try.prog 15 #[.slice none 0 c] w fun e w' => ∃ v, e = .returned v ∧ Aside0 (w'.ownsRow w.heap.size 5 1 v 0 (nums .u8 [])) ∧ Aside0 (Below w.heap.size w w') := by
  have heq : ∀ W : World, (binOp .eql 22 (.slice none 0 c) (.slice none 0 0)).run Try.prog W = .ok (.bool true) W := fun W => run_eql_slice_nil W 22 5 _ _ _ Try.underlying22
  go_enter Try.func15, Try.ntmps15
  go_wp2_with fail
  go_ret
  exact ⟨_, rfl, ⟨own_nil _ _ _ _⟩, ⟨Below.refl _ _⟩⟩
theorem clone_call (A : Option Addr) (c : Nat) (l : List Int) (w : World) (hr : RdB w A l.length l) (hc : l.length ≤ c) (hl : l.length ≤ 1000000000) :
    Calls Try.prog 15 #[.slice A l.length c] w fun e w' => ∃ v, e = .returned v ∧ Aside0 (w'.ownsRow w.heap.size 5 1 v l.length (nums .u8 l)) ∧ Aside0 (Below w.heap.size w w') := by
  cases A with
  | some ad => exact clone_some ad c l w hr hc hl
  | none =>
    have h0 := rdb_nil hr
    obtain rfl : l = [] := List.eq_nil_of_length_eq_zero h0
    exact clone_none c w

end Go.Proofs.Ytenkaaigalcgcaa.X
