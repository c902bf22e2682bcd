/- The digest of any bytes, and any text, and whether one is less than another one, is what the document says (more than 300 bytes are let by): the walk. -/
import Derived.Test.YtenkaaigalcgcaaRLess
import Derived.Test.YtenkaaigalcgcaaHShaSame
namespace Go.Proofs.Ytenkaaigalcgcaa.X
set_option linter.unusedVariables false
set_option linter.unusedSimpArgs false
open Go.RowKit Go.Proofs.YtenkaaigalcgcaaW.PrintWords Go.Proofs.YtenkaaigalcgcaaW.PrintLast Go.Proofs.YtenkaaigalcgcaaW.PrintMore

theorem of_call0 (s : ByteArray) (d : List Int) (hd : shaOf (bytesOf s) = d) (w : World) (hs : s.size ≤ 1000) : Calls Try.prog 12 #[.string s] w fun e w' => e = .returned (.agg (cells8 d)) ∧ Below w.heap.size w w' := by
  rw [← hd]; exact of_call s w (by omega)
theorem refof_call0 (s : ByteArray) (d : List Int) (hd : shaOf (bytesOf s) = d) (w : World) (hs : s.size ≤ 1000) : Calls Try.prog 13 #[.string s] w fun e w' => e = .returned (.agg (cells8 d)) ∧ Below w.heap.size w w' := by
  rw [← hd]; exact refof_call s w hs
theorem refsum_call0 (A : Option Addr) (c : Nat) (l : List Int) (d : List Int) (hd : shaOf l = d) (w : World) (hr : RdB w A l.length l) (hc : l.length ≤ c) (hl : l.length ≤ 1000) (hb : Bytes8 l) :
    Calls Try.prog 11 #[.slice A l.length c] w fun e w' => e = .returned (.agg (cells8 d)) ∧ Below w.heap.size w w' := by
  rw [← hd]; exact refsum_call A c l w hr hc hl hb
theorem refless_call0 (a b : List Int) (r : Bool) (w : World) (hal : a.length = 32) (hbl : b.length = 32) (ha : Byt a) (hb : Byt b) (hr : lessL a b = r) :
    Calls Try.prog 9 #[.agg (cells8 a), .agg (cells8 b)] w fun e w' => e = .returned (.bool r) ∧ Below w.heap.size w w' := by
  rw [← hr]; exact refless_call a b w hal hbl ha hb

set_option maxHeartbeats 1000000 in
set_option maxRecDepth 100000 in
theorem tells_long0 (A : Option Addr) (c : Nat) (l : List Int) (s : ByteArray) (a b : List Int) (w : World) (hal : a.length = 32) (hbl : b.length = 32) (h : 300 < l.length) :
    Calls Try.prog 3 #[.slice A l.length c, .string s, .agg (cells8 a), .agg (cells8 b)] w fun e w' => e = .returned (.bool true) ∧ Below w.heap.size w w' := by
  have hza : (cells8 a).size = 32 := by rw [cells8_size, hal]
  have hzb : (cells8 b).size = 32 := by rw [cells8_size, hbl]
  clear hal hbl
  have d0 : decide (300 < l.length) = true := decide_eq_true (by omega)
  have d0' : decide (300 < (l.length : Int)) = true := decide_eq_true (by omega)
  go_enter Try.func3, Try.ntmps3
  go_wp2_with fail
  refine (awake_call _).mono ?_
  rintro e w1 ⟨rfl, hb1⟩
  go_wp2_with fail
  go_ret
  exact ⟨rfl, below_step (below_alloc (below_alloc (Below.refl _ _) _) _) hb1⟩

set_option maxHeartbeats 1000000 in
set_option maxRecDepth 100000 in
theorem tells_long1 (A : Option Addr) (c : Nat) (l : List Int) (s : ByteArray) (a b : List Int) (w : World) (hal : a.length = 32) (hbl : b.length = 32) (h0 : l.length ≤ 300) (h : 300 < s.size) :
    Calls Try.prog 3 #[.slice A l.length c, .string s, .agg (cells8 a), .agg (cells8 b)] w fun e w' => e = .returned (.bool true) ∧ Below w.heap.size w w' := by
  have hza : (cells8 a).size = 32 := by rw [cells8_size, hal]
  have hzb : (cells8 b).size = 32 := by rw [cells8_size, hbl]
  clear hal hbl
  have d0 : decide (300 < l.length) = false := decide_eq_false (by omega)
  have d0' : decide (300 < (l.length : Int)) = false := decide_eq_false (by omega)
  have d1 : decide (300 < s.size) = true := decide_eq_true (by omega)
  have d1' : decide (300 < (s.size : Int)) = true := decide_eq_true (by omega)
  go_enter Try.func3, Try.ntmps3
  go_wp2_with fail
  refine (awake_call _).mono ?_
  rintro e w1 ⟨rfl, hb1⟩
  go_wp2_with fail
  go_ret
  exact ⟨rfl, below_step (below_alloc (below_alloc (Below.refl _ _) _) _) hb1⟩

set_option maxHeartbeats 4000000 in
set_option maxRecDepth 100000 in
theorem tells_main (A : Option Addr) (c : Nat) (l : List Int) (s : ByteArray) (a b : List Int) (w : World) (hr : RdB w A l.length l) (hc : l.length ≤ c) (hb8 : Bytes8 l) (hl : l.length ≤ 300) (hs : s.size ≤ 300) (hal : a.length = 32) (hbl : b.length = 32) (ha : Byt a) (hb : Byt b) :
    Calls Try.prog 3 #[.slice A l.length c, .string s, .agg (cells8 a), .agg (cells8 b)] w fun e w' => e = .returned (.bool true) ∧ Below w.heap.size w w' := by
  have d0 : decide (300 < l.length) = false := decide_eq_false (by omega)
  have d0' : decide (300 < (l.length : Int)) = false := decide_eq_false (by omega)
  have d1 : decide (300 < s.size) = false := decide_eq_false (by omega)
  have d1' : decide (300 < (s.size : Int)) = false := decide_eq_false (by omega)
  obtain ⟨x, hx⟩ : ∃ x, shaOf l = x := ⟨_, rfl⟩
  obtain ⟨y, hy⟩ : ∃ y, shaOf (bytesOf s) = y := ⟨_, rfl⟩
  obtain ⟨r, hr1⟩ : ∃ r, lessL a b = r := ⟨_, rfl⟩
  have HX := Aside0.mk hx
  have HY := Aside0.mk hy
  have HLR := Aside0.mk hr1
  have HXL : Aside0 (x.length = 32) := ⟨by rw [← hx, shaOf_length]⟩
  have HYL : Aside0 (y.length = 32) := ⟨by rw [← hy, shaOf_length]⟩
  have ex : ∀ W : World, (Op.equalIn 10000 24 (.agg (cells8 x)) (.agg (cells8 x))).run Try.prog W = .ok true W := fun W => by rw [equal8 (w := W) Try.underlying24 Try.info5i Try.underlying5 cells5 x x HXL.out HXL.out, beq_self_eq_true]
  have ey : ∀ W : World, (Op.equalIn 10000 24 (.agg (cells8 y)) (.agg (cells8 y))).run Try.prog W = .ok true W := fun W => by rw [equal8 (w := W) Try.underlying24 Try.info5i Try.underlying5 cells5 y y HYL.out HYL.out, beq_self_eq_true]
  have hza : (cells8 a).size = 32 := by rw [cells8_size, hal]
  have hzb : (cells8 b).size = 32 := by rw [cells8_size, hbl]
  have HAL := Aside0.mk hal
  have HBL := Aside0.mk hbl
  have HA := Aside0.mk ha
  have HBy := Aside0.mk hb
  have HB8 := Aside0.mk hb8
  have H00 := Aside0.mk hr
  have g24 := guard24
  clear hx hy hr1 hal hbl ha hb hb8 hr
  go_enter Try.func3, Try.ntmps3
  go_wp2_with fail
  obtain ⟨W0, hW0⟩ : ∃ W0 : World, W0 = (w.alloc (.cells (cells8 a) 24 (0, 0))).alloc (.cells (cells8 b) 24 (0, 0)) := ⟨_, rfl⟩
  have HBZ : Aside0 (Below w.heap.size w W0) := ⟨by rw [hW0]; exact below_alloc (below_alloc (Below.refl _ _) _) _⟩
  have H0a : Aside0 (Blk8 W0 w.heap.size 24 a) := ⟨by rw [hW0]; exact heap_alloc2_old w _ _⟩
  have H0b : Aside0 (Blk8 W0 (w.heap.size + 1) 24 b) := ⟨by rw [hW0]; exact heap_alloc2_new w _ _⟩
  have H0R : Aside0 (RdB W0 A l.length l) := ⟨rdb_below H00.out HBZ.out⟩
  have HB0 : Aside0 (Below W0.heap.size W0 W0) := ⟨Below.refl _ _⟩
  rw [← hW0]
  clear hW0
  refine (awake_call _).mono ?_
  rintro e w1 ⟨rfl, hb1⟩
  have HB1 : Aside0 (Below W0.heap.size W0 w1) := ⟨below_step HB0.out hb1⟩
  have Ha : Aside0 (w1.heap[w.heap.size]? = some (.cells (cells8 a) 24 (0, 0))) := ⟨Blk8.below (w := W0) H0a.out HB1.out (Blk8.lt H0a.out)⟩
  have Hb : Aside0 (w1.heap[w.heap.size + 1]? = some (.cells (cells8 b) 24 (0, 0))) := ⟨Blk8.below (w := W0) H0b.out HB1.out (Blk8.lt H0b.out)⟩
  have HR : Aside0 (RdB w1 A l.length l) := ⟨rdb_below H0R.out HB1.out⟩
  clear hb1
  go_wp2_with (first
    | ((with_reducible refine gate_dst (N := 25) rfl ?_); refine wpList_load_row_g (by rfl) 24 (.tmp 6) rfl w.heap.size (by rfl) 24 (cells8 a) (0, 0) _ Ha.out rfl (by kernel_rfl) (by rw [hza]; kernel_rfl) ?_)
    | ((with_reducible refine gate_dst (N := 26) rfl ?_); refine wpList_load_row_g (by rfl) 24 (.tmp 7) rfl (w.heap.size + 1) (by rfl) 24 (cells8 b) (0, 0) _ Hb.out rfl (by kernel_rfl) (by rw [hzb]; kernel_rfl) ?_)
    | ((with_reducible refine gate_dst (N := 41) rfl ?_); refine wpList_load_row_g (by rfl) 24 (.tmp 6) rfl w.heap.size (by rfl) 24 (cells8 a) (0, 0) _ Ha.out rfl (by kernel_rfl) (by rw [hza]; kernel_rfl) ?_)
    | ((with_reducible refine gate_dst (N := 42) rfl ?_); refine wpList_load_row_g (by rfl) 24 (.tmp 7) rfl (w.heap.size + 1) (by rfl) 24 (cells8 b) (0, 0) _ Hb.out rfl (by kernel_rfl) (by rw [hzb]; kernel_rfl) ?_)
    | fail)
  refine (refless_call0 a b r _ HAL.out HBL.out HA.out HBy.out HLR.out).mono ?_
  rintro e w2 ⟨rfl, hb2⟩
  have HB2 : Aside0 (Below W0.heap.size W0 w2) := ⟨below_step HB1.out hb2⟩
  have Ha : Aside0 (w2.heap[w.heap.size]? = some (.cells (cells8 a) 24 (0, 0))) := ⟨Blk8.below (w := W0) H0a.out HB2.out (Blk8.lt H0a.out)⟩
  have Hb : Aside0 (w2.heap[w.heap.size + 1]? = some (.cells (cells8 b) 24 (0, 0))) := ⟨Blk8.below (w := W0) H0b.out HB2.out (Blk8.lt H0b.out)⟩
  have HR : Aside0 (RdB w2 A l.length l) := ⟨rdb_below H0R.out HB2.out⟩
  clear hb2
  go_wp2_with (first
    | ((with_reducible refine gate_dst (N := 25) rfl ?_); refine wpList_load_row_g (by rfl) 24 (.tmp 6) rfl w.heap.size (by rfl) 24 (cells8 a) (0, 0) _ Ha.out rfl (by kernel_rfl) (by rw [hza]; kernel_rfl) ?_)
    | ((with_reducible refine gate_dst (N := 26) rfl ?_); refine wpList_load_row_g (by rfl) 24 (.tmp 7) rfl (w.heap.size + 1) (by rfl) 24 (cells8 b) (0, 0) _ Hb.out rfl (by kernel_rfl) (by rw [hzb]; kernel_rfl) ?_)
    | ((with_reducible refine gate_dst (N := 41) rfl ?_); refine wpList_load_row_g (by rfl) 24 (.tmp 6) rfl w.heap.size (by rfl) 24 (cells8 a) (0, 0) _ Ha.out rfl (by kernel_rfl) (by rw [hza]; kernel_rfl) ?_)
    | ((with_reducible refine gate_dst (N := 42) rfl ?_); refine wpList_load_row_g (by rfl) 24 (.tmp 7) rfl (w.heap.size + 1) (by rfl) 24 (cells8 b) (0, 0) _ Hb.out rfl (by kernel_rfl) (by rw [hzb]; kernel_rfl) ?_)
    | fail)
  refine (sum_call0 A c l x HX.out _ HR.out hc (by omega)).mono ?_
  rintro e w3 ⟨rfl, hb3⟩
  have HB3 : Aside0 (Below W0.heap.size W0 w3) := ⟨below_step HB2.out hb3⟩
  have Ha : Aside0 (w3.heap[w.heap.size]? = some (.cells (cells8 a) 24 (0, 0))) := ⟨Blk8.below (w := W0) H0a.out HB3.out (Blk8.lt H0a.out)⟩
  have Hb : Aside0 (w3.heap[w.heap.size + 1]? = some (.cells (cells8 b) 24 (0, 0))) := ⟨Blk8.below (w := W0) H0b.out HB3.out (Blk8.lt H0b.out)⟩
  have HR : Aside0 (RdB w3 A l.length l) := ⟨rdb_below H0R.out HB3.out⟩
  clear hb3
  go_wp2_with (first
    | ((with_reducible refine gate_dst (N := 25) rfl ?_); refine wpList_load_row_g (by rfl) 24 (.tmp 6) rfl w.heap.size (by rfl) 24 (cells8 a) (0, 0) _ Ha.out rfl (by kernel_rfl) (by rw [hza]; kernel_rfl) ?_)
    | ((with_reducible refine gate_dst (N := 26) rfl ?_); refine wpList_load_row_g (by rfl) 24 (.tmp 7) rfl (w.heap.size + 1) (by rfl) 24 (cells8 b) (0, 0) _ Hb.out rfl (by kernel_rfl) (by rw [hzb]; kernel_rfl) ?_)
    | ((with_reducible refine gate_dst (N := 41) rfl ?_); refine wpList_load_row_g (by rfl) 24 (.tmp 6) rfl w.heap.size (by rfl) 24 (cells8 a) (0, 0) _ Ha.out rfl (by kernel_rfl) (by rw [hza]; kernel_rfl) ?_)
    | ((with_reducible refine gate_dst (N := 42) rfl ?_); refine wpList_load_row_g (by rfl) 24 (.tmp 7) rfl (w.heap.size + 1) (by rfl) 24 (cells8 b) (0, 0) _ Hb.out rfl (by kernel_rfl) (by rw [hzb]; kernel_rfl) ?_)
    | fail)
  refine (refsum_call0 A c l x HX.out _ HR.out hc (by omega) HB8.out).mono ?_
  rintro e w4 ⟨rfl, hb4⟩
  have HB4 : Aside0 (Below W0.heap.size W0 w4) := ⟨below_step HB3.out hb4⟩
  have Ha : Aside0 (w4.heap[w.heap.size]? = some (.cells (cells8 a) 24 (0, 0))) := ⟨Blk8.below (w := W0) H0a.out HB4.out (Blk8.lt H0a.out)⟩
  have Hb : Aside0 (w4.heap[w.heap.size + 1]? = some (.cells (cells8 b) 24 (0, 0))) := ⟨Blk8.below (w := W0) H0b.out HB4.out (Blk8.lt H0b.out)⟩
  have HR : Aside0 (RdB w4 A l.length l) := ⟨rdb_below H0R.out HB4.out⟩
  clear hb4
  go_wp2_with (first
    | ((with_reducible refine gate_dst (N := 25) rfl ?_); refine wpList_load_row_g (by rfl) 24 (.tmp 6) rfl w.heap.size (by rfl) 24 (cells8 a) (0, 0) _ Ha.out rfl (by kernel_rfl) (by rw [hza]; kernel_rfl) ?_)
    | ((with_reducible refine gate_dst (N := 26) rfl ?_); refine wpList_load_row_g (by rfl) 24 (.tmp 7) rfl (w.heap.size + 1) (by rfl) 24 (cells8 b) (0, 0) _ Hb.out rfl (by kernel_rfl) (by rw [hzb]; kernel_rfl) ?_)
    | ((with_reducible refine gate_dst (N := 41) rfl ?_); refine wpList_load_row_g (by rfl) 24 (.tmp 6) rfl w.heap.size (by rfl) 24 (cells8 a) (0, 0) _ Ha.out rfl (by kernel_rfl) (by rw [hza]; kernel_rfl) ?_)
    | ((with_reducible refine gate_dst (N := 42) rfl ?_); refine wpList_load_row_g (by rfl) 24 (.tmp 7) rfl (w.heap.size + 1) (by rfl) 24 (cells8 b) (0, 0) _ Hb.out rfl (by kernel_rfl) (by rw [hzb]; kernel_rfl) ?_)
    | fail)
  refine (of_call0 s y HY.out _ (by omega)).mono ?_
  rintro e w5 ⟨rfl, hb5⟩
  have HB5 : Aside0 (Below W0.heap.size W0 w5) := ⟨below_step HB4.out hb5⟩
  have Ha : Aside0 (w5.heap[w.heap.size]? = some (.cells (cells8 a) 24 (0, 0))) := ⟨Blk8.below (w := W0) H0a.out HB5.out (Blk8.lt H0a.out)⟩
  have Hb : Aside0 (w5.heap[w.heap.size + 1]? = some (.cells (cells8 b) 24 (0, 0))) := ⟨Blk8.below (w := W0) H0b.out HB5.out (Blk8.lt H0b.out)⟩
  have HR : Aside0 (RdB w5 A l.length l) := ⟨rdb_below H0R.out HB5.out⟩
  clear hb5
  go_wp2_with (first
    | ((with_reducible refine gate_dst (N := 25) rfl ?_); refine wpList_load_row_g (by rfl) 24 (.tmp 6) rfl w.heap.size (by rfl) 24 (cells8 a) (0, 0) _ Ha.out rfl (by kernel_rfl) (by rw [hza]; kernel_rfl) ?_)
    | ((with_reducible refine gate_dst (N := 26) rfl ?_); refine wpList_load_row_g (by rfl) 24 (.tmp 7) rfl (w.heap.size + 1) (by rfl) 24 (cells8 b) (0, 0) _ Hb.out rfl (by kernel_rfl) (by rw [hzb]; kernel_rfl) ?_)
    | ((with_reducible refine gate_dst (N := 41) rfl ?_); refine wpList_load_row_g (by rfl) 24 (.tmp 6) rfl w.heap.size (by rfl) 24 (cells8 a) (0, 0) _ Ha.out rfl (by kernel_rfl) (by rw [hza]; kernel_rfl) ?_)
    | ((with_reducible refine gate_dst (N := 42) rfl ?_); refine wpList_load_row_g (by rfl) 24 (.tmp 7) rfl (w.heap.size + 1) (by rfl) 24 (cells8 b) (0, 0) _ Hb.out rfl (by kernel_rfl) (by rw [hzb]; kernel_rfl) ?_)
    | fail)
  refine (refof_call0 s y HY.out _ (by omega)).mono ?_
  rintro e w6 ⟨rfl, hb6⟩
  have HB6 : Aside0 (Below W0.heap.size W0 w6) := ⟨below_step HB5.out hb6⟩
  have Ha : Aside0 (w6.heap[w.heap.size]? = some (.cells (cells8 a) 24 (0, 0))) := ⟨Blk8.below (w := W0) H0a.out HB6.out (Blk8.lt H0a.out)⟩
  have Hb : Aside0 (w6.heap[w.heap.size + 1]? = some (.cells (cells8 b) 24 (0, 0))) := ⟨Blk8.below (w := W0) H0b.out HB6.out (Blk8.lt H0b.out)⟩
  have HR : Aside0 (RdB w6 A l.length l) := ⟨rdb_below H0R.out HB6.out⟩
  clear hb6
  go_wp2_with (first
    | ((with_reducible refine gate_dst (N := 25) rfl ?_); refine wpList_load_row_g (by rfl) 24 (.tmp 6) rfl w.heap.size (by rfl) 24 (cells8 a) (0, 0) _ Ha.out rfl (by kernel_rfl) (by rw [hza]; kernel_rfl) ?_)
    | ((with_reducible refine gate_dst (N := 26) rfl ?_); refine wpList_load_row_g (by rfl) 24 (.tmp 7) rfl (w.heap.size + 1) (by rfl) 24 (cells8 b) (0, 0) _ Hb.out rfl (by kernel_rfl) (by rw [hzb]; kernel_rfl) ?_)
    | ((with_reducible refine gate_dst (N := 41) rfl ?_); refine wpList_load_row_g (by rfl) 24 (.tmp 6) rfl w.heap.size (by rfl) 24 (cells8 a) (0, 0) _ Ha.out rfl (by kernel_rfl) (by rw [hza]; kernel_rfl) ?_)
    | ((with_reducible refine gate_dst (N := 42) rfl ?_); refine wpList_load_row_g (by rfl) 24 (.tmp 7) rfl (w.heap.size + 1) (by rfl) 24 (cells8 b) (0, 0) _ Hb.out rfl (by kernel_rfl) (by rw [hzb]; kernel_rfl) ?_)
    | fail)
  refine (less_call0 a b r _ HAL.out HBL.out HLR.out).mono ?_
  rintro e w7 ⟨rfl, hb7⟩
  go_wp2_with fail
  go_ret
  exact ⟨rfl, below_step HBZ.out (below_step HB6.out hb7)⟩

theorem rolodexlaw03_ShaTells.walk (a0 : Option Addr) (len0 cap0 : Nat) (z0 : List Int) (a1 : ByteArray) (l2 l3 : List Int) (w : World) (w0 : (a0 = none ∧ len0 = 0 ∧ cap0 = 0 ∧ z0 = []) ∨ ∃ x, a0 = some x ∧ len0 ≤ cap0 ∧ cap0 ≤ maxLen ∧ z0.length = cap0 ∧ (∀ i, i < z0.length → w.cell? (x.add i) = some (.int .u8 (z0.getD i 0))) ∧ ∀ n ∈ z0, (Lit.int .u8 n).wf = true) (y0 : len0 * 1 ≤ 140737488351232)
    (w1 : a1.size ≤ 140737488351232) (n2 : l2.length = 32) (b2 : ∀ x ∈ l2, (Lit.int .u8 x).wf = true) (n3 : l3.length = 32) (b3 : ∀ x ∈ l3, (Lit.int .u8 x).wf = true) :
    Calls Try.prog 3 #[.slice a0 len0 cap0, .string a1, .agg (cells8 l2), .agg (cells8 l3)] w fun e w' => e = .returned (.bool true) ∧ Below w.heap.size w w' := by
  obtain ⟨l0, rfl, hr0, hm0, hw0, hc0⟩ := ReadsInt.ofRowC w0
  have hr := Kd.C_of_reads (d := (0 : Int)) (h1 := fun _ => rfl) hr0
  by_cases h0 : 300 < l0.length
  · exact tells_long0 _ _ l0 a1 l2 l3 w n2 n3 h0
  by_cases h1 : 300 < a1.size
  · exact tells_long1 _ _ l0 a1 l2 l3 w n2 n3 (by omega) h1
  exact tells_main _ _ l0 a1 l2 l3 w hr hc0 (bytes_of_wf hw0) (by omega) (by omega) n2 n3 b2 b3

end Go.Proofs.Ytenkaaigalcgcaa.X
