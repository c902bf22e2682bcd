/- The schedule of a chunk: the walk. -/
import Derived.Test.YtenkaaigalcgcaaSArr
import Derived.StillTailTactics
import Derived.Deep.RegionHeld
import Derived.Test.YtenkaaigalcgcaaSRot
namespace Go.Proofs.Ytenkaaigalcgcaa.X
set_option linter.unusedVariables false
set_option linter.unusedSimpArgs false
open Go.RowKit Go.Proofs.YtenkaaigalcgcaaW.PrintWords Go.Proofs.YtenkaaigalcgcaaW.PrintLast Go.Proofs.YtenkaaigalcgcaaW.PrintMore

/-- An array of words in a block of its own. -/
def Blk (w : World) (g : Nat) (t : TypeId) (xs : List Int) : Prop := w.heap[g]? = some (.cells (xs.map (Value.int .u32)).toArray t (0, 0))
theorem Blk.cell {w : World} {g : Nat} {t : TypeId} {xs : List Int} (h : Blk w g t xs) {i : Nat} (hi : i < xs.length) : w.cell? ⟨g, i, none⟩ = some (.int .u32 (xs.getD i 0)) := by
  rw [cell_of_row w g i _ t (0, 0) h]
  simp [hi]
theorem Blk.set {w : World} {g : Nat} {t : TypeId} {xs : List Int} (h : Blk w g t xs) (i : Nat) (v : Int) : Blk (w.setCell ⟨g, i, none⟩ (.int .u32 v)) g t (xs.set i v) := by
  rw [setCell_eq_setRow w g i _ t (0, 0) _ h]
  unfold Blk
  rw [setRow_heap w g _ _ t (0, 0) h]
  congr 2
  simp [List.map_set]

/-- The word that stands in four bytes, as the code has it. -/
def be4 (l : List Int) (i : Nat) : Int :=
  bits BinOp.or IntKind.u32 (bits BinOp.or IntKind.u32 (bits BinOp.or IntKind.u32 (rd l (4 * (i : Int)) % 4294967296 * 16777216 % 4294967296) (rd l (4 * (i : Int) + 1) % 4294967296 * 65536 % 4294967296))
    (rd l (4 * (i : Int) + 2) % 4294967296 * 256 % 4294967296)) (rd l (4 * (i : Int) + 3) % 4294967296)
theorem Blk.cell_set {w : World} {g : Nat} {t : TypeId} {xs : List Int} (h : Blk w g t xs) {i z : Nat} {v : Int} (hz : z < xs.length) (hne : i ≠ z) : (w.setCell ⟨g, i, none⟩ (.int .u32 v)).cell? ⟨g, z, none⟩ = some (.int .u32 (xs.getD z 0)) := by
  rw [(h.set i v).cell (by simpa using hz)]
  simp [List.getElem?_set_ne hne]
theorem Blk.drewN {w : World} {g : Nat} {t : TypeId} {xs : List Int} (h : Blk w g t xs) (n : Nat) : Blk (w.drewN n) g t xs := h
theorem Blk.drew {w : World} {g : Nat} {t : TypeId} {xs : List Int} (h : Blk w g t xs) : Blk w.drew g t xs := h
/-- A later word of the schedule. -/
def mix0 (x : Int) : Int := bits .xor .u32 (bits .xor .u32 (rotr x 7) (rotr x 18)) (x / 8)
def mix1 (y : Int) : Int := bits .xor .u32 (bits .xor .u32 (rotr y 17) (rotr y 19)) (y / 1024)
def later (xs : List Int) (i : Nat) : Int :=
  (xs.getD (i - 16) 0 + xs.getD (i - 7) 0 + mix0 (xs.getD (i - 15) 0) + mix1 (xs.getD (i - 2) 0)) % 4294967296
def schedAt (l : List Int) : Nat → List Int
  | 0 => List.replicate 64 0
  | i + 1 => (schedAt l i).set i (if i < 16 then be4 l i else later (schedAt l i) i)
theorem schedAt_length (l : List Int) : ∀ i, (schedAt l i).length = 64
  | 0 => by simp [schedAt]
  | i + 1 => by simp [schedAt, schedAt_length l i]
theorem Blk.free {w : World} {g : Nat} {t : TypeId} {xs : List Int} (h : Blk w g t xs) (i : Nat) : w.frozen? ⟨g, i, none⟩ = false := by
  unfold Blk at h
  simp [World.frozen?, h]

set_option maxHeartbeats 1000000 in
set_option maxRecDepth 100000 in
theorem sched_call (A : Option Addr) (c : Nat) (l : List Int) (w : World) (hr : Kd.C (Kd.int .u8) w A l.length l) (hc : 64 ≤ c) (hlen : l.length = 64) :
    Calls Try.prog 24 #[.slice A 64 c] w fun e w' => e = .returned (.agg ((schedAt l 64).map (Value.int .u32)).toArray) ∧ Below w.heap.size w w' := by
  have HR := Aside0.mk hr
  have HL64 : Aside0 (l.length = 64) := ⟨hlen⟩
  clear hr hlen
  go_enter Try.func24, Try.ntmps24
  go_wp2_with fail
  go_loopg [7] 64 (fun k v7 w' => ∃ (i : Nat), v7 = .int .i64 (i : Int) ∧ Aside0 (k = 64 - i ∧ i ≤ 64) ∧ Aside0 (Blk w' (w.heap.size + 1) 42 (schedAt l i)) ∧ Aside0 (Blk w' w.heap.size 42 (List.replicate 64 0)) ∧ Aside0 (Below w.heap.size w w'))
  case atStart =>
    refine ⟨0, rfl, ⟨by omega, by omega⟩, ⟨?_⟩, ⟨?_⟩, ⟨?_⟩⟩
    · exact heap_alloc2_new w _ _
    · exact heap_alloc2_old w _ _
    · exact below_alloc (below_alloc (Below.refl _ _) _) _
  case round =>
    obtain ⟨i, rfl, HI, HB, HZ, HL⟩ := hrel
    by_cases hi : i < 64
    · have d1 : decide (i < 64) = true := decide_eq_true hi
      have d2 : decide ((i : Int) < 64) = true := decide_eq_true (by omega)
      by_cases h16 : i < 16
      · have d3 : decide (i < 16) = true := decide_eq_true h16
        have d4 : decide ((i : Int) < 16) = true := decide_eq_true (by omega)
        obtain ⟨z0, h0⟩ : ∃ z : Int, z = 4 * (i : Int) := ⟨_, rfl⟩
        have M0 : Aside0 (IntKind.i64.wrap (4 * (i : Int)) = z0) := by refine ⟨?_⟩; rw [i64_w, h0]; unfold wrap64; omega
        obtain ⟨z1, h1⟩ : ∃ z : Int, z = z0 + 1 := ⟨_, rfl⟩
        have M1 : Aside0 (IntKind.i64.wrap (z0 + 1) = z1) := by refine ⟨?_⟩; rw [i64_w, h1, h0]; unfold wrap64; omega
        obtain ⟨z2, h2⟩ : ∃ z : Int, z = z0 + 2 := ⟨_, rfl⟩
        have M2 : Aside0 (IntKind.i64.wrap (z0 + 2) = z2) := by refine ⟨?_⟩; rw [i64_w, h2, h0]; unfold wrap64; omega
        obtain ⟨z3, h3⟩ : ∃ z : Int, z = z0 + 3 := ⟨_, rfl⟩
        have M3 : Aside0 (IntKind.i64.wrap (z0 + 3) = z3) := by refine ⟨?_⟩; rw [i64_w, h3, h0]; unfold wrap64; omega
        obtain ⟨ad0, e0, x0⟩ := Kd.at_int HR.out z0 (by omega) (by rw [HL64.out]; omega)
        cases e0
        replace x0 := (HL.out.cell (World.block_lt_of_cell? w _ x0)).trans x0
        obtain ⟨b0, hb0⟩ : ∃ b, b = rd l z0 := ⟨_, rfl⟩
        rw [← hb0] at x0
        have p0 : (0 ≤ z0) = True := eq_true (by omega)
        have q0 : (z0 < 64) = True := eq_true (by omega)
        obtain ⟨ad1, e1, x1⟩ := Kd.at_int HR.out z1 (by omega) (by rw [HL64.out]; omega)
        obtain rfl : ad0 = ad1 := (by injection e1)
        replace x1 := (HL.out.cell (World.block_lt_of_cell? w _ x1)).trans x1
        obtain ⟨b1, hb1⟩ : ∃ b, b = rd l z1 := ⟨_, rfl⟩
        rw [← hb1] at x1
        have p1 : (0 ≤ z1) = True := eq_true (by omega)
        have q1 : (z1 < 64) = True := eq_true (by omega)
        obtain ⟨ad2, e2, x2⟩ := Kd.at_int HR.out z2 (by omega) (by rw [HL64.out]; omega)
        obtain rfl : ad0 = ad2 := (by injection e2)
        replace x2 := (HL.out.cell (World.block_lt_of_cell? w _ x2)).trans x2
        obtain ⟨b2, hb2⟩ : ∃ b, b = rd l z2 := ⟨_, rfl⟩
        rw [← hb2] at x2
        have p2 : (0 ≤ z2) = True := eq_true (by omega)
        have q2 : (z2 < 64) = True := eq_true (by omega)
        obtain ⟨ad3, e3, x3⟩ := Kd.at_int HR.out z3 (by omega) (by rw [HL64.out]; omega)
        obtain rfl : ad0 = ad3 := (by injection e3)
        replace x3 := (HL.out.cell (World.block_lt_of_cell? w _ x3)).trans x3
        obtain ⟨b3, hb3⟩ : ∃ b, b = rd l z3 := ⟨_, rfl⟩
        rw [← hb3] at x3
        have p3 : (0 ≤ z3) = True := eq_true (by omega)
        have q3 : (z3 < 64) = True := eq_true (by omega)
        have m0 := M0.out
        have m1 := M1.out
        have m2 := M2.out
        have m3 := M3.out
        have HE : Aside0 (bits BinOp.or IntKind.u32 (bits BinOp.or IntKind.u32 (bits BinOp.or IntKind.u32 (b0 % 4294967296 * 16777216 % 4294967296) (b1 % 4294967296 * 65536 % 4294967296)) (b2 % 4294967296 * 256 % 4294967296)) (b3 % 4294967296) = be4 l i) := ⟨by
          rw [hb0, hb1, hb2, hb3, h1, h2, h3, h0]; rfl⟩
        clear h0 h1 h2 h3 M0 M1 M2 M3 hb0 hb1 hb2 hb3
        have hwr : IntKind.i64.wrap ((i : Int) + 1) = ((i + 1 : Nat) : Int) := by rw [i64_w]; unfold wrap64; omega
        have pi : (0 ≤ (i : Int)) = True := eq_true (by omega)
        have qi : ((i : Int) < 64) = True := eq_true (by omega)
        have y1 : wr.drew.cell? ⟨w.heap.size + 1, i, none⟩ = _ := HB.out.cell (i := i) (by rw [schedAt_length]; omega)
        have y2 : wr.drew.frozen? ⟨w.heap.size + 1, i, none⟩ = false := HB.out.free i
        have y1' : wr.cell? ⟨w.heap.size + 1, i, none⟩ = _ := HB.out.cell (i := i) (by rw [schedAt_length]; omega)
        have y2' : wr.frozen? ⟨w.heap.size + 1, i, none⟩ = false := HB.out.free i
        go_wp2_with fail
        go_still_tail 35, (by kernel_rfl)
        go_wp2_with fail
        go_roundg (64 - (i + 1))
        case measure => have := HI.out; omega
        case rel =>
          refine ⟨i + 1, by simp, ⟨rfl, by omega⟩, ⟨?_⟩, ⟨?_⟩, ⟨?_⟩⟩
          · have := HB.out.set i (be4 l i)
            rw [HE.out]
            simp only [schedAt, if_pos h16]
            exact this
          · unfold Blk
            rw [heap_drew, heap_setCell_other _ _ _ _ (by simp)]
            exact HZ.out
          · exact below_drew (below_set HL.out (by omega))
      · have d3 : decide (i < 16) = false := decide_eq_false h16
        have d4 : decide ((i : Int) < 16) = false := decide_eq_false (by omega)
        obtain ⟨z16, h16'⟩ : ∃ z : Nat, z = i - 16 := ⟨_, rfl⟩
        obtain ⟨z7, h7⟩ : ∃ z : Nat, z = i - 7 := ⟨_, rfl⟩
        have m16 : IntKind.i64.wrap ((i : Int) - 16) = (z16 : Int) := by rw [i64_w, h16']; unfold wrap64; omega
        have m7 : IntKind.i64.wrap ((i : Int) - 7) = (z7 : Int) := by rw [i64_w, h7]; unfold wrap64; omega
        have p16 : ((z16 : Int) < 64) = True := eq_true (by omega)
        have p7 : ((z7 : Int) < 64) = True := eq_true (by omega)
        have n16 : (z16 < 64) = True := eq_true (by omega)
        have n7 : (z7 < 64) = True := eq_true (by omega)
        have pi : (0 ≤ (i : Int)) = True := eq_true (by omega)
        have qi : ((i : Int) < 64) = True := eq_true (by omega)
        have hwr : IntKind.i64.wrap ((i : Int) + 1) = ((i + 1 : Nat) : Int) := by rw [i64_w]; unfold wrap64; omega
        have H16 := Aside0.mk h16'
        have H7 := Aside0.mk h7
        clear h16' h7
        obtain ⟨z15, h15⟩ : ∃ z : Nat, z = i - 15 := ⟨_, rfl⟩
        obtain ⟨z2, h2⟩ : ∃ z : Nat, z = i - 2 := ⟨_, rfl⟩
        have m15 : IntKind.i64.wrap ((i : Int) - 15) = (z15 : Int) := by rw [i64_w, h15]; unfold wrap64; omega
        have m2 : IntKind.i64.wrap ((i : Int) - 2) = (z2 : Int) := by rw [i64_w, h2]; unfold wrap64; omega
        have p15 : ((z15 : Int) < 64) = True := eq_true (by omega)
        have p2 : ((z2 : Int) < 64) = True := eq_true (by omega)
        have n15 : (z15 < 64) = True := eq_true (by omega)
        have n2 : (z2 < 64) = True := eq_true (by omega)
        have y15 : wr.drew.cell? ⟨w.heap.size + 1, z15, none⟩ = _ := HB.out.cell (i := z15) (by rw [schedAt_length]; omega)
        have y2 : wr.drew.cell? ⟨w.heap.size + 1, z2, none⟩ = _ := HB.out.cell (i := z2) (by rw [schedAt_length]; omega)
        have x15 : wr.cell? ⟨w.heap.size + 1, z15, none⟩ = _ := HB.out.cell (i := z15) (by rw [schedAt_length]; omega)
        have x2 : wr.cell? ⟨w.heap.size + 1, z2, none⟩ = _ := HB.out.cell (i := z2) (by rw [schedAt_length]; omega)
        have H15 := Aside0.mk h15
        have H2 := Aside0.mk h2
        clear h15 h2
        go_wp2_with fail
        go_still_tail 9, (by kernel_rfl)
        go_wp2_with fail
        clear y15 y2 x15 x2
        refine wp_region_held_drew (S := (fun W => W.cell? ⟨w.heap.size + 1, z16, none⟩ = some (.int .u32 ((schedAt l i).getD z16 0)) ∧ W.cell? ⟨w.heap.size + 1, z7, none⟩ = some (.int .u32 ((schedAt l i).getD z7 0)))) (by kernel_rfl) (And.intro (Blk.cell HB.out (by rw [schedAt_length]; exact of_eq_true n16)) (Blk.cell HB.out (by rw [schedAt_length]; exact of_eq_true n7))) (fun hHeld => ?_)
        refine wpAnyH_take (i := 0) (v := ?_) (by simp only [List.getElem?_toArray, List.getElem?_cons_succ, List.getElem?_cons_zero]; rfl) (by kernel_rfl) (by kernel_rfl) (by kernel_rfl) (by intro _ _ _ h; exact h) (Or.inl ⟨by rfl, ?hy⟩) (by assumption) ?_
        case hy => (intro W_ hW_; go_simp; first | done | with_reducible rfl)
        try simp only [Act.put, List.setIfInBounds_toArray, List.set_cons_zero, List.set_cons_succ]
        refine wpAnyH_take (i := 1) (v := ?_) (by simp only [List.getElem?_toArray, List.getElem?_cons_succ, List.getElem?_cons_zero]; rfl) (by kernel_rfl) (by kernel_rfl) (by kernel_rfl) (by intro _ _ _ h; exact h) (Or.inl ⟨by rfl, ?hy⟩) (by assumption) ?_
        case hy => (intro W_ hW_; go_simp; first | done | with_reducible rfl)
        try simp only [Act.put, List.setIfInBounds_toArray, List.set_cons_zero, List.set_cons_succ]
        refine wpAnyH_take (i := 2) (v := ?_) (by simp only [List.getElem?_toArray, List.getElem?_cons_succ, List.getElem?_cons_zero]; rfl) (by kernel_rfl) (by kernel_rfl) (by kernel_rfl) (by intro _ _ _ h; exact h) (Or.inl ⟨by rfl, ?hy⟩) (by assumption) ?_
        case hy => (intro W_ hW_; go_simp; first | done | with_reducible rfl)
        try simp only [Act.put, List.setIfInBounds_toArray, List.set_cons_zero, List.set_cons_succ]
        refine wpAnyH_take (i := 3) (v := ?_) (by simp only [List.getElem?_toArray, List.getElem?_cons_succ, List.getElem?_cons_zero]; rfl) (by kernel_rfl) (by kernel_rfl) (by kernel_rfl) (by intro _ _ _ h; exact h) (Or.inl ⟨by rfl, ?hy⟩) (by assumption) ?_
        case hy => (intro W_ hW_; go_simp; first | done | with_reducible rfl)
        try simp only [Act.put, List.setIfInBounds_toArray, List.set_cons_zero, List.set_cons_succ]
        refine wpAnyH_take (i := 4) (v := ?_) (by simp only [List.getElem?_toArray, List.getElem?_cons_succ, List.getElem?_cons_zero]; rfl) (by kernel_rfl) (by kernel_rfl) (by kernel_rfl) (by intro _ _ _ h; exact h) (Or.inl ⟨by rfl, ?hy⟩) (by assumption) ?_
        case hy => (intro W_ hW_; have f_ := hW_.1; go_simp; first | done | with_reducible rfl)
        try simp only [Act.put, List.setIfInBounds_toArray, List.set_cons_zero, List.set_cons_succ]
        refine wpAnyH_take (i := 5) (v := ?_) (by simp only [List.getElem?_toArray, List.getElem?_cons_succ, List.getElem?_cons_zero]; rfl) (by kernel_rfl) (by kernel_rfl) (by kernel_rfl) (by intro _ _ _ h; exact h) (Or.inl ⟨by rfl, ?hy⟩) (by assumption) ?_
        case hy => (intro W_ hW_; go_simp; first | done | with_reducible rfl)
        try simp only [Act.put, List.setIfInBounds_toArray, List.set_cons_zero, List.set_cons_succ]
        refine wpAnyH_take (i := 6) (v := ?_) (by simp only [List.getElem?_toArray, List.getElem?_cons_succ, List.getElem?_cons_zero]; rfl) (by kernel_rfl) (by kernel_rfl) (by kernel_rfl) (by intro _ _ _ h; exact h) (Or.inl ⟨by rfl, ?hy⟩) (by assumption) ?_
        case hy => (intro W_ hW_; go_simp; first | done | with_reducible rfl)
        try simp only [Act.put, List.setIfInBounds_toArray, List.set_cons_zero, List.set_cons_succ]
        refine wpAnyH_take (i := 7) (v := ?_) (by simp only [List.getElem?_toArray, List.getElem?_cons_succ, List.getElem?_cons_zero]; rfl) (by kernel_rfl) (by kernel_rfl) (by kernel_rfl) (by intro _ _ _ h; exact h) (Or.inl ⟨by rfl, ?hy⟩) (by assumption) ?_
        case hy => (intro W_ hW_; go_simp; first | done | with_reducible rfl)
        try simp only [Act.put, List.setIfInBounds_toArray, List.set_cons_zero, List.set_cons_succ]
        refine wpAnyH_take (i := 8) (v := ?_) (by simp only [List.getElem?_toArray, List.getElem?_cons_succ, List.getElem?_cons_zero]; rfl) (by kernel_rfl) (by kernel_rfl) (by kernel_rfl) (by intro _ _ _ h; exact h) (Or.inl ⟨by rfl, ?hy⟩) (by assumption) ?_
        case hy => (intro W_ hW_; have f_ := hW_.2; go_simp; first | done | with_reducible rfl)
        try simp only [Act.put, List.setIfInBounds_toArray, List.set_cons_zero, List.set_cons_succ]
        refine wpAnyH_take (i := 9) (v := ?_) (by simp only [List.getElem?_toArray, List.getElem?_cons_succ, List.getElem?_cons_zero]; rfl) (by kernel_rfl) (by kernel_rfl) (by kernel_rfl) (by intro _ _ _ h; exact h) (Or.inl ⟨by rfl, ?hy⟩) (by assumption) ?_
        case hy => (intro W_ hW_; go_simp; first | done | with_reducible rfl)
        try simp only [Act.put, List.setIfInBounds_toArray, List.set_cons_zero, List.set_cons_succ]
        refine wpAnyH_take (i := 10) (v := ?_) (by simp only [List.getElem?_toArray, List.getElem?_cons_succ, List.getElem?_cons_zero]; rfl) (by kernel_rfl) (by kernel_rfl) (by kernel_rfl) (by intro _ _ _ h; exact h) (Or.inl ⟨by rfl, ?hy⟩) (by assumption) ?_
        case hy => (intro W_ hW_; go_simp; first | done | with_reducible rfl)
        try simp only [Act.put, List.setIfInBounds_toArray, List.set_cons_zero, List.set_cons_succ]
        refine wpAnyH_take (i := 12) (v := ?_) (by simp only [List.getElem?_toArray, List.getElem?_cons_succ, List.getElem?_cons_zero]; rfl) (by kernel_rfl) (by kernel_rfl) (by kernel_rfl) (by intro _ _ _ h; exact h) (Or.inl ⟨by rfl, ?hy⟩) (by assumption) ?_
        case hy => (intro W_ hW_; go_simp; first | done | with_reducible rfl)
        try simp only [Act.put, List.setIfInBounds_toArray, List.set_cons_zero, List.set_cons_succ]
        refine wpAnyH_take (i := 15) (v := ?_) (by simp only [List.getElem?_toArray, List.getElem?_cons_succ, List.getElem?_cons_zero]; rfl) (by kernel_rfl) (by kernel_rfl) (by kernel_rfl) (by intro _ _ _ h; exact h) (Or.inl ⟨by rfl, ?hy⟩) (by assumption) ?_
        case hy => (intro W_ hW_; go_simp; first | done | with_reducible rfl)
        try simp only [Act.put, List.setIfInBounds_toArray, List.set_cons_zero, List.set_cons_succ]
        refine wpAnyH_take (i := 16) (v := ?_) (by simp only [List.getElem?_toArray, List.getElem?_cons_succ, List.getElem?_cons_zero]; rfl) (by kernel_rfl) (by kernel_rfl) (by kernel_rfl) (by intro _ _ _ h; exact h) (Or.inl ⟨by rfl, ?hy⟩) (by assumption) ?_
        case hy => (intro W_ hW_; go_simp; first | done | with_reducible rfl)
        try simp only [Act.put, List.setIfInBounds_toArray, List.set_cons_zero, List.set_cons_succ]
        refine wpAnyH_take (i := 19) (v := ?_) (by simp only [List.getElem?_toArray, List.getElem?_cons_succ, List.getElem?_cons_zero]; rfl) (by kernel_rfl) (by kernel_rfl) (by kernel_rfl) (by intro _ _ _ h; exact h) (Or.inl ⟨by rfl, ?hy⟩) (by assumption) ?_
        case hy => (intro W_ hW_; go_simp; first | done | with_reducible rfl)
        try simp only [Act.put, List.setIfInBounds_toArray, List.set_cons_zero, List.set_cons_succ]
        refine wpAnyH_take (i := 21) (v := ?_) (by simp only [List.getElem?_toArray, List.getElem?_cons_succ, List.getElem?_cons_zero]; rfl) (by kernel_rfl) (by kernel_rfl) (by kernel_rfl) (by intro _ _ _ h; exact h) (Or.inl ⟨by rfl, ?hy⟩) (by assumption) ?_
        case hy => (intro W_ hW_; go_simp; first | done | with_reducible rfl)
        try simp only [Act.put, List.setIfInBounds_toArray, List.set_cons_zero, List.set_cons_succ]
        refine wpAnyH_take (i := 24) (v := ?_) (by simp only [List.getElem?_toArray, List.getElem?_cons_succ, List.getElem?_cons_zero]; rfl) (by kernel_rfl) (by kernel_rfl) (by kernel_rfl) (by intro _ _ _ h; exact h) (Or.inl ⟨by rfl, ?hy⟩) (by assumption) ?_
        case hy => (intro W_ hW_; go_simp; first | done | with_reducible rfl)
        try simp only [Act.put, List.setIfInBounds_toArray, List.set_cons_zero, List.set_cons_succ]
        refine wpAnyH_take (i := 25) (v := ?_) (by simp only [List.getElem?_toArray, List.getElem?_cons_succ, List.getElem?_cons_zero]; rfl) (by kernel_rfl) (by kernel_rfl) (by kernel_rfl) (by intro _ _ _ h; exact h) (Or.inl ⟨by rfl, ?hy⟩) (by assumption) ?_
        case hy => (intro W_ hW_; go_simp; first | done | with_reducible rfl)
        try simp only [Act.put, List.setIfInBounds_toArray, List.set_cons_zero, List.set_cons_succ]
        refine wpAnyH_ready (rs := [11]) (by kernel_rfl) (by simp) ?_
        refine AllReadyH.cons (by simp only [List.getElem?_toArray, List.getElem?_cons_succ, List.getElem?_cons_zero]; rfl) (fun K hK => ?_) AllReadyH.nil
        rw [if_pos (by rfl)]
        go_wp2_with fail
        refine (sha_right.calls _ _ _ _ (right_7 _)).mono ?_
        rintro e w2 ⟨rfl, ⟨q_, rfl⟩⟩
        refine hK.out _ _ (hHeld) (fun hHeld2 => ?_)
        clear hK K hHeld
        have hHeld := hHeld2
        clear hHeld2
        try simp only [Act.put, List.setIfInBounds_toArray, List.set_cons_zero, List.set_cons_succ]
        refine wpAnyH_ready (rs := [13]) (by kernel_rfl) (by simp) ?_
        refine AllReadyH.cons (by simp only [List.getElem?_toArray, List.getElem?_cons_succ, List.getElem?_cons_zero]; rfl) (fun K hK => ?_) AllReadyH.nil
        rw [if_pos (by rfl)]
        go_wp2_with fail
        refine (sha_right.calls _ _ _ _ (right_18 _)).mono ?_
        rintro e w2 ⟨rfl, ⟨q_, rfl⟩⟩
        refine hK.out _ _ (hHeld) (fun hHeld2 => ?_)
        clear hK K hHeld
        have hHeld := hHeld2
        clear hHeld2
        try simp only [Act.put, List.setIfInBounds_toArray, List.set_cons_zero, List.set_cons_succ]
        refine wpAnyH_take (i := 14) (v := ?_) (by simp only [List.getElem?_toArray, List.getElem?_cons_succ, List.getElem?_cons_zero]; rfl) (by kernel_rfl) (by kernel_rfl) (by kernel_rfl) (by intro _ _ _ h; exact h) (Or.inl ⟨by rfl, ?hy⟩) (by assumption) ?_
        case hy => (intro W_ hW_; go_simp; first | done | with_reducible rfl)
        try simp only [Act.put, List.setIfInBounds_toArray, List.set_cons_zero, List.set_cons_succ]
        refine wpAnyH_take (i := 17) (v := ?_) (by simp only [List.getElem?_toArray, List.getElem?_cons_succ, List.getElem?_cons_zero]; rfl) (by kernel_rfl) (by kernel_rfl) (by kernel_rfl) (by intro _ _ _ h; exact h) (Or.inl ⟨by rfl, ?hy⟩) (by assumption) ?_
        case hy => (intro W_ hW_; go_simp; first | done | with_reducible rfl)
        try simp only [Act.put, List.setIfInBounds_toArray, List.set_cons_zero, List.set_cons_succ]
        refine wpAnyH_take (i := 18) (v := ?_) (by simp only [List.getElem?_toArray, List.getElem?_cons_succ, List.getElem?_cons_zero]; rfl) (by kernel_rfl) (by kernel_rfl) (by kernel_rfl) (by intro _ _ _ h; exact h) (Or.inl ⟨by rfl, ?hy⟩) (by assumption) ?_
        case hy => (intro W_ hW_; go_simp; first | done | with_reducible rfl)
        try simp only [Act.put, List.setIfInBounds_toArray, List.set_cons_zero, List.set_cons_succ]
        refine wpAnyH_ready (rs := [20]) (by kernel_rfl) (by simp) ?_
        refine AllReadyH.cons (by simp only [List.getElem?_toArray, List.getElem?_cons_succ, List.getElem?_cons_zero]; rfl) (fun K hK => ?_) AllReadyH.nil
        rw [if_pos (by rfl)]
        go_wp2_with fail
        refine (sha_right.calls _ _ _ _ (right_17 _)).mono ?_
        rintro e w2 ⟨rfl, ⟨q_, rfl⟩⟩
        refine hK.out _ _ (hHeld) (fun hHeld2 => ?_)
        clear hK K hHeld
        have hHeld := hHeld2
        clear hHeld2
        try simp only [Act.put, List.setIfInBounds_toArray, List.set_cons_zero, List.set_cons_succ]
        refine wpAnyH_ready (rs := [22]) (by kernel_rfl) (by simp) ?_
        refine AllReadyH.cons (by simp only [List.getElem?_toArray, List.getElem?_cons_succ, List.getElem?_cons_zero]; rfl) (fun K hK => ?_) AllReadyH.nil
        rw [if_pos (by rfl)]
        go_wp2_with fail
        refine (sha_right.calls _ _ _ _ (right_19 _)).mono ?_
        rintro e w2 ⟨rfl, ⟨q_, rfl⟩⟩
        refine hK.out _ _ (hHeld) (fun hHeld2 => ?_)
        clear hK K hHeld
        have hHeld := hHeld2
        clear hHeld2
        try simp only [Act.put, List.setIfInBounds_toArray, List.set_cons_zero, List.set_cons_succ]
        refine wpAnyH_take (i := 23) (v := ?_) (by simp only [List.getElem?_toArray, List.getElem?_cons_succ, List.getElem?_cons_zero]; rfl) (by kernel_rfl) (by kernel_rfl) (by kernel_rfl) (by intro _ _ _ h; exact h) (Or.inl ⟨by rfl, ?hy⟩) (by assumption) ?_
        case hy => (intro W_ hW_; go_simp; first | done | with_reducible rfl)
        try simp only [Act.put, List.setIfInBounds_toArray, List.set_cons_zero, List.set_cons_succ]
        refine wpAnyH_take (i := 26) (v := ?_) (by simp only [List.getElem?_toArray, List.getElem?_cons_succ, List.getElem?_cons_zero]; rfl) (by kernel_rfl) (by kernel_rfl) (by kernel_rfl) (by intro _ _ _ h; exact h) (Or.inl ⟨by rfl, ?hy⟩) (by assumption) ?_
        case hy => (intro W_ hW_; go_simp; first | done | with_reducible rfl)
        try simp only [Act.put, List.setIfInBounds_toArray, List.set_cons_zero, List.set_cons_succ]
        refine wpAnyH_take (i := 27) (v := ?_) (by simp only [List.getElem?_toArray, List.getElem?_cons_succ, List.getElem?_cons_zero]; rfl) (by kernel_rfl) (by kernel_rfl) (by kernel_rfl) (by intro _ _ _ h; exact h) (Or.inl ⟨by rfl, ?hy⟩) (by assumption) ?_
        case hy => (intro W_ hW_; go_simp; first | done | with_reducible rfl)
        try simp only [Act.put, List.setIfInBounds_toArray, List.set_cons_zero, List.set_cons_succ]
        refine wpAnyH_take (i := 28) (v := ?_) (by simp only [List.getElem?_toArray, List.getElem?_cons_succ, List.getElem?_cons_zero]; rfl) (by kernel_rfl) (by kernel_rfl) (by kernel_rfl) (by intro _ _ _ h; exact h) (Or.inl ⟨by rfl, ?hy⟩) (by assumption) ?_
        case hy => (intro W_ hW_; go_simp; first | done | with_reducible rfl)
        try simp only [Act.put, List.setIfInBounds_toArray, List.set_cons_zero, List.set_cons_succ]
        refine wpAnyH_ready (rs := [29]) (by kernel_rfl) (by simp) ?_
        refine AllReadyH.cons (by simp only [List.getElem?_toArray, List.getElem?_cons_succ, List.getElem?_cons_zero]; rfl) (fun K hK => ?_) AllReadyH.nil
        rw [if_pos (by rfl)]
        have y1_ := Blk.cell HB.out (i := i) (by rw [schedAt_length]; exact hi); have y2_ := Blk.free HB.out i
        go_wp2_with fail
        refine hK.out _ _ (And.intro (by exact Blk.cell_set HB.out (by rw [schedAt_length]; exact of_eq_true n16) (by have := H16.out; omega)) (by exact Blk.cell_set HB.out (by rw [schedAt_length]; exact of_eq_true n7) (by have := H7.out; omega))) (fun hHeld2 => ?_)
        clear hK K hHeld
        have hHeld := hHeld2
        clear hHeld2
        try simp only [Act.put, List.setIfInBounds_toArray, List.set_cons_zero, List.set_cons_succ]
        refine wpAnyH_done (by kernel_rfl) ?_ _
        have HE : Aside0 (later (schedAt l i) i = ((schedAt l i)[z16]?.getD 0 + (schedAt l i)[z7]?.getD 0 + bits BinOp.xor IntKind.u32 (bits BinOp.xor IntKind.u32 (rotr ((schedAt l i)[z15]?.getD 0) 7) (rotr ((schedAt l i)[z15]?.getD 0) 18)) ((schedAt l i)[z15]?.getD 0 / 8) + bits BinOp.xor IntKind.u32 (bits BinOp.xor IntKind.u32 (rotr ((schedAt l i)[z2]?.getD 0) 17) (rotr ((schedAt l i)[z2]?.getD 0) 19)) ((schedAt l i)[z2]?.getD 0 / 1024)) % 4294967296) := ⟨by
          rw [H16.out, H7.out, H15.out, H2.out]; rfl⟩
        clear H16 H7 H15 H2
        go_wp2_with fail
        go_roundg (64 - (i + 1))
        case measure => have := HI.out; omega
        case rel =>
          refine ⟨i + 1, by simp, ⟨rfl, by omega⟩, ⟨?_⟩, ⟨?_⟩, ⟨?_⟩⟩
          · rw [← HE.out]
            simp only [schedAt, if_neg h16]
            exact Blk.set HB.out i _
          · unfold Blk
            rw [heap_setCell_other _ _ _ _ (by simp)]
            exact HZ.out
          · exact below_set (pw_below_drewN HL.out _) (by omega)
    · have d1 : decide (i < 64) = false := decide_eq_false hi
      have d2 : decide ((i : Int) < 64) = false := decide_eq_false (by omega)
      obtain rfl : i = 64 := by have := HI.out; omega
      have hsz : ((schedAt l 64).map (Value.int .u32)).toArray.size = 64 := by simp [schedAt_length]
      have hall : ((schedAt l 64).map (Value.int .u32)).toArray.all (·.oneCell') = true := by simp [Value.oneCell']
      have hB := HB.out
      unfold Blk at hB
      obtain ⟨cs, hcs⟩ : ∃ cs, cs = ((schedAt l 64).map (Value.int .u32)).toArray := ⟨_, rfl⟩
      rw [← hcs] at hB hsz hall
      have HCS := Aside0.mk hcs
      clear hcs
      have HBB := Aside0.mk hB
      have HSZ := Aside0.mk hsz
      have HALL := Aside0.mk hall
      have hst : (storeCells ⟨w.heap.size, 0, none⟩ cs.toList).run Try.prog wr = .ok () (wr.setRow w.heap.size cs) := by
        have := run_storeCells_from (P := Try.prog) w.heap.size 42 cs.toList 0 _ wr HZ.out (by simp [hsz]) (fun v hv => (Array.all_eq_true_iff_forall_mem.1 hall) v (by simpa using hv))
        simpa using this
      have HROW := Aside0.mk (setRow_heap wr w.heap.size _ cs 42 (0, 0) HZ.out)
      have HBL : Aside0 (Below w.heap.size w (wr.setRow w.heap.size cs)) := ⟨⟨HL.out.os, HL.out.tape, HL.out.output, by rw [setRow_size]; exact HL.out.size, fun k hk => by rw [setRow_other _ _ _ _ (by omega)]; exact HL.out.block k hk⟩⟩
      clear hB hall
      go_wp2_with (first
        | ((with_reducible refine gate_dst (N := 85) rfl ?_); refine wpList_load_row rfl 42 (.tmp 3) rfl (w.heap.size + 1) rfl 42 cs (0, 0) _ HBB.out rfl (by kernel_rfl) (by rw [HSZ.out]; kernel_rfl) ?_)
        | fail)
      refine bodyPost_ret (v := .agg cs) ?_ rfl ⟨by rw [HCS.out], HBL.out⟩
      exact results_cell_row (P := Try.prog) Try.results24 _ _ w.heap.size 42 cs (0, 0) _ rfl HROW.out rfl (by kernel_rfl) (by rw [hsz]; kernel_rfl)

end Go.Proofs.Ytenkaaigalcgcaa.X
