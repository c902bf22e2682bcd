/- Known digests: the walk. -/
import Derived.Test.YtenkaaigalcgcaaSKn
namespace Go.Proofs.Ytenkaaigalcgcaa.X
set_option linter.unusedVariables false
set_option linter.unusedSimpArgs false
open Go.RowKit Go.Proofs.YtenkaaigalcgcaaW.PrintWords Go.Proofs.YtenkaaigalcgcaaW.PrintLast Go.Proofs.YtenkaaigalcgcaaW.PrintMore

set_option maxRecDepth 1000000 in
theorem sha_two : shaOf (bytesOf ⟨#[97, 98, 99, 100, 98, 99, 100, 101, 99, 100, 101, 102, 100, 101, 102, 103, 101, 102, 103, 104, 102, 103, 104, 105, 103, 104, 105, 106, 104, 105, 106, 107, 105, 106, 107, 108, 106, 107, 108, 109, 107, 108, 109, 110, 108, 109, 110, 111, 109, 110, 111, 112, 110, 111, 112, 113]⟩) = twoL := by decide +kernel
theorem of_two (w : World) : Calls Try.prog 12 #[.string ⟨#[97, 98, 99, 100, 98, 99, 100, 101, 99, 100, 101, 102, 100, 101, 102, 103, 101, 102, 103, 104, 102, 103, 104, 105, 103, 104, 105, 106, 104, 105, 106, 107, 105, 106, 107, 108, 106, 107, 108, 109, 107, 108, 109, 110, 108, 109, 110, 111, 109, 110, 111, 112, 110, 111, 112, 113]⟩] w fun e w' => e = .returned (.agg (cells8 twoL)) ∧ Below w.heap.size w w' := by
  have := of_call ⟨#[97, 98, 99, 100, 98, 99, 100, 101, 99, 100, 101, 102, 100, 101, 102, 103, 101, 102, 103, 104, 102, 103, 104, 105, 103, 104, 105, 106, 104, 105, 106, 107, 105, 106, 107, 108, 106, 107, 108, 109, 107, 108, 109, 110, 108, 109, 110, 111, 109, 110, 111, 112, 110, 111, 112, 113]⟩ w (by decide)
  rw [sha_two] at this
  exact this
theorem chain1 (w : World) (A B C D E : Obj) : (((((w.alloc A).alloc B).alloc C).alloc D).alloc E).heap[w.heap.size + 1]? = some B := by
  show (((((w.heap.push A).push B).push C).push D).push E)[_]? = _
  simp only [Array.getElem?_push, Array.size_push]
  rw [if_neg (by omega), if_neg (by omega), if_neg (by omega)]
  try simp
theorem chain2 (w : World) (A B C D E : Obj) : (((((w.alloc A).alloc B).alloc C).alloc D).alloc E).heap[w.heap.size + 1 + 1]? = some C := by
  show (((((w.heap.push A).push B).push C).push D).push E)[_]? = _
  simp only [Array.getElem?_push, Array.size_push]
  rw [if_neg (by omega), if_neg (by omega)]
  try simp
theorem chain3 (w : World) (A B C D E : Obj) : (((((w.alloc A).alloc B).alloc C).alloc D).alloc E).heap[w.heap.size + 1 + 1 + 1]? = some D := by
  show (((((w.heap.push A).push B).push C).push D).push E)[_]? = _
  simp only [Array.getElem?_push, Array.size_push]
  rw [if_neg (by omega)]
  try simp
theorem chain4 (w : World) (A B C D E : Obj) : (((((w.alloc A).alloc B).alloc C).alloc D).alloc E).heap[w.heap.size + 1 + 1 + 1 + 1]? = some E := by
  show (((((w.heap.push A).push B).push C).push D).push E)[_]? = _
  simp only [Array.getElem?_push, Array.size_push]
  try simp

theorem same_nil : ∀ i, i < 8 → nilL.getD i 0 = ([227, 176, 196, 66, 152, 252, 28, 20] : List Int).getD i 0 := by decide
set_option maxHeartbeats 1000000 in
set_option maxRecDepth 100000 in
theorem known_nil (m : Nat) (w : World) (hm : m ≤ 8) :
    Calls Try.prog 7 #[.int .i64 0, .int .i64 m] w fun e w' => e = .returned (.bool true) ∧ Below w.heap.size w w' := by
  have m0 : (0 : Int) ≤ (m : Int) := by omega
  have m1 : (m : Int) ≤ 8 := by omega
  have d0 : decide (8 < m) = false := decide_eq_false (by omega)
  have d0' : decide (8 < (m : Int)) = false := decide_eq_false (by omega)
  have d1 : decide ((m : Int) < 0) = false := decide_eq_false (by omega)
  go_enter Try.func7, Try.ntmps7
  go_wp2_with fail
  refine (awake_call _).mono ?_
  rintro e w1 ⟨rfl, hb1⟩
  have HB1 := Aside0.mk hb1
  clear hb1
  go_wp2_with fail
  refine (of_nil _).mono ?_
  rintro e w2 ⟨rfl, hb2⟩
  have HB2 : Aside0 (Below w.heap.size w w2) := ⟨below_step (below_alloc (below_alloc (below_alloc (below_alloc (below_alloc HB1.out _) _) _) _) _) hb2⟩
  have HF : Aside0 (Blk8 w2 (w1.heap.size + 1) 5 [227, 176, 196, 66, 152, 252, 28, 20]) := ⟨(hb2.block _ (by simp)).trans (chain1 w1 _ _ _ _ _)⟩
  have HT : Aside0 (w2.cell? ⟨w1.heap.size + 1 + 1 + 1 + 1, 0, none⟩ = some (.slice (some ⟨w1.heap.size + 1, 0, none⟩) 8 8)) := ⟨by
    rw [hb2.cell (p := ⟨w1.heap.size + 1 + 1 + 1 + 1, 0, none⟩) (by simp)]
    rw [blk_cell (chain4 w1 _ _ _ _ _)]
    rfl⟩
  have HTL : Aside0 (w1.heap.size + 1 + 1 + 1 + 1 < w2.heap.size) := ⟨by have := hb2.size; simp at this; omega⟩
  clear hb2
  have hz : (cells8 nilL).size = 32 := by kernel_rfl
  have hst := store_new w2 #[.int .u8 0, .int .u8 0, .int .u8 0, .int .u8 0, .int .u8 0, .int .u8 0, .int .u8 0, .int .u8 0, .int .u8 0, .int .u8 0, .int .u8 0, .int .u8 0, .int .u8 0, .int .u8 0, .int .u8 0, .int .u8 0, .int .u8 0, .int .u8 0, .int .u8 0, .int .u8 0, .int .u8 0, .int .u8 0, .int .u8 0, .int .u8 0, .int .u8 0, .int .u8 0, .int .u8 0, .int .u8 0, .int .u8 0, .int .u8 0, .int .u8 0, .int .u8 0] (cells8 nilL) 24 (by kernel_rfl) (cells8_all nilL)
  have HX : Aside0 (Blk8 (w2.alloc (.cells (cells8 nilL) 24 (0, 0))) w2.heap.size 24 nilL) := ⟨heap_alloc_new w2 _⟩
  have HF3 : Aside0 (Blk8 (w2.alloc (.cells (cells8 nilL) 24 (0, 0))) (w1.heap.size + 1) 5 [227, 176, 196, 66, 152, 252, 28, 20]) := ⟨Blk8.below HF.out (below_alloc (Below.refl _ _) _) (Blk8.lt HF.out)⟩
  have HT3 : Aside0 ((w2.alloc (.cells (cells8 nilL) 24 (0, 0))).cell? ⟨w1.heap.size + 1 + 1 + 1 + 1, 0, none⟩ = some (.slice (some ⟨w1.heap.size + 1, 0, none⟩) 8 8)) := ⟨((below_alloc (Below.refl w2.heap.size w2) _).cell (p := ⟨w1.heap.size + 1 + 1 + 1 + 1, 0, none⟩) HTL.out).trans HT.out⟩
  go_wp2_with fail
  clear hst HF HT
  go_loopg [9] m (fun q v9 w' => ∃ i : Nat, v9 = .int .i64 (i : Int) ∧ Aside0 (q = m - i ∧ i ≤ m) ∧ Aside0 (Blk8 w' w2.heap.size 24 nilL ∧ w'.cell? ⟨w1.heap.size + 1 + 1 + 1 + 1, 0, none⟩ = some (.slice (some ⟨w1.heap.size + 1, 0, none⟩) 8 8) ∧ Blk8 w' (w1.heap.size + 1) 5 [227, 176, 196, 66, 152, 252, 28, 20]) ∧ Aside0 (Below w.heap.size w w'))
  case atStart => exact ⟨0, rfl, ⟨by omega, by omega⟩, ⟨HX.out, HT3.out, HF3.out⟩, ⟨below_alloc HB2.out _⟩⟩
  case round =>
    clear HX HT3 HF3
    obtain ⟨i, rfl, HI, HH, HL⟩ := hrel
    by_cases hi : i < m
    · have e1 : decide ((i : Int) < (m : Int)) = true := decide_eq_true (by omega)
      have e2 : decide (i < m) = true := decide_eq_true hi
      have pi : (0 ≤ (i : Int)) = True := eq_true (by omega)
      have qi : ((i : Int) < 32) = True := eq_true (by omega)
      have ri : ((i : Int) < 8) = True := eq_true (by omega)
      have i8 : i < 8 := by omega
      have hwr : IntKind.i64.wrap ((i : Int) + 1) = ((i + 1 : Nat) : Int) := by rw [i64_w]; unfold wrap64; omega
      obtain ⟨z, hz1⟩ : ∃ z, z = nilL.getD i 0 := ⟨_, rfl⟩
      have hz2 : ([227, 176, 196, 66, 152, 252, 28, 20] : List Int).getD i 0 = z := by rw [hz1, same_nil i i8]
      have HZ1 := Aside0.mk hz1
      have HZ2 := Aside0.mk hz2
      clear hz1 hz2
      have zz : (z != z) = false := by simp
      go_wp2_with fail
      refine wp_region_held_drew (S := (fun W => Blk8 W w2.heap.size 24 nilL ∧ W.cell? ⟨w1.heap.size + 1 + 1 + 1 + 1, 0, none⟩ = some (.slice (some ⟨w1.heap.size + 1, 0, none⟩) 8 8) ∧ Blk8 W (w1.heap.size + 1) 5 [227, 176, 196, 66, 152, 252, 28, 20])) (by kernel_rfl) (HH.out) (fun hHeld => ?_)
      refine wpAnyH_take (i := 0) (v := ?_) (by simp only [List.getElem?_toArray, List.getElem?_cons_succ, List.getElem?_cons_zero]; rfl) (by kernel_rfl) (by kernel_rfl) (by kernel_rfl) (by intro _ _ _ h; exact h) (Or.inl ⟨by rfl, ?hy⟩) (by assumption) ?_
      case hy => (intro W_ hW_; go_simp; first | done | with_reducible rfl)
      try simp only [Act.put, List.setIfInBounds_toArray, List.set_cons_zero, List.set_cons_succ]
      refine wpAnyH_take (i := 1) (v := ?_) (by simp only [List.getElem?_toArray, List.getElem?_cons_succ, List.getElem?_cons_zero]; rfl) (by kernel_rfl) (by kernel_rfl) (by kernel_rfl) (by intro _ _ _ h; exact h) (Or.inl ⟨by rfl, ?hy⟩) (by assumption) ?_
      case hy => (intro W_ hW_; go_simp; first | done | with_reducible rfl)
      try simp only [Act.put, List.setIfInBounds_toArray, List.set_cons_zero, List.set_cons_succ]
      refine wpAnyH_take (i := 2) (v := ?_) (by simp only [List.getElem?_toArray, List.getElem?_cons_succ, List.getElem?_cons_zero]; rfl) (by kernel_rfl) (by kernel_rfl) (by kernel_rfl) (by intro _ _ _ h; exact h) (Or.inl ⟨by rfl, ?hy⟩) (by assumption) ?_
      case hy => (intro W_ hW_; have f_ := hW_.1.cell (i := i) (show i < 32 by omega); rw [← HZ1.out] at f_; go_simp; first | done | with_reducible rfl)
      try simp only [Act.put, List.setIfInBounds_toArray, List.set_cons_zero, List.set_cons_succ]
      refine wpAnyH_take (i := 3) (v := ?_) (by simp only [List.getElem?_toArray, List.getElem?_cons_succ, List.getElem?_cons_zero]; rfl) (by kernel_rfl) (by kernel_rfl) (by kernel_rfl) (by intro _ _ _ h; exact h) (Or.inl ⟨by rfl, ?hy⟩) (by assumption) ?_
      case hy => (intro W_ hW_; go_simp; first | done | with_reducible rfl)
      try simp only [Act.put, List.setIfInBounds_toArray, List.set_cons_zero, List.set_cons_succ]
      refine wpAnyH_take (i := 4) (v := ?_) (by simp only [List.getElem?_toArray, List.getElem?_cons_succ, List.getElem?_cons_zero]; rfl) (by kernel_rfl) (by kernel_rfl) (by kernel_rfl) (by intro _ _ _ h; exact h) (Or.inl ⟨by rfl, ?hy⟩) (by assumption) ?_
      case hy => (intro W_ hW_; go_simp; first | done | with_reducible rfl)
      try simp only [Act.put, List.setIfInBounds_toArray, List.set_cons_zero, List.set_cons_succ]
      refine wpAnyH_take (i := 5) (v := ?_) (by simp only [List.getElem?_toArray, List.getElem?_cons_succ, List.getElem?_cons_zero]; rfl) (by kernel_rfl) (by kernel_rfl) (by kernel_rfl) (by intro _ _ _ h; exact h) (Or.inl ⟨by rfl, ?hy⟩) (by assumption) ?_
      case hy => (intro W_ hW_; go_simp; first | done | with_reducible rfl)
      try simp only [Act.put, List.setIfInBounds_toArray, List.set_cons_zero, List.set_cons_succ]
      refine wpAnyH_take (i := 6) (v := ?_) (by simp only [List.getElem?_toArray, List.getElem?_cons_succ, List.getElem?_cons_zero]; rfl) (by kernel_rfl) (by kernel_rfl) (by kernel_rfl) (by intro _ _ _ h; exact h) (Or.inl ⟨by rfl, ?hy⟩) (by assumption) ?_
      case hy => (intro W_ hW_; have f_ := hW_.2.1; go_simp; first | done | with_reducible rfl)
      try simp only [Act.put, List.setIfInBounds_toArray, List.set_cons_zero, List.set_cons_succ]
      refine wpAnyH_take (i := 7) (v := ?_) (by simp only [List.getElem?_toArray, List.getElem?_cons_succ, List.getElem?_cons_zero]; rfl) (by kernel_rfl) (by kernel_rfl) (by kernel_rfl) (by intro _ _ _ h; exact h) (Or.inl ⟨by rfl, ?hy⟩) (by assumption) ?_
      case hy => (intro W_ hW_; go_simp; first | done | with_reducible rfl)
      try simp only [Act.put, List.setIfInBounds_toArray, List.set_cons_zero, List.set_cons_succ]
      refine wpAnyH_take (i := 8) (v := ?_) (by simp only [List.getElem?_toArray, List.getElem?_cons_succ, List.getElem?_cons_zero]; rfl) (by kernel_rfl) (by kernel_rfl) (by kernel_rfl) (by intro _ _ _ h; exact h) (Or.inl ⟨by rfl, ?hy⟩) (by assumption) ?_
      case hy => (intro W_ hW_; go_simp; first | done | with_reducible rfl)
      try simp only [Act.put, List.setIfInBounds_toArray, List.set_cons_zero, List.set_cons_succ]
      refine wpAnyH_take (i := 9) (v := ?_) (by simp only [List.getElem?_toArray, List.getElem?_cons_succ, List.getElem?_cons_zero]; rfl) (by kernel_rfl) (by kernel_rfl) (by kernel_rfl) (by intro _ _ _ h; exact h) (Or.inl ⟨by rfl, ?hy⟩) (by assumption) ?_
      case hy => (intro W_ hW_; have f_ := hW_.2.2.cell (i := i) (show i < 8 by omega); rw [HZ2.out] at f_; go_simp; first | done | with_reducible rfl)
      try simp only [Act.put, List.setIfInBounds_toArray, List.set_cons_zero, List.set_cons_succ]
      refine wpAnyH_take (i := 10) (v := ?_) (by simp only [List.getElem?_toArray, List.getElem?_cons_succ, List.getElem?_cons_zero]; rfl) (by kernel_rfl) (by kernel_rfl) (by kernel_rfl) (by intro _ _ _ h; exact h) (Or.inl ⟨by rfl, ?hy⟩) (by assumption) ?_
      case hy => (intro W_ hW_; go_simp; first | done | with_reducible rfl)
      try simp only [Act.put, List.setIfInBounds_toArray, List.set_cons_zero, List.set_cons_succ]
      refine wpAnyH_done (by kernel_rfl) ?_ _
      go_wp2_with fail
      go_roundg (m - (i + 1))
      case measure => have := HI.out; omega
      case rel => exact ⟨i + 1, by simp, ⟨rfl, by omega⟩, ⟨hHeld⟩, ⟨below_drew HL.out⟩⟩
    · have e1 : decide ((i : Int) < (m : Int)) = false := decide_eq_false (by omega)
      have e2 : decide (i < m) = false := decide_eq_false hi
      go_wp2_with fail
      go_ret
      exact ⟨rfl, HL.out⟩

theorem same_abc : ∀ i, i < 8 → abcL.getD i 0 = ([186, 120, 22, 191, 143, 1, 207, 234] : List Int).getD i 0 := by decide
set_option maxHeartbeats 1000000 in
set_option maxRecDepth 100000 in
theorem known_abc (m : Nat) (w : World) (hm : m ≤ 8) :
    Calls Try.prog 7 #[.int .i64 1, .int .i64 m] w fun e w' => e = .returned (.bool true) ∧ Below w.heap.size w w' := by
  have m0 : (0 : Int) ≤ (m : Int) := by omega
  have m1 : (m : Int) ≤ 8 := by omega
  have d0 : decide (8 < m) = false := decide_eq_false (by omega)
  have d0' : decide (8 < (m : Int)) = false := decide_eq_false (by omega)
  have d1 : decide ((m : Int) < 0) = false := decide_eq_false (by omega)
  go_enter Try.func7, Try.ntmps7
  go_wp2_with fail
  refine (awake_call _).mono ?_
  rintro e w1 ⟨rfl, hb1⟩
  have HB1 := Aside0.mk hb1
  clear hb1
  go_wp2_with fail
  refine (of_abc _).mono ?_
  rintro e w2 ⟨rfl, hb2⟩
  have HB2 : Aside0 (Below w.heap.size w w2) := ⟨below_step (below_alloc (below_alloc (below_alloc (below_alloc (below_alloc HB1.out _) _) _) _) _) hb2⟩
  have HF : Aside0 (Blk8 w2 (w1.heap.size + 1 + 1) 5 [186, 120, 22, 191, 143, 1, 207, 234]) := ⟨(hb2.block _ (by simp)).trans (chain2 w1 _ _ _ _ _)⟩
  have HT : Aside0 (w2.cell? ⟨w1.heap.size + 1 + 1 + 1 + 1, 1, none⟩ = some (.slice (some ⟨w1.heap.size + 1 + 1, 0, none⟩) 8 8)) := ⟨by
    rw [hb2.cell (p := ⟨w1.heap.size + 1 + 1 + 1 + 1, 1, none⟩) (by simp)]
    rw [blk_cell (chain4 w1 _ _ _ _ _)]
    rfl⟩
  have HTL : Aside0 (w1.heap.size + 1 + 1 + 1 + 1 < w2.heap.size) := ⟨by have := hb2.size; simp at this; omega⟩
  clear hb2
  have hz : (cells8 abcL).size = 32 := by kernel_rfl
  have hst := store_new w2 #[.int .u8 0, .int .u8 0, .int .u8 0, .int .u8 0, .int .u8 0, .int .u8 0, .int .u8 0, .int .u8 0, .int .u8 0, .int .u8 0, .int .u8 0, .int .u8 0, .int .u8 0, .int .u8 0, .int .u8 0, .int .u8 0, .int .u8 0, .int .u8 0, .int .u8 0, .int .u8 0, .int .u8 0, .int .u8 0, .int .u8 0, .int .u8 0, .int .u8 0, .int .u8 0, .int .u8 0, .int .u8 0, .int .u8 0, .int .u8 0, .int .u8 0, .int .u8 0] (cells8 abcL) 24 (by kernel_rfl) (cells8_all abcL)
  have HX : Aside0 (Blk8 (w2.alloc (.cells (cells8 abcL) 24 (0, 0))) w2.heap.size 24 abcL) := ⟨heap_alloc_new w2 _⟩
  have HF3 : Aside0 (Blk8 (w2.alloc (.cells (cells8 abcL) 24 (0, 0))) (w1.heap.size + 1 + 1) 5 [186, 120, 22, 191, 143, 1, 207, 234]) := ⟨Blk8.below HF.out (below_alloc (Below.refl _ _) _) (Blk8.lt HF.out)⟩
  have HT3 : Aside0 ((w2.alloc (.cells (cells8 abcL) 24 (0, 0))).cell? ⟨w1.heap.size + 1 + 1 + 1 + 1, 1, none⟩ = some (.slice (some ⟨w1.heap.size + 1 + 1, 0, none⟩) 8 8)) := ⟨((below_alloc (Below.refl w2.heap.size w2) _).cell (p := ⟨w1.heap.size + 1 + 1 + 1 + 1, 1, none⟩) HTL.out).trans HT.out⟩
  go_wp2_with fail
  clear hst HF HT
  go_loopg [9] m (fun q v9 w' => ∃ i : Nat, v9 = .int .i64 (i : Int) ∧ Aside0 (q = m - i ∧ i ≤ m) ∧ Aside0 (Blk8 w' w2.heap.size 24 abcL ∧ w'.cell? ⟨w1.heap.size + 1 + 1 + 1 + 1, 1, none⟩ = some (.slice (some ⟨w1.heap.size + 1 + 1, 0, none⟩) 8 8) ∧ Blk8 w' (w1.heap.size + 1 + 1) 5 [186, 120, 22, 191, 143, 1, 207, 234]) ∧ Aside0 (Below w.heap.size w w'))
  case atStart => exact ⟨0, rfl, ⟨by omega, by omega⟩, ⟨HX.out, HT3.out, HF3.out⟩, ⟨below_alloc HB2.out _⟩⟩
  case round =>
    clear HX HT3 HF3
    obtain ⟨i, rfl, HI, HH, HL⟩ := hrel
    by_cases hi : i < m
    · have e1 : decide ((i : Int) < (m : Int)) = true := decide_eq_true (by omega)
      have e2 : decide (i < m) = true := decide_eq_true hi
      have pi : (0 ≤ (i : Int)) = True := eq_true (by omega)
      have qi : ((i : Int) < 32) = True := eq_true (by omega)
      have ri : ((i : Int) < 8) = True := eq_true (by omega)
      have i8 : i < 8 := by omega
      have hwr : IntKind.i64.wrap ((i : Int) + 1) = ((i + 1 : Nat) : Int) := by rw [i64_w]; unfold wrap64; omega
      obtain ⟨z, hz1⟩ : ∃ z, z = abcL.getD i 0 := ⟨_, rfl⟩
      have hz2 : ([186, 120, 22, 191, 143, 1, 207, 234] : List Int).getD i 0 = z := by rw [hz1, same_abc i i8]
      have HZ1 := Aside0.mk hz1
      have HZ2 := Aside0.mk hz2
      clear hz1 hz2
      have zz : (z != z) = false := by simp
      go_wp2_with fail
      refine wp_region_held_drew (S := (fun W => Blk8 W w2.heap.size 24 abcL ∧ W.cell? ⟨w1.heap.size + 1 + 1 + 1 + 1, 1, none⟩ = some (.slice (some ⟨w1.heap.size + 1 + 1, 0, none⟩) 8 8) ∧ Blk8 W (w1.heap.size + 1 + 1) 5 [186, 120, 22, 191, 143, 1, 207, 234])) (by kernel_rfl) (HH.out) (fun hHeld => ?_)
      refine wpAnyH_take (i := 0) (v := ?_) (by simp only [List.getElem?_toArray, List.getElem?_cons_succ, List.getElem?_cons_zero]; rfl) (by kernel_rfl) (by kernel_rfl) (by kernel_rfl) (by intro _ _ _ h; exact h) (Or.inl ⟨by rfl, ?hy⟩) (by assumption) ?_
      case hy => (intro W_ hW_; go_simp; first | done | with_reducible rfl)
      try simp only [Act.put, List.setIfInBounds_toArray, List.set_cons_zero, List.set_cons_succ]
      refine wpAnyH_take (i := 1) (v := ?_) (by simp only [List.getElem?_toArray, List.getElem?_cons_succ, List.getElem?_cons_zero]; rfl) (by kernel_rfl) (by kernel_rfl) (by kernel_rfl) (by intro _ _ _ h; exact h) (Or.inl ⟨by rfl, ?hy⟩) (by assumption) ?_
      case hy => (intro W_ hW_; go_simp; first | done | with_reducible rfl)
      try simp only [Act.put, List.setIfInBounds_toArray, List.set_cons_zero, List.set_cons_succ]
      refine wpAnyH_take (i := 2) (v := ?_) (by simp only [List.getElem?_toArray, List.getElem?_cons_succ, List.getElem?_cons_zero]; rfl) (by kernel_rfl) (by kernel_rfl) (by kernel_rfl) (by intro _ _ _ h; exact h) (Or.inl ⟨by rfl, ?hy⟩) (by assumption) ?_
      case hy => (intro W_ hW_; have f_ := hW_.1.cell (i := i) (show i < 32 by omega); rw [← HZ1.out] at f_; go_simp; first | done | with_reducible rfl)
      try simp only [Act.put, List.setIfInBounds_toArray, List.set_cons_zero, List.set_cons_succ]
      refine wpAnyH_take (i := 3) (v := ?_) (by simp only [List.getElem?_toArray, List.getElem?_cons_succ, List.getElem?_cons_zero]; rfl) (by kernel_rfl) (by kernel_rfl) (by kernel_rfl) (by intro _ _ _ h; exact h) (Or.inl ⟨by rfl, ?hy⟩) (by assumption) ?_
      case hy => (intro W_ hW_; go_simp; first | done | with_reducible rfl)
      try simp only [Act.put, List.setIfInBounds_toArray, List.set_cons_zero, List.set_cons_succ]
      refine wpAnyH_take (i := 4) (v := ?_) (by simp only [List.getElem?_toArray, List.getElem?_cons_succ, List.getElem?_cons_zero]; rfl) (by kernel_rfl) (by kernel_rfl) (by kernel_rfl) (by intro _ _ _ h; exact h) (Or.inl ⟨by rfl, ?hy⟩) (by assumption) ?_
      case hy => (intro W_ hW_; go_simp; first | done | with_reducible rfl)
      try simp only [Act.put, List.setIfInBounds_toArray, List.set_cons_zero, List.set_cons_succ]
      refine wpAnyH_take (i := 5) (v := ?_) (by simp only [List.getElem?_toArray, List.getElem?_cons_succ, List.getElem?_cons_zero]; rfl) (by kernel_rfl) (by kernel_rfl) (by kernel_rfl) (by intro _ _ _ h; exact h) (Or.inl ⟨by rfl, ?hy⟩) (by assumption) ?_
      case hy => (intro W_ hW_; go_simp; first | done | with_reducible rfl)
      try simp only [Act.put, List.setIfInBounds_toArray, List.set_cons_zero, List.set_cons_succ]
      refine wpAnyH_take (i := 6) (v := ?_) (by simp only [List.getElem?_toArray, List.getElem?_cons_succ, List.getElem?_cons_zero]; rfl) (by kernel_rfl) (by kernel_rfl) (by kernel_rfl) (by intro _ _ _ h; exact h) (Or.inl ⟨by rfl, ?hy⟩) (by assumption) ?_
      case hy => (intro W_ hW_; have f_ := hW_.2.1; go_simp; first | done | with_reducible rfl)
      try simp only [Act.put, List.setIfInBounds_toArray, List.set_cons_zero, List.set_cons_succ]
      refine wpAnyH_take (i := 7) (v := ?_) (by simp only [List.getElem?_toArray, List.getElem?_cons_succ, List.getElem?_cons_zero]; rfl) (by kernel_rfl) (by kernel_rfl) (by kernel_rfl) (by intro _ _ _ h; exact h) (Or.inl ⟨by rfl, ?hy⟩) (by assumption) ?_
      case hy => (intro W_ hW_; go_simp; first | done | with_reducible rfl)
      try simp only [Act.put, List.setIfInBounds_toArray, List.set_cons_zero, List.set_cons_succ]
      refine wpAnyH_take (i := 8) (v := ?_) (by simp only [List.getElem?_toArray, List.getElem?_cons_succ, List.getElem?_cons_zero]; rfl) (by kernel_rfl) (by kernel_rfl) (by kernel_rfl) (by intro _ _ _ h; exact h) (Or.inl ⟨by rfl, ?hy⟩) (by assumption) ?_
      case hy => (intro W_ hW_; go_simp; first | done | with_reducible rfl)
      try simp only [Act.put, List.setIfInBounds_toArray, List.set_cons_zero, List.set_cons_succ]
      refine wpAnyH_take (i := 9) (v := ?_) (by simp only [List.getElem?_toArray, List.getElem?_cons_succ, List.getElem?_cons_zero]; rfl) (by kernel_rfl) (by kernel_rfl) (by kernel_rfl) (by intro _ _ _ h; exact h) (Or.inl ⟨by rfl, ?hy⟩) (by assumption) ?_
      case hy => (intro W_ hW_; have f_ := hW_.2.2.cell (i := i) (show i < 8 by omega); rw [HZ2.out] at f_; go_simp; first | done | with_reducible rfl)
      try simp only [Act.put, List.setIfInBounds_toArray, List.set_cons_zero, List.set_cons_succ]
      refine wpAnyH_take (i := 10) (v := ?_) (by simp only [List.getElem?_toArray, List.getElem?_cons_succ, List.getElem?_cons_zero]; rfl) (by kernel_rfl) (by kernel_rfl) (by kernel_rfl) (by intro _ _ _ h; exact h) (Or.inl ⟨by rfl, ?hy⟩) (by assumption) ?_
      case hy => (intro W_ hW_; go_simp; first | done | with_reducible rfl)
      try simp only [Act.put, List.setIfInBounds_toArray, List.set_cons_zero, List.set_cons_succ]
      refine wpAnyH_done (by kernel_rfl) ?_ _
      go_wp2_with fail
      go_roundg (m - (i + 1))
      case measure => have := HI.out; omega
      case rel => exact ⟨i + 1, by simp, ⟨rfl, by omega⟩, ⟨hHeld⟩, ⟨below_drew HL.out⟩⟩
    · have e1 : decide ((i : Int) < (m : Int)) = false := decide_eq_false (by omega)
      have e2 : decide (i < m) = false := decide_eq_false hi
      go_wp2_with fail
      go_ret
      exact ⟨rfl, HL.out⟩

theorem same_two : ∀ i, i < 8 → twoL.getD i 0 = ([36, 141, 106, 97, 210, 6, 56, 184] : List Int).getD i 0 := by decide
set_option maxHeartbeats 1000000 in
set_option maxRecDepth 100000 in
theorem known_two (m : Nat) (w : World) (hm : m ≤ 8) :
    Calls Try.prog 7 #[.int .i64 2, .int .i64 m] w fun e w' => e = .returned (.bool true) ∧ Below w.heap.size w w' := by
  have m0 : (0 : Int) ≤ (m : Int) := by omega
  have m1 : (m : Int) ≤ 8 := by omega
  have d0 : decide (8 < m) = false := decide_eq_false (by omega)
  have d0' : decide (8 < (m : Int)) = false := decide_eq_false (by omega)
  have d1 : decide ((m : Int) < 0) = false := decide_eq_false (by omega)
  go_enter Try.func7, Try.ntmps7
  go_wp2_with fail
  refine (awake_call _).mono ?_
  rintro e w1 ⟨rfl, hb1⟩
  have HB1 := Aside0.mk hb1
  clear hb1
  go_wp2_with fail
  refine (of_two _).mono ?_
  rintro e w2 ⟨rfl, hb2⟩
  have HB2 : Aside0 (Below w.heap.size w w2) := ⟨below_step (below_alloc (below_alloc (below_alloc (below_alloc (below_alloc HB1.out _) _) _) _) _) hb2⟩
  have HF : Aside0 (Blk8 w2 (w1.heap.size + 1 + 1 + 1) 5 [36, 141, 106, 97, 210, 6, 56, 184]) := ⟨(hb2.block _ (by simp)).trans (chain3 w1 _ _ _ _ _)⟩
  have HT : Aside0 (w2.cell? ⟨w1.heap.size + 1 + 1 + 1 + 1, 2, none⟩ = some (.slice (some ⟨w1.heap.size + 1 + 1 + 1, 0, none⟩) 8 8)) := ⟨by
    rw [hb2.cell (p := ⟨w1.heap.size + 1 + 1 + 1 + 1, 2, none⟩) (by simp)]
    rw [blk_cell (chain4 w1 _ _ _ _ _)]
    rfl⟩
  have HTL : Aside0 (w1.heap.size + 1 + 1 + 1 + 1 < w2.heap.size) := ⟨by have := hb2.size; simp at this; omega⟩
  clear hb2
  have hz : (cells8 twoL).size = 32 := by kernel_rfl
  have hst := store_new w2 #[.int .u8 0, .int .u8 0, .int .u8 0, .int .u8 0, .int .u8 0, .int .u8 0, .int .u8 0, .int .u8 0, .int .u8 0, .int .u8 0, .int .u8 0, .int .u8 0, .int .u8 0, .int .u8 0, .int .u8 0, .int .u8 0, .int .u8 0, .int .u8 0, .int .u8 0, .int .u8 0, .int .u8 0, .int .u8 0, .int .u8 0, .int .u8 0, .int .u8 0, .int .u8 0, .int .u8 0, .int .u8 0, .int .u8 0, .int .u8 0, .int .u8 0, .int .u8 0] (cells8 twoL) 24 (by kernel_rfl) (cells8_all twoL)
  have HX : Aside0 (Blk8 (w2.alloc (.cells (cells8 twoL) 24 (0, 0))) w2.heap.size 24 twoL) := ⟨heap_alloc_new w2 _⟩
  have HF3 : Aside0 (Blk8 (w2.alloc (.cells (cells8 twoL) 24 (0, 0))) (w1.heap.size + 1 + 1 + 1) 5 [36, 141, 106, 97, 210, 6, 56, 184]) := ⟨Blk8.below HF.out (below_alloc (Below.refl _ _) _) (Blk8.lt HF.out)⟩
  have HT3 : Aside0 ((w2.alloc (.cells (cells8 twoL) 24 (0, 0))).cell? ⟨w1.heap.size + 1 + 1 + 1 + 1, 2, none⟩ = some (.slice (some ⟨w1.heap.size + 1 + 1 + 1, 0, none⟩) 8 8)) := ⟨((below_alloc (Below.refl w2.heap.size w2) _).cell (p := ⟨w1.heap.size + 1 + 1 + 1 + 1, 2, none⟩) HTL.out).trans HT.out⟩
  go_wp2_with fail
  clear hst HF HT
  go_loopg [9] m (fun q v9 w' => ∃ i : Nat, v9 = .int .i64 (i : Int) ∧ Aside0 (q = m - i ∧ i ≤ m) ∧ Aside0 (Blk8 w' w2.heap.size 24 twoL ∧ w'.cell? ⟨w1.heap.size + 1 + 1 + 1 + 1, 2, none⟩ = some (.slice (some ⟨w1.heap.size + 1 + 1 + 1, 0, none⟩) 8 8) ∧ Blk8 w' (w1.heap.size + 1 + 1 + 1) 5 [36, 141, 106, 97, 210, 6, 56, 184]) ∧ Aside0 (Below w.heap.size w w'))
  case atStart => exact ⟨0, rfl, ⟨by omega, by omega⟩, ⟨HX.out, HT3.out, HF3.out⟩, ⟨below_alloc HB2.out _⟩⟩
  case round =>
    clear HX HT3 HF3
    obtain ⟨i, rfl, HI, HH, HL⟩ := hrel
    by_cases hi : i < m
    · have e1 : decide ((i : Int) < (m : Int)) = true := decide_eq_true (by omega)
      have e2 : decide (i < m) = true := decide_eq_true hi
      have pi : (0 ≤ (i : Int)) = True := eq_true (by omega)
      have qi : ((i : Int) < 32) = True := eq_true (by omega)
      have ri : ((i : Int) < 8) = True := eq_true (by omega)
      have i8 : i < 8 := by omega
      have hwr : IntKind.i64.wrap ((i : Int) + 1) = ((i + 1 : Nat) : Int) := by rw [i64_w]; unfold wrap64; omega
      obtain ⟨z, hz1⟩ : ∃ z, z = twoL.getD i 0 := ⟨_, rfl⟩
      have hz2 : ([36, 141, 106, 97, 210, 6, 56, 184] : List Int).getD i 0 = z := by rw [hz1, same_two i i8]
      have HZ1 := Aside0.mk hz1
      have HZ2 := Aside0.mk hz2
      clear hz1 hz2
      have zz : (z != z) = false := by simp
      go_wp2_with fail
      refine wp_region_held_drew (S := (fun W => Blk8 W w2.heap.size 24 twoL ∧ W.cell? ⟨w1.heap.size + 1 + 1 + 1 + 1, 2, none⟩ = some (.slice (some ⟨w1.heap.size + 1 + 1 + 1, 0, none⟩) 8 8) ∧ Blk8 W (w1.heap.size + 1 + 1 + 1) 5 [36, 141, 106, 97, 210, 6, 56, 184])) (by kernel_rfl) (HH.out) (fun hHeld => ?_)
      refine wpAnyH_take (i := 0) (v := ?_) (by simp only [List.getElem?_toArray, List.getElem?_cons_succ, List.getElem?_cons_zero]; rfl) (by kernel_rfl) (by kernel_rfl) (by kernel_rfl) (by intro _ _ _ h; exact h) (Or.inl ⟨by rfl, ?hy⟩) (by assumption) ?_
      case hy => (intro W_ hW_; go_simp; first | done | with_reducible rfl)
      try simp only [Act.put, List.setIfInBounds_toArray, List.set_cons_zero, List.set_cons_succ]
      refine wpAnyH_take (i := 1) (v := ?_) (by simp only [List.getElem?_toArray, List.getElem?_cons_succ, List.getElem?_cons_zero]; rfl) (by kernel_rfl) (by kernel_rfl) (by kernel_rfl) (by intro _ _ _ h; exact h) (Or.inl ⟨by rfl, ?hy⟩) (by assumption) ?_
      case hy => (intro W_ hW_; go_simp; first | done | with_reducible rfl)
      try simp only [Act.put, List.setIfInBounds_toArray, List.set_cons_zero, List.set_cons_succ]
      refine wpAnyH_take (i := 2) (v := ?_) (by simp only [List.getElem?_toArray, List.getElem?_cons_succ, List.getElem?_cons_zero]; rfl) (by kernel_rfl) (by kernel_rfl) (by kernel_rfl) (by intro _ _ _ h; exact h) (Or.inl ⟨by rfl, ?hy⟩) (by assumption) ?_
      case hy => (intro W_ hW_; have f_ := hW_.1.cell (i := i) (show i < 32 by omega); rw [← HZ1.out] at f_; go_simp; first | done | with_reducible rfl)
      try simp only [Act.put, List.setIfInBounds_toArray, List.set_cons_zero, List.set_cons_succ]
      refine wpAnyH_take (i := 3) (v := ?_) (by simp only [List.getElem?_toArray, List.getElem?_cons_succ, List.getElem?_cons_zero]; rfl) (by kernel_rfl) (by kernel_rfl) (by kernel_rfl) (by intro _ _ _ h; exact h) (Or.inl ⟨by rfl, ?hy⟩) (by assumption) ?_
      case hy => (intro W_ hW_; go_simp; first | done | with_reducible rfl)
      try simp only [Act.put, List.setIfInBounds_toArray, List.set_cons_zero, List.set_cons_succ]
      refine wpAnyH_take (i := 4) (v := ?_) (by simp only [List.getElem?_toArray, List.getElem?_cons_succ, List.getElem?_cons_zero]; rfl) (by kernel_rfl) (by kernel_rfl) (by kernel_rfl) (by intro _ _ _ h; exact h) (Or.inl ⟨by rfl, ?hy⟩) (by assumption) ?_
      case hy => (intro W_ hW_; go_simp; first | done | with_reducible rfl)
      try simp only [Act.put, List.setIfInBounds_toArray, List.set_cons_zero, List.set_cons_succ]
      refine wpAnyH_take (i := 5) (v := ?_) (by simp only [List.getElem?_toArray, List.getElem?_cons_succ, List.getElem?_cons_zero]; rfl) (by kernel_rfl) (by kernel_rfl) (by kernel_rfl) (by intro _ _ _ h; exact h) (Or.inl ⟨by rfl, ?hy⟩) (by assumption) ?_
      case hy => (intro W_ hW_; go_simp; first | done | with_reducible rfl)
      try simp only [Act.put, List.setIfInBounds_toArray, List.set_cons_zero, List.set_cons_succ]
      refine wpAnyH_take (i := 6) (v := ?_) (by simp only [List.getElem?_toArray, List.getElem?_cons_succ, List.getElem?_cons_zero]; rfl) (by kernel_rfl) (by kernel_rfl) (by kernel_rfl) (by intro _ _ _ h; exact h) (Or.inl ⟨by rfl, ?hy⟩) (by assumption) ?_
      case hy => (intro W_ hW_; have f_ := hW_.2.1; go_simp; first | done | with_reducible rfl)
      try simp only [Act.put, List.setIfInBounds_toArray, List.set_cons_zero, List.set_cons_succ]
      refine wpAnyH_take (i := 7) (v := ?_) (by simp only [List.getElem?_toArray, List.getElem?_cons_succ, List.getElem?_cons_zero]; rfl) (by kernel_rfl) (by kernel_rfl) (by kernel_rfl) (by intro _ _ _ h; exact h) (Or.inl ⟨by rfl, ?hy⟩) (by assumption) ?_
      case hy => (intro W_ hW_; go_simp; first | done | with_reducible rfl)
      try simp only [Act.put, List.setIfInBounds_toArray, List.set_cons_zero, List.set_cons_succ]
      refine wpAnyH_take (i := 8) (v := ?_) (by simp only [List.getElem?_toArray, List.getElem?_cons_succ, List.getElem?_cons_zero]; rfl) (by kernel_rfl) (by kernel_rfl) (by kernel_rfl) (by intro _ _ _ h; exact h) (Or.inl ⟨by rfl, ?hy⟩) (by assumption) ?_
      case hy => (intro W_ hW_; go_simp; first | done | with_reducible rfl)
      try simp only [Act.put, List.setIfInBounds_toArray, List.set_cons_zero, List.set_cons_succ]
      refine wpAnyH_take (i := 9) (v := ?_) (by simp only [List.getElem?_toArray, List.getElem?_cons_succ, List.getElem?_cons_zero]; rfl) (by kernel_rfl) (by kernel_rfl) (by kernel_rfl) (by intro _ _ _ h; exact h) (Or.inl ⟨by rfl, ?hy⟩) (by assumption) ?_
      case hy => (intro W_ hW_; have f_ := hW_.2.2.cell (i := i) (show i < 8 by omega); rw [HZ2.out] at f_; go_simp; first | done | with_reducible rfl)
      try simp only [Act.put, List.setIfInBounds_toArray, List.set_cons_zero, List.set_cons_succ]
      refine wpAnyH_take (i := 10) (v := ?_) (by simp only [List.getElem?_toArray, List.getElem?_cons_succ, List.getElem?_cons_zero]; rfl) (by kernel_rfl) (by kernel_rfl) (by kernel_rfl) (by intro _ _ _ h; exact h) (Or.inl ⟨by rfl, ?hy⟩) (by assumption) ?_
      case hy => (intro W_ hW_; go_simp; first | done | with_reducible rfl)
      try simp only [Act.put, List.setIfInBounds_toArray, List.set_cons_zero, List.set_cons_succ]
      refine wpAnyH_done (by kernel_rfl) ?_ _
      go_wp2_with fail
      go_roundg (m - (i + 1))
      case measure => have := HI.out; omega
      case rel => exact ⟨i + 1, by simp, ⟨rfl, by omega⟩, ⟨hHeld⟩, ⟨below_drew HL.out⟩⟩
    · have e1 : decide ((i : Int) < (m : Int)) = false := decide_eq_false (by omega)
      have e2 : decide (i < m) = false := decide_eq_false hi
      go_wp2_with fail
      go_ret
      exact ⟨rfl, HL.out⟩

set_option maxHeartbeats 800000 in
set_option maxRecDepth 100000 in
theorem known_e1 (a0 a1 : Int) (w : World) (h : a0 < 0) :
    Calls Try.prog 7 #[.int .i64 a0, .int .i64 a1] w fun e w' => e = .returned (.bool true) ∧ Below w.heap.size w w' := by
  have f1 : decide (a0 < 0) = true := decide_eq_true (by omega)
  go_enter Try.func7, Try.ntmps7
  go_wp2_with fail
  refine (awake_call _).mono ?_
  rintro e w1 ⟨rfl, hb1⟩
  go_wp2_with fail
  go_ret
  exact ⟨rfl, hb1⟩

set_option maxHeartbeats 800000 in
set_option maxRecDepth 100000 in
theorem known_e2 (a0 a1 : Int) (w : World) (h : 2 < a0) :
    Calls Try.prog 7 #[.int .i64 a0, .int .i64 a1] w fun e w' => e = .returned (.bool true) ∧ Below w.heap.size w w' := by
  have f1 : decide (a0 < 0) = false := decide_eq_false (by omega)
  have f2 : decide (2 < a0) = true := decide_eq_true (by omega)
  go_enter Try.func7, Try.ntmps7
  go_wp2_with fail
  refine (awake_call _).mono ?_
  rintro e w1 ⟨rfl, hb1⟩
  go_wp2_with fail
  go_ret
  exact ⟨rfl, hb1⟩

set_option maxHeartbeats 800000 in
set_option maxRecDepth 100000 in
theorem known_e3 (a0 a1 : Int) (w : World) (h0 : 0 ≤ a0) (h1 : a0 ≤ 2) (h : a1 < 0) :
    Calls Try.prog 7 #[.int .i64 a0, .int .i64 a1] w fun e w' => e = .returned (.bool true) ∧ Below w.heap.size w w' := by
  have f1 : decide (a0 < 0) = false := decide_eq_false (by omega)
  have f2 : decide (2 < a0) = false := decide_eq_false (by omega)
  have f3 : decide (a1 < 0) = true := decide_eq_true (by omega)
  go_enter Try.func7, Try.ntmps7
  go_wp2_with fail
  refine (awake_call _).mono ?_
  rintro e w1 ⟨rfl, hb1⟩
  go_wp2_with fail
  go_ret
  exact ⟨rfl, hb1⟩

set_option maxHeartbeats 800000 in
set_option maxRecDepth 100000 in
theorem known_e4 (a0 a1 : Int) (w : World) (h0 : 0 ≤ a0) (h1 : a0 ≤ 2) (h : 8 < a1) :
    Calls Try.prog 7 #[.int .i64 a0, .int .i64 a1] w fun e w' => e = .returned (.bool true) ∧ Below w.heap.size w w' := by
  have f1 : decide (a0 < 0) = false := decide_eq_false (by omega)
  have f2 : decide (2 < a0) = false := decide_eq_false (by omega)
  have f3 : decide (a1 < 0) = false := decide_eq_false (by omega)
  have f4 : decide (8 < a1) = true := decide_eq_true (by omega)
  go_enter Try.func7, Try.ntmps7
  go_wp2_with fail
  refine (awake_call _).mono ?_
  rintro e w1 ⟨rfl, hb1⟩
  go_wp2_with fail
  go_ret
  exact ⟨rfl, hb1⟩

theorem rolodexlaw03_ShaKnown.walk (a0 : Int) (a1 : Int) (w : World) (w0 : (Lit.int .i64 a0).wf = true) (w1 : (Lit.int .i64 a1).wf = true) :
    Calls Try.prog 7 #[.int .i64 a0, .int .i64 a1] w fun e w' => e = .returned (.bool true) ∧ Below w.heap.size w w' := by
  by_cases h0 : a0 < 0
  · exact known_e1 a0 a1 w h0
  by_cases h1 : 2 < a0
  · exact known_e2 a0 a1 w h1
  by_cases h2 : a1 < 0
  · exact known_e3 a0 a1 w (by omega) (by omega) h2
  by_cases h3 : 8 < a1
  · exact known_e4 a0 a1 w (by omega) (by omega) h3
  obtain ⟨m, rfl⟩ := Int.eq_ofNat_of_zero_le (show 0 ≤ a1 by omega)
  obtain rfl | rfl | rfl : a0 = 0 ∨ a0 = 1 ∨ a0 = 2 := by omega
  · exact known_nil m w (by omega)
  · exact known_abc m w (by omega)
  · exact known_two m w (by omega)

end Go.Proofs.Ytenkaaigalcgcaa.X
