/- A text has the digest of its bytes; the same bytes have the same one: the walk (more than 300 bytes are let by). -/
import Derived.Test.YtenkaaigalcgcaaSApp
namespace Go.Proofs.Ytenkaaigalcgcaa.X
set_option linter.unusedVariables false
set_option linter.unusedSimpArgs false
open Go.RowKit Go.Proofs.YtenkaaigalcgcaaW.PrintWords Go.Proofs.YtenkaaigalcgcaaW.PrintLast Go.Proofs.YtenkaaigalcgcaaW.PrintMore

/-- Numbers that are bytes. -/
def Bytes (l : List Int) : Prop := ∀ x ∈ l, 0 ≤ x ∧ x ≤ 255
theorem bytes_of_wf {l : List Int} (h : ∀ x ∈ l, (Lit.int .u8 x).wf = true) : Bytes l := fun x hx => by
  have := h x hx
  simp only [Lit.wf, IntKind.min, IntKind.max, IntKind.bits, IntKind.signed, Bool.and_eq_true, decide_eq_true_eq] at this
  simp at this
  exact this
theorem bytesOf_strOfNums (l : List Int) (h : Bytes l) : bytesOf (strOfNums l) = l := by
  unfold bytesOf
  have e : (strOfNums l).data.toList = l.map fun x => x.toNat.toUInt8 := by simp [strOfNums]
  rw [e, List.map_map]
  conv => rhs; rw [← List.map_id l]
  apply List.map_congr_left
  intro x hx
  have := h x hx
  simp [Nat.mod_eq_of_lt (show x.toNat < 256 by omega)]
  omega
theorem conv8 {w : World} {A : Option Addr} {n : Nat} {l : List Int} (h : RdB w A n l) (c : Nat) : (convert 22 9 (.slice A n c)).run Try.prog w = .ok (.string (strOfNums l)) w :=
  Kd.C_string (P := Try.prog) Try.underlying22 Try.underlying5 Try.underlying9 h
theorem strOfNums_size (l : List Int) : (strOfNums l).size = l.length := by
  unfold strOfNums
  simp [ByteArray.size]
theorem ofnums_call (l : List Int) (h : Bytes l) (hl : l.length ≤ 1000) (w : World) : Calls Try.prog 12 #[.string (strOfNums l)] w fun e w' => e = .returned (.agg (cells8 (shaOf l))) ∧ Below w.heap.size w w' := by
  have := of_call (strOfNums l) w (by rw [strOfNums_size]; omega)
  rw [bytesOf_strOfNums l h] at this
  exact this
theorem sum_call0 (A : Option Addr) (c : Nat) (l : List Int) (d : List Int) (hd : shaOf l = d) (w : World) (hr : RdB w A l.length l) (hc : l.length ≤ c) (hl : l.length ≤ 1000) :
    Calls Try.prog 10 #[.slice A l.length c] w fun e w' => e = .returned (.agg (cells8 d)) ∧ Below w.heap.size w w' := by
  subst hd
  exact sum_call A c l w hr hc (by omega)
theorem ofnums_call0 (l : List Int) (h : Bytes l) (hl : l.length ≤ 1000) (d : List Int) (hd : shaOf l = d) (w : World) : Calls Try.prog 12 #[.string (strOfNums l)] w fun e w' => e = .returned (.agg (cells8 d)) ∧ Below w.heap.size w w' := by
  subst hd
  exact ofnums_call l h hl w
/-- What is held. -/
def Same4 (A0 A1 : Option Addr) (l0 l1 x y : List Int) (g h : Nat) (W : World) : Prop := RdB W A0 l0.length l0 ∧ RdB W A1 l1.length l1 ∧ Blk8 W g 24 x ∧ Blk8 W h 24 y
theorem Same4.keep {A0 A1 : Option Addr} {l0 l1 x y : List Int} {g h : Nat} {W W' : World} (s : Same4 A0 A1 l0 l1 x y g h W) (b : Below W.heap.size W W') : Same4 A0 A1 l0 l1 x y g h W' :=
  ⟨rdb_below s.1 b, rdb_below s.2.1 b, Blk8.below s.2.2.1 b (Blk8.lt s.2.2.1), Blk8.below s.2.2.2 b (Blk8.lt s.2.2.2)⟩

set_option maxHeartbeats 800000 in
set_option maxRecDepth 100000 in
theorem same_long0 (A0 : Option Addr) (c0 : Nat) (l0 : List Int) (A1 : Option Addr) (c1 : Nat) (l1 : List Int) (w : World) (h : 300 < l0.length) :
    Calls Try.prog 4 #[.slice A0 l0.length c0, .slice A1 l1.length c1] w fun e w' => e = .returned (.bool true) ∧ Below w.heap.size w w' := by
  have d0 : decide (300 < l0.length) = true := decide_eq_true (by omega)
  have d0' : decide (300 < (l0.length : Int)) = true := decide_eq_true (by omega)
  go_enter Try.func4, Try.ntmps4
  go_wp2_with fail
  refine (awake_call _).mono ?_
  rintro e w1 ⟨rfl, hb1⟩
  go_wp2_with fail
  go_ret
  exact ⟨rfl, hb1⟩

set_option maxHeartbeats 800000 in
set_option maxRecDepth 100000 in
theorem same_long1 (A0 : Option Addr) (c0 : Nat) (l0 : List Int) (A1 : Option Addr) (c1 : Nat) (l1 : List Int) (w : World) (h0 : l0.length ≤ 300) (h : 300 < l1.length) :
    Calls Try.prog 4 #[.slice A0 l0.length c0, .slice A1 l1.length c1] w fun e w' => e = .returned (.bool true) ∧ Below w.heap.size w w' := by
  have d0 : decide (300 < l0.length) = false := decide_eq_false (by omega)
  have d0' : decide (300 < (l0.length : Int)) = false := decide_eq_false (by omega)
  have d1 : decide (300 < l1.length) = true := decide_eq_true (by omega)
  have d1' : decide (300 < (l1.length : Int)) = true := decide_eq_true (by omega)
  go_enter Try.func4, Try.ntmps4
  go_wp2_with fail
  refine (awake_call _).mono ?_
  rintro e w1 ⟨rfl, hb1⟩
  go_wp2_with fail
  go_ret
  exact ⟨rfl, hb1⟩

set_option maxHeartbeats 4000000 in
set_option maxRecDepth 100000 in
theorem same_ne (A0 : Option Addr) (c0 : Nat) (l0 : List Int) (A1 : Option Addr) (c1 : Nat) (l1 : List Int) (w : World) (hr0 : RdB w A0 l0.length l0) (hc0 : l0.length ≤ c0) (hr1 : RdB w A1 l1.length l1) (hc1 : l1.length ≤ c1) (hb0 : Bytes l0) (hb1 : Bytes l1)
    (h0 : l0.length ≤ 300) (h1 : l1.length ≤ 300) (hq : ((strOfNums l0).toList == (strOfNums l1).toList) = false) :
    Calls Try.prog 4 #[.slice A0 l0.length c0, .slice A1 l1.length c1] w fun e w' => e = .returned (.bool true) ∧ Below w.heap.size w w' := by
  have d0 : decide (300 < l0.length) = false := decide_eq_false (by omega)
  have d0' : decide (300 < (l0.length : Int)) = false := decide_eq_false (by omega)
  have d1 : decide (300 < l1.length) = false := decide_eq_false (by omega)
  have d1' : decide (300 < (l1.length : Int)) = false := decide_eq_false (by omega)
  obtain ⟨x, hx⟩ : ∃ x, shaOf l0 = x := ⟨_, rfl⟩
  obtain ⟨y, hy⟩ : ∃ y, shaOf l1 = y := ⟨_, rfl⟩

  have HX := Aside0.mk hx
  have HY := Aside0.mk hy
  have HXL : Aside0 (x.length = 32) := ⟨by rw [← hx, shaOf_length]⟩
  have HYL : Aside0 (y.length = 32) := ⟨by rw [← hy, shaOf_length]⟩
  have hzx : (cells8 x).size = 32 := by rw [cells8_size, HXL.out]
  have hzy : (cells8 y).size = 32 := by rw [cells8_size, HYL.out]
  have HR0 := Aside0.mk hr0
  have HR1 := Aside0.mk hr1
  have HB0 := Aside0.mk hb0
  have HB1 := Aside0.mk hb1
  have g24 := guard24
  clear hx hy hr0 hr1 hb0 hb1
  go_enter Try.func4, Try.ntmps4
  go_wp2_with fail
  refine (awake_call _).mono ?_
  rintro e w1 ⟨rfl, hb1⟩
  go_wp2_with fail
  refine (sum_call0 A0 c0 l0 x HX.out _ (rdb_below HR0.out hb1) hc0 (by omega)).mono ?_
  rintro e w2 ⟨rfl, hb2⟩
  have HW2 : Aside0 (Below w.heap.size w w2) := ⟨below_step hb1 hb2⟩
  have hst := store_new w2 #[.int .u8 0, .int .u8 0, .int .u8 0, .int .u8 0, .int .u8 0, .int .u8 0, .int .u8 0, .int .u8 0, .int .u8 0, .int .u8 0, .int .u8 0, .int .u8 0, .int .u8 0, .int .u8 0, .int .u8 0, .int .u8 0, .int .u8 0, .int .u8 0, .int .u8 0, .int .u8 0, .int .u8 0, .int .u8 0, .int .u8 0, .int .u8 0, .int .u8 0, .int .u8 0, .int .u8 0, .int .u8 0, .int .u8 0, .int .u8 0, .int .u8 0, .int .u8 0] (cells8 x) 24 (by rw [hzx]; kernel_rfl) (cells8_all x)
  have HG2 : Aside0 (Blk8 (w2.alloc (.cells (cells8 x) 24 (0, 0))) w2.heap.size 24 x) := ⟨heap_alloc_new w2 _⟩
  clear hb1 hb2
  go_wp2_with fail
  clear hst
  refine (sum_call0 A1 c1 l1 y HY.out _ (rdb_below HR1.out (below_alloc HW2.out _)) hc1 (by omega)).mono ?_
  rintro e w3 ⟨rfl, hb3⟩
  have HW3 : Aside0 (Below w.heap.size w w3) := ⟨below_step (below_alloc HW2.out _) hb3⟩
  have hst := store_new w3 #[.int .u8 0, .int .u8 0, .int .u8 0, .int .u8 0, .int .u8 0, .int .u8 0, .int .u8 0, .int .u8 0, .int .u8 0, .int .u8 0, .int .u8 0, .int .u8 0, .int .u8 0, .int .u8 0, .int .u8 0, .int .u8 0, .int .u8 0, .int .u8 0, .int .u8 0, .int .u8 0, .int .u8 0, .int .u8 0, .int .u8 0, .int .u8 0, .int .u8 0, .int .u8 0, .int .u8 0, .int .u8 0, .int .u8 0, .int .u8 0, .int .u8 0, .int .u8 0] (cells8 y) 24 (by rw [hzy]; kernel_rfl) (cells8_all y)
  have HS : Same4 A0 A1 l0 l1 x y w2.heap.size w3.heap.size (w3.alloc (.cells (cells8 y) 24 (0, 0))).drew :=
    ⟨rdb_below HR0.out (below_drew (below_alloc HW3.out _)), rdb_below HR1.out (below_drew (below_alloc HW3.out _)), (Blk8.below (Blk8.below HG2.out hb3 (Blk8.lt HG2.out)) (below_drew (below_alloc (Below.refl _ _) _)) (Nat.lt_of_lt_of_le (Blk8.lt HG2.out) hb3.size)), heap_alloc_new w3 _⟩
  have HW3' : Aside0 (Below w.heap.size w (w3.alloc (.cells (cells8 y) 24 (0, 0))).drew) := ⟨below_drew (below_alloc HW3.out _)⟩
  have bx : (x == x) = true := beq_self_eq_true _
  clear hb3
  go_wp2_with fail
  clear hst
  refine wp_region_held_drew (S := (fun W => Same4 A0 A1 l0 l1 x y w2.heap.size w3.heap.size W)) (by kernel_rfl) (HS) (fun hHeld => ?_)
  refine wpAnyH_take (i := 0) (v := ?_) (by simp only [List.getElem?_toArray, List.getElem?_cons_succ, List.getElem?_cons_zero]; rfl) (by kernel_rfl) (by kernel_rfl) (by kernel_rfl) (by intro _ _ _ h; exact h) (Or.inl ⟨by rfl, ?hy⟩) (by assumption) ?_
  case hy => (intro W_ hW_; go_simp; first | done | with_reducible rfl)
  try simp only [Act.put, List.setIfInBounds_toArray, List.set_cons_zero, List.set_cons_succ]
  refine wpAnyH_take (i := 1) (v := ?_) (by simp only [List.getElem?_toArray, List.getElem?_cons_succ, List.getElem?_cons_zero]; rfl) (by kernel_rfl) (by kernel_rfl) (by kernel_rfl) (by intro _ _ _ h; exact h) (Or.inl ⟨by rfl, ?hy⟩) (by assumption) ?_
  case hy => (intro W_ hW_; have f_ := conv8 hW_.1 c0; go_simp; first | done | with_reducible rfl)
  try simp only [Act.put, List.setIfInBounds_toArray, List.set_cons_zero, List.set_cons_succ]
  refine wpAnyH_take (i := 3) (v := ?_) (by simp only [List.getElem?_toArray, List.getElem?_cons_succ, List.getElem?_cons_zero]; rfl) (by kernel_rfl) (by kernel_rfl) (by kernel_rfl) (by intro _ _ _ h; exact h) (Or.inl ⟨by rfl, ?hy⟩) (by assumption) ?_
  case hy => (intro W_ hW_; refine Eq.trans (exec_load24 (.tmp 6) ?_ w2.heap.size ?_ x HXL.out ?_) ?_ <;> (first | with_reducible rfl | rfl | exact hW_.2.2.1))
  try simp only [Act.put, List.setIfInBounds_toArray, List.set_cons_zero, List.set_cons_succ]
  refine wpAnyH_ready (rs := [2]) (by kernel_rfl) (by simp) ?_
  refine AllReadyH.cons (by simp only [List.getElem?_toArray, List.getElem?_cons_succ, List.getElem?_cons_zero]; rfl) (fun K hK => ?_) AllReadyH.nil
  rw [if_pos (by rfl)]
  go_wp2_with fail
  refine (ofnums_call0 l0 HB0.out (by omega) x HX.out _).mono ?_
  rintro e w4 ⟨rfl, hb4⟩
  refine hK.out _ _ (Same4.keep hHeld hb4) (fun hHeld2 => ?_)
  clear hK K hHeld
  have hHeld := hHeld2
  clear hHeld2
  try simp only [Act.put, List.setIfInBounds_toArray, List.set_cons_zero, List.set_cons_succ]
  refine wpAnyH_take (i := 4) (v := ?_) (by simp only [List.getElem?_toArray, List.getElem?_cons_succ, List.getElem?_cons_zero]; rfl) (by kernel_rfl) (by kernel_rfl) (by kernel_rfl) (by intro _ _ _ h; exact h) (Or.inl ⟨by rfl, ?hy⟩) (by assumption) ?_
  case hy => (intro W_ hW_; have f_ := equal8 (w := W_) Try.underlying24 Try.info5i Try.underlying5 cells5 x x HXL.out HXL.out; go_simp; first | done | with_reducible rfl)
  try simp only [Act.put, List.setIfInBounds_toArray, List.set_cons_zero, List.set_cons_succ]
  refine wpAnyH_take (i := 5) (v := ?_) (by simp only [List.getElem?_toArray, List.getElem?_cons_succ, List.getElem?_cons_zero]; rfl) (by kernel_rfl) (by kernel_rfl) (by kernel_rfl) (by intro _ _ _ h; exact h) (Or.inl ⟨by rfl, ?hy⟩) (by assumption) ?_
  case hy => (intro W_ hW_; go_simp; first | done | with_reducible rfl)
  try simp only [Act.put, List.setIfInBounds_toArray, List.set_cons_zero, List.set_cons_succ]
  refine wpAnyH_take (i := 6) (v := ?_) (by simp only [List.getElem?_toArray, List.getElem?_cons_succ, List.getElem?_cons_zero]; rfl) (by kernel_rfl) (by kernel_rfl) (by kernel_rfl) (by intro _ _ _ h; exact h) (Or.inl ⟨by rfl, ?hy⟩) (by assumption) ?_
  case hy => (intro W_ hW_; go_simp; first | done | with_reducible rfl)
  try simp only [Act.put, List.setIfInBounds_toArray, List.set_cons_zero, List.set_cons_succ]
  refine wpAnyH_take (i := 9) (v := ?_) (by simp only [List.getElem?_toArray, List.getElem?_cons_succ, List.getElem?_cons_zero]; rfl) (by kernel_rfl) (by kernel_rfl) (by kernel_rfl) (by intro _ _ _ h; exact h) (Or.inl ⟨by rfl, ?hy⟩) (by assumption) ?_
  case hy => (intro W_ hW_; refine Eq.trans (exec_load24 (.tmp 6) ?_ w2.heap.size ?_ x HXL.out ?_) ?_ <;> (first | with_reducible rfl | rfl | exact hW_.2.2.1))
  try simp only [Act.put, List.setIfInBounds_toArray, List.set_cons_zero, List.set_cons_succ]
  refine wpAnyH_ready (rs := [7]) (by kernel_rfl) (by simp) ?_
  refine AllReadyH.cons (by simp only [List.getElem?_toArray, List.getElem?_cons_succ, List.getElem?_cons_zero]; rfl) (fun K hK => ?_) AllReadyH.nil
  rw [if_pos (by rfl)]
  refine wp_append8 _ (.const (.slice none 0 0)) (.tmp 32) (by rfl) (.slice none 0 0) [] l0 A0 l0.length c0 (by rfl) (by rfl) (own_nil _ _ _ _) hHeld.1 (Below.refl _ _) (Nat.le_refl _) (by simp; omega) ?_
  intro v5 w5 HO5 HB5
  obtain ⟨A5, c5, rfl, hc5, hr5⟩ := own_row HO5.out
  rw [List.nil_append] at hc5 hr5
  refine hK.out _ _ (Same4.keep hHeld HB5.out) (fun hHeld2 => ?_)
  clear hK K hHeld HO5
  have hHeld := hHeld2
  clear hHeld2
  try simp only [Act.put, List.setIfInBounds_toArray, List.set_cons_zero, List.set_cons_succ, List.nil_append]
  refine wpAnyH_ready (rs := [8]) (by kernel_rfl) (by simp) ?_
  refine AllReadyH.cons (by simp only [List.getElem?_toArray, List.getElem?_cons_succ, List.getElem?_cons_zero]; rfl) (fun K hK => ?_) AllReadyH.nil
  rw [if_pos (by rfl)]
  go_wp2_with fail
  refine (sum_call0 A5 c5 l0 x HX.out _ hr5 hc5 (by omega)).mono ?_
  rintro e w6 ⟨rfl, hb6⟩
  refine hK.out _ _ (Same4.keep hHeld hb6) (fun hHeld2 => ?_)
  clear hK K hHeld
  have hHeld := hHeld2
  clear hHeld2
  try simp only [Act.put, List.setIfInBounds_toArray, List.set_cons_zero, List.set_cons_succ]
  refine wpAnyH_take (i := 10) (v := ?_) (by simp only [List.getElem?_toArray, List.getElem?_cons_succ, List.getElem?_cons_zero]; rfl) (by kernel_rfl) (by kernel_rfl) (by kernel_rfl) (by intro _ _ _ h; exact h) (Or.inl ⟨by rfl, ?hy⟩) (by assumption) ?_
  case hy => (intro W_ hW_; have f_ := equal8 (w := W_) Try.underlying24 Try.info5i Try.underlying5 cells5 x x HXL.out HXL.out; go_simp; first | done | with_reducible rfl)
  try simp only [Act.put, List.setIfInBounds_toArray, List.set_cons_zero, List.set_cons_succ]
  refine wpAnyH_take (i := 11) (v := ?_) (by simp only [List.getElem?_toArray, List.getElem?_cons_succ, List.getElem?_cons_zero]; rfl) (by kernel_rfl) (by kernel_rfl) (by kernel_rfl) (by intro _ _ _ h; exact h) (Or.inl ⟨by rfl, ?hy⟩) (by assumption) ?_
  case hy => (intro W_ hW_; go_simp; first | done | with_reducible rfl)
  try simp only [Act.put, List.setIfInBounds_toArray, List.set_cons_zero, List.set_cons_succ]
  refine wpAnyH_take (i := 12) (v := ?_) (by simp only [List.getElem?_toArray, List.getElem?_cons_succ, List.getElem?_cons_zero]; rfl) (by kernel_rfl) (by kernel_rfl) (by kernel_rfl) (by intro _ _ _ h; exact h) (Or.inl ⟨by rfl, ?hy⟩) (by assumption) ?_
  case hy => (intro W_ hW_; go_simp; first | done | with_reducible rfl)
  try simp only [Act.put, List.setIfInBounds_toArray, List.set_cons_zero, List.set_cons_succ]
  refine wpAnyH_take (i := 13) (v := ?_) (by simp only [List.getElem?_toArray, List.getElem?_cons_succ, List.getElem?_cons_zero]; rfl) (by kernel_rfl) (by kernel_rfl) (by kernel_rfl) (by intro _ _ _ h; exact h) (Or.inl ⟨by rfl, ?hy⟩) (by assumption) ?_
  case hy => (intro W_ hW_; go_simp; first | done | with_reducible rfl)
  try simp only [Act.put, List.setIfInBounds_toArray, List.set_cons_zero, List.set_cons_succ]
  refine wpAnyH_take (i := 14) (v := ?_) (by simp only [List.getElem?_toArray, List.getElem?_cons_succ, List.getElem?_cons_zero]; rfl) (by kernel_rfl) (by kernel_rfl) (by kernel_rfl) (by intro _ _ _ h; exact h) (Or.inl ⟨by rfl, ?hy⟩) (by assumption) ?_
  case hy => (intro W_ hW_; have f_ := conv8 hW_.1 c0; go_simp; first | done | with_reducible rfl)
  try simp only [Act.put, List.setIfInBounds_toArray, List.set_cons_zero, List.set_cons_succ]
  refine wpAnyH_take (i := 15) (v := ?_) (by simp only [List.getElem?_toArray, List.getElem?_cons_succ, List.getElem?_cons_zero]; rfl) (by kernel_rfl) (by kernel_rfl) (by kernel_rfl) (by intro _ _ _ h; exact h) (Or.inl ⟨by rfl, ?hy⟩) (by assumption) ?_
  case hy => (intro W_ hW_; go_simp; first | done | with_reducible rfl)
  try simp only [Act.put, List.setIfInBounds_toArray, List.set_cons_zero, List.set_cons_succ]
  refine wpAnyH_take (i := 16) (v := ?_) (by simp only [List.getElem?_toArray, List.getElem?_cons_succ, List.getElem?_cons_zero]; rfl) (by kernel_rfl) (by kernel_rfl) (by kernel_rfl) (by intro _ _ _ h; exact h) (Or.inl ⟨by rfl, ?hy⟩) (by assumption) ?_
  case hy => (intro W_ hW_; have f_ := conv8 hW_.2.1 c1; go_simp; first | done | with_reducible rfl)
  try simp only [Act.put, List.setIfInBounds_toArray, List.set_cons_zero, List.set_cons_succ]
  refine wpAnyH_take (i := 17) (v := ?_) (by simp only [List.getElem?_toArray, List.getElem?_cons_succ, List.getElem?_cons_zero]; rfl) (by kernel_rfl) (by kernel_rfl) (by kernel_rfl) (by intro _ _ _ h; exact h) (Or.inl ⟨by rfl, ?hy⟩) (by assumption) ?_
  case hy => (intro W_ hW_; go_simp; first | done | with_reducible rfl)
  try simp only [Act.put, List.setIfInBounds_toArray, List.set_cons_zero, List.set_cons_succ]
  refine wpAnyH_take (i := 18) (v := ?_) (by simp only [List.getElem?_toArray, List.getElem?_cons_succ, List.getElem?_cons_zero]; rfl) (by kernel_rfl) (by kernel_rfl) (by kernel_rfl) (by intro _ _ _ h; exact h) (Or.inl ⟨by rfl, ?hy⟩) (by assumption) ?_
  case hy => (intro W_ hW_; go_simp; first | done | with_reducible rfl)
  try simp only [Act.put, List.setIfInBounds_toArray, List.set_cons_zero, List.set_cons_succ]
  refine wpAnyH_take (i := 19) (v := undef) (by simp only [List.getElem?_toArray, List.getElem?_cons_succ, List.getElem?_cons_zero]; rfl) (by kernel_rfl) (by kernel_rfl) (by kernel_rfl) (by intro _ _ _ h; exact h) (Or.inr ⟨by rfl, rfl⟩) (by assumption) ?_
  try simp only [Act.put, List.setIfInBounds_toArray, List.set_cons_zero, List.set_cons_succ]
  refine wpAnyH_take (i := 20) (v := undef) (by simp only [List.getElem?_toArray, List.getElem?_cons_succ, List.getElem?_cons_zero]; rfl) (by kernel_rfl) (by kernel_rfl) (by kernel_rfl) (by intro _ _ _ h; exact h) (Or.inr ⟨by rfl, rfl⟩) (by assumption) ?_
  try simp only [Act.put, List.setIfInBounds_toArray, List.set_cons_zero, List.set_cons_succ]
  refine wpAnyH_take (i := 21) (v := undef) (by simp only [List.getElem?_toArray, List.getElem?_cons_succ, List.getElem?_cons_zero]; rfl) (by kernel_rfl) (by kernel_rfl) (by kernel_rfl) (by intro _ _ _ h; exact h) (Or.inr ⟨by rfl, rfl⟩) (by assumption) ?_
  try simp only [Act.put, List.setIfInBounds_toArray, List.set_cons_zero, List.set_cons_succ]
  refine wpAnyH_take (i := 22) (v := ?_) (by simp only [List.getElem?_toArray, List.getElem?_cons_succ, List.getElem?_cons_zero]; rfl) (by kernel_rfl) (by kernel_rfl) (by kernel_rfl) (by intro _ _ _ h; exact h) (Or.inl ⟨by rfl, ?hy⟩) (by assumption) ?_
  case hy => (intro W_ hW_; go_simp; first | done | with_reducible rfl)
  try simp only [Act.put, List.setIfInBounds_toArray, List.set_cons_zero, List.set_cons_succ]
  refine wpAnyH_take (i := 23) (v := ?_) (by simp only [List.getElem?_toArray, List.getElem?_cons_succ, List.getElem?_cons_zero]; rfl) (by kernel_rfl) (by kernel_rfl) (by kernel_rfl) (by intro _ _ _ h; exact h) (Or.inl ⟨by rfl, ?hy⟩) (by assumption) ?_
  case hy => (intro W_ hW_; go_simp; first | done | with_reducible rfl)
  try simp only [Act.put, List.setIfInBounds_toArray, List.set_cons_zero, List.set_cons_succ]
  refine wpAnyH_take (i := 24) (v := ?_) (by simp only [List.getElem?_toArray, List.getElem?_cons_succ, List.getElem?_cons_zero]; rfl) (by kernel_rfl) (by kernel_rfl) (by kernel_rfl) (by intro _ _ _ h; exact h) (Or.inl ⟨by rfl, ?hy⟩) (by assumption) ?_
  case hy => (intro W_ hW_; go_simp; first | done | with_reducible rfl)
  try simp only [Act.put, List.setIfInBounds_toArray, List.set_cons_zero, List.set_cons_succ]
  refine wpAnyH_done (by kernel_rfl) ?_ _
  go_wp2_with fail
  go_ret
  exact ⟨rfl, below_step (below_step (below_step HW3'.out hb4) HB5.out) hb6⟩

set_option maxHeartbeats 4000000 in
set_option maxRecDepth 100000 in
theorem same_eq (A0 : Option Addr) (c0 : Nat) (l0 : List Int) (A1 : Option Addr) (c1 : Nat) (l1 : List Int) (w : World) (hr0 : RdB w A0 l0.length l0) (hc0 : l0.length ≤ c0) (hr1 : RdB w A1 l1.length l1) (hc1 : l1.length ≤ c1) (hb0 : Bytes l0) (hb1 : Bytes l1)
    (h0 : l0.length ≤ 300) (h1 : l1.length ≤ 300) (hq : ((strOfNums l0).toList == (strOfNums l1).toList) = true) (hl : l0 = l1) :
    Calls Try.prog 4 #[.slice A0 l0.length c0, .slice A1 l1.length c1] w fun e w' => e = .returned (.bool true) ∧ Below w.heap.size w w' := by
  have d0 : decide (300 < l0.length) = false := decide_eq_false (by omega)
  have d0' : decide (300 < (l0.length : Int)) = false := decide_eq_false (by omega)
  have d1 : decide (300 < l1.length) = false := decide_eq_false (by omega)
  have d1' : decide (300 < (l1.length : Int)) = false := decide_eq_false (by omega)
  obtain ⟨x, hx⟩ : ∃ x, shaOf l0 = x := ⟨_, rfl⟩
  obtain ⟨y, hy⟩ : ∃ y, shaOf l1 = y := ⟨_, rfl⟩
  have bxy : (x == y) = true := by rw [← hx, ← hy, hl]; exact beq_self_eq_true _
  have HX := Aside0.mk hx
  have HY := Aside0.mk hy
  have HXL : Aside0 (x.length = 32) := ⟨by rw [← hx, shaOf_length]⟩
  have HYL : Aside0 (y.length = 32) := ⟨by rw [← hy, shaOf_length]⟩
  have hzx : (cells8 x).size = 32 := by rw [cells8_size, HXL.out]
  have hzy : (cells8 y).size = 32 := by rw [cells8_size, HYL.out]
  have HR0 := Aside0.mk hr0
  have HR1 := Aside0.mk hr1
  have HB0 := Aside0.mk hb0
  have HB1 := Aside0.mk hb1
  have g24 := guard24
  clear hx hy hr0 hr1 hb0 hb1 hl
  go_enter Try.func4, Try.ntmps4
  go_wp2_with fail
  refine (awake_call _).mono ?_
  rintro e w1 ⟨rfl, hb1⟩
  go_wp2_with fail
  refine (sum_call0 A0 c0 l0 x HX.out _ (rdb_below HR0.out hb1) hc0 (by omega)).mono ?_
  rintro e w2 ⟨rfl, hb2⟩
  have HW2 : Aside0 (Below w.heap.size w w2) := ⟨below_step hb1 hb2⟩
  have hst := store_new w2 #[.int .u8 0, .int .u8 0, .int .u8 0, .int .u8 0, .int .u8 0, .int .u8 0, .int .u8 0, .int .u8 0, .int .u8 0, .int .u8 0, .int .u8 0, .int .u8 0, .int .u8 0, .int .u8 0, .int .u8 0, .int .u8 0, .int .u8 0, .int .u8 0, .int .u8 0, .int .u8 0, .int .u8 0, .int .u8 0, .int .u8 0, .int .u8 0, .int .u8 0, .int .u8 0, .int .u8 0, .int .u8 0, .int .u8 0, .int .u8 0, .int .u8 0, .int .u8 0] (cells8 x) 24 (by rw [hzx]; kernel_rfl) (cells8_all x)
  have HG2 : Aside0 (Blk8 (w2.alloc (.cells (cells8 x) 24 (0, 0))) w2.heap.size 24 x) := ⟨heap_alloc_new w2 _⟩
  clear hb1 hb2
  go_wp2_with fail
  clear hst
  refine (sum_call0 A1 c1 l1 y HY.out _ (rdb_below HR1.out (below_alloc HW2.out _)) hc1 (by omega)).mono ?_
  rintro e w3 ⟨rfl, hb3⟩
  have HW3 : Aside0 (Below w.heap.size w w3) := ⟨below_step (below_alloc HW2.out _) hb3⟩
  have hst := store_new w3 #[.int .u8 0, .int .u8 0, .int .u8 0, .int .u8 0, .int .u8 0, .int .u8 0, .int .u8 0, .int .u8 0, .int .u8 0, .int .u8 0, .int .u8 0, .int .u8 0, .int .u8 0, .int .u8 0, .int .u8 0, .int .u8 0, .int .u8 0, .int .u8 0, .int .u8 0, .int .u8 0, .int .u8 0, .int .u8 0, .int .u8 0, .int .u8 0, .int .u8 0, .int .u8 0, .int .u8 0, .int .u8 0, .int .u8 0, .int .u8 0, .int .u8 0, .int .u8 0] (cells8 y) 24 (by rw [hzy]; kernel_rfl) (cells8_all y)
  have HS : Same4 A0 A1 l0 l1 x y w2.heap.size w3.heap.size (w3.alloc (.cells (cells8 y) 24 (0, 0))).drew :=
    ⟨rdb_below HR0.out (below_drew (below_alloc HW3.out _)), rdb_below HR1.out (below_drew (below_alloc HW3.out _)), (Blk8.below (Blk8.below HG2.out hb3 (Blk8.lt HG2.out)) (below_drew (below_alloc (Below.refl _ _) _)) (Nat.lt_of_lt_of_le (Blk8.lt HG2.out) hb3.size)), heap_alloc_new w3 _⟩
  have HW3' : Aside0 (Below w.heap.size w (w3.alloc (.cells (cells8 y) 24 (0, 0))).drew) := ⟨below_drew (below_alloc HW3.out _)⟩
  have bx : (x == x) = true := beq_self_eq_true _
  clear hb3
  go_wp2_with fail
  clear hst
  refine wp_region_held_drew (S := (fun W => Same4 A0 A1 l0 l1 x y w2.heap.size w3.heap.size W)) (by kernel_rfl) (HS) (fun hHeld => ?_)
  refine wpAnyH_take (i := 0) (v := ?_) (by simp only [List.getElem?_toArray, List.getElem?_cons_succ, List.getElem?_cons_zero]; rfl) (by kernel_rfl) (by kernel_rfl) (by kernel_rfl) (by intro _ _ _ h; exact h) (Or.inl ⟨by rfl, ?hy⟩) (by assumption) ?_
  case hy => (intro W_ hW_; go_simp; first | done | with_reducible rfl)
  try simp only [Act.put, List.setIfInBounds_toArray, List.set_cons_zero, List.set_cons_succ]
  refine wpAnyH_take (i := 1) (v := ?_) (by simp only [List.getElem?_toArray, List.getElem?_cons_succ, List.getElem?_cons_zero]; rfl) (by kernel_rfl) (by kernel_rfl) (by kernel_rfl) (by intro _ _ _ h; exact h) (Or.inl ⟨by rfl, ?hy⟩) (by assumption) ?_
  case hy => (intro W_ hW_; have f_ := conv8 hW_.1 c0; go_simp; first | done | with_reducible rfl)
  try simp only [Act.put, List.setIfInBounds_toArray, List.set_cons_zero, List.set_cons_succ]
  refine wpAnyH_take (i := 3) (v := ?_) (by simp only [List.getElem?_toArray, List.getElem?_cons_succ, List.getElem?_cons_zero]; rfl) (by kernel_rfl) (by kernel_rfl) (by kernel_rfl) (by intro _ _ _ h; exact h) (Or.inl ⟨by rfl, ?hy⟩) (by assumption) ?_
  case hy => (intro W_ hW_; refine Eq.trans (exec_load24 (.tmp 6) ?_ w2.heap.size ?_ x HXL.out ?_) ?_ <;> (first | with_reducible rfl | rfl | exact hW_.2.2.1))
  try simp only [Act.put, List.setIfInBounds_toArray, List.set_cons_zero, List.set_cons_succ]
  refine wpAnyH_ready (rs := [2]) (by kernel_rfl) (by simp) ?_
  refine AllReadyH.cons (by simp only [List.getElem?_toArray, List.getElem?_cons_succ, List.getElem?_cons_zero]; rfl) (fun K hK => ?_) AllReadyH.nil
  rw [if_pos (by rfl)]
  go_wp2_with fail
  refine (ofnums_call0 l0 HB0.out (by omega) x HX.out _).mono ?_
  rintro e w4 ⟨rfl, hb4⟩
  refine hK.out _ _ (Same4.keep hHeld hb4) (fun hHeld2 => ?_)
  clear hK K hHeld
  have hHeld := hHeld2
  clear hHeld2
  try simp only [Act.put, List.setIfInBounds_toArray, List.set_cons_zero, List.set_cons_succ]
  refine wpAnyH_take (i := 4) (v := ?_) (by simp only [List.getElem?_toArray, List.getElem?_cons_succ, List.getElem?_cons_zero]; rfl) (by kernel_rfl) (by kernel_rfl) (by kernel_rfl) (by intro _ _ _ h; exact h) (Or.inl ⟨by rfl, ?hy⟩) (by assumption) ?_
  case hy => (intro W_ hW_; have f_ := equal8 (w := W_) Try.underlying24 Try.info5i Try.underlying5 cells5 x x HXL.out HXL.out; go_simp; first | done | with_reducible rfl)
  try simp only [Act.put, List.setIfInBounds_toArray, List.set_cons_zero, List.set_cons_succ]
  refine wpAnyH_take (i := 5) (v := ?_) (by simp only [List.getElem?_toArray, List.getElem?_cons_succ, List.getElem?_cons_zero]; rfl) (by kernel_rfl) (by kernel_rfl) (by kernel_rfl) (by intro _ _ _ h; exact h) (Or.inl ⟨by rfl, ?hy⟩) (by assumption) ?_
  case hy => (intro W_ hW_; go_simp; first | done | with_reducible rfl)
  try simp only [Act.put, List.setIfInBounds_toArray, List.set_cons_zero, List.set_cons_succ]
  refine wpAnyH_take (i := 6) (v := ?_) (by simp only [List.getElem?_toArray, List.getElem?_cons_succ, List.getElem?_cons_zero]; rfl) (by kernel_rfl) (by kernel_rfl) (by kernel_rfl) (by intro _ _ _ h; exact h) (Or.inl ⟨by rfl, ?hy⟩) (by assumption) ?_
  case hy => (intro W_ hW_; go_simp; first | done | with_reducible rfl)
  try simp only [Act.put, List.setIfInBounds_toArray, List.set_cons_zero, List.set_cons_succ]
  refine wpAnyH_take (i := 9) (v := ?_) (by simp only [List.getElem?_toArray, List.getElem?_cons_succ, List.getElem?_cons_zero]; rfl) (by kernel_rfl) (by kernel_rfl) (by kernel_rfl) (by intro _ _ _ h; exact h) (Or.inl ⟨by rfl, ?hy⟩) (by assumption) ?_
  case hy => (intro W_ hW_; refine Eq.trans (exec_load24 (.tmp 6) ?_ w2.heap.size ?_ x HXL.out ?_) ?_ <;> (first | with_reducible rfl | rfl | exact hW_.2.2.1))
  try simp only [Act.put, List.setIfInBounds_toArray, List.set_cons_zero, List.set_cons_succ]
  refine wpAnyH_ready (rs := [7]) (by kernel_rfl) (by simp) ?_
  refine AllReadyH.cons (by simp only [List.getElem?_toArray, List.getElem?_cons_succ, List.getElem?_cons_zero]; rfl) (fun K hK => ?_) AllReadyH.nil
  rw [if_pos (by rfl)]
  refine wp_append8 _ (.const (.slice none 0 0)) (.tmp 32) (by rfl) (.slice none 0 0) [] l0 A0 l0.length c0 (by rfl) (by rfl) (own_nil _ _ _ _) hHeld.1 (Below.refl _ _) (Nat.le_refl _) (by simp; omega) ?_
  intro v5 w5 HO5 HB5
  obtain ⟨A5, c5, rfl, hc5, hr5⟩ := own_row HO5.out
  rw [List.nil_append] at hc5 hr5
  refine hK.out _ _ (Same4.keep hHeld HB5.out) (fun hHeld2 => ?_)
  clear hK K hHeld HO5
  have hHeld := hHeld2
  clear hHeld2
  try simp only [Act.put, List.setIfInBounds_toArray, List.set_cons_zero, List.set_cons_succ, List.nil_append]
  refine wpAnyH_ready (rs := [8]) (by kernel_rfl) (by simp) ?_
  refine AllReadyH.cons (by simp only [List.getElem?_toArray, List.getElem?_cons_succ, List.getElem?_cons_zero]; rfl) (fun K hK => ?_) AllReadyH.nil
  rw [if_pos (by rfl)]
  go_wp2_with fail
  refine (sum_call0 A5 c5 l0 x HX.out _ hr5 hc5 (by omega)).mono ?_
  rintro e w6 ⟨rfl, hb6⟩
  refine hK.out _ _ (Same4.keep hHeld hb6) (fun hHeld2 => ?_)
  clear hK K hHeld
  have hHeld := hHeld2
  clear hHeld2
  try simp only [Act.put, List.setIfInBounds_toArray, List.set_cons_zero, List.set_cons_succ]
  refine wpAnyH_take (i := 10) (v := ?_) (by simp only [List.getElem?_toArray, List.getElem?_cons_succ, List.getElem?_cons_zero]; rfl) (by kernel_rfl) (by kernel_rfl) (by kernel_rfl) (by intro _ _ _ h; exact h) (Or.inl ⟨by rfl, ?hy⟩) (by assumption) ?_
  case hy => (intro W_ hW_; have f_ := equal8 (w := W_) Try.underlying24 Try.info5i Try.underlying5 cells5 x x HXL.out HXL.out; go_simp; first | done | with_reducible rfl)
  try simp only [Act.put, List.setIfInBounds_toArray, List.set_cons_zero, List.set_cons_succ]
  refine wpAnyH_take (i := 11) (v := ?_) (by simp only [List.getElem?_toArray, List.getElem?_cons_succ, List.getElem?_cons_zero]; rfl) (by kernel_rfl) (by kernel_rfl) (by kernel_rfl) (by intro _ _ _ h; exact h) (Or.inl ⟨by rfl, ?hy⟩) (by assumption) ?_
  case hy => (intro W_ hW_; go_simp; first | done | with_reducible rfl)
  try simp only [Act.put, List.setIfInBounds_toArray, List.set_cons_zero, List.set_cons_succ]
  refine wpAnyH_take (i := 12) (v := ?_) (by simp only [List.getElem?_toArray, List.getElem?_cons_succ, List.getElem?_cons_zero]; rfl) (by kernel_rfl) (by kernel_rfl) (by kernel_rfl) (by intro _ _ _ h; exact h) (Or.inl ⟨by rfl, ?hy⟩) (by assumption) ?_
  case hy => (intro W_ hW_; go_simp; first | done | with_reducible rfl)
  try simp only [Act.put, List.setIfInBounds_toArray, List.set_cons_zero, List.set_cons_succ]
  refine wpAnyH_take (i := 13) (v := ?_) (by simp only [List.getElem?_toArray, List.getElem?_cons_succ, List.getElem?_cons_zero]; rfl) (by kernel_rfl) (by kernel_rfl) (by kernel_rfl) (by intro _ _ _ h; exact h) (Or.inl ⟨by rfl, ?hy⟩) (by assumption) ?_
  case hy => (intro W_ hW_; go_simp; first | done | with_reducible rfl)
  try simp only [Act.put, List.setIfInBounds_toArray, List.set_cons_zero, List.set_cons_succ]
  refine wpAnyH_take (i := 14) (v := ?_) (by simp only [List.getElem?_toArray, List.getElem?_cons_succ, List.getElem?_cons_zero]; rfl) (by kernel_rfl) (by kernel_rfl) (by kernel_rfl) (by intro _ _ _ h; exact h) (Or.inl ⟨by rfl, ?hy⟩) (by assumption) ?_
  case hy => (intro W_ hW_; have f_ := conv8 hW_.1 c0; go_simp; first | done | with_reducible rfl)
  try simp only [Act.put, List.setIfInBounds_toArray, List.set_cons_zero, List.set_cons_succ]
  refine wpAnyH_take (i := 15) (v := ?_) (by simp only [List.getElem?_toArray, List.getElem?_cons_succ, List.getElem?_cons_zero]; rfl) (by kernel_rfl) (by kernel_rfl) (by kernel_rfl) (by intro _ _ _ h; exact h) (Or.inl ⟨by rfl, ?hy⟩) (by assumption) ?_
  case hy => (intro W_ hW_; go_simp; first | done | with_reducible rfl)
  try simp only [Act.put, List.setIfInBounds_toArray, List.set_cons_zero, List.set_cons_succ]
  refine wpAnyH_take (i := 16) (v := ?_) (by simp only [List.getElem?_toArray, List.getElem?_cons_succ, List.getElem?_cons_zero]; rfl) (by kernel_rfl) (by kernel_rfl) (by kernel_rfl) (by intro _ _ _ h; exact h) (Or.inl ⟨by rfl, ?hy⟩) (by assumption) ?_
  case hy => (intro W_ hW_; have f_ := conv8 hW_.2.1 c1; go_simp; first | done | with_reducible rfl)
  try simp only [Act.put, List.setIfInBounds_toArray, List.set_cons_zero, List.set_cons_succ]
  refine wpAnyH_take (i := 17) (v := ?_) (by simp only [List.getElem?_toArray, List.getElem?_cons_succ, List.getElem?_cons_zero]; rfl) (by kernel_rfl) (by kernel_rfl) (by kernel_rfl) (by intro _ _ _ h; exact h) (Or.inl ⟨by rfl, ?hy⟩) (by assumption) ?_
  case hy => (intro W_ hW_; go_simp; first | done | with_reducible rfl)
  try simp only [Act.put, List.setIfInBounds_toArray, List.set_cons_zero, List.set_cons_succ]
  refine wpAnyH_take (i := 18) (v := ?_) (by simp only [List.getElem?_toArray, List.getElem?_cons_succ, List.getElem?_cons_zero]; rfl) (by kernel_rfl) (by kernel_rfl) (by kernel_rfl) (by intro _ _ _ h; exact h) (Or.inl ⟨by rfl, ?hy⟩) (by assumption) ?_
  case hy => (intro W_ hW_; go_simp; first | done | with_reducible rfl)
  try simp only [Act.put, List.setIfInBounds_toArray, List.set_cons_zero, List.set_cons_succ]
  refine wpAnyH_take (i := 19) (v := ?_) (by simp only [List.getElem?_toArray, List.getElem?_cons_succ, List.getElem?_cons_zero]; rfl) (by kernel_rfl) (by kernel_rfl) (by kernel_rfl) (by intro _ _ _ h; exact h) (Or.inl ⟨by rfl, ?hy⟩) (by assumption) ?_
  case hy => (intro W_ hW_; refine Eq.trans (exec_load24 (.tmp 6) ?_ w2.heap.size ?_ x HXL.out ?_) ?_ <;> (first | with_reducible rfl | rfl | exact hW_.2.2.1))
  try simp only [Act.put, List.setIfInBounds_toArray, List.set_cons_zero, List.set_cons_succ]
  refine wpAnyH_take (i := 20) (v := ?_) (by simp only [List.getElem?_toArray, List.getElem?_cons_succ, List.getElem?_cons_zero]; rfl) (by kernel_rfl) (by kernel_rfl) (by kernel_rfl) (by intro _ _ _ h; exact h) (Or.inl ⟨by rfl, ?hy⟩) (by assumption) ?_
  case hy => (intro W_ hW_; refine Eq.trans (exec_load24 (.tmp 7) ?_ w3.heap.size ?_ y HYL.out ?_) ?_ <;> (first | with_reducible rfl | rfl | exact hW_.2.2.2))
  try simp only [Act.put, List.setIfInBounds_toArray, List.set_cons_zero, List.set_cons_succ]
  refine wpAnyH_take (i := 21) (v := ?_) (by simp only [List.getElem?_toArray, List.getElem?_cons_succ, List.getElem?_cons_zero]; rfl) (by kernel_rfl) (by kernel_rfl) (by kernel_rfl) (by intro _ _ _ h; exact h) (Or.inl ⟨by rfl, ?hy⟩) (by assumption) ?_
  case hy => (intro W_ hW_; have f_ := equal8 (w := W_) Try.underlying24 Try.info5i Try.underlying5 cells5 x y HXL.out HYL.out; go_simp; first | done | with_reducible rfl)
  try simp only [Act.put, List.setIfInBounds_toArray, List.set_cons_zero, List.set_cons_succ]
  refine wpAnyH_take (i := 22) (v := ?_) (by simp only [List.getElem?_toArray, List.getElem?_cons_succ, List.getElem?_cons_zero]; rfl) (by kernel_rfl) (by kernel_rfl) (by kernel_rfl) (by intro _ _ _ h; exact h) (Or.inl ⟨by rfl, ?hy⟩) (by assumption) ?_
  case hy => (intro W_ hW_; go_simp; first | done | with_reducible rfl)
  try simp only [Act.put, List.setIfInBounds_toArray, List.set_cons_zero, List.set_cons_succ]
  refine wpAnyH_take (i := 23) (v := ?_) (by simp only [List.getElem?_toArray, List.getElem?_cons_succ, List.getElem?_cons_zero]; rfl) (by kernel_rfl) (by kernel_rfl) (by kernel_rfl) (by intro _ _ _ h; exact h) (Or.inl ⟨by rfl, ?hy⟩) (by assumption) ?_
  case hy => (intro W_ hW_; go_simp; first | done | with_reducible rfl)
  try simp only [Act.put, List.setIfInBounds_toArray, List.set_cons_zero, List.set_cons_succ]
  refine wpAnyH_take (i := 24) (v := ?_) (by simp only [List.getElem?_toArray, List.getElem?_cons_succ, List.getElem?_cons_zero]; rfl) (by kernel_rfl) (by kernel_rfl) (by kernel_rfl) (by intro _ _ _ h; exact h) (Or.inl ⟨by rfl, ?hy⟩) (by assumption) ?_
  case hy => (intro W_ hW_; go_simp; first | done | with_reducible rfl)
  try simp only [Act.put, List.setIfInBounds_toArray, List.set_cons_zero, List.set_cons_succ]
  refine wpAnyH_done (by kernel_rfl) ?_ _
  go_wp2_with fail
  go_ret
  exact ⟨rfl, below_step (below_step (below_step HW3'.out hb4) HB5.out) hb6⟩

theorem rolodexlaw03_ShaSame.main (A0 : Option Addr) (c0 : Nat) (l0 : List Int) (A1 : Option Addr) (c1 : Nat) (l1 : List Int) (w : World) (hr0 : RdB w A0 l0.length l0) (hc0 : l0.length ≤ c0) (hr1 : RdB w A1 l1.length l1) (hc1 : l1.length ≤ c1) (hb0 : Bytes l0) (hb1 : Bytes l1) :
    Calls Try.prog 4 #[.slice A0 l0.length c0, .slice A1 l1.length c1] w fun e w' => e = .returned (.bool true) ∧ Below w.heap.size w w' := by
  by_cases h0 : l0.length ≤ 300
  · by_cases h1 : l1.length ≤ 300
    · cases hq : ((strOfNums l0).toList == (strOfNums l1).toList) with
      | false => exact same_ne A0 c0 l0 A1 c1 l1 w hr0 hc0 hr1 hc1 hb0 hb1 h0 h1 hq
      | true =>
        refine same_eq A0 c0 l0 A1 c1 l1 w hr0 hc0 hr1 hc1 hb0 hb1 h0 h1 hq ?_
        have e := eq_of_beq hq
        rw [← bytesOf_strOfNums l0 hb0, ← bytesOf_strOfNums l1 hb1]
        unfold bytesOf
        rw [ByteArray.toList_eq, ByteArray.toList_eq] at e
        rw [e]
    · exact same_long1 A0 c0 l0 A1 c1 l1 w h0 (by omega)
  · exact same_long0 A0 c0 l0 A1 c1 l1 w (by omega)

theorem rolodexlaw03_ShaSame.walk (a0 : Option Addr) (len0 cap0 : Nat) (z0 : List Int) (a1 : Option Addr) (len1 cap1 : Nat) (z1 : List Int) (w : World) (w0 : (a0 = none ∧ len0 = 0 ∧ cap0 = 0 ∧ z0 = []) ∨ ∃ x, a0 = some x ∧ len0 ≤ cap0 ∧ cap0 ≤ maxLen ∧ z0.length = cap0 ∧ (∀ i, i < z0.length → w.cell? (x.add i) = some (.int .u8 (z0.getD i 0))) ∧ ∀ n ∈ z0, (Lit.int .u8 n).wf = true) (y0 : len0 * 1 ≤ 140737488351232) (w1 : (a1 = none ∧ len1 = 0 ∧ cap1 = 0 ∧ z1 = []) ∨ ∃ x, a1 = some x ∧ len1 ≤ cap1 ∧ cap1 ≤ maxLen ∧ z1.length = cap1 ∧ (∀ i, i < z1.length → w.cell? (x.add i) = some (.int .u8 (z1.getD i 0))) ∧ ∀ n ∈ z1, (Lit.int .u8 n).wf = true) (y1 : len1 * 1 ≤ 140737488351232) :
    Calls Try.prog 4 #[.slice a0 len0 cap0, .slice a1 len1 cap1] w fun e w' => e = .returned (.bool true) ∧ Below w.heap.size w w' := by
  obtain ⟨l0, rfl, hr0, hm0, hw0, hc0⟩ := ReadsInt.ofRowC w0
  obtain ⟨l1, rfl, hr1, hm1, hw1, hc1⟩ := ReadsInt.ofRowC w1
  exact rolodexlaw03_ShaSame.main _ _ l0 _ _ l1 w (Kd.C_of_reads (d := (0 : Int)) (h1 := fun _ => rfl) hr0) hc0 (Kd.C_of_reads (d := (0 : Int)) (h1 := fun _ => rfl) hr1) hc1 (bytes_of_wf hw0) (bytes_of_wf hw1)

end Go.Proofs.Ytenkaaigalcgcaa.X
