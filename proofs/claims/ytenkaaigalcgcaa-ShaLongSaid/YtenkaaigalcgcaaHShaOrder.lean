/- Of two digests one is less, or they are the same; of three it goes on: the walk. -/
import Derived.Test.YtenkaaigalcgcaaSKn
namespace Go.Proofs.Ytenkaaigalcgcaa.X
set_option linter.unusedVariables false
set_option linter.unusedSimpArgs false
open Go.RowKit Go.Proofs.YtenkaaigalcgcaaW.PrintWords Go.Proofs.YtenkaaigalcgcaaW.PrintLast Go.Proofs.YtenkaaigalcgcaaW.PrintMore

theorem cmp_self : ∀ a : List UInt8, Lib.compareBytes a a = 0
  | [] => rfl
  | x :: a => by simp [Lib.compareBytes, cmp_self a]
theorem cmp_flip : ∀ a b : List UInt8, Lib.compareBytes a b < 0 ↔ 0 < Lib.compareBytes b a
  | [], [] => by simp [Lib.compareBytes]
  | [], _ :: _ => by simp [Lib.compareBytes]
  | _ :: _, [] => by simp [Lib.compareBytes]
  | x :: a, y :: b => by
    simp only [Lib.compareBytes]
    by_cases h1 : x < y
    · have h2 : ¬ y < x := fun h => by rw [UInt8.lt_iff_toNat_lt] at h h1; omega
      simp [h1, h2]
    · by_cases h2 : y < x
      · simp [h1, h2]
      · rw [if_neg h1, if_neg h2, if_neg h2, if_neg h1]; exact cmp_flip a b
theorem cmp_zero : ∀ a b : List UInt8, Lib.compareBytes a b = 0 → a = b
  | [], [], _ => rfl
  | [], _ :: _, h => by simp [Lib.compareBytes] at h
  | _ :: _, [], h => by simp [Lib.compareBytes] at h
  | x :: a, y :: b, h => by
    simp only [Lib.compareBytes] at h
    by_cases h1 : x < y
    · simp [h1] at h
    · by_cases h2 : y < x
      · simp [h1, h2] at h
      · rw [if_neg h1, if_neg h2] at h
        have e : x = y := by
          apply UInt8.toNat_inj.1
          rw [UInt8.lt_iff_toNat_lt] at h1 h2
          omega
        rw [e, cmp_zero a b h]
theorem cmp_trans : ∀ a b c : List UInt8, Lib.compareBytes a b < 0 → Lib.compareBytes b c < 0 → Lib.compareBytes a c < 0
  | [], [], _, h, _ => by simp [Lib.compareBytes] at h
  | _, _ :: _, [], _, h => by simp [Lib.compareBytes] at h
  | [], _ :: _, _ :: _, _, _ => by simp [Lib.compareBytes]
  | _ :: _, [], _, h, _ => by simp [Lib.compareBytes] at h
  | x :: a, y :: b, z :: c, h, k => by
    simp only [Lib.compareBytes] at h k ⊢
    by_cases h1 : x < y
    · by_cases k1 : y < z
      · have : x < z := by rw [UInt8.lt_iff_toNat_lt] at h1 k1 ⊢; omega
        simp [this]
      · by_cases k2 : z < y
        · simp [k1, k2] at k
        · have : x < z := by rw [UInt8.lt_iff_toNat_lt] at h1 k1 k2 ⊢; omega
          simp [this]
    · by_cases h2 : y < x
      · simp [h1, h2] at h
      · rw [if_neg h1, if_neg h2] at h
        have e : x = y := by
          apply UInt8.toNat_inj.1
          rw [UInt8.lt_iff_toNat_lt] at h1 h2
          omega
        subst e
        by_cases k1 : x < z
        · simp [k1]
        · by_cases k2 : z < x
          · simp [k1, k2] at k
          · rw [if_neg k1, if_neg k2] at k ⊢
            exact cmp_trans a b c h k
/-- Numbers that are bytes. -/
def Byt (l : List Int) : Prop := ∀ x ∈ l, (Lit.int .u8 x).wf = true
theorem byt_range {l : List Int} (h : Byt l) : ∀ x ∈ l, 0 ≤ x ∧ x ≤ 255 := fun x hx => by
  have := h x hx
  simp only [Lit.wf, IntKind.min, IntKind.max, IntKind.bits, IntKind.signed, Bool.and_eq_true, decide_eq_true_eq] at this
  simp at this
  exact this
theorem byt_inj {a b : List Int} (ha : Byt a) (hb : Byt b) (h : Lib.bytesOf a = Lib.bytesOf b) : a = b := by
  have e : ∀ {l : List Int}, Byt l → l = (Lib.bytesOf l).map fun u => (u.toNat : Int) := by
    intro l hl
    unfold Lib.bytesOf
    rw [List.map_map]
    conv => lhs; rw [← List.map_id l]
    apply List.map_congr_left
    intro x hx
    have := byt_range hl x hx
    simp [Nat.mod_eq_of_lt (show x.toNat < 256 by omega)]
    omega
  rw [e ha, e hb, h]
theorem less_flip {a b : List Int} (h : lessL a b = true) : lessL b a = false := by
  unfold lessL cmpL at *
  rw [Bool.and_eq_true, decide_eq_true_eq] at h
  have := (cmp_flip _ _).1 h.2
  rw [decide_eq_false (by omega), Bool.and_false]
theorem less_self (a : List Int) : lessL a a = false := by
  unfold lessL cmpL
  rw [cmp_self]
  simp
theorem less_ne {a b : List Int} (h : lessL a b = true) : (a == b) = false := by
  unfold lessL at h
  rw [Bool.and_eq_true] at h
  simpa using h.1
theorem less_total {a b : List Int} (ha : Byt a) (hb : Byt b) (h : lessL a b = false) (k : lessL b a = false) : (a == b) = true := by
  cases hq : (a == b) with
  | true => rfl
  | false =>
    have hq2 : (b == a) = false := by rw [beq_eq_false_iff_ne] at hq ⊢; exact fun e => hq e.symm
    unfold lessL cmpL at h k
    rw [hq, Bool.not_false, Bool.true_and, decide_eq_false_iff_not] at h
    rw [hq2, Bool.not_false, Bool.true_and, decide_eq_false_iff_not] at k
    have h3 : ¬ 0 < Lib.compareBytes (Lib.bytesOf a) (Lib.bytesOf b) := fun h4 => k ((cmp_flip _ _).2 h4)
    have := byt_inj ha hb (cmp_zero _ _ (by omega))
    rw [this] at hq
    simp at hq
theorem less_trans {a b c : List Int} (h : lessL a b = true) (k : lessL b c = true) : lessL a c = true := by
  unfold lessL cmpL at *
  rw [Bool.and_eq_true, decide_eq_true_eq] at h k
  have h1 := cmp_trans _ _ _ h.2 k.2
  rw [decide_eq_true h1, Bool.and_true]
  cases hq : (a == c) with
  | false => rfl
  | true =>
    have := eq_of_beq hq
    rw [this, cmp_self] at h1
    omega
theorem less_call0 (a b : List Int) (r : Bool) (w : World) (hal : a.length = 32) (hbl : b.length = 32) (hr : lessL a b = r) :
    Calls Try.prog 14 #[.agg (cells8 a), .agg (cells8 b)] w fun e w' => e = .returned (.bool r) ∧ Below w.heap.size w w' := by
  rw [← hr]
  exact less_call a b w hal hbl

set_option maxHeartbeats 4000000 in
set_option maxRecDepth 100000 in
theorem order_101 (a b c : List Int) (w : World) (hal : a.length = 32) (hbl : b.length = 32) (hcl : c.length = 32) (hx : lessL a b = true) (hy : lessL b a = false) (hz : lessL b c = true) (hv : lessL a c = true) (hab : (a == b) = false) :
    Calls Try.prog 5 #[.agg (cells8 a), .agg (cells8 b), .agg (cells8 c)] w fun e w' => e = .returned (.bool true) ∧ Below w.heap.size w w' := by
  have HX := Aside0.mk hx
  have HY := Aside0.mk hy
  have HZ := Aside0.mk hz
  have HV := Aside0.mk hv
  have HAL := Aside0.mk hal
  have HBL := Aside0.mk hbl
  have HCL := Aside0.mk hcl
  have g24 := guard24
  have hza : (cells8 a).size = 32 := by rw [cells8_size, hal]
  have hzb : (cells8 b).size = 32 := by rw [cells8_size, hbl]
  have hzc : (cells8 c).size = 32 := by rw [cells8_size, hcl]
  have heq : ∀ W : World, (Op.equalIn 10000 24 (.agg (cells8 a)) (.agg (cells8 b))).run Try.prog W = .ok false W := fun W => by rw [equal8 (w := W) Try.underlying24 Try.info5i Try.underlying5 cells5 a b hal hbl, hab]
  clear hx hy hz hv hal hbl hcl hab
  go_enter Try.func5, Try.ntmps5
  go_wp2_with fail
  obtain ⟨W0, hW0⟩ : ∃ W0 : World, W0 = ((w.alloc (.cells (cells8 a) 24 (0, 0))).alloc (.cells (cells8 b) 24 (0, 0))).alloc (.cells (cells8 c) 24 (0, 0)) := ⟨_, rfl⟩
  have HB0 : Aside0 (Below w.heap.size w W0) := ⟨by rw [hW0]; exact below_alloc (below_alloc (below_alloc (Below.refl _ _) _) _) _⟩
  have H0a : Aside0 (Blk8 W0 w.heap.size 24 a) := ⟨by rw [hW0]; exact (Below.heap_alloc _ _ _ (by first | (simp; done) | (simp; omega))).trans (heap_alloc2_old w _ _)⟩
  have H0b : Aside0 (Blk8 W0 (w.heap.size + 1) 24 b) := ⟨by rw [hW0]; exact (Below.heap_alloc _ _ _ (by first | (simp; done) | (simp; omega))).trans (heap_alloc2_new w _ _)⟩
  have H0c : Aside0 (Blk8 W0 (w.heap.size + 2) 24 c) := ⟨by rw [hW0]; have h_ := heap_alloc2_new (w.alloc (.cells (cells8 a) 24 (0, 0))) (.cells (cells8 b) 24 (0, 0)) (.cells (cells8 c) 24 (0, 0)); rw [show (w.alloc (.cells (cells8 a) 24 (0, 0))).heap.size + 1 = w.heap.size + 2 from by simp] at h_; exact h_⟩
  have HBZ := HB0
  replace HB0 : Aside0 (Below W0.heap.size W0 W0) := ⟨Below.refl _ _⟩
  rw [← hW0]
  clear hW0
  refine (awake_call _).mono ?_
  rintro e w1 ⟨rfl, hb1⟩
  have HB1 : Aside0 (Below W0.heap.size W0 w1) := ⟨below_step HB0.out hb1⟩
  have Ha : Aside0 (w1.heap[w.heap.size]? = some (.cells (cells8 a) 24 (0, 0))) := ⟨Blk8.below (w := W0) H0a.out HB1.out (Blk8.lt H0a.out)⟩
  have Hb : Aside0 (w1.heap[w.heap.size + 1]? = some (.cells (cells8 b) 24 (0, 0))) := ⟨Blk8.below (w := W0) H0b.out HB1.out (Blk8.lt H0b.out)⟩
  have Hc : Aside0 (w1.heap[w.heap.size + 2]? = some (.cells (cells8 c) 24 (0, 0))) := ⟨Blk8.below (w := W0) H0c.out HB1.out (Blk8.lt H0c.out)⟩
  clear hb1
  go_wp2_with (first
    | ((with_reducible refine gate_dst (N := 12) rfl ?_); refine wpList_load_row_g (by rfl) 24 (.tmp 3) rfl w.heap.size (by rfl) 24 (cells8 a) (0, 0) _ Ha.out rfl (by kernel_rfl) (by rw [hza]; kernel_rfl) ?_)
    | ((with_reducible refine gate_dst (N := 13) rfl ?_); refine wpList_load_row_g (by rfl) 24 (.tmp 4) rfl (w.heap.size + 1) (by rfl) 24 (cells8 b) (0, 0) _ Hb.out rfl (by kernel_rfl) (by rw [hzb]; kernel_rfl) ?_)
    | fail)
  refine (less_call0 a b _ _ HAL.out HBL.out HX.out).mono ?_
  rintro e w2 ⟨rfl, hb2⟩
  have HB2 : Aside0 (Below W0.heap.size W0 w2) := ⟨below_step HB1.out hb2⟩
  have Ha : Aside0 (w2.heap[w.heap.size]? = some (.cells (cells8 a) 24 (0, 0))) := ⟨Blk8.below (w := W0) H0a.out HB2.out (Blk8.lt H0a.out)⟩
  have Hb : Aside0 (w2.heap[w.heap.size + 1]? = some (.cells (cells8 b) 24 (0, 0))) := ⟨Blk8.below (w := W0) H0b.out HB2.out (Blk8.lt H0b.out)⟩
  have Hc : Aside0 (w2.heap[w.heap.size + 2]? = some (.cells (cells8 c) 24 (0, 0))) := ⟨Blk8.below (w := W0) H0c.out HB2.out (Blk8.lt H0c.out)⟩
  clear hb2
  go_wp2_with (first
    | ((with_reducible refine gate_dst (N := 15) rfl ?_); refine wpList_load_row_g (by rfl) 24 (.tmp 4) rfl (w.heap.size + 1) (by rfl) 24 (cells8 b) (0, 0) _ Hb.out rfl (by kernel_rfl) (by rw [hzb]; kernel_rfl) ?_)
    | ((with_reducible refine gate_dst (N := 16) rfl ?_); refine wpList_load_row_g (by rfl) 24 (.tmp 3) rfl w.heap.size (by rfl) 24 (cells8 a) (0, 0) _ Ha.out rfl (by kernel_rfl) (by rw [hza]; kernel_rfl) ?_)
    | fail)
  refine (less_call0 b a _ _ HBL.out HAL.out HY.out).mono ?_
  rintro e w3 ⟨rfl, hb3⟩
  have HB3 : Aside0 (Below W0.heap.size W0 w3) := ⟨below_step HB2.out hb3⟩
  have Ha : Aside0 (w3.heap[w.heap.size]? = some (.cells (cells8 a) 24 (0, 0))) := ⟨Blk8.below (w := W0) H0a.out HB3.out (Blk8.lt H0a.out)⟩
  have Hb : Aside0 (w3.heap[w.heap.size + 1]? = some (.cells (cells8 b) 24 (0, 0))) := ⟨Blk8.below (w := W0) H0b.out HB3.out (Blk8.lt H0b.out)⟩
  have Hc : Aside0 (w3.heap[w.heap.size + 2]? = some (.cells (cells8 c) 24 (0, 0))) := ⟨Blk8.below (w := W0) H0c.out HB3.out (Blk8.lt H0c.out)⟩
  clear hb3
  go_wp2_with (first
    | ((with_reducible refine gate_dst (N := 18) rfl ?_); refine wpList_load_row_g (by rfl) 24 (.tmp 4) rfl (w.heap.size + 1) (by rfl) 24 (cells8 b) (0, 0) _ Hb.out rfl (by kernel_rfl) (by rw [hzb]; kernel_rfl) ?_)
    | ((with_reducible refine gate_dst (N := 19) rfl ?_); refine wpList_load_row_g (by rfl) 24 (.tmp 5) rfl (w.heap.size + 2) (by rfl) 24 (cells8 c) (0, 0) _ Hc.out rfl (by kernel_rfl) (by rw [hzc]; kernel_rfl) ?_)
    | fail)
  refine (less_call0 b c _ _ HBL.out HCL.out HZ.out).mono ?_
  rintro e w4 ⟨rfl, hb4⟩
  have HB4 : Aside0 (Below W0.heap.size W0 w4) := ⟨below_step HB3.out hb4⟩
  have Ha : Aside0 (w4.heap[w.heap.size]? = some (.cells (cells8 a) 24 (0, 0))) := ⟨Blk8.below (w := W0) H0a.out HB4.out (Blk8.lt H0a.out)⟩
  have Hb : Aside0 (w4.heap[w.heap.size + 1]? = some (.cells (cells8 b) 24 (0, 0))) := ⟨Blk8.below (w := W0) H0b.out HB4.out (Blk8.lt H0b.out)⟩
  have Hc : Aside0 (w4.heap[w.heap.size + 2]? = some (.cells (cells8 c) 24 (0, 0))) := ⟨Blk8.below (w := W0) H0c.out HB4.out (Blk8.lt H0c.out)⟩
  clear hb4
  go_wp2_with (first
    | ((with_reducible refine gate_dst (N := 34) rfl ?_); refine wpList_load_row_g (by rfl) 24 (.tmp 3) rfl w.heap.size (by rfl) 24 (cells8 a) (0, 0) _ Ha.out rfl (by kernel_rfl) (by rw [hza]; kernel_rfl) ?_)
    | ((with_reducible refine gate_dst (N := 35) rfl ?_); refine wpList_load_row_g (by rfl) 24 (.tmp 4) rfl (w.heap.size + 1) (by rfl) 24 (cells8 b) (0, 0) _ Hb.out rfl (by kernel_rfl) (by rw [hzb]; kernel_rfl) ?_)
    | ((with_reducible refine gate_dst (N := 47) rfl ?_); refine wpList_load_row_g (by rfl) 24 (.tmp 3) rfl w.heap.size (by rfl) 24 (cells8 a) (0, 0) _ Ha.out rfl (by kernel_rfl) (by rw [hza]; kernel_rfl) ?_)
    | ((with_reducible refine gate_dst (N := 48) rfl ?_); refine wpList_load_row_g (by rfl) 24 (.tmp 5) rfl (w.heap.size + 2) (by rfl) 24 (cells8 c) (0, 0) _ Hc.out rfl (by kernel_rfl) (by rw [hzc]; kernel_rfl) ?_)
    | ((with_reducible refine gate_dst (N := 53) rfl ?_); refine wpList_load_row_g (by rfl) 24 (.tmp 3) rfl w.heap.size (by rfl) 24 (cells8 a) (0, 0) _ Ha.out rfl (by kernel_rfl) (by rw [hza]; kernel_rfl) ?_)
    | ((with_reducible refine gate_dst (N := 54) rfl ?_); refine wpList_load_row_g (by rfl) 24 (.tmp 3) rfl w.heap.size (by rfl) 24 (cells8 a) (0, 0) _ Ha.out rfl (by kernel_rfl) (by rw [hza]; kernel_rfl) ?_)
    | fail)
  refine (less_call0 a c _ _ HAL.out HCL.out HV.out).mono ?_
  rintro e w5 ⟨rfl, hb5⟩
  have HB5 : Aside0 (Below W0.heap.size W0 w5) := ⟨below_step HB4.out hb5⟩
  have Ha : Aside0 (w5.heap[w.heap.size]? = some (.cells (cells8 a) 24 (0, 0))) := ⟨Blk8.below (w := W0) H0a.out HB5.out (Blk8.lt H0a.out)⟩
  have Hb : Aside0 (w5.heap[w.heap.size + 1]? = some (.cells (cells8 b) 24 (0, 0))) := ⟨Blk8.below (w := W0) H0b.out HB5.out (Blk8.lt H0b.out)⟩
  have Hc : Aside0 (w5.heap[w.heap.size + 2]? = some (.cells (cells8 c) 24 (0, 0))) := ⟨Blk8.below (w := W0) H0c.out HB5.out (Blk8.lt H0c.out)⟩
  clear hb5
  go_wp2_with (first
    | ((with_reducible refine gate_dst (N := 53) rfl ?_); refine wpList_load_row_g (by rfl) 24 (.tmp 3) rfl w.heap.size (by rfl) 24 (cells8 a) (0, 0) _ Ha.out rfl (by kernel_rfl) (by rw [hza]; kernel_rfl) ?_)
    | ((with_reducible refine gate_dst (N := 54) rfl ?_); refine wpList_load_row_g (by rfl) 24 (.tmp 3) rfl w.heap.size (by rfl) 24 (cells8 a) (0, 0) _ Ha.out rfl (by kernel_rfl) (by rw [hza]; kernel_rfl) ?_)
    | fail)
  refine (less_call0 a a _ _ HAL.out HAL.out (less_self a)).mono ?_
  rintro e w6 ⟨rfl, hb6⟩
  go_wp2_with fail
  go_ret
  exact ⟨rfl, below_step HBZ.out (below_step HB5.out hb6)⟩

set_option maxHeartbeats 4000000 in
set_option maxRecDepth 100000 in
theorem order_100 (a b c : List Int) (w : World) (hal : a.length = 32) (hbl : b.length = 32) (hcl : c.length = 32) (hx : lessL a b = true) (hy : lessL b a = false) (hz : lessL b c = false) (hv : True) (hab : (a == b) = false) :
    Calls Try.prog 5 #[.agg (cells8 a), .agg (cells8 b), .agg (cells8 c)] w fun e w' => e = .returned (.bool true) ∧ Below w.heap.size w w' := by
  have HX := Aside0.mk hx
  have HY := Aside0.mk hy
  have HZ := Aside0.mk hz
  have HV := Aside0.mk hv
  have HAL := Aside0.mk hal
  have HBL := Aside0.mk hbl
  have HCL := Aside0.mk hcl
  have g24 := guard24
  have hza : (cells8 a).size = 32 := by rw [cells8_size, hal]
  have hzb : (cells8 b).size = 32 := by rw [cells8_size, hbl]
  have hzc : (cells8 c).size = 32 := by rw [cells8_size, hcl]
  have heq : ∀ W : World, (Op.equalIn 10000 24 (.agg (cells8 a)) (.agg (cells8 b))).run Try.prog W = .ok false W := fun W => by rw [equal8 (w := W) Try.underlying24 Try.info5i Try.underlying5 cells5 a b hal hbl, hab]
  clear hx hy hz hv hal hbl hcl hab
  go_enter Try.func5, Try.ntmps5
  go_wp2_with fail
  obtain ⟨W0, hW0⟩ : ∃ W0 : World, W0 = ((w.alloc (.cells (cells8 a) 24 (0, 0))).alloc (.cells (cells8 b) 24 (0, 0))).alloc (.cells (cells8 c) 24 (0, 0)) := ⟨_, rfl⟩
  have HB0 : Aside0 (Below w.heap.size w W0) := ⟨by rw [hW0]; exact below_alloc (below_alloc (below_alloc (Below.refl _ _) _) _) _⟩
  have H0a : Aside0 (Blk8 W0 w.heap.size 24 a) := ⟨by rw [hW0]; exact (Below.heap_alloc _ _ _ (by first | (simp; done) | (simp; omega))).trans (heap_alloc2_old w _ _)⟩
  have H0b : Aside0 (Blk8 W0 (w.heap.size + 1) 24 b) := ⟨by rw [hW0]; exact (Below.heap_alloc _ _ _ (by first | (simp; done) | (simp; omega))).trans (heap_alloc2_new w _ _)⟩
  have H0c : Aside0 (Blk8 W0 (w.heap.size + 2) 24 c) := ⟨by rw [hW0]; have h_ := heap_alloc2_new (w.alloc (.cells (cells8 a) 24 (0, 0))) (.cells (cells8 b) 24 (0, 0)) (.cells (cells8 c) 24 (0, 0)); rw [show (w.alloc (.cells (cells8 a) 24 (0, 0))).heap.size + 1 = w.heap.size + 2 from by simp] at h_; exact h_⟩
  have HBZ := HB0
  replace HB0 : Aside0 (Below W0.heap.size W0 W0) := ⟨Below.refl _ _⟩
  rw [← hW0]
  clear hW0
  refine (awake_call _).mono ?_
  rintro e w1 ⟨rfl, hb1⟩
  have HB1 : Aside0 (Below W0.heap.size W0 w1) := ⟨below_step HB0.out hb1⟩
  have Ha : Aside0 (w1.heap[w.heap.size]? = some (.cells (cells8 a) 24 (0, 0))) := ⟨Blk8.below (w := W0) H0a.out HB1.out (Blk8.lt H0a.out)⟩
  have Hb : Aside0 (w1.heap[w.heap.size + 1]? = some (.cells (cells8 b) 24 (0, 0))) := ⟨Blk8.below (w := W0) H0b.out HB1.out (Blk8.lt H0b.out)⟩
  have Hc : Aside0 (w1.heap[w.heap.size + 2]? = some (.cells (cells8 c) 24 (0, 0))) := ⟨Blk8.below (w := W0) H0c.out HB1.out (Blk8.lt H0c.out)⟩
  clear hb1
  go_wp2_with (first
    | ((with_reducible refine gate_dst (N := 12) rfl ?_); refine wpList_load_row_g (by rfl) 24 (.tmp 3) rfl w.heap.size (by rfl) 24 (cells8 a) (0, 0) _ Ha.out rfl (by kernel_rfl) (by rw [hza]; kernel_rfl) ?_)
    | ((with_reducible refine gate_dst (N := 13) rfl ?_); refine wpList_load_row_g (by rfl) 24 (.tmp 4) rfl (w.heap.size + 1) (by rfl) 24 (cells8 b) (0, 0) _ Hb.out rfl (by kernel_rfl) (by rw [hzb]; kernel_rfl) ?_)
    | fail)
  refine (less_call0 a b _ _ HAL.out HBL.out HX.out).mono ?_
  rintro e w2 ⟨rfl, hb2⟩
  have HB2 : Aside0 (Below W0.heap.size W0 w2) := ⟨below_step HB1.out hb2⟩
  have Ha : Aside0 (w2.heap[w.heap.size]? = some (.cells (cells8 a) 24 (0, 0))) := ⟨Blk8.below (w := W0) H0a.out HB2.out (Blk8.lt H0a.out)⟩
  have Hb : Aside0 (w2.heap[w.heap.size + 1]? = some (.cells (cells8 b) 24 (0, 0))) := ⟨Blk8.below (w := W0) H0b.out HB2.out (Blk8.lt H0b.out)⟩
  have Hc : Aside0 (w2.heap[w.heap.size + 2]? = some (.cells (cells8 c) 24 (0, 0))) := ⟨Blk8.below (w := W0) H0c.out HB2.out (Blk8.lt H0c.out)⟩
  clear hb2
  go_wp2_with (first
    | ((with_reducible refine gate_dst (N := 15) rfl ?_); refine wpList_load_row_g (by rfl) 24 (.tmp 4) rfl (w.heap.size + 1) (by rfl) 24 (cells8 b) (0, 0) _ Hb.out rfl (by kernel_rfl) (by rw [hzb]; kernel_rfl) ?_)
    | ((with_reducible refine gate_dst (N := 16) rfl ?_); refine wpList_load_row_g (by rfl) 24 (.tmp 3) rfl w.heap.size (by rfl) 24 (cells8 a) (0, 0) _ Ha.out rfl (by kernel_rfl) (by rw [hza]; kernel_rfl) ?_)
    | fail)
  refine (less_call0 b a _ _ HBL.out HAL.out HY.out).mono ?_
  rintro e w3 ⟨rfl, hb3⟩
  have HB3 : Aside0 (Below W0.heap.size W0 w3) := ⟨below_step HB2.out hb3⟩
  have Ha : Aside0 (w3.heap[w.heap.size]? = some (.cells (cells8 a) 24 (0, 0))) := ⟨Blk8.below (w := W0) H0a.out HB3.out (Blk8.lt H0a.out)⟩
  have Hb : Aside0 (w3.heap[w.heap.size + 1]? = some (.cells (cells8 b) 24 (0, 0))) := ⟨Blk8.below (w := W0) H0b.out HB3.out (Blk8.lt H0b.out)⟩
  have Hc : Aside0 (w3.heap[w.heap.size + 2]? = some (.cells (cells8 c) 24 (0, 0))) := ⟨Blk8.below (w := W0) H0c.out HB3.out (Blk8.lt H0c.out)⟩
  clear hb3
  go_wp2_with (first
    | ((with_reducible refine gate_dst (N := 18) rfl ?_); refine wpList_load_row_g (by rfl) 24 (.tmp 4) rfl (w.heap.size + 1) (by rfl) 24 (cells8 b) (0, 0) _ Hb.out rfl (by kernel_rfl) (by rw [hzb]; kernel_rfl) ?_)
    | ((with_reducible refine gate_dst (N := 19) rfl ?_); refine wpList_load_row_g (by rfl) 24 (.tmp 5) rfl (w.heap.size + 2) (by rfl) 24 (cells8 c) (0, 0) _ Hc.out rfl (by kernel_rfl) (by rw [hzc]; kernel_rfl) ?_)
    | fail)
  refine (less_call0 b c _ _ HBL.out HCL.out HZ.out).mono ?_
  rintro e w4 ⟨rfl, hb4⟩
  have HB4 : Aside0 (Below W0.heap.size W0 w4) := ⟨below_step HB3.out hb4⟩
  have Ha : Aside0 (w4.heap[w.heap.size]? = some (.cells (cells8 a) 24 (0, 0))) := ⟨Blk8.below (w := W0) H0a.out HB4.out (Blk8.lt H0a.out)⟩
  have Hb : Aside0 (w4.heap[w.heap.size + 1]? = some (.cells (cells8 b) 24 (0, 0))) := ⟨Blk8.below (w := W0) H0b.out HB4.out (Blk8.lt H0b.out)⟩
  have Hc : Aside0 (w4.heap[w.heap.size + 2]? = some (.cells (cells8 c) 24 (0, 0))) := ⟨Blk8.below (w := W0) H0c.out HB4.out (Blk8.lt H0c.out)⟩
  clear hb4
  go_wp2_with (first
    | ((with_reducible refine gate_dst (N := 34) rfl ?_); refine wpList_load_row_g (by rfl) 24 (.tmp 3) rfl w.heap.size (by rfl) 24 (cells8 a) (0, 0) _ Ha.out rfl (by kernel_rfl) (by rw [hza]; kernel_rfl) ?_)
    | ((with_reducible refine gate_dst (N := 35) rfl ?_); refine wpList_load_row_g (by rfl) 24 (.tmp 4) rfl (w.heap.size + 1) (by rfl) 24 (cells8 b) (0, 0) _ Hb.out rfl (by kernel_rfl) (by rw [hzb]; kernel_rfl) ?_)
    | ((with_reducible refine gate_dst (N := 47) rfl ?_); refine wpList_load_row_g (by rfl) 24 (.tmp 3) rfl w.heap.size (by rfl) 24 (cells8 a) (0, 0) _ Ha.out rfl (by kernel_rfl) (by rw [hza]; kernel_rfl) ?_)
    | ((with_reducible refine gate_dst (N := 48) rfl ?_); refine wpList_load_row_g (by rfl) 24 (.tmp 5) rfl (w.heap.size + 2) (by rfl) 24 (cells8 c) (0, 0) _ Hc.out rfl (by kernel_rfl) (by rw [hzc]; kernel_rfl) ?_)
    | ((with_reducible refine gate_dst (N := 53) rfl ?_); refine wpList_load_row_g (by rfl) 24 (.tmp 3) rfl w.heap.size (by rfl) 24 (cells8 a) (0, 0) _ Ha.out rfl (by kernel_rfl) (by rw [hza]; kernel_rfl) ?_)
    | ((with_reducible refine gate_dst (N := 54) rfl ?_); refine wpList_load_row_g (by rfl) 24 (.tmp 3) rfl w.heap.size (by rfl) 24 (cells8 a) (0, 0) _ Ha.out rfl (by kernel_rfl) (by rw [hza]; kernel_rfl) ?_)
    | fail)
  refine (less_call0 a a _ _ HAL.out HAL.out (less_self a)).mono ?_
  rintro e w5 ⟨rfl, hb5⟩
  go_wp2_with fail
  go_ret
  exact ⟨rfl, below_step HBZ.out (below_step HB4.out hb5)⟩

set_option maxHeartbeats 4000000 in
set_option maxRecDepth 100000 in
theorem order_011 (a b c : List Int) (w : World) (hal : a.length = 32) (hbl : b.length = 32) (hcl : c.length = 32) (hx : lessL a b = false) (hy : lessL b a = true) (hz : lessL b c = true) (hv : True) (hab : (a == b) = false) :
    Calls Try.prog 5 #[.agg (cells8 a), .agg (cells8 b), .agg (cells8 c)] w fun e w' => e = .returned (.bool true) ∧ Below w.heap.size w w' := by
  have HX := Aside0.mk hx
  have HY := Aside0.mk hy
  have HZ := Aside0.mk hz
  have HV := Aside0.mk hv
  have HAL := Aside0.mk hal
  have HBL := Aside0.mk hbl
  have HCL := Aside0.mk hcl
  have g24 := guard24
  have hza : (cells8 a).size = 32 := by rw [cells8_size, hal]
  have hzb : (cells8 b).size = 32 := by rw [cells8_size, hbl]
  have hzc : (cells8 c).size = 32 := by rw [cells8_size, hcl]
  have heq : ∀ W : World, (Op.equalIn 10000 24 (.agg (cells8 a)) (.agg (cells8 b))).run Try.prog W = .ok false W := fun W => by rw [equal8 (w := W) Try.underlying24 Try.info5i Try.underlying5 cells5 a b hal hbl, hab]
  clear hx hy hz hv hal hbl hcl hab
  go_enter Try.func5, Try.ntmps5
  go_wp2_with fail
  obtain ⟨W0, hW0⟩ : ∃ W0 : World, W0 = ((w.alloc (.cells (cells8 a) 24 (0, 0))).alloc (.cells (cells8 b) 24 (0, 0))).alloc (.cells (cells8 c) 24 (0, 0)) := ⟨_, rfl⟩
  have HB0 : Aside0 (Below w.heap.size w W0) := ⟨by rw [hW0]; exact below_alloc (below_alloc (below_alloc (Below.refl _ _) _) _) _⟩
  have H0a : Aside0 (Blk8 W0 w.heap.size 24 a) := ⟨by rw [hW0]; exact (Below.heap_alloc _ _ _ (by first | (simp; done) | (simp; omega))).trans (heap_alloc2_old w _ _)⟩
  have H0b : Aside0 (Blk8 W0 (w.heap.size + 1) 24 b) := ⟨by rw [hW0]; exact (Below.heap_alloc _ _ _ (by first | (simp; done) | (simp; omega))).trans (heap_alloc2_new w _ _)⟩
  have H0c : Aside0 (Blk8 W0 (w.heap.size + 2) 24 c) := ⟨by rw [hW0]; have h_ := heap_alloc2_new (w.alloc (.cells (cells8 a) 24 (0, 0))) (.cells (cells8 b) 24 (0, 0)) (.cells (cells8 c) 24 (0, 0)); rw [show (w.alloc (.cells (cells8 a) 24 (0, 0))).heap.size + 1 = w.heap.size + 2 from by simp] at h_; exact h_⟩
  have HBZ := HB0
  replace HB0 : Aside0 (Below W0.heap.size W0 W0) := ⟨Below.refl _ _⟩
  rw [← hW0]
  clear hW0
  refine (awake_call _).mono ?_
  rintro e w1 ⟨rfl, hb1⟩
  have HB1 : Aside0 (Below W0.heap.size W0 w1) := ⟨below_step HB0.out hb1⟩
  have Ha : Aside0 (w1.heap[w.heap.size]? = some (.cells (cells8 a) 24 (0, 0))) := ⟨Blk8.below (w := W0) H0a.out HB1.out (Blk8.lt H0a.out)⟩
  have Hb : Aside0 (w1.heap[w.heap.size + 1]? = some (.cells (cells8 b) 24 (0, 0))) := ⟨Blk8.below (w := W0) H0b.out HB1.out (Blk8.lt H0b.out)⟩
  have Hc : Aside0 (w1.heap[w.heap.size + 2]? = some (.cells (cells8 c) 24 (0, 0))) := ⟨Blk8.below (w := W0) H0c.out HB1.out (Blk8.lt H0c.out)⟩
  clear hb1
  go_wp2_with (first
    | ((with_reducible refine gate_dst (N := 12) rfl ?_); refine wpList_load_row_g (by rfl) 24 (.tmp 3) rfl w.heap.size (by rfl) 24 (cells8 a) (0, 0) _ Ha.out rfl (by kernel_rfl) (by rw [hza]; kernel_rfl) ?_)
    | ((with_reducible refine gate_dst (N := 13) rfl ?_); refine wpList_load_row_g (by rfl) 24 (.tmp 4) rfl (w.heap.size + 1) (by rfl) 24 (cells8 b) (0, 0) _ Hb.out rfl (by kernel_rfl) (by rw [hzb]; kernel_rfl) ?_)
    | fail)
  refine (less_call0 a b _ _ HAL.out HBL.out HX.out).mono ?_
  rintro e w2 ⟨rfl, hb2⟩
  have HB2 : Aside0 (Below W0.heap.size W0 w2) := ⟨below_step HB1.out hb2⟩
  have Ha : Aside0 (w2.heap[w.heap.size]? = some (.cells (cells8 a) 24 (0, 0))) := ⟨Blk8.below (w := W0) H0a.out HB2.out (Blk8.lt H0a.out)⟩
  have Hb : Aside0 (w2.heap[w.heap.size + 1]? = some (.cells (cells8 b) 24 (0, 0))) := ⟨Blk8.below (w := W0) H0b.out HB2.out (Blk8.lt H0b.out)⟩
  have Hc : Aside0 (w2.heap[w.heap.size + 2]? = some (.cells (cells8 c) 24 (0, 0))) := ⟨Blk8.below (w := W0) H0c.out HB2.out (Blk8.lt H0c.out)⟩
  clear hb2
  go_wp2_with (first
    | ((with_reducible refine gate_dst (N := 15) rfl ?_); refine wpList_load_row_g (by rfl) 24 (.tmp 4) rfl (w.heap.size + 1) (by rfl) 24 (cells8 b) (0, 0) _ Hb.out rfl (by kernel_rfl) (by rw [hzb]; kernel_rfl) ?_)
    | ((with_reducible refine gate_dst (N := 16) rfl ?_); refine wpList_load_row_g (by rfl) 24 (.tmp 3) rfl w.heap.size (by rfl) 24 (cells8 a) (0, 0) _ Ha.out rfl (by kernel_rfl) (by rw [hza]; kernel_rfl) ?_)
    | fail)
  refine (less_call0 b a _ _ HBL.out HAL.out HY.out).mono ?_
  rintro e w3 ⟨rfl, hb3⟩
  have HB3 : Aside0 (Below W0.heap.size W0 w3) := ⟨below_step HB2.out hb3⟩
  have Ha : Aside0 (w3.heap[w.heap.size]? = some (.cells (cells8 a) 24 (0, 0))) := ⟨Blk8.below (w := W0) H0a.out HB3.out (Blk8.lt H0a.out)⟩
  have Hb : Aside0 (w3.heap[w.heap.size + 1]? = some (.cells (cells8 b) 24 (0, 0))) := ⟨Blk8.below (w := W0) H0b.out HB3.out (Blk8.lt H0b.out)⟩
  have Hc : Aside0 (w3.heap[w.heap.size + 2]? = some (.cells (cells8 c) 24 (0, 0))) := ⟨Blk8.below (w := W0) H0c.out HB3.out (Blk8.lt H0c.out)⟩
  clear hb3
  go_wp2_with (first
    | ((with_reducible refine gate_dst (N := 18) rfl ?_); refine wpList_load_row_g (by rfl) 24 (.tmp 4) rfl (w.heap.size + 1) (by rfl) 24 (cells8 b) (0, 0) _ Hb.out rfl (by kernel_rfl) (by rw [hzb]; kernel_rfl) ?_)
    | ((with_reducible refine gate_dst (N := 19) rfl ?_); refine wpList_load_row_g (by rfl) 24 (.tmp 5) rfl (w.heap.size + 2) (by rfl) 24 (cells8 c) (0, 0) _ Hc.out rfl (by kernel_rfl) (by rw [hzc]; kernel_rfl) ?_)
    | fail)
  refine (less_call0 b c _ _ HBL.out HCL.out HZ.out).mono ?_
  rintro e w4 ⟨rfl, hb4⟩
  have HB4 : Aside0 (Below W0.heap.size W0 w4) := ⟨below_step HB3.out hb4⟩
  have Ha : Aside0 (w4.heap[w.heap.size]? = some (.cells (cells8 a) 24 (0, 0))) := ⟨Blk8.below (w := W0) H0a.out HB4.out (Blk8.lt H0a.out)⟩
  have Hb : Aside0 (w4.heap[w.heap.size + 1]? = some (.cells (cells8 b) 24 (0, 0))) := ⟨Blk8.below (w := W0) H0b.out HB4.out (Blk8.lt H0b.out)⟩
  have Hc : Aside0 (w4.heap[w.heap.size + 2]? = some (.cells (cells8 c) 24 (0, 0))) := ⟨Blk8.below (w := W0) H0c.out HB4.out (Blk8.lt H0c.out)⟩
  clear hb4
  go_wp2_with (first
    | ((with_reducible refine gate_dst (N := 34) rfl ?_); refine wpList_load_row_g (by rfl) 24 (.tmp 3) rfl w.heap.size (by rfl) 24 (cells8 a) (0, 0) _ Ha.out rfl (by kernel_rfl) (by rw [hza]; kernel_rfl) ?_)
    | ((with_reducible refine gate_dst (N := 35) rfl ?_); refine wpList_load_row_g (by rfl) 24 (.tmp 4) rfl (w.heap.size + 1) (by rfl) 24 (cells8 b) (0, 0) _ Hb.out rfl (by kernel_rfl) (by rw [hzb]; kernel_rfl) ?_)
    | ((with_reducible refine gate_dst (N := 47) rfl ?_); refine wpList_load_row_g (by rfl) 24 (.tmp 3) rfl w.heap.size (by rfl) 24 (cells8 a) (0, 0) _ Ha.out rfl (by kernel_rfl) (by rw [hza]; kernel_rfl) ?_)
    | ((with_reducible refine gate_dst (N := 48) rfl ?_); refine wpList_load_row_g (by rfl) 24 (.tmp 5) rfl (w.heap.size + 2) (by rfl) 24 (cells8 c) (0, 0) _ Hc.out rfl (by kernel_rfl) (by rw [hzc]; kernel_rfl) ?_)
    | ((with_reducible refine gate_dst (N := 53) rfl ?_); refine wpList_load_row_g (by rfl) 24 (.tmp 3) rfl w.heap.size (by rfl) 24 (cells8 a) (0, 0) _ Ha.out rfl (by kernel_rfl) (by rw [hza]; kernel_rfl) ?_)
    | ((with_reducible refine gate_dst (N := 54) rfl ?_); refine wpList_load_row_g (by rfl) 24 (.tmp 3) rfl w.heap.size (by rfl) 24 (cells8 a) (0, 0) _ Ha.out rfl (by kernel_rfl) (by rw [hza]; kernel_rfl) ?_)
    | fail)
  refine (less_call0 a a _ _ HAL.out HAL.out (less_self a)).mono ?_
  rintro e w5 ⟨rfl, hb5⟩
  go_wp2_with fail
  go_ret
  exact ⟨rfl, below_step HBZ.out (below_step HB4.out hb5)⟩

set_option maxHeartbeats 4000000 in
set_option maxRecDepth 100000 in
theorem order_010 (a b c : List Int) (w : World) (hal : a.length = 32) (hbl : b.length = 32) (hcl : c.length = 32) (hx : lessL a b = false) (hy : lessL b a = true) (hz : lessL b c = false) (hv : True) (hab : (a == b) = false) :
    Calls Try.prog 5 #[.agg (cells8 a), .agg (cells8 b), .agg (cells8 c)] w fun e w' => e = .returned (.bool true) ∧ Below w.heap.size w w' := by
  have HX := Aside0.mk hx
  have HY := Aside0.mk hy
  have HZ := Aside0.mk hz
  have HV := Aside0.mk hv
  have HAL := Aside0.mk hal
  have HBL := Aside0.mk hbl
  have HCL := Aside0.mk hcl
  have g24 := guard24
  have hza : (cells8 a).size = 32 := by rw [cells8_size, hal]
  have hzb : (cells8 b).size = 32 := by rw [cells8_size, hbl]
  have hzc : (cells8 c).size = 32 := by rw [cells8_size, hcl]
  have heq : ∀ W : World, (Op.equalIn 10000 24 (.agg (cells8 a)) (.agg (cells8 b))).run Try.prog W = .ok false W := fun W => by rw [equal8 (w := W) Try.underlying24 Try.info5i Try.underlying5 cells5 a b hal hbl, hab]
  clear hx hy hz hv hal hbl hcl hab
  go_enter Try.func5, Try.ntmps5
  go_wp2_with fail
  obtain ⟨W0, hW0⟩ : ∃ W0 : World, W0 = ((w.alloc (.cells (cells8 a) 24 (0, 0))).alloc (.cells (cells8 b) 24 (0, 0))).alloc (.cells (cells8 c) 24 (0, 0)) := ⟨_, rfl⟩
  have HB0 : Aside0 (Below w.heap.size w W0) := ⟨by rw [hW0]; exact below_alloc (below_alloc (below_alloc (Below.refl _ _) _) _) _⟩
  have H0a : Aside0 (Blk8 W0 w.heap.size 24 a) := ⟨by rw [hW0]; exact (Below.heap_alloc _ _ _ (by first | (simp; done) | (simp; omega))).trans (heap_alloc2_old w _ _)⟩
  have H0b : Aside0 (Blk8 W0 (w.heap.size + 1) 24 b) := ⟨by rw [hW0]; exact (Below.heap_alloc _ _ _ (by first | (simp; done) | (simp; omega))).trans (heap_alloc2_new w _ _)⟩
  have H0c : Aside0 (Blk8 W0 (w.heap.size + 2) 24 c) := ⟨by rw [hW0]; have h_ := heap_alloc2_new (w.alloc (.cells (cells8 a) 24 (0, 0))) (.cells (cells8 b) 24 (0, 0)) (.cells (cells8 c) 24 (0, 0)); rw [show (w.alloc (.cells (cells8 a) 24 (0, 0))).heap.size + 1 = w.heap.size + 2 from by simp] at h_; exact h_⟩
  have HBZ := HB0
  replace HB0 : Aside0 (Below W0.heap.size W0 W0) := ⟨Below.refl _ _⟩
  rw [← hW0]
  clear hW0
  refine (awake_call _).mono ?_
  rintro e w1 ⟨rfl, hb1⟩
  have HB1 : Aside0 (Below W0.heap.size W0 w1) := ⟨below_step HB0.out hb1⟩
  have Ha : Aside0 (w1.heap[w.heap.size]? = some (.cells (cells8 a) 24 (0, 0))) := ⟨Blk8.below (w := W0) H0a.out HB1.out (Blk8.lt H0a.out)⟩
  have Hb : Aside0 (w1.heap[w.heap.size + 1]? = some (.cells (cells8 b) 24 (0, 0))) := ⟨Blk8.below (w := W0) H0b.out HB1.out (Blk8.lt H0b.out)⟩
  have Hc : Aside0 (w1.heap[w.heap.size + 2]? = some (.cells (cells8 c) 24 (0, 0))) := ⟨Blk8.below (w := W0) H0c.out HB1.out (Blk8.lt H0c.out)⟩
  clear hb1
  go_wp2_with (first
    | ((with_reducible refine gate_dst (N := 12) rfl ?_); refine wpList_load_row_g (by rfl) 24 (.tmp 3) rfl w.heap.size (by rfl) 24 (cells8 a) (0, 0) _ Ha.out rfl (by kernel_rfl) (by rw [hza]; kernel_rfl) ?_)
    | ((with_reducible refine gate_dst (N := 13) rfl ?_); refine wpList_load_row_g (by rfl) 24 (.tmp 4) rfl (w.heap.size + 1) (by rfl) 24 (cells8 b) (0, 0) _ Hb.out rfl (by kernel_rfl) (by rw [hzb]; kernel_rfl) ?_)
    | fail)
  refine (less_call0 a b _ _ HAL.out HBL.out HX.out).mono ?_
  rintro e w2 ⟨rfl, hb2⟩
  have HB2 : Aside0 (Below W0.heap.size W0 w2) := ⟨below_step HB1.out hb2⟩
  have Ha : Aside0 (w2.heap[w.heap.size]? = some (.cells (cells8 a) 24 (0, 0))) := ⟨Blk8.below (w := W0) H0a.out HB2.out (Blk8.lt H0a.out)⟩
  have Hb : Aside0 (w2.heap[w.heap.size + 1]? = some (.cells (cells8 b) 24 (0, 0))) := ⟨Blk8.below (w := W0) H0b.out HB2.out (Blk8.lt H0b.out)⟩
  have Hc : Aside0 (w2.heap[w.heap.size + 2]? = some (.cells (cells8 c) 24 (0, 0))) := ⟨Blk8.below (w := W0) H0c.out HB2.out (Blk8.lt H0c.out)⟩
  clear hb2
  go_wp2_with (first
    | ((with_reducible refine gate_dst (N := 15) rfl ?_); refine wpList_load_row_g (by rfl) 24 (.tmp 4) rfl (w.heap.size + 1) (by rfl) 24 (cells8 b) (0, 0) _ Hb.out rfl (by kernel_rfl) (by rw [hzb]; kernel_rfl) ?_)
    | ((with_reducible refine gate_dst (N := 16) rfl ?_); refine wpList_load_row_g (by rfl) 24 (.tmp 3) rfl w.heap.size (by rfl) 24 (cells8 a) (0, 0) _ Ha.out rfl (by kernel_rfl) (by rw [hza]; kernel_rfl) ?_)
    | fail)
  refine (less_call0 b a _ _ HBL.out HAL.out HY.out).mono ?_
  rintro e w3 ⟨rfl, hb3⟩
  have HB3 : Aside0 (Below W0.heap.size W0 w3) := ⟨below_step HB2.out hb3⟩
  have Ha : Aside0 (w3.heap[w.heap.size]? = some (.cells (cells8 a) 24 (0, 0))) := ⟨Blk8.below (w := W0) H0a.out HB3.out (Blk8.lt H0a.out)⟩
  have Hb : Aside0 (w3.heap[w.heap.size + 1]? = some (.cells (cells8 b) 24 (0, 0))) := ⟨Blk8.below (w := W0) H0b.out HB3.out (Blk8.lt H0b.out)⟩
  have Hc : Aside0 (w3.heap[w.heap.size + 2]? = some (.cells (cells8 c) 24 (0, 0))) := ⟨Blk8.below (w := W0) H0c.out HB3.out (Blk8.lt H0c.out)⟩
  clear hb3
  go_wp2_with (first
    | ((with_reducible refine gate_dst (N := 18) rfl ?_); refine wpList_load_row_g (by rfl) 24 (.tmp 4) rfl (w.heap.size + 1) (by rfl) 24 (cells8 b) (0, 0) _ Hb.out rfl (by kernel_rfl) (by rw [hzb]; kernel_rfl) ?_)
    | ((with_reducible refine gate_dst (N := 19) rfl ?_); refine wpList_load_row_g (by rfl) 24 (.tmp 5) rfl (w.heap.size + 2) (by rfl) 24 (cells8 c) (0, 0) _ Hc.out rfl (by kernel_rfl) (by rw [hzc]; kernel_rfl) ?_)
    | fail)
  refine (less_call0 b c _ _ HBL.out HCL.out HZ.out).mono ?_
  rintro e w4 ⟨rfl, hb4⟩
  have HB4 : Aside0 (Below W0.heap.size W0 w4) := ⟨below_step HB3.out hb4⟩
  have Ha : Aside0 (w4.heap[w.heap.size]? = some (.cells (cells8 a) 24 (0, 0))) := ⟨Blk8.below (w := W0) H0a.out HB4.out (Blk8.lt H0a.out)⟩
  have Hb : Aside0 (w4.heap[w.heap.size + 1]? = some (.cells (cells8 b) 24 (0, 0))) := ⟨Blk8.below (w := W0) H0b.out HB4.out (Blk8.lt H0b.out)⟩
  have Hc : Aside0 (w4.heap[w.heap.size + 2]? = some (.cells (cells8 c) 24 (0, 0))) := ⟨Blk8.below (w := W0) H0c.out HB4.out (Blk8.lt H0c.out)⟩
  clear hb4
  go_wp2_with (first
    | ((with_reducible refine gate_dst (N := 34) rfl ?_); refine wpList_load_row_g (by rfl) 24 (.tmp 3) rfl w.heap.size (by rfl) 24 (cells8 a) (0, 0) _ Ha.out rfl (by kernel_rfl) (by rw [hza]; kernel_rfl) ?_)
    | ((with_reducible refine gate_dst (N := 35) rfl ?_); refine wpList_load_row_g (by rfl) 24 (.tmp 4) rfl (w.heap.size + 1) (by rfl) 24 (cells8 b) (0, 0) _ Hb.out rfl (by kernel_rfl) (by rw [hzb]; kernel_rfl) ?_)
    | ((with_reducible refine gate_dst (N := 47) rfl ?_); refine wpList_load_row_g (by rfl) 24 (.tmp 3) rfl w.heap.size (by rfl) 24 (cells8 a) (0, 0) _ Ha.out rfl (by kernel_rfl) (by rw [hza]; kernel_rfl) ?_)
    | ((with_reducible refine gate_dst (N := 48) rfl ?_); refine wpList_load_row_g (by rfl) 24 (.tmp 5) rfl (w.heap.size + 2) (by rfl) 24 (cells8 c) (0, 0) _ Hc.out rfl (by kernel_rfl) (by rw [hzc]; kernel_rfl) ?_)
    | ((with_reducible refine gate_dst (N := 53) rfl ?_); refine wpList_load_row_g (by rfl) 24 (.tmp 3) rfl w.heap.size (by rfl) 24 (cells8 a) (0, 0) _ Ha.out rfl (by kernel_rfl) (by rw [hza]; kernel_rfl) ?_)
    | ((with_reducible refine gate_dst (N := 54) rfl ?_); refine wpList_load_row_g (by rfl) 24 (.tmp 3) rfl w.heap.size (by rfl) 24 (cells8 a) (0, 0) _ Ha.out rfl (by kernel_rfl) (by rw [hza]; kernel_rfl) ?_)
    | fail)
  refine (less_call0 a a _ _ HAL.out HAL.out (less_self a)).mono ?_
  rintro e w5 ⟨rfl, hb5⟩
  go_wp2_with fail
  go_ret
  exact ⟨rfl, below_step HBZ.out (below_step HB4.out hb5)⟩

set_option maxHeartbeats 4000000 in
set_option maxRecDepth 100000 in
theorem order_001 (a b c : List Int) (w : World) (hal : a.length = 32) (hbl : b.length = 32) (hcl : c.length = 32) (hx : lessL a b = false) (hy : lessL b a = false) (hz : lessL b c = true) (hv : True) (hab : (a == b) = true) :
    Calls Try.prog 5 #[.agg (cells8 a), .agg (cells8 b), .agg (cells8 c)] w fun e w' => e = .returned (.bool true) ∧ Below w.heap.size w w' := by
  have HX := Aside0.mk hx
  have HY := Aside0.mk hy
  have HZ := Aside0.mk hz
  have HV := Aside0.mk hv
  have HAL := Aside0.mk hal
  have HBL := Aside0.mk hbl
  have HCL := Aside0.mk hcl
  have g24 := guard24
  have hza : (cells8 a).size = 32 := by rw [cells8_size, hal]
  have hzb : (cells8 b).size = 32 := by rw [cells8_size, hbl]
  have hzc : (cells8 c).size = 32 := by rw [cells8_size, hcl]
  have heq : ∀ W : World, (Op.equalIn 10000 24 (.agg (cells8 a)) (.agg (cells8 b))).run Try.prog W = .ok true W := fun W => by rw [equal8 (w := W) Try.underlying24 Try.info5i Try.underlying5 cells5 a b hal hbl, hab]
  clear hx hy hz hv hal hbl hcl hab
  go_enter Try.func5, Try.ntmps5
  go_wp2_with fail
  obtain ⟨W0, hW0⟩ : ∃ W0 : World, W0 = ((w.alloc (.cells (cells8 a) 24 (0, 0))).alloc (.cells (cells8 b) 24 (0, 0))).alloc (.cells (cells8 c) 24 (0, 0)) := ⟨_, rfl⟩
  have HB0 : Aside0 (Below w.heap.size w W0) := ⟨by rw [hW0]; exact below_alloc (below_alloc (below_alloc (Below.refl _ _) _) _) _⟩
  have H0a : Aside0 (Blk8 W0 w.heap.size 24 a) := ⟨by rw [hW0]; exact (Below.heap_alloc _ _ _ (by first | (simp; done) | (simp; omega))).trans (heap_alloc2_old w _ _)⟩
  have H0b : Aside0 (Blk8 W0 (w.heap.size + 1) 24 b) := ⟨by rw [hW0]; exact (Below.heap_alloc _ _ _ (by first | (simp; done) | (simp; omega))).trans (heap_alloc2_new w _ _)⟩
  have H0c : Aside0 (Blk8 W0 (w.heap.size + 2) 24 c) := ⟨by rw [hW0]; have h_ := heap_alloc2_new (w.alloc (.cells (cells8 a) 24 (0, 0))) (.cells (cells8 b) 24 (0, 0)) (.cells (cells8 c) 24 (0, 0)); rw [show (w.alloc (.cells (cells8 a) 24 (0, 0))).heap.size + 1 = w.heap.size + 2 from by simp] at h_; exact h_⟩
  have HBZ := HB0
  replace HB0 : Aside0 (Below W0.heap.size W0 W0) := ⟨Below.refl _ _⟩
  rw [← hW0]
  clear hW0
  refine (awake_call _).mono ?_
  rintro e w1 ⟨rfl, hb1⟩
  have HB1 : Aside0 (Below W0.heap.size W0 w1) := ⟨below_step HB0.out hb1⟩
  have Ha : Aside0 (w1.heap[w.heap.size]? = some (.cells (cells8 a) 24 (0, 0))) := ⟨Blk8.below (w := W0) H0a.out HB1.out (Blk8.lt H0a.out)⟩
  have Hb : Aside0 (w1.heap[w.heap.size + 1]? = some (.cells (cells8 b) 24 (0, 0))) := ⟨Blk8.below (w := W0) H0b.out HB1.out (Blk8.lt H0b.out)⟩
  have Hc : Aside0 (w1.heap[w.heap.size + 2]? = some (.cells (cells8 c) 24 (0, 0))) := ⟨Blk8.below (w := W0) H0c.out HB1.out (Blk8.lt H0c.out)⟩
  clear hb1
  go_wp2_with (first
    | ((with_reducible refine gate_dst (N := 12) rfl ?_); refine wpList_load_row_g (by rfl) 24 (.tmp 3) rfl w.heap.size (by rfl) 24 (cells8 a) (0, 0) _ Ha.out rfl (by kernel_rfl) (by rw [hza]; kernel_rfl) ?_)
    | ((with_reducible refine gate_dst (N := 13) rfl ?_); refine wpList_load_row_g (by rfl) 24 (.tmp 4) rfl (w.heap.size + 1) (by rfl) 24 (cells8 b) (0, 0) _ Hb.out rfl (by kernel_rfl) (by rw [hzb]; kernel_rfl) ?_)
    | fail)
  refine (less_call0 a b _ _ HAL.out HBL.out HX.out).mono ?_
  rintro e w2 ⟨rfl, hb2⟩
  have HB2 : Aside0 (Below W0.heap.size W0 w2) := ⟨below_step HB1.out hb2⟩
  have Ha : Aside0 (w2.heap[w.heap.size]? = some (.cells (cells8 a) 24 (0, 0))) := ⟨Blk8.below (w := W0) H0a.out HB2.out (Blk8.lt H0a.out)⟩
  have Hb : Aside0 (w2.heap[w.heap.size + 1]? = some (.cells (cells8 b) 24 (0, 0))) := ⟨Blk8.below (w := W0) H0b.out HB2.out (Blk8.lt H0b.out)⟩
  have Hc : Aside0 (w2.heap[w.heap.size + 2]? = some (.cells (cells8 c) 24 (0, 0))) := ⟨Blk8.below (w := W0) H0c.out HB2.out (Blk8.lt H0c.out)⟩
  clear hb2
  go_wp2_with (first
    | ((with_reducible refine gate_dst (N := 15) rfl ?_); refine wpList_load_row_g (by rfl) 24 (.tmp 4) rfl (w.heap.size + 1) (by rfl) 24 (cells8 b) (0, 0) _ Hb.out rfl (by kernel_rfl) (by rw [hzb]; kernel_rfl) ?_)
    | ((with_reducible refine gate_dst (N := 16) rfl ?_); refine wpList_load_row_g (by rfl) 24 (.tmp 3) rfl w.heap.size (by rfl) 24 (cells8 a) (0, 0) _ Ha.out rfl (by kernel_rfl) (by rw [hza]; kernel_rfl) ?_)
    | fail)
  refine (less_call0 b a _ _ HBL.out HAL.out HY.out).mono ?_
  rintro e w3 ⟨rfl, hb3⟩
  have HB3 : Aside0 (Below W0.heap.size W0 w3) := ⟨below_step HB2.out hb3⟩
  have Ha : Aside0 (w3.heap[w.heap.size]? = some (.cells (cells8 a) 24 (0, 0))) := ⟨Blk8.below (w := W0) H0a.out HB3.out (Blk8.lt H0a.out)⟩
  have Hb : Aside0 (w3.heap[w.heap.size + 1]? = some (.cells (cells8 b) 24 (0, 0))) := ⟨Blk8.below (w := W0) H0b.out HB3.out (Blk8.lt H0b.out)⟩
  have Hc : Aside0 (w3.heap[w.heap.size + 2]? = some (.cells (cells8 c) 24 (0, 0))) := ⟨Blk8.below (w := W0) H0c.out HB3.out (Blk8.lt H0c.out)⟩
  clear hb3
  go_wp2_with (first
    | ((with_reducible refine gate_dst (N := 18) rfl ?_); refine wpList_load_row_g (by rfl) 24 (.tmp 4) rfl (w.heap.size + 1) (by rfl) 24 (cells8 b) (0, 0) _ Hb.out rfl (by kernel_rfl) (by rw [hzb]; kernel_rfl) ?_)
    | ((with_reducible refine gate_dst (N := 19) rfl ?_); refine wpList_load_row_g (by rfl) 24 (.tmp 5) rfl (w.heap.size + 2) (by rfl) 24 (cells8 c) (0, 0) _ Hc.out rfl (by kernel_rfl) (by rw [hzc]; kernel_rfl) ?_)
    | fail)
  refine (less_call0 b c _ _ HBL.out HCL.out HZ.out).mono ?_
  rintro e w4 ⟨rfl, hb4⟩
  have HB4 : Aside0 (Below W0.heap.size W0 w4) := ⟨below_step HB3.out hb4⟩
  have Ha : Aside0 (w4.heap[w.heap.size]? = some (.cells (cells8 a) 24 (0, 0))) := ⟨Blk8.below (w := W0) H0a.out HB4.out (Blk8.lt H0a.out)⟩
  have Hb : Aside0 (w4.heap[w.heap.size + 1]? = some (.cells (cells8 b) 24 (0, 0))) := ⟨Blk8.below (w := W0) H0b.out HB4.out (Blk8.lt H0b.out)⟩
  have Hc : Aside0 (w4.heap[w.heap.size + 2]? = some (.cells (cells8 c) 24 (0, 0))) := ⟨Blk8.below (w := W0) H0c.out HB4.out (Blk8.lt H0c.out)⟩
  clear hb4
  go_wp2_with (first
    | ((with_reducible refine gate_dst (N := 34) rfl ?_); refine wpList_load_row_g (by rfl) 24 (.tmp 3) rfl w.heap.size (by rfl) 24 (cells8 a) (0, 0) _ Ha.out rfl (by kernel_rfl) (by rw [hza]; kernel_rfl) ?_)
    | ((with_reducible refine gate_dst (N := 35) rfl ?_); refine wpList_load_row_g (by rfl) 24 (.tmp 4) rfl (w.heap.size + 1) (by rfl) 24 (cells8 b) (0, 0) _ Hb.out rfl (by kernel_rfl) (by rw [hzb]; kernel_rfl) ?_)
    | ((with_reducible refine gate_dst (N := 47) rfl ?_); refine wpList_load_row_g (by rfl) 24 (.tmp 3) rfl w.heap.size (by rfl) 24 (cells8 a) (0, 0) _ Ha.out rfl (by kernel_rfl) (by rw [hza]; kernel_rfl) ?_)
    | ((with_reducible refine gate_dst (N := 48) rfl ?_); refine wpList_load_row_g (by rfl) 24 (.tmp 5) rfl (w.heap.size + 2) (by rfl) 24 (cells8 c) (0, 0) _ Hc.out rfl (by kernel_rfl) (by rw [hzc]; kernel_rfl) ?_)
    | ((with_reducible refine gate_dst (N := 53) rfl ?_); refine wpList_load_row_g (by rfl) 24 (.tmp 3) rfl w.heap.size (by rfl) 24 (cells8 a) (0, 0) _ Ha.out rfl (by kernel_rfl) (by rw [hza]; kernel_rfl) ?_)
    | ((with_reducible refine gate_dst (N := 54) rfl ?_); refine wpList_load_row_g (by rfl) 24 (.tmp 3) rfl w.heap.size (by rfl) 24 (cells8 a) (0, 0) _ Ha.out rfl (by kernel_rfl) (by rw [hza]; kernel_rfl) ?_)
    | fail)
  refine (less_call0 a a _ _ HAL.out HAL.out (less_self a)).mono ?_
  rintro e w5 ⟨rfl, hb5⟩
  go_wp2_with fail
  go_ret
  exact ⟨rfl, below_step HBZ.out (below_step HB4.out hb5)⟩

set_option maxHeartbeats 4000000 in
set_option maxRecDepth 100000 in
theorem order_000 (a b c : List Int) (w : World) (hal : a.length = 32) (hbl : b.length = 32) (hcl : c.length = 32) (hx : lessL a b = false) (hy : lessL b a = false) (hz : lessL b c = false) (hv : True) (hab : (a == b) = true) :
    Calls Try.prog 5 #[.agg (cells8 a), .agg (cells8 b), .agg (cells8 c)] w fun e w' => e = .returned (.bool true) ∧ Below w.heap.size w w' := by
  have HX := Aside0.mk hx
  have HY := Aside0.mk hy
  have HZ := Aside0.mk hz
  have HV := Aside0.mk hv
  have HAL := Aside0.mk hal
  have HBL := Aside0.mk hbl
  have HCL := Aside0.mk hcl
  have g24 := guard24
  have hza : (cells8 a).size = 32 := by rw [cells8_size, hal]
  have hzb : (cells8 b).size = 32 := by rw [cells8_size, hbl]
  have hzc : (cells8 c).size = 32 := by rw [cells8_size, hcl]
  have heq : ∀ W : World, (Op.equalIn 10000 24 (.agg (cells8 a)) (.agg (cells8 b))).run Try.prog W = .ok true W := fun W => by rw [equal8 (w := W) Try.underlying24 Try.info5i Try.underlying5 cells5 a b hal hbl, hab]
  clear hx hy hz hv hal hbl hcl hab
  go_enter Try.func5, Try.ntmps5
  go_wp2_with fail
  obtain ⟨W0, hW0⟩ : ∃ W0 : World, W0 = ((w.alloc (.cells (cells8 a) 24 (0, 0))).alloc (.cells (cells8 b) 24 (0, 0))).alloc (.cells (cells8 c) 24 (0, 0)) := ⟨_, rfl⟩
  have HB0 : Aside0 (Below w.heap.size w W0) := ⟨by rw [hW0]; exact below_alloc (below_alloc (below_alloc (Below.refl _ _) _) _) _⟩
  have H0a : Aside0 (Blk8 W0 w.heap.size 24 a) := ⟨by rw [hW0]; exact (Below.heap_alloc _ _ _ (by first | (simp; done) | (simp; omega))).trans (heap_alloc2_old w _ _)⟩
  have H0b : Aside0 (Blk8 W0 (w.heap.size + 1) 24 b) := ⟨by rw [hW0]; exact (Below.heap_alloc _ _ _ (by first | (simp; done) | (simp; omega))).trans (heap_alloc2_new w _ _)⟩
  have H0c : Aside0 (Blk8 W0 (w.heap.size + 2) 24 c) := ⟨by rw [hW0]; have h_ := heap_alloc2_new (w.alloc (.cells (cells8 a) 24 (0, 0))) (.cells (cells8 b) 24 (0, 0)) (.cells (cells8 c) 24 (0, 0)); rw [show (w.alloc (.cells (cells8 a) 24 (0, 0))).heap.size + 1 = w.heap.size + 2 from by simp] at h_; exact h_⟩
  have HBZ := HB0
  replace HB0 : Aside0 (Below W0.heap.size W0 W0) := ⟨Below.refl _ _⟩
  rw [← hW0]
  clear hW0
  refine (awake_call _).mono ?_
  rintro e w1 ⟨rfl, hb1⟩
  have HB1 : Aside0 (Below W0.heap.size W0 w1) := ⟨below_step HB0.out hb1⟩
  have Ha : Aside0 (w1.heap[w.heap.size]? = some (.cells (cells8 a) 24 (0, 0))) := ⟨Blk8.below (w := W0) H0a.out HB1.out (Blk8.lt H0a.out)⟩
  have Hb : Aside0 (w1.heap[w.heap.size + 1]? = some (.cells (cells8 b) 24 (0, 0))) := ⟨Blk8.below (w := W0) H0b.out HB1.out (Blk8.lt H0b.out)⟩
  have Hc : Aside0 (w1.heap[w.heap.size + 2]? = some (.cells (cells8 c) 24 (0, 0))) := ⟨Blk8.below (w := W0) H0c.out HB1.out (Blk8.lt H0c.out)⟩
  clear hb1
  go_wp2_with (first
    | ((with_reducible refine gate_dst (N := 12) rfl ?_); refine wpList_load_row_g (by rfl) 24 (.tmp 3) rfl w.heap.size (by rfl) 24 (cells8 a) (0, 0) _ Ha.out rfl (by kernel_rfl) (by rw [hza]; kernel_rfl) ?_)
    | ((with_reducible refine gate_dst (N := 13) rfl ?_); refine wpList_load_row_g (by rfl) 24 (.tmp 4) rfl (w.heap.size + 1) (by rfl) 24 (cells8 b) (0, 0) _ Hb.out rfl (by kernel_rfl) (by rw [hzb]; kernel_rfl) ?_)
    | fail)
  refine (less_call0 a b _ _ HAL.out HBL.out HX.out).mono ?_
  rintro e w2 ⟨rfl, hb2⟩
  have HB2 : Aside0 (Below W0.heap.size W0 w2) := ⟨below_step HB1.out hb2⟩
  have Ha : Aside0 (w2.heap[w.heap.size]? = some (.cells (cells8 a) 24 (0, 0))) := ⟨Blk8.below (w := W0) H0a.out HB2.out (Blk8.lt H0a.out)⟩
  have Hb : Aside0 (w2.heap[w.heap.size + 1]? = some (.cells (cells8 b) 24 (0, 0))) := ⟨Blk8.below (w := W0) H0b.out HB2.out (Blk8.lt H0b.out)⟩
  have Hc : Aside0 (w2.heap[w.heap.size + 2]? = some (.cells (cells8 c) 24 (0, 0))) := ⟨Blk8.below (w := W0) H0c.out HB2.out (Blk8.lt H0c.out)⟩
  clear hb2
  go_wp2_with (first
    | ((with_reducible refine gate_dst (N := 15) rfl ?_); refine wpList_load_row_g (by rfl) 24 (.tmp 4) rfl (w.heap.size + 1) (by rfl) 24 (cells8 b) (0, 0) _ Hb.out rfl (by kernel_rfl) (by rw [hzb]; kernel_rfl) ?_)
    | ((with_reducible refine gate_dst (N := 16) rfl ?_); refine wpList_load_row_g (by rfl) 24 (.tmp 3) rfl w.heap.size (by rfl) 24 (cells8 a) (0, 0) _ Ha.out rfl (by kernel_rfl) (by rw [hza]; kernel_rfl) ?_)
    | fail)
  refine (less_call0 b a _ _ HBL.out HAL.out HY.out).mono ?_
  rintro e w3 ⟨rfl, hb3⟩
  have HB3 : Aside0 (Below W0.heap.size W0 w3) := ⟨below_step HB2.out hb3⟩
  have Ha : Aside0 (w3.heap[w.heap.size]? = some (.cells (cells8 a) 24 (0, 0))) := ⟨Blk8.below (w := W0) H0a.out HB3.out (Blk8.lt H0a.out)⟩
  have Hb : Aside0 (w3.heap[w.heap.size + 1]? = some (.cells (cells8 b) 24 (0, 0))) := ⟨Blk8.below (w := W0) H0b.out HB3.out (Blk8.lt H0b.out)⟩
  have Hc : Aside0 (w3.heap[w.heap.size + 2]? = some (.cells (cells8 c) 24 (0, 0))) := ⟨Blk8.below (w := W0) H0c.out HB3.out (Blk8.lt H0c.out)⟩
  clear hb3
  go_wp2_with (first
    | ((with_reducible refine gate_dst (N := 18) rfl ?_); refine wpList_load_row_g (by rfl) 24 (.tmp 4) rfl (w.heap.size + 1) (by rfl) 24 (cells8 b) (0, 0) _ Hb.out rfl (by kernel_rfl) (by rw [hzb]; kernel_rfl) ?_)
    | ((with_reducible refine gate_dst (N := 19) rfl ?_); refine wpList_load_row_g (by rfl) 24 (.tmp 5) rfl (w.heap.size + 2) (by rfl) 24 (cells8 c) (0, 0) _ Hc.out rfl (by kernel_rfl) (by rw [hzc]; kernel_rfl) ?_)
    | fail)
  refine (less_call0 b c _ _ HBL.out HCL.out HZ.out).mono ?_
  rintro e w4 ⟨rfl, hb4⟩
  have HB4 : Aside0 (Below W0.heap.size W0 w4) := ⟨below_step HB3.out hb4⟩
  have Ha : Aside0 (w4.heap[w.heap.size]? = some (.cells (cells8 a) 24 (0, 0))) := ⟨Blk8.below (w := W0) H0a.out HB4.out (Blk8.lt H0a.out)⟩
  have Hb : Aside0 (w4.heap[w.heap.size + 1]? = some (.cells (cells8 b) 24 (0, 0))) := ⟨Blk8.below (w := W0) H0b.out HB4.out (Blk8.lt H0b.out)⟩
  have Hc : Aside0 (w4.heap[w.heap.size + 2]? = some (.cells (cells8 c) 24 (0, 0))) := ⟨Blk8.below (w := W0) H0c.out HB4.out (Blk8.lt H0c.out)⟩
  clear hb4
  go_wp2_with (first
    | ((with_reducible refine gate_dst (N := 34) rfl ?_); refine wpList_load_row_g (by rfl) 24 (.tmp 3) rfl w.heap.size (by rfl) 24 (cells8 a) (0, 0) _ Ha.out rfl (by kernel_rfl) (by rw [hza]; kernel_rfl) ?_)
    | ((with_reducible refine gate_dst (N := 35) rfl ?_); refine wpList_load_row_g (by rfl) 24 (.tmp 4) rfl (w.heap.size + 1) (by rfl) 24 (cells8 b) (0, 0) _ Hb.out rfl (by kernel_rfl) (by rw [hzb]; kernel_rfl) ?_)
    | ((with_reducible refine gate_dst (N := 47) rfl ?_); refine wpList_load_row_g (by rfl) 24 (.tmp 3) rfl w.heap.size (by rfl) 24 (cells8 a) (0, 0) _ Ha.out rfl (by kernel_rfl) (by rw [hza]; kernel_rfl) ?_)
    | ((with_reducible refine gate_dst (N := 48) rfl ?_); refine wpList_load_row_g (by rfl) 24 (.tmp 5) rfl (w.heap.size + 2) (by rfl) 24 (cells8 c) (0, 0) _ Hc.out rfl (by kernel_rfl) (by rw [hzc]; kernel_rfl) ?_)
    | ((with_reducible refine gate_dst (N := 53) rfl ?_); refine wpList_load_row_g (by rfl) 24 (.tmp 3) rfl w.heap.size (by rfl) 24 (cells8 a) (0, 0) _ Ha.out rfl (by kernel_rfl) (by rw [hza]; kernel_rfl) ?_)
    | ((with_reducible refine gate_dst (N := 54) rfl ?_); refine wpList_load_row_g (by rfl) 24 (.tmp 3) rfl w.heap.size (by rfl) 24 (cells8 a) (0, 0) _ Ha.out rfl (by kernel_rfl) (by rw [hza]; kernel_rfl) ?_)
    | fail)
  refine (less_call0 a a _ _ HAL.out HAL.out (less_self a)).mono ?_
  rintro e w5 ⟨rfl, hb5⟩
  go_wp2_with fail
  go_ret
  exact ⟨rfl, below_step HBZ.out (below_step HB4.out hb5)⟩

theorem order_walk (a b c : List Int) (w : World) (hal : a.length = 32) (hbl : b.length = 32) (hcl : c.length = 32) (ha : Byt a) (hb : Byt b) (hc : Byt c) :
    Calls Try.prog 5 #[.agg (cells8 a), .agg (cells8 b), .agg (cells8 c)] w fun e w' => e = .returned (.bool true) ∧ Below w.heap.size w w' := by
  cases hx : lessL a b with
  | true =>
    cases hz : lessL b c with
    | true => exact order_101 a b c w hal hbl hcl hx (less_flip hx) hz (less_trans hx hz) (less_ne hx)
    | false => exact order_100 a b c w hal hbl hcl hx (less_flip hx) hz trivial (less_ne hx)
  | false =>
    cases hy : lessL b a with
    | true =>
      have hab : (a == b) = false := by have := less_ne hy; rw [beq_eq_false_iff_ne] at this ⊢; exact fun e => this e.symm
      cases hz : lessL b c with
      | true => exact order_011 a b c w hal hbl hcl hx hy hz trivial hab
      | false => exact order_010 a b c w hal hbl hcl hx hy hz trivial hab
    | false =>
      cases hz : lessL b c with
      | true => exact order_001 a b c w hal hbl hcl hx hy hz trivial (less_total ha hb hx hy)
      | false => exact order_000 a b c w hal hbl hcl hx hy hz trivial (less_total ha hb hx hy)

theorem rolodexlaw03_ShaOrder.walk (a b c : List Int) (w : World) (hal : a.length = 32) (ha : ∀ x ∈ a, (Lit.int .u8 x).wf = true) (hbl : b.length = 32) (hb : ∀ x ∈ b, (Lit.int .u8 x).wf = true) (hcl : c.length = 32) (hc : ∀ x ∈ c, (Lit.int .u8 x).wf = true) :
    Calls Try.prog 5 #[.agg (cells8 a), .agg (cells8 b), .agg (cells8 c)] w fun e w' => e = .returned (.bool true) ∧ Below w.heap.size w w' := order_walk a b c w hal hbl hcl ha hb hc

end Go.Proofs.Ytenkaaigalcgcaa.X
