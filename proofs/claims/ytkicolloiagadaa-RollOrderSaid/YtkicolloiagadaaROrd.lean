/- For every input of the law RollOrder its answer is true (what its guards let by): the walk, by hand. -/
import Derived.Test.YtkicolloiagadaaRLaws
namespace Go.Proofs.Ytkicolloiagadaa.X
set_option linter.unusedSimpArgs false
set_option linter.unusedVariables false
open Go.RowKit Go.Proofs.YtkicolloiagadaaW.PrintWords Go.Proofs.YtkicolloiagadaaW.PrintLast

theorem bytesWorld_cell_bt (W : World) (s : ByteArray) (j : Nat) (hj : j < s.size) : (Lib.bytesWorld W 5 s).cell? ⟨W.heap.size, j, none⟩ = some (.int .u8 (bt s j)) := by
  rw [Lib.bytesWorld_cell W 5 s j hj]
  simp [bt, hj]
  rfl
theorem bytesWorld_frozen (W : World) (s : ByteArray) (j : Nat) (hj : j < s.size) : (Lib.bytesWorld W 5 s).frozen? ⟨W.heap.size, j, none⟩ = false := by
  simp [World.frozen?, Lib.bytesWorld_at_new, Lib.bytesCells]
  omega

theorem sA_set (l : List Int) (i : Nat) (v : Int) (h : i < l.length) : sA (l.set i v) = sA l - l[i] + v := by
  induction l generalizing i with
  | nil => simp at h
  | cons x l ih =>
    cases i with
    | zero => simp only [List.set_cons_zero, sA, List.getElem_cons_zero]; omega
    | succ i =>
      simp only [List.set_cons_succ, sA, List.getElem_cons_succ]
      rw [ih i (by simpa using h)]
      omega
theorem sB_set (l : List Int) (i : Nat) (v : Int) (h : i < l.length) : sB (l.set i v) = sB l + ((l.length : Int) - i) * (v - l[i]) := by
  induction l generalizing i with
  | nil => simp at h
  | cons x l ih =>
    cases i with
    | zero =>
      simp only [List.set_cons_zero, sB, List.getElem_cons_zero, List.length_cons, Int.natCast_add, Int.natCast_zero, Int.mul_sub]
      simp only [Int.natCast_one, Int.sub_zero]
      omega
    | succ i =>
      simp only [List.set_cons_succ, sB, List.getElem_cons_succ, List.length_set, List.length_cons]
      rw [ih i (by simpa using h)]
      rw [show (((l.length + 1 : Nat) : Int) - ((i + 1 : Nat) : Int)) = (l.length : Int) - i by omega]
      omega

/-- Two bytes changed about. -/
def swp (s : ByteArray) (i k : Nat) : List Int := ((bs s).set i (bt s k)).set k (bt s i)
theorem swp_length (s : ByteArray) (i k : Nat) : (swp s i k).length = s.size := by simp [swp, bs_length]
theorem swp_A (s : ByteArray) (i k : Nat) (h2 : i < k) (h3 : k < s.size) : sA (swp s i k) = sA (bs s) := by
  unfold swp
  rw [sA_set _ _ _ (by simp [bs_length]; exact h3), sA_set _ _ _ (by rw [bs_length]; omega), List.getElem_set_ne (by omega), ← bt_eq s i (by omega), ← bt_eq s k h3]
  omega
theorem swp_B (s : ByteArray) (i k : Nat) (h2 : i < k) (h3 : k < s.size) : sB (swp s i k) = sB (bs s) - ((k : Int) - i) * (bt s i - bt s k) := by
  unfold swp
  rw [sB_set _ _ _ (by simp [bs_length]; exact h3), sB_set _ _ _ (by rw [bs_length]; omega), List.getElem_set_ne (by omega), ← bt_eq s i (by omega), ← bt_eq s k h3, List.length_set, bs_length]
  simp only [Int.sub_mul, Int.mul_sub]
  omega
theorem swp_range (s : ByteArray) (i k : Nat) (j : Nat) (hj : j < (swp s i k).length) : 0 ≤ (swp s i k)[j] ∧ (swp s i k)[j] ≤ 255 := by
  unfold swp at hj ⊢
  rw [List.getElem_set]
  split
  · exact bt_range s i
  · rw [List.getElem_set]
    split
    · exact bt_range s k
    · exact bs_range s j (by simpa using hj)
theorem bs_str (l : List Int) (h : ∀ j (hj : j < l.length), 0 ≤ l[j] ∧ l[j] ≤ 255) : bs (strOfNums l) = l := by
  apply List.ext_getElem
  · rw [bs_length, strOfNums_size]
  · intro j h1 h2
    have := h j h2
    simp [bs, strOfNums]
    omega

set_option maxHeartbeats 4000000 in
set_option maxRecDepth 100000 in
theorem order_main (s : ByteArray) (i k : Nat) (w : World) (h1 : s.size ≤ 300) (h2 : i < k) (h3 : k < s.size) :
    Calls Try.prog 8 #[.string s, .int .i64 i, .int .i64 k] w fun e w' => e = .returned (.bool true) ∧ Below w.heap.size w w' := by
  have c1 : decide (300 < s.size) = false := decide_eq_false (by omega)
  have c1' : decide (300 < (s.size : Int)) = false := decide_eq_false (by omega)
  have c2 : decide ((i : Int) < 0) = false := decide_eq_false (by omega)
  have c3 : decide (k ≤ i) = false := decide_eq_false (by omega)
  have c4 : decide (s.size ≤ k) = false := decide_eq_false (by omega)
  have x1 : ∀ h : i < s.size, ((s[i]'h).toNat : Int) = bt s i := fun h => bt_at s i h
  have x2 : ∀ h : k < s.size, ((s[k]'h).toNat : Int) = bt s k := fun h => bt_at s k h
  have p1 : i < s.size := by omega
  have hconv := fun W => Lib.run_convert_string_bytes (P := Try.prog) W 9 33 5 s Try.underlying9 Try.underlying33 Try.underlying5
  have f1 := fun W => bytesWorld_frozen W s i p1
  have f2 := fun W => bytesWorld_frozen W s k h3
  have f3 := fun W => bytesWorld_cell_bt W s i p1
  have f4 := fun W => bytesWorld_cell_bt W s k h3
  go_enter Try.func8, Try.ntmps8
  go_wp2_with (go_at_call 9; refine (rolodexlaw09_awake.calls 10 true _ (awake_eq 10 (by omega))).mono ?_; rintro e w1 ⟨rfl, hB1⟩)
  have hB2 : Below w.heap.size w (((Lib.bytesWorld w1 5 s).setCell ⟨w1.heap.size, i, none⟩ (.int .u8 (bt s k))).setCell ⟨w1.heap.size, k, none⟩ (.int .u8 (bt s i))) := by
    have hz := hB1.size
    have h0 : Below w.heap.size w (Lib.bytesWorld w1 5 s) :=
      hB1.trans ⟨rfl, rfl, rfl, by rw [Lib.bytesWorld_size]; omega, fun j hj => Lib.bytesWorld_at_old w1 5 s j (by omega)⟩
    exact (h0.setCell (p := ⟨w1.heap.size, i, none⟩) hz _).setCell (p := ⟨w1.heap.size, k, none⟩) hz _
  have hcell : ∀ j, j < s.size → (((Lib.bytesWorld w1 5 s).setCell ⟨w1.heap.size, i, none⟩ (.int .u8 (bt s k))).setCell ⟨w1.heap.size, k, none⟩ (.int .u8 (bt s i))).cell? ⟨w1.heap.size, 0 + j, none⟩ = some (.int .u8 ((swp s i k).getD j 0)) := by
    intro j hj
    rw [Nat.zero_add]
    have hl : j < (bs s).length := by rw [bs_length]; exact hj
    have hsw : (swp s i k).getD j 0 = if k = j then bt s i else if i = j then bt s k else bt s j := by
      rw [List.getD_eq_getElem?_getD, List.getElem?_eq_getElem (by rw [swp_length]; exact hj)]
      unfold swp
      simp only [Option.getD_some, List.getElem_set]
      rw [bt_eq s j hj]
    rw [hsw]
    by_cases e1 : k = j
    · subst e1
      rw [if_pos rfl, World.cell?_setCell_same' _ _ _ ((congrArg Option.isSome ((World.cell?_setCell_other _ _ _ _ (fun e => by cases e; omega)).trans (f4 w1))).trans rfl)]
    · rw [if_neg e1, World.cell?_setCell_other _ _ _ _ (fun e => by cases e; omega)]
      by_cases e2 : i = j
      · subst e2
        rw [if_pos rfl, World.cell?_setCell_same' _ _ _ (by rw [f3]; rfl)]
      · rw [if_neg e2, World.cell?_setCell_other _ _ _ _ (fun e => by cases e; omega)]
        exact bytesWorld_cell_bt w1 s j hj
  generalize hW2 : ((Lib.bytesWorld w1 5 s).setCell ⟨w1.heap.size, i, none⟩ (.int .u8 (bt s k))).setCell ⟨w1.heap.size, k, none⟩ (.int .u8 (bt s i)) = W2 at *
  clear hW2 f1 f2 f3 f4 hconv
  refine (roll_Sum.calls (s.size + 1) s (roll (bs s)) _ (Sum_eq s (by omega) _ (by omega))).mono ?_
  rintro e w' ⟨rfl, ⟨nd, rfl⟩⟩
  have hc2 : (convert 33 9 (.slice (some ⟨w1.heap.size, 0, none⟩) s.size (grownCap w1 s.size 0 5))).run Try.prog (W2.drewN nd) = .ok (.string (strOfNums (swp s i k))) (W2.drewN nd) :=
    run_convert_bytes_arg (P := Try.prog) (W2.drewN nd) 33 5 Try.underlying33 Try.underlying5 w1.heap.size 0 s.size _ (swp s i k) (swp_length s i k) (fun j hj => hcell j hj) 9 Try.underlying9
  have hz : (strOfNums (swp s i k)).size = s.size := by rw [strOfNums_size, swp_length]
  have hS := Sum_eq (strOfNums (swp s i k)) (by omega) (s.size + 1) (by omega)
  rw [bs_str _ (swp_range s i k)] at hS
  go_wp2_with fail
  refine (roll_Sum.calls (s.size + 1) _ _ _ hS).mono ?_
  rintro e w' ⟨rfl, ⟨nd2, rfl⟩⟩
  clear hS hc2 hcell hz
  have b1 := bt_range s i
  have b2 := bt_range s k
  have r1 : 0 ≤ roll (bs s) := by unfold roll; omega
  have r2 : 0 ≤ roll (swp s i k) := by unfold roll; omega
  obtain ⟨d, hd⟩ : ∃ d, d = ((k : Int) - i) * (bt s i - bt s k) := ⟨_, rfl⟩
  have hm : Aside0 (roll (swp s i k) % 65536 = roll (bs s) % 65536 ∧ (roll (bs s) = roll (swp s i k) ↔ d % 65536 = 0)) := by
    refine ⟨?_, ?_⟩
    · unfold roll; rw [swp_A s i k h2 h3]; omega
    · unfold roll; rw [swp_A s i k h2 h3, swp_B s i k h2 h3, ← hd]; omega
  have w1 : IntKind.i64.wrap ((k : Int) - i) = (k : Int) - i := IntWalk.i64_in _ (by omega)
  have w2 : IntKind.i64.wrap (bt s i) = bt s i := IntWalk.i64_in _ (by omega)
  have w3 : IntKind.i64.wrap (bt s k) = bt s k := IntWalk.i64_in _ (by omega)
  have w4 : IntKind.i64.wrap (bt s i - bt s k) = bt s i - bt s k := IntWalk.i64_in _ (by omega)
  have w5 : IntKind.i64.wrap (((k : Int) - i) * (bt s i - bt s k)) = d := by
    rw [hd]
    refine IntWalk.i64_in _ ?_
    have m1 : ((k : Int) - i) * (bt s i - bt s k) ≤ 300 * 255 := by
      rcases Int.le_total 0 (bt s i - bt s k) with h | h
      · exact Int.mul_le_mul (by omega) (by omega) h (by omega)
      · have := Int.mul_nonpos_of_nonneg_of_nonpos (show 0 ≤ (k : Int) - i by omega) h
        omega
    have m2 : -(300 * 255) ≤ ((k : Int) - i) * (bt s i - bt s k) := by
      have : ((k : Int) - i) * (bt s k - bt s i) ≤ 300 * 255 := by
        rcases Int.le_total 0 (bt s k - bt s i) with h | h
        · exact Int.mul_le_mul (by omega) (by omega) h (by omega)
        · have := Int.mul_nonpos_of_nonneg_of_nonpos (show 0 ≤ (k : Int) - i by omega) h
          omega
      rw [show bt s k - bt s i = -(bt s i - bt s k) by omega, Int.mul_neg] at this
      omega
    omega
  have HD := Aside0.mk hd
  clear hd
  go_wp2_with fail
  go_quiet (fail)
  go_wp2_with fail
  · go_ret
    have hm' := hm.out.2
    have ht : d.tmod 65536 = 0 ↔ d % 65536 = 0 := by rw [← Int.dvd_iff_tmod_eq_zero, Int.dvd_iff_emod_eq_zero]
    have hb : ((roll (bs s) == roll (swp s i k)) == (d.tmod 65536 == 0)) = true := by
      rw [beq_iff_eq, Bool.eq_iff_iff, beq_iff_eq, beq_iff_eq, ht]
      exact hm'
    refine ⟨by show Ending.returned (.bool _) = _; rw [hb], pw_below_drewN hB2 _⟩
  · exact absurd hm.out.1.symm ‹_›

set_option maxHeartbeats 4000000 in
set_option maxRecDepth 100000 in
theorem order_long (s : ByteArray) (i k : Int) (w : World) (h1 : 300 < s.size) :
    Calls Try.prog 8 #[.string s, .int .i64 i, .int .i64 k] w fun e w' => e = .returned (.bool true) ∧ Below w.heap.size w w' := by
  have c1 : decide (300 < s.size) = true := decide_eq_true (by omega)
  have c1' : decide (300 < (s.size : Int)) = true := decide_eq_true (by omega)
  go_enter Try.func8, Try.ntmps8
  go_wp2_with (go_at_call 9; refine (rolodexlaw09_awake.calls 10 true _ (awake_eq 10 (by omega))).mono ?_; rintro e w1 ⟨rfl, hB1⟩)
  go_ret
  exact ⟨rfl, hB1⟩

set_option maxHeartbeats 4000000 in
set_option maxRecDepth 100000 in
theorem order_neg (s : ByteArray) (i k : Int) (w : World) (h1 : s.size ≤ 300) (h2 : i < 0) :
    Calls Try.prog 8 #[.string s, .int .i64 i, .int .i64 k] w fun e w' => e = .returned (.bool true) ∧ Below w.heap.size w w' := by
  have c1 : decide (300 < s.size) = false := decide_eq_false (by omega)
  have c1' : decide (300 < (s.size : Int)) = false := decide_eq_false (by omega)
  have c2 : decide (i < 0) = true := decide_eq_true (by omega)
  go_enter Try.func8, Try.ntmps8
  go_wp2_with (go_at_call 9; refine (rolodexlaw09_awake.calls 10 true _ (awake_eq 10 (by omega))).mono ?_; rintro e w1 ⟨rfl, hB1⟩)
  go_ret
  exact ⟨rfl, hB1⟩

set_option maxHeartbeats 4000000 in
set_option maxRecDepth 100000 in
theorem order_back (s : ByteArray) (i k : Int) (w : World) (h1 : s.size ≤ 300) (h2 : 0 ≤ i) (h3 : k ≤ i) :
    Calls Try.prog 8 #[.string s, .int .i64 i, .int .i64 k] w fun e w' => e = .returned (.bool true) ∧ Below w.heap.size w w' := by
  have c1 : decide (300 < s.size) = false := decide_eq_false (by omega)
  have c1' : decide (300 < (s.size : Int)) = false := decide_eq_false (by omega)
  have c2 : decide (i < 0) = false := decide_eq_false (by omega)
  have c3 : decide (k ≤ i) = true := decide_eq_true (by omega)
  go_enter Try.func8, Try.ntmps8
  go_wp2_with (go_at_call 9; refine (rolodexlaw09_awake.calls 10 true _ (awake_eq 10 (by omega))).mono ?_; rintro e w1 ⟨rfl, hB1⟩)
  go_ret
  exact ⟨rfl, hB1⟩

set_option maxHeartbeats 4000000 in
set_option maxRecDepth 100000 in
theorem order_far (s : ByteArray) (i k : Int) (w : World) (h1 : s.size ≤ 300) (h2 : 0 ≤ i) (h3 : i < k) (h4 : (s.size : Int) ≤ k) :
    Calls Try.prog 8 #[.string s, .int .i64 i, .int .i64 k] w fun e w' => e = .returned (.bool true) ∧ Below w.heap.size w w' := by
  have c1 : decide (300 < s.size) = false := decide_eq_false (by omega)
  have c1' : decide (300 < (s.size : Int)) = false := decide_eq_false (by omega)
  have c2 : decide (i < 0) = false := decide_eq_false (by omega)
  have c3 : decide (k ≤ i) = false := decide_eq_false (by omega)
  have c4 : decide ((s.size : Int) ≤ k) = true := decide_eq_true (by omega)
  go_enter Try.func8, Try.ntmps8
  go_wp2_with (go_at_call 9; refine (rolodexlaw09_awake.calls 10 true _ (awake_eq 10 (by omega))).mono ?_; rintro e w1 ⟨rfl, hB1⟩)
  go_ret
  exact ⟨rfl, hB1⟩

theorem rolodexlaw09_RollOrder.walk (a0 : ByteArray) (a1 : Int) (a2 : Int) (w : World) (w0 : a0.size ≤ 140737488351232) (w1 : (Lit.int .i64 a1).wf = true) (w2 : (Lit.int .i64 a2).wf = true) :
    Calls Try.prog 8 #[.string a0, .int .i64 a1, .int .i64 a2] w fun e w' => e = .returned (.bool true) ∧ Below w.heap.size w w' := by
  by_cases h1 : 300 < a0.size
  · exact order_long a0 a1 a2 w h1
  by_cases h2 : a1 < 0
  · exact order_neg a0 a1 a2 w (by omega) h2
  by_cases h3 : a2 ≤ a1
  · exact order_back a0 a1 a2 w (by omega) (by omega) h3
  by_cases h4 : (a0.size : Int) ≤ a2
  · exact order_far a0 a1 a2 w (by omega) (by omega) (by omega) h4
  obtain ⟨i, rfl⟩ : ∃ i : Nat, a1 = i := ⟨a1.toNat, by omega⟩
  obtain ⟨k, rfl⟩ : ∃ k : Nat, a2 = k := ⟨a2.toNat, by omega⟩
  exact order_main a0 i k w (by omega) (by omega) (by omega)

end Go.Proofs.Ytkicolloiagadaa.X
