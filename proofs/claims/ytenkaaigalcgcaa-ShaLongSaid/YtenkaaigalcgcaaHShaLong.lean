/- The digest of a long text is the document's (more than 700 bytes are let by): the walk. -/
import Derived.Test.YtenkaaigalcgcaaHShaTells
namespace Go.Proofs.Ytenkaaigalcgcaa.X
set_option linter.unusedVariables false
set_option linter.unusedSimpArgs false
open Go.RowKit Go.Proofs.YtenkaaigalcgcaaW.PrintWords Go.Proofs.YtenkaaigalcgcaaW.PrintLast Go.Proofs.YtenkaaigalcgcaaW.PrintMore

theorem fill_step (c : Int) (m i : Nat) (hi : i < m) : (List.replicate i c ++ List.replicate (m - i) (0 : Int)).set i c = List.replicate (i + 1) c ++ List.replicate (m - (i + 1)) 0 := by
  apply List.ext_getElem
  · simp; omega
  · intro j h1 h2
    simp only [List.getElem_set, List.getElem_append, List.getElem_replicate, List.length_replicate]
    by_cases h : i = j
    · subst h; simp
    · rw [if_neg h]
      by_cases h3 : j < i
      · simp [h3, show j < i + 1 by omega]
      · simp [h3, show ¬ j < i + 1 by omega]

set_option maxHeartbeats 800000 in
set_option maxRecDepth 100000 in
theorem long_e1 (c n : Int) (w : World) (h : n < 0) :
    Calls Try.prog 6 #[.int .u8 c, .int .i64 n] w fun e w' => e = .returned (.bool true) ∧ Below w.heap.size w w' := by
  have f1 : decide (n < 0) = true := decide_eq_true (by omega)
  go_enter Try.func6, Try.ntmps6
  go_wp2_with fail
  refine (awake_call _).mono ?_
  rintro e w1 ⟨rfl, hb1⟩
  go_wp2_with fail
  go_ret
  exact ⟨rfl, hb1⟩

set_option maxHeartbeats 800000 in
set_option maxRecDepth 100000 in
theorem long_e2 (c n : Int) (w : World) (h : 700 < n) :
    Calls Try.prog 6 #[.int .u8 c, .int .i64 n] w fun e w' => e = .returned (.bool true) ∧ Below w.heap.size w w' := by
  have f1 : decide (n < 0) = false := decide_eq_false (by omega)
  have f2 : decide (700 < n) = true := decide_eq_true (by omega)
  go_enter Try.func6, Try.ntmps6
  go_wp2_with fail
  refine (awake_call _).mono ?_
  rintro e w1 ⟨rfl, hb1⟩
  go_wp2_with fail
  go_ret
  exact ⟨rfl, hb1⟩

set_option maxHeartbeats 4000000 in
set_option maxRecDepth 100000 in
theorem long_main (c : Int) (m : Nat) (w : World) (hc0 : 0 ≤ c) (hc1 : c ≤ 255) (hm : m ≤ 700) :
    Calls Try.prog 6 #[.int .u8 c, .int .i64 m] w fun e w' => e = .returned (.bool true) ∧ Below w.heap.size w w' := by
  have m0 : (0 : Int) ≤ (m : Int) := by omega
  have m1 : (m : Int) ≤ 700 := by omega
  have d0 : decide (700 < m) = false := decide_eq_false (by omega)
  have d0' : decide (700 < (m : Int)) = false := decide_eq_false (by omega)
  have d1 : decide ((m : Int) < 0) = false := decide_eq_false (by omega)
  have hmk := print_make (P := Try.prog) 22 5 .u8 1 Try.underlying22 info5 (by decide) m (by omega)
  obtain ⟨x, hx⟩ : ∃ x, shaOf (List.replicate m c) = x := ⟨_, rfl⟩
  have HX := Aside0.mk hx
  have HXL : Aside0 (x.length = 32) := ⟨by rw [← hx, shaOf_length]⟩
  have ex : ∀ W : World, (Op.equalIn 10000 24 (.agg (cells8 x)) (.agg (cells8 x))).run Try.prog W = .ok true W := fun W => by rw [equal8 (w := W) Try.underlying24 Try.info5i Try.underlying5 cells5 x x HXL.out HXL.out, beq_self_eq_true]
  have g24 := guard24
  have HC : Aside0 (0 ≤ c ∧ c ≤ 255) := ⟨hc0, hc1⟩
  clear hx hc0 hc1
  go_enter Try.func6, Try.ntmps6
  go_wp2_with fail
  refine (awake_call _).mono ?_
  rintro e w1 ⟨rfl, hb1⟩
  have HB1 := Aside0.mk hb1
  clear hb1
  go_wp2_with fail
  have HO1 : Aside0 ((w1.alloc (.cells (madeCells #[.int .u8 0] m) 5 (0, 0))).ownsRow w1.heap.size 5 1 (.slice (some ⟨w1.heap.size, 0, none⟩) m m) m (nums .u8 (List.replicate m 0))) := ⟨own_made w1 w1.heap.size 5 .u8 m (Nat.le_refl _) (by omega)⟩
  go_loopg [7] m (fun k v7 w' => ∃ i : Nat, v7 = .int .i64 (i : Int) ∧ Aside0 (k = m - i ∧ i ≤ m) ∧ Aside0 (w'.ownsRow w1.heap.size 5 1 (.slice (some ⟨w1.heap.size, 0, none⟩) m m) m (nums .u8 (List.replicate i c ++ List.replicate (m - i) 0))) ∧ Aside0 (Below w.heap.size w w'))
  case atStart => exact ⟨0, rfl, ⟨by omega, by omega⟩, ⟨by simpa using HO1.out⟩, ⟨below_alloc HB1.out _⟩⟩
  case round =>
    clear HO1 hmk
    obtain ⟨i, rfl, HI, HO, HL⟩ := hrel
    by_cases hi : i < m
    · have e1 : decide (i < m) = true := decide_eq_true hi
      have e2 : decide ((i : Int) < (m : Int)) = true := decide_eq_true (by omega)
      have pi : (0 ≤ (i : Int)) = True := eq_true (by omega)
      have qi : ((i : Int) < (m : Int)) = True := eq_true (by omega)
      have hwr : IntKind.i64.wrap ((i : Int) + 1) = ((i + 1 : Nat) : Int) := by rw [i64_w]; unfold wrap64; omega
      obtain ⟨y1, y2⟩ := own_at HO.out (i : Int) (by omega) (by omega)
      rw [Int.toNat_natCast] at y1 y2
      have ap : (⟨w1.heap.size, 0, none⟩ : Addr).add i = ⟨w1.heap.size, i, none⟩ := add_plain _ _
      go_wp2_with fail
      go_roundg (m - (i + 1))
      case measure => have := HI.out; omega
      case rel =>
        refine ⟨i + 1, by simp, ⟨rfl, by omega⟩, ⟨?_⟩, ⟨HL.out.setCell HB1.out.size _⟩⟩
        have h_ := (own_store HO.out (i : Int) c).1
        rw [Int.toNat_natCast, fill_step c m i hi] at h_
        exact h_
    · obtain rfl : i = m := by have := HI.out; omega
      have e1 : decide (i < i) = false := decide_eq_false (by omega)
      have e2 : decide ((i : Int) < (i : Int)) = false := decide_eq_false (by omega)
      have HR : Aside0 (RdB wr (some ⟨w1.heap.size, 0, none⟩) (List.replicate i c).length (List.replicate i c)) := ⟨by
        obtain ⟨A2, c2, he, _, hr⟩ := own_row HO.out
        obtain rfl : (some (⟨w1.heap.size, 0, none⟩ : Addr)) = A2 := by injection he
        simpa using hr⟩
      have hlen : (List.replicate i c).length = i := by simp
      have HBY : Aside0 (Bytes8 (List.replicate i c)) := ⟨fun z hz => by rw [(List.mem_replicate.1 hz).2]; exact HC.out⟩
      have HS : Aside0 (∀ W, RdB W (some ⟨w1.heap.size, 0, none⟩) (List.replicate i c).length (List.replicate i c) → Calls Try.prog 10 #[.slice (some ⟨w1.heap.size, 0, none⟩) i i] W fun e w' => e = .returned (.agg (cells8 x)) ∧ Below W.heap.size W w') := ⟨fun W h => by
        have := sum_call0 (some ⟨w1.heap.size, 0, none⟩) i (List.replicate i c) x HX.out W h (by simp) (by simp; omega)
        rw [hlen] at this
        exact this⟩
      have HT : Aside0 (∀ W, RdB W (some ⟨w1.heap.size, 0, none⟩) (List.replicate i c).length (List.replicate i c) → Calls Try.prog 11 #[.slice (some ⟨w1.heap.size, 0, none⟩) i i] W fun e w' => e = .returned (.agg (cells8 x)) ∧ Below W.heap.size W w') := ⟨fun W h => by
        have := refsum_call0 (some ⟨w1.heap.size, 0, none⟩) i (List.replicate i c) x HX.out W h (by simp) (by simp; omega) HBY.out
        rw [hlen] at this
        exact this⟩
      clear hlen hi HI
      go_wp2_with fail
      refine (HS.out _ HR.out).mono ?_
      rintro e w5 ⟨rfl, hb5⟩
      have HB5 := Aside0.mk hb5
      clear hb5
      go_wp2_with fail
      refine (HT.out _ (rdb_below HR.out HB5.out)).mono ?_
      rintro e w6 ⟨rfl, hb6⟩
      go_wp2_with fail
      go_ret
      exact ⟨rfl, below_step (below_step HL.out HB5.out) hb6⟩

theorem rolodexlaw03_ShaLong.walk (a0 : Int) (a1 : Int) (w : World) (w0 : (Lit.int .u8 a0).wf = true) (w1 : (Lit.int .i64 a1).wf = true) :
    Calls Try.prog 6 #[.int .u8 a0, .int .i64 a1] w fun e w' => e = .returned (.bool true) ∧ Below w.heap.size w w' := by
  by_cases h0 : a1 < 0
  · exact long_e1 a0 a1 w h0
  by_cases h1 : 700 < a1
  · exact long_e2 a0 a1 w h1
  obtain ⟨m, rfl⟩ := Int.eq_ofNat_of_zero_le (show 0 ≤ a1 by omega)
  have := bytes_of_wf (l := [a0]) (by simpa using w0) a0 (by simp)
  exact long_main a0 m w this.1 this.2 (by omega)

end Go.Proofs.Ytenkaaigalcgcaa.X
