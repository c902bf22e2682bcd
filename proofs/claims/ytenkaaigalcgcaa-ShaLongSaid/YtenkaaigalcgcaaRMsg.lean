/- The document's message: the walk. -/
import Derived.Test.YtenkaaigalcgcaaSSum
namespace Go.Proofs.Ytenkaaigalcgcaa.X
set_option linter.unusedVariables false
set_option linter.unusedSimpArgs false
open Go.RowKit Go.Proofs.YtenkaaigalcgcaaW.PrintWords Go.Proofs.YtenkaaigalcgcaaW.PrintLast Go.Proofs.YtenkaaigalcgcaaW.PrintMore

/-- 'append(v, ys...)' of rows of bytes. -/
theorem app_rows {w0 W : World} {ops : Array Oper} {rest : List Oper} {o : Oper} {a : Act} {Q : Exit → Act → World → Prop} (base : Nat) (hgd : o.guard = none) (s x : Operand)
    (ho : o.op = .call { callee := .builtin .append, args := #[s, x], argTypes := #[22, 22] }) (v : Value) (xs ys : List Int) (A : Option Addr) (m c : Nat) (hs : a.eval s = v) (hx : a.eval x = .slice A m c)
    (HO : W.ownsRow base 5 1 v xs.length (nums .u8 xs)) (HR : RdB W A m ys) (HB : Below base w0 W) (hbase : base ≤ W.heap.size) (hl : xs.length + m ≤ 1000000000)
    (h : ∀ v1 w1, Aside0 (w1.ownsRow base 5 1 v1 (xs ++ ys).length (nums .u8 (xs ++ ys))) → Aside0 (Below base w0 w1) → wpList Try.prog ops Q rest (a.put o.dst v1) w1) :
    wpList Try.prog ops Q (o :: rest) a W :=
  print_append_row (w0 := w0) base hgd s x 22 5 .u8 1 ho Try.underlying22 info5 (by decide) v xs ys A m c hs hx HO (Kd.reads_of_C HR) HB hbase (by omega)
    fun v1 w1 h1 h2 _ _ => h v1 w1 ⟨h1⟩ ⟨h2⟩
/-- 256 so often, 72057594037927936 at the begin. -/
def placeAt : Nat → Int
  | 0 => 72057594037927936
  | i + 1 => placeAt i / 256
theorem len_byte : ∀ (n : Nat) (i : Nat), i < 8 → (n : Int) * 8 / placeAt i % 256 = lenByte n i := by
  intro n i hi
  have : placeAt i = 2 ^ (8 * (7 - i)) := by
    obtain rfl | rfl | rfl | rfl | rfl | rfl | rfl | rfl : i = 0 ∨ i = 1 ∨ i = 2 ∨ i = 3 ∨ i = 4 ∨ i = 5 ∨ i = 6 ∨ i = 7 := by omega
    all_goals decide
  rw [this]
  rfl
theorem place_range (i : Nat) (hi : i < 8) : 0 < placeAt i ∧ placeAt i ≤ 72057594037927936 := by
  obtain rfl | rfl | rfl | rfl | rfl | rfl | rfl | rfl : i = 0 ∨ i = 1 ∨ i = 2 ∨ i = 3 ∨ i = 4 ∨ i = 5 ∨ i = 6 ∨ i = 7 := by omega
  all_goals decide

set_option maxHeartbeats 4000000 in
set_option maxRecDepth 100000 in
theorem message_call (A : Option Addr) (c : Nat) (l : List Int) (w : World) (hr : RdB w A l.length l) (hc : l.length ≤ c) (hl : l.length ≤ 100000000) :
    Calls Try.prog 19 #[.slice A l.length c] w fun e w' => ∃ v, e = .returned v ∧ Aside0 (w'.ownsRow w.heap.size 5 1 v (msg2 l 8).length (nums .u8 (msg2 l 8))) ∧ Aside0 (Below w.heap.size w w') := by
  have HR := Aside0.mk hr
  clear hr
  go_enter Try.func19, Try.ntmps19
  go_wp2_with (first
    | ((with_reducible refine gate_builtin (b := .append) (xs := #[.const (.slice none 0 0), .tmp 7]) rfl ?_); at_builtin; refine app_rows (w0 := w) w.heap.size rfl _ _ rfl (.slice none 0 0) [] l A l.length c rfl rfl (own_nil _ _ _ _) HR.out (Below.refl _ _) (Nat.le_refl _) (by simp; omega) ?_; intro v w1 ho1 HB1)
    | ((with_reducible refine gate_builtin (b := .append) (xs := #[.tmp 9, .tmp 10]) rfl ?_); at_builtin; refine app_one (w0 := w) w.heap.size rfl (.tmp 9) (.tmp 10) rfl v l 128 (by rfl) (by rfl) (by simpa using ho1.out) HB1.out HB1.out.size (by omega) ?_; intro v2 w2 HO2 HB2)
    | fail)
  clear ho1 HB1
  go_loopg [3] (padN l.length) (fun k v3 w' => ∃ (j m : Nat), Aside0 (k = padN l.length - j ∧ j ≤ padN l.length) ∧ Aside0 (m = l.length + 1 + j) ∧ Aside0 (w'.ownsRow w.heap.size 5 1 v3 m (nums .u8 (msg1 l j))) ∧ Aside0 (Below w.heap.size w w'))
  case atStart => exact ⟨0, l.length + 1, ⟨by omega, by omega⟩, ⟨by omega⟩, ⟨by simpa [msg1] using HO2.out⟩, HB2⟩
  case round =>
    clear HO2 HB2
    obtain ⟨j, m, HJ, HM, HO, HB⟩ := hrel
    obtain ⟨A3, c3, rfl⟩ := own_slice HO.out
    have hm : m ≤ 200000000 := by have := HM.out; have := HJ.out; have := padN_lt l.length; omega
    by_cases hj : j < padN l.length
    · have e1 : ((m : Int) % 64 != 56) = true := by
        have := padN_not l.length j hj
        have := HM.out
        simp only [bne_iff_ne, ne_eq]
        omega
      have HML : Aside0 ((msg1 l j).length = m) := ⟨by rw [msg1_length]; exact HM.out.symm⟩
      go_wp2_with (first
        | ((with_reducible refine gate_builtin (b := .append) (xs := #[.tmp 16, .tmp 17]) rfl ?_); at_builtin; refine app_one (w0 := w) w.heap.size rfl (.tmp 16) (.tmp 17) rfl _ (msg1 l j) 0 (by rfl) (by rfl) (by rw [HML.out]; exact HO.out) HB.out HB.out.size (by rw [HML.out]; omega) ?_; intro v4 w4 HO4 HB4)
        | fail)
      go_roundg (padN l.length - (j + 1))
      case measure => have := HJ.out; omega
      case rel => exact ⟨j + 1, m + 1, ⟨rfl, by omega⟩, ⟨by have := HM.out; omega⟩, ⟨by have h_ := HO4.out; rw [msg1_snoc, msg1_length] at h_; have h2_ := HM.out; rw [show m + 1 = l.length + 1 + (j + 1) by omega]; exact h_⟩, HB4⟩
    · obtain rfl : j = padN l.length := by have := HJ.out; omega
      have e1 : ((m : Int) % 64 != 56) = false := by
        have := padN_at l.length
        have := HM.out
        simp only [bne_eq_false_iff_eq]
        omega
      clear hj
      go_wp2_with fail
      go_loopg [3, 5, 6] 8 (fun k v3 v5 v6 w' => ∃ (i p : Nat), v5 = .int .u64 (placeAt i) ∧ v6 = .int .i64 (i : Int) ∧ Aside0 (k = 8 - i ∧ i ≤ 8) ∧ Aside0 (p = m + i) ∧ Aside0 (w'.ownsRow w.heap.size 5 1 v3 p (nums .u8 (msg2 l i))) ∧ Aside0 (Below w.heap.size w w'))
      case atStart => exact ⟨0, m, rfl, rfl, ⟨by omega, by omega⟩, ⟨rfl⟩, ⟨by simpa [msg2] using HO.out⟩, HB⟩
      case round =>
        clear HO HB e1
        obtain ⟨i, p, rfl, rfl, HI, HP, HO, HB⟩ := hrel
        obtain ⟨A4, c4, rfl⟩ := own_slice HO.out
        by_cases hi : i < 8
        · have d1 : decide (i < 8) = true := decide_eq_true hi
          have d2 : decide ((i : Int) < 8) = true := decide_eq_true (by omega)
          have HML : Aside0 ((msg2 l i).length = p) := ⟨by rw [msg2_length, HP.out, HM.out]⟩
          have hp : p ≤ 300000000 := by have := HP.out; omega
          have b0 : 0 ≤ (i : Int) := by omega
          have b1 : (i : Int) < 8 := by omega
          have hwr : IntKind.i64.wrap ((i : Int) + 1) = ((i + 1 : Nat) : Int) := by rw [i64_w]; unfold wrap64; omega
          obtain ⟨q, hq⟩ : ∃ q, placeAt i = q := ⟨_, rfl⟩
          have HQ := Aside0.mk hq
          have q0 := (place_range i hi).1
          have q1 := (place_range i hi).2
          rw [hq] at q0 q1 ⊢
          have q2 : ¬ q = 0 := by omega
          clear hq
          have HV : Aside0 ((8 * (l.length : Int) / q).tmod 256 % 256 = lenByte l.length i) := ⟨by
            rw [← len_byte l.length i hi, HQ.out, Int.mul_comm 8]
            have hnn : 0 ≤ (l.length : Int) * 8 / q := Int.ediv_nonneg (by omega) (by omega)
            rw [Int.tmod_eq_emod_of_nonneg hnn, Int.emod_emod]⟩
          go_wp2_with (first
            | ((with_reducible refine gate_builtin (b := .append) (xs := #[.tmp 27, .tmp 33]) rfl ?_); at_builtin; refine app_one (w0 := w) w.heap.size rfl (.tmp 27) (.tmp 33) rfl _ (msg2 l i) ((8 * (l.length : Int) / q).tmod 256 % 256) (by rfl) (by rfl) (by rw [HML.out]; exact HO.out) HB.out HB.out.size (by rw [HML.out]; omega) ?_; intro v4 w4 HO4 HB4)
            | fail)
          go_roundg (8 - (i + 1))
          case measure => have := HI.out; omega
          case rel =>
            refine ⟨i + 1, p + 1, ?_, by simp, ⟨rfl, by omega⟩, ⟨by have := HP.out; omega⟩, ⟨?_⟩, HB4⟩
            · rw [placeAt, HQ.out]
            · have h_ := HO4.out
              rw [HV.out, msg2_snoc, msg2_length] at h_
              have h2_ := HM.out
              have h3_ := HP.out
              rw [show p + 1 = l.length + 1 + padN l.length + (i + 1) by omega]
              exact h_
        · have d1 : decide (i < 8) = false := decide_eq_false hi
          have d2 : decide ((i : Int) < 8) = false := decide_eq_false (by omega)
          obtain rfl : i = 8 := by have := HI.out; omega
          go_wp2_with fail
          go_ret
          refine ⟨_, rfl, ⟨?_⟩, HB⟩
          rw [msg2_length]
          have h_ := HO.out
          rw [show p = l.length + 1 + padN l.length + 8 by have := HP.out; have := HM.out; omega] at h_
          rw [show l.length + 1 + padN l.length + 8 = p by have := HP.out; have := HM.out; omega] at h_ ⊢
          exact h_

end Go.Proofs.Ytenkaaigalcgcaa.X
