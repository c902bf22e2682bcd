/- Texts of this claim, one behind the other: RMsg, Xx23, Xx24, Xx25, XxRef3, RWords, RMath, RSum, RLess, GRef, GRefFind. -/
import Derived.Test.YtchaegfdcdlfaaaU1
import Derived.Test.YtchaegfdcdlfaaaE1v
import Derived.Laws.BitsLemmas

/- The document's message: the walk. -/
namespace Go.Proofs.Ytchaegfdcdlfaaa.X
set_option linter.unusedVariables false
set_option linter.unusedSimpArgs false
open Go.RowKit Go.Proofs.YtchaegfdcdlfaaaW.PrintWords Go.Proofs.YtchaegfdcdlfaaaW.PrintLast Go.Proofs.YtchaegfdcdlfaaaW.PrintMore

/-- 'append(v, ys...)' of rows of bytes. -/
theorem app_rows {w0 W : World} {ops : Array Oper} {rest : List Oper} {o : Oper} {a : Act} {Q : Exit → Act → World → Prop} (base : Nat) (hgd : o.guard = none) (s x : Operand)
    (ho : o.op = .call { callee := .builtin .append, args := #[s, x], argTypes := #[40, 40] }) (v : Value) (xs ys : List Int) (A : Option Addr) (m c : Nat) (hs : a.eval s = v) (hx : a.eval x = .slice A m c)
    (HO : W.ownsRow base 5 1 v xs.length (nums .u8 xs)) (HR : RdB W A m ys) (HB : Below base w0 W) (hbase : base ≤ W.heap.size) (hl : xs.length + m ≤ 1000000000)
    (h : ∀ v1 w1, Aside0 (w1.ownsRow base 5 1 v1 (xs ++ ys).length (nums .u8 (xs ++ ys))) → Aside0 (Below base w0 w1) → wpList Try.prog ops Q rest (a.put o.dst v1) w1) :
    wpList Try.prog ops Q (o :: rest) a W :=
  print_append_row (w0 := w0) base hgd s x 40 5 .u8 1 ho Try.underlying40 hinfo5 (by decide) v xs ys A m c hs hx HO (Kd.reads_of_C HR) HB hbase (by omega)
    fun v1 w1 h1 h2 _ _ => h v1 w1 ⟨h1⟩ ⟨h2⟩
/-- 256 so often, 72057594037927936 at the begin. -/
def placeAt : Nat → Int
  | 0 => 72057594037927936
  | i + 1 => placeAt i / 256
theorem len_byte : ∀ (n : Nat) (i : Nat), i < 8 → (n : Int) * 8 / placeAt i % 256 = lenByte n i := by
  intro n i hi
  have : placeAt i = 2 ^ (8 * (7 - i)) := by
    obtain rfl | rfl | rfl | rfl | rfl | rfl | rfl | rfl : i = 0 ∨ i = 1 ∨ i = 2 ∨ i = 3 ∨ i = 4 ∨ i = 5 ∨ i = 6 ∨ i = 7 := by omega
    all_goals decide
  rw [this]
  rfl
theorem place_range (i : Nat) (hi : i < 8) : 0 < placeAt i ∧ placeAt i ≤ 72057594037927936 := by
  obtain rfl | rfl | rfl | rfl | rfl | rfl | rfl | rfl : i = 0 ∨ i = 1 ∨ i = 2 ∨ i = 3 ∨ i = 4 ∨ i = 5 ∨ i = 6 ∨ i = 7 := by omega
  all_goals decide

set_option maxHeartbeats 4000000 in
set_option maxRecDepth 100000 in
theorem message_call (A : Option Addr) (c : Nat) (l : List Int) (w : World) (hr : RdB w A l.length l) (hc : l.length ≤ c) (hl : l.length ≤ 100000000) :
    Calls Try.prog 164 #[.slice A l.length c] w fun e w' => ∃ v, e = .returned v ∧ Aside0 (w'.ownsRow w.heap.size 5 1 v (msg2 l 8).length (nums .u8 (msg2 l 8))) ∧ Aside0 (Below w.heap.size w w') := by
  have HR := Aside0.mk hr
  clear hr
  go_enter Try.func164, Try.ntmps164
  go_wp2_with (first
    | ((with_reducible refine gate_builtin (b := .append) (xs := #[.const (.slice none 0 0), .tmp 7]) rfl ?_); at_builtin; refine app_rows (w0 := w) w.heap.size rfl _ _ rfl (.slice none 0 0) [] l A l.length c rfl rfl (own_nil _ _ _ _) HR.out (Below.refl _ _) (Nat.le_refl _) (by simp; omega) ?_; intro v w1 ho1 HB1)
    | ((with_reducible refine gate_builtin (b := .append) (xs := #[.tmp 9, .tmp 10]) rfl ?_); at_builtin; refine app_one (w0 := w) w.heap.size rfl (.tmp 9) (.tmp 10) rfl v l 128 (by rfl) (by rfl) (by simpa using ho1.out) HB1.out HB1.out.size (by omega) ?_; intro v2 w2 HO2 HB2)
    | fail)
  clear ho1 HB1
  go_loopg [3] (padN l.length) (fun k v3 w' => ∃ (j m : Nat), Aside0 (k = padN l.length - j ∧ j ≤ padN l.length) ∧ Aside0 (m = l.length + 1 + j) ∧ Aside0 (w'.ownsRow w.heap.size 5 1 v3 m (nums .u8 (msg1 l j))) ∧ Aside0 (Below w.heap.size w w'))
  case atStart => exact ⟨0, l.length + 1, ⟨by omega, by omega⟩, ⟨by omega⟩, ⟨by simpa [msg1] using HO2.out⟩, HB2⟩
  case round =>
    clear HO2 HB2
    obtain ⟨j, m, HJ, HM, HO, HB⟩ := hrel
    obtain ⟨A3, c3, rfl⟩ := own_slice HO.out
    have hm : m ≤ 200000000 := by have := HM.out; have := HJ.out; have := padN_lt l.length; omega
    by_cases hj : j < padN l.length
    · have e1 : ((m : Int) % 64 != 56) = true := by
        have := padN_not l.length j hj
        have := HM.out
        simp only [bne_iff_ne, ne_eq]
        omega
      have HML : Aside0 ((msg1 l j).length = m) := ⟨by rw [msg1_length]; exact HM.out.symm⟩
      go_wp2_with (first
        | ((with_reducible refine gate_builtin (b := .append) (xs := #[.tmp 16, .tmp 17]) rfl ?_); at_builtin; refine app_one (w0 := w) w.heap.size rfl (.tmp 16) (.tmp 17) rfl _ (msg1 l j) 0 (by rfl) (by rfl) (by rw [HML.out]; exact HO.out) HB.out HB.out.size (by rw [HML.out]; omega) ?_; intro v4 w4 HO4 HB4)
        | fail)
      go_roundg (padN l.length - (j + 1))
      case measure => have := HJ.out; omega
      case rel => exact ⟨j + 1, m + 1, ⟨rfl, by omega⟩, ⟨by have := HM.out; omega⟩, ⟨by have h_ := HO4.out; rw [msg1_snoc, msg1_length] at h_; have h2_ := HM.out; rw [show m + 1 = l.length + 1 + (j + 1) by omega]; exact h_⟩, HB4⟩
    · obtain rfl : j = padN l.length := by have := HJ.out; omega
      have e1 : ((m : Int) % 64 != 56) = false := by
        have := padN_at l.length
        have := HM.out
        simp only [bne_eq_false_iff_eq]
        omega
      clear hj
      go_wp2_with fail
      go_loopg [3, 5, 6] 8 (fun k v3 v5 v6 w' => ∃ (i p : Nat), v5 = .int .u64 (placeAt i) ∧ v6 = .int .i64 (i : Int) ∧ Aside0 (k = 8 - i ∧ i ≤ 8) ∧ Aside0 (p = m + i) ∧ Aside0 (w'.ownsRow w.heap.size 5 1 v3 p (nums .u8 (msg2 l i))) ∧ Aside0 (Below w.heap.size w w'))
      case atStart => exact ⟨0, m, rfl, rfl, ⟨by omega, by omega⟩, ⟨rfl⟩, ⟨by simpa [msg2] using HO.out⟩, HB⟩
      case round =>
        clear HO HB e1
        obtain ⟨i, p, rfl, rfl, HI, HP, HO, HB⟩ := hrel
        obtain ⟨A4, c4, rfl⟩ := own_slice HO.out
        by_cases hi : i < 8
        · have d1 : decide (i < 8) = true := decide_eq_true hi
          have d2 : decide ((i : Int) < 8) = true := decide_eq_true (by omega)
          have HML : Aside0 ((msg2 l i).length = p) := ⟨by rw [msg2_length, HP.out, HM.out]⟩
          have hp : p ≤ 300000000 := by have := HP.out; omega
          have b0 : 0 ≤ (i : Int) := by omega
          have b1 : (i : Int) < 8 := by omega
          have hwr : IntKind.i64.wrap ((i : Int) + 1) = ((i + 1 : Nat) : Int) := by rw [i64_w]; unfold wrap64; omega
          obtain ⟨q, hq⟩ : ∃ q, placeAt i = q := ⟨_, rfl⟩
          have HQ := Aside0.mk hq
          have q0 := (place_range i hi).1
          have q1 := (place_range i hi).2
          rw [hq] at q0 q1 ⊢
          have q2 : ¬ q = 0 := by omega
          clear hq
          have HV : Aside0 ((8 * (l.length : Int) / q).tmod 256 % 256 = lenByte l.length i) := ⟨by
            rw [← len_byte l.length i hi, HQ.out, Int.mul_comm 8]
            have hnn : 0 ≤ (l.length : Int) * 8 / q := Int.ediv_nonneg (by omega) (by omega)
            rw [Int.tmod_eq_emod_of_nonneg hnn, Int.emod_emod]⟩
          go_wp2_with (first
            | ((with_reducible refine gate_builtin (b := .append) (xs := #[.tmp 27, .tmp 33]) rfl ?_); at_builtin; refine app_one (w0 := w) w.heap.size rfl (.tmp 27) (.tmp 33) rfl _ (msg2 l i) ((8 * (l.length : Int) / q).tmod 256 % 256) (by rfl) (by rfl) (by rw [HML.out]; exact HO.out) HB.out HB.out.size (by rw [HML.out]; omega) ?_; intro v4 w4 HO4 HB4)
            | fail)
          go_roundg (8 - (i + 1))
          case measure => have := HI.out; omega
          case rel =>
            refine ⟨i + 1, p + 1, ?_, by simp, ⟨rfl, by omega⟩, ⟨by have := HP.out; omega⟩, ⟨?_⟩, HB4⟩
            · rw [placeAt, HQ.out]
            · have h_ := HO4.out
              rw [HV.out, msg2_snoc, msg2_length] at h_
              have h2_ := HM.out
              have h3_ := HP.out
              rw [show p + 1 = l.length + 1 + padN l.length + (i + 1) by omega]
              exact h_
        · have d1 : decide (i < 8) = false := decide_eq_false hi
          have d2 : decide ((i : Int) < 8) = false := decide_eq_false (by omega)
          obtain rfl : i = 8 := by have := HI.out; omega
          go_wp2_with fail
          go_ret
          refine ⟨_, rfl, ⟨?_⟩, HB⟩
          rw [msg2_length]
          have h_ := HO.out
          rw [show p = l.length + 1 + padN l.length + 8 by have := HP.out; have := HM.out; omega] at h_
          rw [show l.length + 1 + padN l.length + 8 = p by have := HP.out; have := HM.out; omega] at h_ ⊢
          exact h_

end Go.Proofs.Ytchaegfdcdlfaaa.X

namespace Go.Proofs.Ytchaegfdcdlfaaa.X
open Go.RowKit Go.Proofs.YtchaegfdcdlfaaaW.PrintWords Go.Proofs.YtchaegfdcdlfaaaW.PrintLast Go.Proofs.YtchaegfdcdlfaaaW.PrintMore
attribute [local go_sem] max2_int min2_int max_two min_two max_three min_three max_four min_four   -- for this text's walks alone
set_option linter.unusedVariables false
set_option linter.unusedSimpArgs false

/-! ### rolodexref03_turned: function 166 -/
def rolodexref03_turned.f (a0 : Int) (a1 : Int) : Option (Int) := if 0 ≤ a1 then (some (Go.bits .or .u32 (shr .u32 a0 a1) (shl .u32 a0 ((32 - a1) % 4294967296)))) else (none)
set_option maxHeartbeats 8000000 in
set_option maxRecDepth 100000 in
theorem rolodexref03_turned.calls (a0 : Int) (a1 : Int) (r : Int) (w : World) (h : rolodexref03_turned.f a0 a1 = some r) :
    Calls Try.prog 166 #[.int .u32 a0, .int .u32 a1] w fun e w' => e = .returned (.int .u32 r) ∧ Drawn0 w w' := by
  have H : (if 0 ≤ a1 then (some (Go.bits .or .u32 (shr .u32 a0 a1) (shl .u32 a0 ((32 - a1) % 4294967296)))) else (none)) = some r := h
  clear h
  by_cases c3 : 0 ≤ a1
  · rw [if_pos c3] at H
    have c3b0 := eq_true c3
    have c3b1 : decide (0 ≤ a1) = true := decide_eq_true c3
    clear c3
    obtain ⟨ji4, hji4⟩ : ∃ j_ : Int, (shr .u32 a0 a1) = j_ := ⟨_, rfl⟩
    replace H : (some (Go.bits .or .u32 (ji4) (shl .u32 a0 ((32 - a1) % 4294967296)))) = some r := by first | (rw [hji4] at H; exact H) | (simp only [hji4] at H ⊢; exact H)
    have hji4_ : (a0 / 2 ^ min a1.toNat 32) = ji4 := hji4
    have hji4z : a1 ≤ 32 → (a0 / 2 ^ a1.toNat) = ji4 := shr_small hji4
    obtain ⟨ji5, hji5⟩ : ∃ j_ : Int, (shl .u32 a0 ((32 - a1) % 4294967296)) = j_ := ⟨_, rfl⟩
    replace H : (some (Go.bits .or .u32 (ji4) (ji5))) = some r := by first | (rw [hji5] at H; exact H) | (simp only [hji5] at H ⊢; exact H)
    have hji5_ : (IntKind.u32.wrap (a0 * 2 ^ min ((32 - a1) % 4294967296).toNat 32)) = ji5 := hji5
    have hji5z : ((32 - a1) % 4294967296) ≤ 32 → (IntKind.u32.wrap (a0 * 2 ^ ((32 - a1) % 4294967296).toNat)) = ji5 := shl_small hji5
    have c9_ : (0 ≤ (32 - a1) % 4294967296) = True := eq_true (by omega)
    have c9b_ : 0 ≤ (32 - a1) % 4294967296 := by omega
    obtain rfl := Option.some.inj H
    go_enter Try.func166, Try.ntmps166
    go_wp2
    go_ret
    exact ⟨by first | rfl | (simp; done) | (simp only [← hji4, ← hji5] <;> (first | rfl | simp)) | (simp [*]; done), by repeat (first | exact Drawn0.refl _ | apply Drawn0.step)⟩
  · rw [if_neg c3] at H
    exact absurd H (by simp)

end Go.Proofs.Ytchaegfdcdlfaaa.X

namespace Go.Proofs.Ytchaegfdcdlfaaa.X
open Go.RowKit Go.Proofs.YtchaegfdcdlfaaaW.PrintWords Go.Proofs.YtchaegfdcdlfaaaW.PrintLast Go.Proofs.YtchaegfdcdlfaaaW.PrintMore
attribute [local go_sem] max2_int min2_int max_two min_two max_three min_three max_four min_four   -- for this text's walks alone
set_option linter.unusedVariables false
set_option linter.unusedSimpArgs false

/-! ### rolodexref03_words: function 165 -/
mutual
def rolodexref03_words.l0 : Nat → List Int → List Int → Int → Option (List Int)
  | 0, _, _, _ => none
  | k + 1, x0, x3, x4 => if x4 < 16 then (if 0 ≤ (wrap64 (4 * x4)) then (if (wrap64 (4 * x4)) < (x0.length : Int) then (if 0 ≤ (wrap64 ((wrap64 (4 * x4)) + 1)) then (if (wrap64 ((wrap64 (4 * x4)) + 1)) < (x0.length : Int) then (if 0 ≤ (wrap64 ((wrap64 (4 * x4)) + 2)) then (if (wrap64 ((wrap64 (4 * x4)) + 2)) < (x0.length : Int) then (if 0 ≤ (wrap64 ((wrap64 (4 * x4)) + 3)) then (if (wrap64 ((wrap64 (4 * x4)) + 3)) < (x0.length : Int) then (if x3.length < 35184372088832 then (rolodexref03_words.l0 k x0 (x3 ++ [(((((((16777216 * ((rd x0 (wrap64 (4 * x4))) % 4294967296)) % 4294967296) + ((65536 * ((rd x0 (wrap64 ((wrap64 (4 * x4)) + 1))) % 4294967296)) % 4294967296)) % 4294967296) + ((256 * ((rd x0 (wrap64 ((wrap64 (4 * x4)) + 2))) % 4294967296)) % 4294967296)) % 4294967296) + ((rd x0 (wrap64 ((wrap64 (4 * x4)) + 3))) % 4294967296)) % 4294967296]) (wrap64 (x4 + 1))) else (none)) else (none)) else (none)) else (none)) else (none)) else (none)) else (none)) else (none)) else (none)) else (rolodexref03_words.l1 k x3 16)
def rolodexref03_words.l1 : Nat → List Int → Int → Option (List Int)
  | 0, _, _ => none
  | k + 1, x3, x5 => if x5 < 64 then (if 0 ≤ (wrap64 (x5 - 15)) then (if (wrap64 (x5 - 15)) < (x3.length : Int) then (if 0 ≤ (wrap64 (x5 - 2)) then (if (wrap64 (x5 - 2)) < (x3.length : Int) then ((rolodexref03_turned.f (rd x3 (wrap64 (x5 - 15))) 7).bind fun t127 => ((rolodexref03_turned.f (rd x3 (wrap64 (x5 - 15))) 18).bind fun t128 => ((rolodexref03_turned.f (rd x3 (wrap64 (x5 - 2))) 17).bind fun t129 => ((rolodexref03_turned.f (rd x3 (wrap64 (x5 - 2))) 19).bind fun t130 => (if 0 ≤ (wrap64 (x5 - 16)) then (if (wrap64 (x5 - 16)) < (x3.length : Int) then (if 0 ≤ (wrap64 (x5 - 7)) then (if (wrap64 (x5 - 7)) < (x3.length : Int) then (if x3.length < 35184372088832 then (rolodexref03_words.l1 k (x3 ++ [((((((rd x3 (wrap64 (x5 - 16))) + (Go.bits .xor .u32 (Go.bits .xor .u32 t127 t128) ((rd x3 (wrap64 (x5 - 15))) / 8))) % 4294967296) + (rd x3 (wrap64 (x5 - 7)))) % 4294967296) + (Go.bits .xor .u32 (Go.bits .xor .u32 t129 t130) ((rd x3 (wrap64 (x5 - 2))) / 1024))) % 4294967296]) (wrap64 (x5 + 1))) else (none)) else (none)) else (none)) else (none)) else (none)))))) else (none)) else (none)) else (none)) else (none)) else (some x3)
end
def rolodexref03_words.f (k : Nat) (l0 : List Int) : Option (List Int) := rolodexref03_words.l0 k l0 ([] : List Int) 0
theorem rolodexref03_words.mono_l : ∀ k, (∀ y0 y1 y2, LeO (rolodexref03_words.l0 k y0 y1 y2) (rolodexref03_words.l0 (k + 1) y0 y1 y2)) ∧ (∀ y0 y1, LeO (rolodexref03_words.l1 k y0 y1) (rolodexref03_words.l1 (k + 1) y0 y1))
  | 0 => ⟨fun _ _ _ r h => by simp [rolodexref03_words.l0] at h, fun _ _ r h => by simp [rolodexref03_words.l1] at h⟩
  | k + 1 => by
    obtain ⟨ih0, ih1⟩ := rolodexref03_words.mono_l k
    refine ⟨?_, ?_⟩
    · intro y0 y1 y2
      unfold rolodexref03_words.l0
      repeat' first
      | (with_reducible exact ih0 _ _ _)
      | (with_reducible exact ih1 _ _)
      | (with_reducible exact LeO.refl _)
      | (with_reducible exact LeO.none _)
      | (with_reducible refine LeO.ite ?_ ?_)
      | (with_reducible refine LeO.bind ?_ (fun _ => ?_))
      | exact ih0 _ _ _
      | exact ih1 _ _
      | exact LeO.none _
      | refine LeO.ite ?_ ?_
      | refine LeO.bind ?_ (fun _ => ?_)
    · intro y0 y1
      unfold rolodexref03_words.l1
      repeat' first
      | (with_reducible exact ih0 _ _ _)
      | (with_reducible exact ih1 _ _)
      | (with_reducible exact LeO.refl _)
      | (with_reducible exact LeO.none _)
      | (with_reducible refine LeO.ite ?_ ?_)
      | (with_reducible refine LeO.bind ?_ (fun _ => ?_))
      | exact ih0 _ _ _
      | exact ih1 _ _
      | exact LeO.none _
      | refine LeO.ite ?_ ?_
      | refine LeO.bind ?_ (fun _ => ?_)
theorem rolodexref03_words.mono : ∀ a0 k, LeO (rolodexref03_words.f k a0) (rolodexref03_words.f (k + 1) a0) := by
  intro a0 k
  obtain ⟨ih0, ih1⟩ := rolodexref03_words.mono_l k
  unfold rolodexref03_words.f
  repeat' first
      | (with_reducible exact ih0 _ _ _)
      | (with_reducible exact ih1 _ _)
      | (with_reducible exact LeO.refl _)
      | (with_reducible exact LeO.none _)
      | (with_reducible refine LeO.ite ?_ ?_)
      | (with_reducible refine LeO.bind ?_ (fun _ => ?_))
      | exact ih0 _ _ _
      | exact ih1 _ _
      | exact LeO.none _
      | refine LeO.ite ?_ ?_
      | refine LeO.bind ?_ (fun _ => ?_)
def rolodexref03_words.T5 : Bool × List (List Nat × List Nat) := (true, [([], []), ([], []), ([], []), ([2], [2]), ([1, 3], [1, 3]), ([4], [4]), ([5], [5]), ([6], [6]), ([], []), ([], []), ([9], [9]), ([10], [10]), ([8, 11], [8, 11]), ([12], [12]), ([13], [13]), ([14], [14]), ([7, 15], [7, 15]), ([], []), ([], []), ([18], [18]), ([19], [19]), ([17, 20], [17, 20]), ([21], [21]), ([22], [22]), ([23], [23]), ([16, 24], [16, 24]), ([], []), ([], []), ([27], [27]), ([28], [28]), ([26, 29], [26, 29]), ([30], [30]), ([31], [31]), ([25, 32], [25, 32]), ([33], [33]), ([0, 34], [0, 34]), ([35, 35, 0, 1, 2, 3, 4, 5, 6, 7, 8, 9, 10, 11, 12, 13, 14, 15, 16, 17, 18, 19, 20, 21, 22, 23, 24, 25, 26, 27, 28, 29, 30, 31, 32, 33, 34, 35], [0, 35])])
def rolodexref03_words.B5 : List Nat := [0, 0, 0, 4, 14, 30, 62, 126, 0, 0, 512, 1536, 3840, 7936, 16128, 32512, 65534, 0, 0, 262144, 786432, 1966080, 4063232, 8257536, 16646144, 33554430, 0, 0, 134217728, 402653184, 1006632960, 2080374784, 4227858432, 8589934590, 17179869182, 34359738367, 68719476735]
theorem rolodexref03_words.tab5 : rtab .any (opsOf Try.f165 5) = rolodexref03_words.T5 := by kernel_rfl
theorem rolodexref03_words.bits5 : waitsOk rolodexref03_words.T5.2 rolodexref03_words.B5 = true := by kernel_rfl
def rolodexref03_words.T13 : Bool × List (List Nat × List Nat) := (true, [([], []), ([], []), ([], []), ([2], [2]), ([1, 3], [1, 3]), ([4], [4]), ([], []), ([5, 6], [5, 6]), ([], []), ([], []), ([9], [9]), ([8, 10], [8, 10]), ([11], [11]), ([7, 12], [7, 12]), ([], []), ([13, 14], [13, 14]), ([15], [15]), ([0, 16], [0, 16]), ([17, 17, 0, 1, 2, 3, 4, 5, 6, 7, 8, 9, 10, 11, 12, 13, 14, 15, 16, 17], [0, 1, 8, 17])])
def rolodexref03_words.B13 : List Nat := [0, 0, 0, 4, 14, 30, 0, 126, 0, 0, 512, 1792, 3840, 8190, 0, 32766, 65534, 131071, 262143]
theorem rolodexref03_words.tab13 : rtab .any (opsOf Try.f165 13) = rolodexref03_words.T13 := by kernel_rfl
theorem rolodexref03_words.bits13 : waitsOk rolodexref03_words.T13.2 rolodexref03_words.B13 = true := by kernel_rfl
set_option maxHeartbeats 8000000 in
set_option maxRecDepth 100000 in
theorem rolodexref03_words.calls (k : Nat) (A0 : Option Addr) (c0 : Nat) (l0 : List Int) (r : List Int) (w : World) (hr0 : Kd.C (Kd.int .u8) w A0 l0.length l0) (hc0 : l0.length ≤ c0) (h : rolodexref03_words.f k l0 = some r) :
    Calls Try.prog 165 #[.slice A0 l0.length c0] w fun e w' => ∃ v0_ : Value, e = .returned (v0_) ∧ Kd.R (Kd.int .u32) 26 w' w.heap.size (fun _ => True) v0_ r ∧ Below w.heap.size w w' := by
  have HR0 := Aside0.mk hr0
  have HC0 := Aside0.mk hc0
  clear hr0 hc0
  have HB := Aside0.mk (Below.refl w.heap.size w)
  have H : (rolodexref03_words.l0 k l0 ([] : List Int) 0) = some r := h
  clear h
  have H' := Aside0.mk H
  clear H
  go_enter Try.func165, Try.ntmps165
  go_wp2
  go_loopg [3, 4] k (fun kq v3 v4 w' => ∃ (x3_1 : List Int) (x4_1 : Int), v4 = .int .i64 x4_1 ∧ Aside0 (rolodexref03_words.l0 kq l0 x3_1 x4_1 = some r) ∧ Aside0 (kq ≤ k) ∧ Aside0 (Kd.R (Kd.int .u32) 26 w' w.heap.size (fun _ => True) v3 x3_1) ∧ Aside0 (Below w.heap.size w w'))
  case atStart => exact ⟨(([] : List Int)), (0), (by first | rfl | (simp; done) | (simp [*]; done)), H', ⟨Nat.le_refl _⟩, ⟨by first | exact Kd.R_nil _ _ _ _ _ | exact Kd.N_nil _ _ _ _ _ | exact Kd.V_nil _ _ _ _ _ | exact Kd.Q_nil _ _ _ _ _ | exact Kd.S_nil _ _ _ _ _⟩, ⟨by repeat (first | (with_reducible first | exact HB.out | apply below_alloc | apply pw_below_drewN | apply below_drew1) | exact HB.out)⟩⟩
  case round =>
    clear H'
    try clear c1
    obtain ⟨x3_1, x4_1, rfl, HA, HK1, HO_3, HB⟩ := hrel
    cases gk with
    | zero => exact absurd HA.out (by simp [rolodexref03_words.l0])
    | succ k1 =>
      have H := HA.out
      clear HA
      simp only [rolodexref03_words.l0] at H
      by_cases c2 : x4_1 < 16
      · rw [if_pos c2] at H
        have c2b0 : decide (x4_1 < 16) = true := decide_eq_true c2
        clear c2
        obtain ⟨ji3, hji3⟩ : ∃ j_ : Int, (wrap64 (4 * x4_1)) = j_ := ⟨_, rfl⟩
        replace H : (if 0 ≤ (ji3) then (if (ji3) < (l0.length : Int) then (if 0 ≤ (wrap64 ((ji3) + 1)) then (if (wrap64 ((ji3) + 1)) < (l0.length : Int) then (if 0 ≤ (wrap64 ((ji3) + 2)) then (if (wrap64 ((ji3) + 2)) < (l0.length : Int) then (if 0 ≤ (wrap64 ((ji3) + 3)) then (if (wrap64 ((ji3) + 3)) < (l0.length : Int) then (if x3_1.length < 35184372088832 then (rolodexref03_words.l0 k1 l0 (x3_1 ++ [(((((((16777216 * ((rd l0 (ji3)) % 4294967296)) % 4294967296) + ((65536 * ((rd l0 (wrap64 ((ji3) + 1))) % 4294967296)) % 4294967296)) % 4294967296) + ((256 * ((rd l0 (wrap64 ((ji3) + 2))) % 4294967296)) % 4294967296)) % 4294967296) + ((rd l0 (wrap64 ((ji3) + 3))) % 4294967296)) % 4294967296]) (wrap64 (x4_1 + 1))) else (none)) else (none)) else (none)) else (none)) else (none)) else (none)) else (none)) else (none)) else (none)) = some r := by first | (rw [hji3] at H; exact H) | (simp only [hji3] at H ⊢; exact H)
        have hji3w : (IntKind.i64.wrap (4 * x4_1)) = ji3 := (i64_w _).trans hji3
        by_cases c4 : 0 ≤ (ji3)
        · rw [if_pos c4] at H
          have c4b0 : decide (0 ≤ (ji3)) = true := decide_eq_true c4
          clear c4
          by_cases c5 : (ji3) < (l0.length : Int)
          · rw [if_pos c5] at H
            have c5b0 : decide ((ji3) < (l0.length : Int)) = true := decide_eq_true c5
            clear c5
            obtain ⟨ji6, hji6⟩ : ∃ j_ : Int, (wrap64 ((ji3) + 1)) = j_ := ⟨_, rfl⟩
            replace H : (if 0 ≤ (ji6) then (if (ji6) < (l0.length : Int) then (if 0 ≤ (wrap64 ((ji3) + 2)) then (if (wrap64 ((ji3) + 2)) < (l0.length : Int) then (if 0 ≤ (wrap64 ((ji3) + 3)) then (if (wrap64 ((ji3) + 3)) < (l0.length : Int) then (if x3_1.length < 35184372088832 then (rolodexref03_words.l0 k1 l0 (x3_1 ++ [(((((((16777216 * ((rd l0 (ji3)) % 4294967296)) % 4294967296) + ((65536 * ((rd l0 (ji6)) % 4294967296)) % 4294967296)) % 4294967296) + ((256 * ((rd l0 (wrap64 ((ji3) + 2))) % 4294967296)) % 4294967296)) % 4294967296) + ((rd l0 (wrap64 ((ji3) + 3))) % 4294967296)) % 4294967296]) (wrap64 (x4_1 + 1))) else (none)) else (none)) else (none)) else (none)) else (none)) else (none)) else (none)) = some r := by first | (rw [hji6] at H; exact H) | (simp only [hji6] at H ⊢; exact H)
            have hji6w : (IntKind.i64.wrap ((ji3) + 1)) = ji6 := (i64_w _).trans hji6
            by_cases c7 : 0 ≤ (ji6)
            · rw [if_pos c7] at H
              have c7b0 : decide (0 ≤ (ji6)) = true := decide_eq_true c7
              clear c7
              by_cases c8 : (ji6) < (l0.length : Int)
              · rw [if_pos c8] at H
                have c8b0 : decide ((ji6) < (l0.length : Int)) = true := decide_eq_true c8
                clear c8
                obtain ⟨ji9, hji9⟩ : ∃ j_ : Int, (wrap64 ((ji3) + 2)) = j_ := ⟨_, rfl⟩
                replace H : (if 0 ≤ (ji9) then (if (ji9) < (l0.length : Int) then (if 0 ≤ (wrap64 ((ji3) + 3)) then (if (wrap64 ((ji3) + 3)) < (l0.length : Int) then (if x3_1.length < 35184372088832 then (rolodexref03_words.l0 k1 l0 (x3_1 ++ [(((((((16777216 * ((rd l0 (ji3)) % 4294967296)) % 4294967296) + ((65536 * ((rd l0 (ji6)) % 4294967296)) % 4294967296)) % 4294967296) + ((256 * ((rd l0 (ji9)) % 4294967296)) % 4294967296)) % 4294967296) + ((rd l0 (wrap64 ((ji3) + 3))) % 4294967296)) % 4294967296]) (wrap64 (x4_1 + 1))) else (none)) else (none)) else (none)) else (none)) else (none)) = some r := by first | (rw [hji9] at H; exact H) | (simp only [hji9] at H ⊢; exact H)
                have hji9w : (IntKind.i64.wrap ((ji3) + 2)) = ji9 := (i64_w _).trans hji9
                by_cases c10 : 0 ≤ (ji9)
                · rw [if_pos c10] at H
                  have c10b0 : decide (0 ≤ (ji9)) = true := decide_eq_true c10
                  clear c10
                  by_cases c11 : (ji9) < (l0.length : Int)
                  · rw [if_pos c11] at H
                    have c11b0 : decide ((ji9) < (l0.length : Int)) = true := decide_eq_true c11
                    clear c11
                    obtain ⟨ji12, hji12⟩ : ∃ j_ : Int, (wrap64 ((ji3) + 3)) = j_ := ⟨_, rfl⟩
                    replace H : (if 0 ≤ (ji12) then (if (ji12) < (l0.length : Int) then (if x3_1.length < 35184372088832 then (rolodexref03_words.l0 k1 l0 (x3_1 ++ [(((((((16777216 * ((rd l0 (ji3)) % 4294967296)) % 4294967296) + ((65536 * ((rd l0 (ji6)) % 4294967296)) % 4294967296)) % 4294967296) + ((256 * ((rd l0 (ji9)) % 4294967296)) % 4294967296)) % 4294967296) + ((rd l0 (ji12)) % 4294967296)) % 4294967296]) (wrap64 (x4_1 + 1))) else (none)) else (none)) else (none)) = some r := by first | (rw [hji12] at H; exact H) | (simp only [hji12] at H ⊢; exact H)
                    have hji12w : (IntKind.i64.wrap ((ji3) + 3)) = ji12 := (i64_w _).trans hji12
                    by_cases c13 : 0 ≤ (ji12)
                    · rw [if_pos c13] at H
                      have c13b0 : decide (0 ≤ (ji12)) = true := decide_eq_true c13
                      clear c13
                      by_cases c14 : (ji12) < (l0.length : Int)
                      · rw [if_pos c14] at H
                        have c14b0 : decide ((ji12) < (l0.length : Int)) = true := decide_eq_true c14
                        clear c14
                        by_cases c15 : x3_1.length < 35184372088832
                        · rw [if_pos c15] at H
                          have LMc15 := Aside0.mk c15
                          clear c15
                          obtain ⟨y122, hy122⟩ : ∃ y_ : List Int, y_ = (x3_1 ++ [(((((((16777216 * ((rd l0 (ji3)) % 4294967296)) % 4294967296) + ((65536 * ((rd l0 (ji6)) % 4294967296)) % 4294967296)) % 4294967296) + ((256 * ((rd l0 (ji9)) % 4294967296)) % 4294967296)) % 4294967296) + ((rd l0 (ji12)) % 4294967296)) % 4294967296]) := ⟨_, rfl⟩
                          replace H : (rolodexref03_words.l0 k1 l0 y122 (wrap64 (x4_1 + 1))) = some r := by first | (rw [hy122]; with_reducible exact H) | (have H2_ := (Option.bind_some _ _).symm.trans H; rw [hy122]; with_reducible exact H2_) | (have H2_ := (Option.bind_some _ _).symm.trans H; with_reducible exact H2_) | with_reducible exact H | (rw [hy122]; exact H) | exact H
                          have Ny122 := Aside0.mk hy122
                          clear hy122
                          have H' := Aside0.mk H
                          clear H
                          try go_wp2
                          have n0_ := Aside0.mk (Kd.R_drew HO_3.out)
                          have n1_ := Aside0.mk (below_drew1 HB.out)
                          clear HO_3
                          clear HB
                          have HO_3 := n0_
                          have HB := n1_
                          clear n0_ n1_
                          have p118 : 0 ≤ ((ji3) : Int) := of_decide_eq_true (by first | (with_reducible assumption) | assumption)
                          have q118 : (ji3) < (l0.length : Int) := of_decide_eq_true (by first | (with_reducible assumption) | assumption)
                          obtain ⟨ad118, e118, hx118_0⟩ := Kd.at_int HR0.out (ji3) p118 q118
                          have hw118_0 := hx118_0
                          cases e118
                          replace hx118_0 := (HB.out.cell (World.block_lt_of_cell? w _ hx118_0)).trans hx118_0
                          replace p118 := eq_true p118
                          replace q118 := eq_true q118
                          have p119 : 0 ≤ ((ji6) : Int) := of_decide_eq_true (by first | (with_reducible assumption) | assumption)
                          have q119 : (ji6) < (l0.length : Int) := of_decide_eq_true (by first | (with_reducible assumption) | assumption)
                          obtain ⟨ad119, e119, hx119_0⟩ := Kd.at_int HR0.out (ji6) p119 q119
                          have hw119_0 := hx119_0
                          obtain rfl : ad118 = ad119 := (by injection e119)
                          replace hx119_0 := (HB.out.cell (World.block_lt_of_cell? w _ hx119_0)).trans hx119_0
                          replace p119 := eq_true p119
                          replace q119 := eq_true q119
                          have p120 : 0 ≤ ((ji9) : Int) := of_decide_eq_true (by first | (with_reducible assumption) | assumption)
                          have q120 : (ji9) < (l0.length : Int) := of_decide_eq_true (by first | (with_reducible assumption) | assumption)
                          obtain ⟨ad120, e120, hx120_0⟩ := Kd.at_int HR0.out (ji9) p120 q120
                          have hw120_0 := hx120_0
                          obtain rfl : ad118 = ad120 := (by injection e120)
                          replace hx120_0 := (HB.out.cell (World.block_lt_of_cell? w _ hx120_0)).trans hx120_0
                          replace p120 := eq_true p120
                          replace q120 := eq_true q120
                          have p121 : 0 ≤ ((ji12) : Int) := of_decide_eq_true (by first | (with_reducible assumption) | assumption)
                          have q121 : (ji12) < (l0.length : Int) := of_decide_eq_true (by first | (with_reducible assumption) | assumption)
                          obtain ⟨ad121, e121, hx121_0⟩ := Kd.at_int HR0.out (ji12) p121 q121
                          have hw121_0 := hx121_0
                          obtain rfl : ad118 = ad121 := (by injection e121)
                          replace hx121_0 := (HB.out.cell (World.block_lt_of_cell? w _ hx121_0)).trans hx121_0
                          replace p121 := eq_true p121
                          replace q121 := eq_true q121
                          refine start_ (n := 37) (S := fun w' => w'.cell? (ad118.add ((ji3)).toNat) = some (.int .u8 (rd l0 (ji3))) ∧ w'.cell? (ad118.add ((ji6)).toNat) = some (.int .u8 (rd l0 (ji6))) ∧ w'.cell? (ad118.add ((ji9)).toNat) = some (.int .u8 (rd l0 (ji9))) ∧ w'.cell? (ad118.add ((ji12)).toNat) = some (.int .u8 (rd l0 (ji12)))) (ds := []) #[false, false, false, false, false, false, false, false, false, false, false, false, false, false, false, false, false, false, false, false, false, false, false, false, false, false, false, false, false, false, false, false, false, false, false, false, false] (by kernel_rfl) rfl rfl ⟨((HB.out.cell (World.block_lt_of_cell? w _ hw118_0)).trans hw118_0), ((HB.out.cell (World.block_lt_of_cell? w _ hw119_0)).trans hw119_0), ((HB.out.cell (World.block_lt_of_cell? w _ hw120_0)).trans hw120_0), ((HB.out.cell (World.block_lt_of_cell? w _ hw121_0)).trans hw121_0)⟩ (fun hHeld => ?_); refine with_tabW rolodexref03_words.tab5 rolodexref03_words.bits5 (fun HT_ HW_ => ?_)
                          generalize wr.drew = w16 at HO_3 HB hx118_0 hx119_0 hx120_0 hx121_0 hHeld ⊢
                          refine pure_ (i := 0) (N := some 14) (v := ?_) (a' := ?_) #[true, false, false, false, false, false, false, false, false, false, false, false, false, false, false, false, false, false, false, false, false, false, false, false, false, false, false, false, false, false, false, false, false, false, false, false, false] rfl rfl (any_of HT_.out (by kernel_rfl)) (fun _ _ _ h => h) (Or.inl ⟨by rfl, ?_⟩) ?_ ?_
                          rotate_left
                          · intro w'
                            go_simp
                            with_reducible rfl
                          rotate_left
                          · simp only [Act.put, List.setIfInBounds_toArray, List.set_cons_zero, List.set_cons_succ, i64_w, i32_w]
                            rfl
                          refine pure_ (i := 1) (N := some 15) (v := ?_) (a' := ?_) #[true, true, false, false, false, false, false, false, false, false, false, false, false, false, false, false, false, false, false, false, false, false, false, false, false, false, false, false, false, false, false, false, false, false, false, false, false] rfl rfl (any_of HT_.out (by kernel_rfl)) (fun _ _ _ h => h) (Or.inl ⟨by rfl, ?_⟩) ?_ ?_
                          rotate_left
                          · intro w'
                            go_simp
                            with_reducible rfl
                          rotate_left
                          · simp only [Act.put, List.setIfInBounds_toArray, List.set_cons_zero, List.set_cons_succ, i64_w, i32_w]
                            rfl
                          refine pure_ (i := 2) (N := some 16) (v := ?_) (a' := ?_) #[true, true, true, false, false, false, false, false, false, false, false, false, false, false, false, false, false, false, false, false, false, false, false, false, false, false, false, false, false, false, false, false, false, false, false, false, false] rfl rfl (any_of HT_.out (by kernel_rfl)) (fun _ _ _ h => h) (Or.inl ⟨by rfl, ?_⟩) ?_ ?_
                          rotate_left
                          · intro w'
                            go_simp
                            with_reducible rfl
                          rotate_left
                          · simp only [Act.put, List.setIfInBounds_toArray, List.set_cons_zero, List.set_cons_succ, i64_w, i32_w]
                            rfl
                          refine pure_ (i := 3) (N := some 17) (v := ?_) (a' := ?_) #[true, true, true, true, false, false, false, false, false, false, false, false, false, false, false, false, false, false, false, false, false, false, false, false, false, false, false, false, false, false, false, false, false, false, false, false, false] rfl rfl (any_of HT_.out (by kernel_rfl)) (fun _ _ _ h => h) (Or.inl ⟨by rfl, ?_⟩) ?_ ?_
                          rotate_left
                          · intro w'
                            go_simp
                            with_reducible rfl
                          rotate_left
                          · simp only [Act.put, List.setIfInBounds_toArray, List.set_cons_zero, List.set_cons_succ, i64_w, i32_w]
                            rfl
                          refine pure_ (i := 4) (N := some 18) (v := ?_) (a' := ?_) #[true, true, true, true, true, false, false, false, false, false, false, false, false, false, false, false, false, false, false, false, false, false, false, false, false, false, false, false, false, false, false, false, false, false, false, false, false] rfl rfl (any_of HT_.out (by kernel_rfl)) (fun _ _ _ h => h) (Or.inl ⟨by rfl, ?_⟩) ?_ ?_
                          rotate_left
                          · intro w'
                            go_simp
                            with_reducible rfl
                          rotate_left
                          · simp only [Act.put, List.setIfInBounds_toArray, List.set_cons_zero, List.set_cons_succ, i64_w, i32_w]
                            rfl
                          refine pure_ (i := 8) (N := some 22) (v := ?_) (a' := ?_) #[true, true, true, true, true, false, false, false, true, false, false, false, false, false, false, false, false, false, false, false, false, false, false, false, false, false, false, false, false, false, false, false, false, false, false, false, false] rfl rfl (any_of HT_.out (by kernel_rfl)) (fun _ _ _ h => h) (Or.inl ⟨by rfl, ?_⟩) ?_ ?_
                          rotate_left
                          · intro w'
                            go_simp
                            with_reducible rfl
                          rotate_left
                          · simp only [Act.put, List.setIfInBounds_toArray, List.set_cons_zero, List.set_cons_succ, i64_w, i32_w]
                            rfl
                          refine pure_ (i := 9) (N := some 23) (v := ?_) (a' := ?_) #[true, true, true, true, true, false, false, false, true, true, false, false, false, false, false, false, false, false, false, false, false, false, false, false, false, false, false, false, false, false, false, false, false, false, false, false, false] rfl rfl (any_of HT_.out (by kernel_rfl)) (fun _ _ _ h => h) (Or.inl ⟨by rfl, ?_⟩) ?_ ?_
                          rotate_left
                          · intro w'
                            go_simp
                            with_reducible rfl
                          rotate_left
                          · simp only [Act.put, List.setIfInBounds_toArray, List.set_cons_zero, List.set_cons_succ, i64_w, i32_w]
                            rfl
                          refine pure_ (i := 10) (N := some 24) (v := ?_) (a' := ?_) #[true, true, true, true, true, false, false, false, true, true, true, false, false, false, false, false, false, false, false, false, false, false, false, false, false, false, false, false, false, false, false, false, false, false, false, false, false] rfl rfl (any_of HT_.out (by kernel_rfl)) (fun _ _ _ h => h) (Or.inl ⟨by rfl, ?_⟩) ?_ ?_
                          rotate_left
                          · intro w'
                            go_simp
                            with_reducible rfl
                          rotate_left
                          · simp only [Act.put, List.setIfInBounds_toArray, List.set_cons_zero, List.set_cons_succ, i64_w, i32_w]
                            rfl
                          refine pure_ (i := 11) (N := some 25) (v := ?_) (a' := ?_) #[true, true, true, true, true, false, false, false, true, true, true, true, false, false, false, false, false, false, false, false, false, false, false, false, false, false, false, false, false, false, false, false, false, false, false, false, false] rfl rfl (any_of HT_.out (by kernel_rfl)) (fun _ _ _ h => h) (Or.inl ⟨by rfl, ?_⟩) ?_ ?_
                          rotate_left
                          · intro w'
                            go_simp
                            with_reducible rfl
                          rotate_left
                          · simp only [Act.put, List.setIfInBounds_toArray, List.set_cons_zero, List.set_cons_succ, i64_w, i32_w]
                            rfl
                          refine pure_ (i := 12) (N := some 26) (v := ?_) (a' := ?_) #[true, true, true, true, true, false, false, false, true, true, true, true, true, false, false, false, false, false, false, false, false, false, false, false, false, false, false, false, false, false, false, false, false, false, false, false, false] rfl rfl (any_of HT_.out (by kernel_rfl)) (fun _ _ _ h => h) (Or.inl ⟨by rfl, ?_⟩) ?_ ?_
                          rotate_left
                          · intro w'
                            go_simp
                            with_reducible rfl
                          rotate_left
                          · simp only [Act.put, List.setIfInBounds_toArray, List.set_cons_zero, List.set_cons_succ, i64_w, i32_w]
                            rfl
                          refine pure_ (i := 17) (N := some 31) (v := ?_) (a' := ?_) #[true, true, true, true, true, false, false, false, true, true, true, true, true, false, false, false, false, true, false, false, false, false, false, false, false, false, false, false, false, false, false, false, false, false, false, false, false] rfl rfl (any_of HT_.out (by kernel_rfl)) (fun _ _ _ h => h) (Or.inl ⟨by rfl, ?_⟩) ?_ ?_
                          rotate_left
                          · intro w'
                            go_simp
                            with_reducible rfl
                          rotate_left
                          · simp only [Act.put, List.setIfInBounds_toArray, List.set_cons_zero, List.set_cons_succ, i64_w, i32_w]
                            rfl
                          refine pure_ (i := 18) (N := some 32) (v := ?_) (a' := ?_) #[true, true, true, true, true, false, false, false, true, true, true, true, true, false, false, false, false, true, true, false, false, false, false, false, false, false, false, false, false, false, false, false, false, false, false, false, false] rfl rfl (any_of HT_.out (by kernel_rfl)) (fun _ _ _ h => h) (Or.inl ⟨by rfl, ?_⟩) ?_ ?_
                          rotate_left
                          · intro w'
                            go_simp
                            with_reducible rfl
                          rotate_left
                          · simp only [Act.put, List.setIfInBounds_toArray, List.set_cons_zero, List.set_cons_succ, i64_w, i32_w]
                            rfl
                          refine pure_ (i := 19) (N := some 33) (v := ?_) (a' := ?_) #[true, true, true, true, true, false, false, false, true, true, true, true, true, false, false, false, false, true, true, true, false, false, false, false, false, false, false, false, false, false, false, false, false, false, false, false, false] rfl rfl (any_of HT_.out (by kernel_rfl)) (fun _ _ _ h => h) (Or.inl ⟨by rfl, ?_⟩) ?_ ?_
                          rotate_left
                          · intro w'
                            go_simp
                            with_reducible rfl
                          rotate_left
                          · simp only [Act.put, List.setIfInBounds_toArray, List.set_cons_zero, List.set_cons_succ, i64_w, i32_w]
                            rfl
                          refine pure_ (i := 20) (N := some 34) (v := ?_) (a' := ?_) #[true, true, true, true, true, false, false, false, true, true, true, true, true, false, false, false, false, true, true, true, true, false, false, false, false, false, false, false, false, false, false, false, false, false, false, false, false] rfl rfl (any_of HT_.out (by kernel_rfl)) (fun _ _ _ h => h) (Or.inl ⟨by rfl, ?_⟩) ?_ ?_
                          rotate_left
                          · intro w'
                            go_simp
                            with_reducible rfl
                          rotate_left
                          · simp only [Act.put, List.setIfInBounds_toArray, List.set_cons_zero, List.set_cons_succ, i64_w, i32_w]
                            rfl
                          refine pure_ (i := 21) (N := some 35) (v := ?_) (a' := ?_) #[true, true, true, true, true, false, false, false, true, true, true, true, true, false, false, false, false, true, true, true, true, true, false, false, false, false, false, false, false, false, false, false, false, false, false, false, false] rfl rfl (any_of HT_.out (by kernel_rfl)) (fun _ _ _ h => h) (Or.inl ⟨by rfl, ?_⟩) ?_ ?_
                          rotate_left
                          · intro w'
                            go_simp
                            with_reducible rfl
                          rotate_left
                          · simp only [Act.put, List.setIfInBounds_toArray, List.set_cons_zero, List.set_cons_succ, i64_w, i32_w]
                            rfl
                          refine pure_ (i := 26) (N := some 40) (v := ?_) (a' := ?_) #[true, true, true, true, true, false, false, false, true, true, true, true, true, false, false, false, false, true, true, true, true, true, false, false, false, false, true, false, false, false, false, false, false, false, false, false, false] rfl rfl (any_of HT_.out (by kernel_rfl)) (fun _ _ _ h => h) (Or.inl ⟨by rfl, ?_⟩) ?_ ?_
                          rotate_left
                          · intro w'
                            go_simp
                            with_reducible rfl
                          rotate_left
                          · simp only [Act.put, List.setIfInBounds_toArray, List.set_cons_zero, List.set_cons_succ, i64_w, i32_w]
                            rfl
                          refine pure_ (i := 27) (N := some 41) (v := ?_) (a' := ?_) #[true, true, true, true, true, false, false, false, true, true, true, true, true, false, false, false, false, true, true, true, true, true, false, false, false, false, true, true, false, false, false, false, false, false, false, false, false] rfl rfl (any_of HT_.out (by kernel_rfl)) (fun _ _ _ h => h) (Or.inl ⟨by rfl, ?_⟩) ?_ ?_
                          rotate_left
                          · intro w'
                            go_simp
                            with_reducible rfl
                          rotate_left
                          · simp only [Act.put, List.setIfInBounds_toArray, List.set_cons_zero, List.set_cons_succ, i64_w, i32_w]
                            rfl
                          refine pure_ (i := 28) (N := some 42) (v := ?_) (a' := ?_) #[true, true, true, true, true, false, false, false, true, true, true, true, true, false, false, false, false, true, true, true, true, true, false, false, false, false, true, true, true, false, false, false, false, false, false, false, false] rfl rfl (any_of HT_.out (by kernel_rfl)) (fun _ _ _ h => h) (Or.inl ⟨by rfl, ?_⟩) ?_ ?_
                          rotate_left
                          · intro w'
                            go_simp
                            with_reducible rfl
                          rotate_left
                          · simp only [Act.put, List.setIfInBounds_toArray, List.set_cons_zero, List.set_cons_succ, i64_w, i32_w]
                            rfl
                          refine pure_ (i := 29) (N := some 43) (v := ?_) (a' := ?_) #[true, true, true, true, true, false, false, false, true, true, true, true, true, false, false, false, false, true, true, true, true, true, false, false, false, false, true, true, true, true, false, false, false, false, false, false, false] rfl rfl (any_of HT_.out (by kernel_rfl)) (fun _ _ _ h => h) (Or.inl ⟨by rfl, ?_⟩) ?_ ?_
                          rotate_left
                          · intro w'
                            go_simp
                            with_reducible rfl
                          rotate_left
                          · simp only [Act.put, List.setIfInBounds_toArray, List.set_cons_zero, List.set_cons_succ, i64_w, i32_w]
                            rfl
                          refine pure_ (i := 30) (N := some 44) (v := ?_) (a' := ?_) #[true, true, true, true, true, false, false, false, true, true, true, true, true, false, false, false, false, true, true, true, true, true, false, false, false, false, true, true, true, true, true, false, false, false, false, false, false] rfl rfl (any_of HT_.out (by kernel_rfl)) (fun _ _ _ h => h) (Or.inl ⟨by rfl, ?_⟩) ?_ ?_
                          rotate_left
                          · intro w'
                            go_simp
                            with_reducible rfl
                          rotate_left
                          · simp only [Act.put, List.setIfInBounds_toArray, List.set_cons_zero, List.set_cons_succ, i64_w, i32_w]
                            rfl
                          refine take_ (i := 5) (N := some 19) (v := ?_) (a' := ?_) #[true, true, true, true, true, true, false, false, true, true, true, true, true, false, false, false, false, true, true, true, true, true, false, false, false, false, true, true, true, true, true, false, false, false, false, false, false] rfl rfl (take_ofW HT_.out HW_.out (by kernel_rfl)) (fun _ _ _ h => h) (Or.inl ⟨by rfl, ?_⟩) hHeld ?_ ?_
                          rotate_left
                          · rintro w' ⟨s0, s1, s2, s3⟩
                            go_simp
                            with_reducible rfl
                          rotate_left
                          · simp only [Act.put, List.setIfInBounds_toArray, List.set_cons_zero, List.set_cons_succ, i64_w, i32_w]
                            rfl
                          refine pure_ (i := 6) (N := some 20) (v := ?_) (a' := ?_) #[true, true, true, true, true, true, true, false, true, true, true, true, true, false, false, false, false, true, true, true, true, true, false, false, false, false, true, true, true, true, true, false, false, false, false, false, false] rfl rfl (any_of HT_.out (by kernel_rfl)) (fun _ _ _ h => h) (Or.inl ⟨by rfl, ?_⟩) ?_ ?_
                          rotate_left
                          · intro w'
                            go_simp
                            with_reducible rfl
                          rotate_left
                          · simp only [Act.put, List.setIfInBounds_toArray, List.set_cons_zero, List.set_cons_succ, i64_w, i32_w]
                            rfl
                          refine pure_ (i := 7) (N := some 21) (v := ?_) (a' := ?_) #[true, true, true, true, true, true, true, true, true, true, true, true, true, false, false, false, false, true, true, true, true, true, false, false, false, false, true, true, true, true, true, false, false, false, false, false, false] rfl rfl (any_of HT_.out (by kernel_rfl)) (fun _ _ _ h => h) (Or.inl ⟨by rfl, ?_⟩) ?_ ?_
                          rotate_left
                          · intro w'
                            go_simp
                            with_reducible rfl
                          rotate_left
                          · simp only [Act.put, List.setIfInBounds_toArray, List.set_cons_zero, List.set_cons_succ, i64_w, i32_w]
                            rfl
                          refine take_ (i := 13) (N := some 27) (v := ?_) (a' := ?_) #[true, true, true, true, true, true, true, true, true, true, true, true, true, true, false, false, false, true, true, true, true, true, false, false, false, false, true, true, true, true, true, false, false, false, false, false, false] rfl rfl (take_ofW HT_.out HW_.out (by kernel_rfl)) (fun _ _ _ h => h) (Or.inl ⟨by rfl, ?_⟩) hHeld ?_ ?_
                          rotate_left
                          · rintro w' ⟨s0, s1, s2, s3⟩
                            go_simp
                            with_reducible rfl
                          rotate_left
                          · simp only [Act.put, List.setIfInBounds_toArray, List.set_cons_zero, List.set_cons_succ, i64_w, i32_w]
                            rfl
                          refine pure_ (i := 14) (N := some 28) (v := ?_) (a' := ?_) #[true, true, true, true, true, true, true, true, true, true, true, true, true, true, true, false, false, true, true, true, true, true, false, false, false, false, true, true, true, true, true, false, false, false, false, false, false] rfl rfl (any_of HT_.out (by kernel_rfl)) (fun _ _ _ h => h) (Or.inl ⟨by rfl, ?_⟩) ?_ ?_
                          rotate_left
                          · intro w'
                            go_simp
                            with_reducible rfl
                          rotate_left
                          · simp only [Act.put, List.setIfInBounds_toArray, List.set_cons_zero, List.set_cons_succ, i64_w, i32_w]
                            rfl
                          refine pure_ (i := 15) (N := some 29) (v := ?_) (a' := ?_) #[true, true, true, true, true, true, true, true, true, true, true, true, true, true, true, true, false, true, true, true, true, true, false, false, false, false, true, true, true, true, true, false, false, false, false, false, false] rfl rfl (any_of HT_.out (by kernel_rfl)) (fun _ _ _ h => h) (Or.inl ⟨by rfl, ?_⟩) ?_ ?_
                          rotate_left
                          · intro w'
                            go_simp
                            with_reducible rfl
                          rotate_left
                          · simp only [Act.put, List.setIfInBounds_toArray, List.set_cons_zero, List.set_cons_succ, i64_w, i32_w]
                            rfl
                          refine pure_ (i := 16) (N := some 30) (v := ?_) (a' := ?_) #[true, true, true, true, true, true, true, true, true, true, true, true, true, true, true, true, true, true, true, true, true, true, false, false, false, false, true, true, true, true, true, false, false, false, false, false, false] rfl rfl (any_of HT_.out (by kernel_rfl)) (fun _ _ _ h => h) (Or.inl ⟨by rfl, ?_⟩) ?_ ?_
                          rotate_left
                          · intro w'
                            go_simp
                            with_reducible rfl
                          rotate_left
                          · simp only [Act.put, List.setIfInBounds_toArray, List.set_cons_zero, List.set_cons_succ, i64_w, i32_w]
                            rfl
                          refine take_ (i := 22) (N := some 36) (v := ?_) (a' := ?_) #[true, true, true, true, true, true, true, true, true, true, true, true, true, true, true, true, true, true, true, true, true, true, true, false, false, false, true, true, true, true, true, false, false, false, false, false, false] rfl rfl (take_ofW HT_.out HW_.out (by kernel_rfl)) (fun _ _ _ h => h) (Or.inl ⟨by rfl, ?_⟩) hHeld ?_ ?_
                          rotate_left
                          · rintro w' ⟨s0, s1, s2, s3⟩
                            go_simp
                            with_reducible rfl
                          rotate_left
                          · simp only [Act.put, List.setIfInBounds_toArray, List.set_cons_zero, List.set_cons_succ, i64_w, i32_w]
                            rfl
                          refine pure_ (i := 23) (N := some 37) (v := ?_) (a' := ?_) #[true, true, true, true, true, true, true, true, true, true, true, true, true, true, true, true, true, true, true, true, true, true, true, true, false, false, true, true, true, true, true, false, false, false, false, false, false] rfl rfl (any_of HT_.out (by kernel_rfl)) (fun _ _ _ h => h) (Or.inl ⟨by rfl, ?_⟩) ?_ ?_
                          rotate_left
                          · intro w'
                            go_simp
                            with_reducible rfl
                          rotate_left
                          · simp only [Act.put, List.setIfInBounds_toArray, List.set_cons_zero, List.set_cons_succ, i64_w, i32_w]
                            rfl
                          refine pure_ (i := 24) (N := some 38) (v := ?_) (a' := ?_) #[true, true, true, true, true, true, true, true, true, true, true, true, true, true, true, true, true, true, true, true, true, true, true, true, true, false, true, true, true, true, true, false, false, false, false, false, false] rfl rfl (any_of HT_.out (by kernel_rfl)) (fun _ _ _ h => h) (Or.inl ⟨by rfl, ?_⟩) ?_ ?_
                          rotate_left
                          · intro w'
                            go_simp
                            with_reducible rfl
                          rotate_left
                          · simp only [Act.put, List.setIfInBounds_toArray, List.set_cons_zero, List.set_cons_succ, i64_w, i32_w]
                            rfl
                          refine pure_ (i := 25) (N := some 39) (v := ?_) (a' := ?_) #[true, true, true, true, true, true, true, true, true, true, true, true, true, true, true, true, true, true, true, true, true, true, true, true, true, true, true, true, true, true, true, false, false, false, false, false, false] rfl rfl (any_of HT_.out (by kernel_rfl)) (fun _ _ _ h => h) (Or.inl ⟨by rfl, ?_⟩) ?_ ?_
                          rotate_left
                          · intro w'
                            go_simp
                            with_reducible rfl
                          rotate_left
                          · simp only [Act.put, List.setIfInBounds_toArray, List.set_cons_zero, List.set_cons_succ, i64_w, i32_w]
                            rfl
                          refine take_ (i := 31) (N := some 45) (v := ?_) (a' := ?_) #[true, true, true, true, true, true, true, true, true, true, true, true, true, true, true, true, true, true, true, true, true, true, true, true, true, true, true, true, true, true, true, true, false, false, false, false, false] rfl rfl (take_ofW HT_.out HW_.out (by kernel_rfl)) (fun _ _ _ h => h) (Or.inl ⟨by rfl, ?_⟩) hHeld ?_ ?_
                          rotate_left
                          · rintro w' ⟨s0, s1, s2, s3⟩
                            go_simp
                            with_reducible rfl
                          rotate_left
                          · simp only [Act.put, List.setIfInBounds_toArray, List.set_cons_zero, List.set_cons_succ, i64_w, i32_w]
                            rfl
                          refine pure_ (i := 32) (N := some 46) (v := ?_) (a' := ?_) #[true, true, true, true, true, true, true, true, true, true, true, true, true, true, true, true, true, true, true, true, true, true, true, true, true, true, true, true, true, true, true, true, true, false, false, false, false] rfl rfl (any_of HT_.out (by kernel_rfl)) (fun _ _ _ h => h) (Or.inl ⟨by rfl, ?_⟩) ?_ ?_
                          rotate_left
                          · intro w'
                            go_simp
                            with_reducible rfl
                          rotate_left
                          · simp only [Act.put, List.setIfInBounds_toArray, List.set_cons_zero, List.set_cons_succ, i64_w, i32_w]
                            rfl
                          refine pure_ (i := 33) (N := some 47) (v := ?_) (a' := ?_) #[true, true, true, true, true, true, true, true, true, true, true, true, true, true, true, true, true, true, true, true, true, true, true, true, true, true, true, true, true, true, true, true, true, true, false, false, false] rfl rfl (any_of HT_.out (by kernel_rfl)) (fun _ _ _ h => h) (Or.inl ⟨by rfl, ?_⟩) ?_ ?_
                          rotate_left
                          · intro w'
                            go_simp
                            with_reducible rfl
                          rotate_left
                          · simp only [Act.put, List.setIfInBounds_toArray, List.set_cons_zero, List.set_cons_succ, i64_w, i32_w]
                            rfl
                          refine one_ (i := 34) (N := some 48) #[true, true, true, true, true, true, true, true, true, true, true, true, true, true, true, true, true, true, true, true, true, true, true, true, true, true, true, true, true, true, true, true, true, true, true, false, false] rfl rfl (one_of HT_.out (by kernel_rfl)) (by decide) (fun K hK => ?_)
                          refine value_ (w1 := ?_) (v := ?_) (by rfl) rfl ?_ ?_
                          rotate_left 2
                          · go_simp
                            constructor
                            · rfl
                            · rfl
                          refine hK.out _ _ ⟨(World.cell?_alloc_lt _ _ _ (World.block_lt_of_cell? _ _ (((HB.out.cell (World.block_lt_of_cell? w _ hw118_0)).trans hw118_0)))).trans (((HB.out.cell (World.block_lt_of_cell? w _ hw118_0)).trans hw118_0)), (World.cell?_alloc_lt _ _ _ (World.block_lt_of_cell? _ _ (((HB.out.cell (World.block_lt_of_cell? w _ hw119_0)).trans hw119_0)))).trans (((HB.out.cell (World.block_lt_of_cell? w _ hw119_0)).trans hw119_0)), (World.cell?_alloc_lt _ _ _ (World.block_lt_of_cell? _ _ (((HB.out.cell (World.block_lt_of_cell? w _ hw120_0)).trans hw120_0)))).trans (((HB.out.cell (World.block_lt_of_cell? w _ hw120_0)).trans hw120_0)), (World.cell?_alloc_lt _ _ _ (World.block_lt_of_cell? _ _ (((HB.out.cell (World.block_lt_of_cell? w _ hw121_0)).trans hw121_0)))).trans (((HB.out.cell (World.block_lt_of_cell? w _ hw121_0)).trans hw121_0))⟩ (fun hHeld => ?_)
                          clear hK K
                          refine norm_ (a' := ?_) ?_ ?_
                          rotate_left
                          · show Act.put _ (some 48) _ = _
                            simp only [Act.put, List.setIfInBounds_toArray, List.set_cons_zero, List.set_cons_succ, i64_w, i32_w]
                            rfl
                          refine one_ (i := 35) (N := some 49) #[true, true, true, true, true, true, true, true, true, true, true, true, true, true, true, true, true, true, true, true, true, true, true, true, true, true, true, true, true, true, true, true, true, true, true, true, false] rfl rfl (one_of HT_.out (by kernel_rfl)) (by decide) (fun K hK => ?_)
                          refine Kd.R_append_step (Kd.int .u32) (w0 := w) w.heap.size (by rfl) (.tmp 14) (.tmp 48) 225 26 (.int .u32 0) 4 rfl Try.underlying225 info26 rfl (by decide) (by omega) u3 x3_1 ((((((((16777216 * ((rd l0 (ji3)) % 4294967296)) % 4294967296) + ((65536 * ((rd l0 (ji6)) % 4294967296)) % 4294967296)) % 4294967296) + ((256 * ((rd l0 (ji9)) % 4294967296)) % 4294967296)) % 4294967296) + ((rd l0 (ji12)) % 4294967296)) % 4294967296) [.int .u32 ((((((((16777216 * ((rd l0 (ji3)) % 4294967296)) % 4294967296) + ((65536 * ((rd l0 (ji6)) % 4294967296)) % 4294967296)) % 4294967296) + ((256 * ((rd l0 (ji9)) % 4294967296)) % 4294967296)) % 4294967296) + ((rd l0 (ji12)) % 4294967296)) % 4294967296)] (fun _ => True) (fun _ => False) rfl rfl ?aP (fun _ hk => hk.elim) ?aF ?aO ?aB ?aS ?aL ?_
                          (case aP => exact rfl)
                          (case aB => exact (by repeat (first | (with_reducible first | exact HB.out | apply below_alloc | apply pw_below_drewN | apply below_drew1) | exact HB.out)))
                          (case aF => exact (fun _ _ => trivial))
                          (case aO => exact (by (with_reducible repeat (first | apply Kd.R_alloc | apply Kd.R_drewN | apply Kd.R_drew)); exact HO_3.out))
                          (case aS => exact (below_size (by repeat (first | (with_reducible first | exact HB.out | apply below_alloc | apply pw_below_drewN | apply below_drew1) | exact HB.out))))
                          (case aL => have := LMc15.out; omega)
                          intro v123 w17 ho hb hg hat
                          rw [← Ny122.out] at ho
                          have n0_ := Aside0.mk (hb)
                          have n1_ := Aside0.mk (ho)
                          clear HB
                          clear HO_3
                          have HB := n0_
                          have HO124 := n1_
                          clear n0_ n1_
                          clear ho hb hg hat
                          refine hK.out _ _ ⟨((HB.out.cell (World.block_lt_of_cell? w _ hw118_0)).trans hw118_0), ((HB.out.cell (World.block_lt_of_cell? w _ hw119_0)).trans hw119_0), ((HB.out.cell (World.block_lt_of_cell? w _ hw120_0)).trans hw120_0), ((HB.out.cell (World.block_lt_of_cell? w _ hw121_0)).trans hw121_0)⟩ (fun hHeld => ?_)
                          clear hK K
                          refine norm_ (a' := ?_) ?_ ?_
                          rotate_left
                          · show Act.put _ (some 49) _ = _
                            simp only [Act.put, List.setIfInBounds_toArray, List.set_cons_zero, List.set_cons_succ, i64_w, i32_w]
                            rfl
                          refine pure_ (i := 36) (N := some 3) (v := ?_) (a' := ?_) #[true, true, true, true, true, true, true, true, true, true, true, true, true, true, true, true, true, true, true, true, true, true, true, true, true, true, true, true, true, true, true, true, true, true, true, true, true] rfl rfl (any_of HT_.out (by kernel_rfl)) (fun _ _ _ h => h) (Or.inl ⟨by rfl, ?_⟩) ?_ ?_
                          rotate_left
                          · intro w'
                            go_simp
                            with_reducible rfl
                          rotate_left
                          · simp only [Act.put, List.setIfInBounds_toArray, List.set_cons_zero, List.set_cons_succ, i64_w, i32_w]
                            rfl
                          refine done_ (done_of HT_.out (by kernel_rfl)) ?_
                          try go_wp2
                          go_roundg k1
                          case measure => have := HK1.out; omega
                          case rel => exact ⟨(y122), (wrap64 (x4_1 + 1)), (by first | rfl | (simp; done) | (simp [*]; done)), H', ⟨by have := HK1.out; omega⟩, ⟨by (with_reducible repeat (first | apply Kd.R_alloc | apply Kd.R_drewN | apply Kd.R_drew)); exact HO124.out⟩, ⟨by repeat (first | (with_reducible first | exact HB.out | apply below_alloc | apply pw_below_drewN | apply below_drew1) | exact HB.out)⟩⟩
                        · rw [if_neg c15] at H
                          exact absurd H (by simp)
                      · rw [if_neg c14] at H
                        exact absurd H (by simp)
                    · rw [if_neg c13] at H
                      exact absurd H (by simp)
                  · rw [if_neg c11] at H
                    exact absurd H (by simp)
                · rw [if_neg c10] at H
                  exact absurd H (by simp)
              · rw [if_neg c8] at H
                exact absurd H (by simp)
            · rw [if_neg c7] at H
              exact absurd H (by simp)
          · rw [if_neg c5] at H
            exact absurd H (by simp)
        · rw [if_neg c4] at H
          exact absurd H (by simp)
      · rw [if_neg c2] at H
        have c2b0 : decide (x4_1 < 16) = false := decide_eq_false c2
        clear c2
        have H' := Aside0.mk H
        clear H
        go_wp2
        go_loopg [3, 5] k1 (fun kq v3 v5 w' => ∃ (x3_2 : List Int) (x5_2 : Int), v5 = .int .i64 x5_2 ∧ Aside0 (rolodexref03_words.l1 kq x3_2 x5_2 = some r) ∧ Aside0 (kq ≤ k1) ∧ Aside0 (Kd.R (Kd.int .u32) 26 w' w.heap.size (fun _ => True) v3 x3_2) ∧ Aside0 (Below w.heap.size w w'))
        case atStart => exact ⟨(x3_1), (16), (by first | rfl | (simp; done) | (simp [*]; done)), H', ⟨Nat.le_refl _⟩, ⟨by (with_reducible repeat (first | apply Kd.R_alloc | apply Kd.R_drewN | apply Kd.R_drew)); exact HO_3.out⟩, ⟨by repeat (first | (with_reducible first | exact HB.out | apply below_alloc | apply pw_below_drewN | apply below_drew1) | exact HB.out)⟩⟩
        case round =>
          clear H'
          try clear c1
          try clear p1
          try clear q1
          try clear hx1
          try clear c2
          try clear c2b0
          try clear p2
          try clear c4
          try clear c4b0
          try clear c5
          try clear c5b0
          try clear p6
          try clear c7
          try clear c7b0
          try clear c8
          try clear c8b0
          try clear c10
          try clear c10b0
          try clear c11
          try clear c11b0
          try clear p11
          try clear q11
          try clear hx11
          try clear p12
          try clear q12
          try clear hx12
          try clear c13
          try clear c13b0
          try clear c14
          try clear c14b0
          try clear c15
          try clear c16
          try clear hx118_0
          try clear hx119_0
          try clear hx120_0
          try clear hx121_0
          try clear p118
          try clear p119
          try clear p120
          try clear p121
          try clear q118
          try clear q119
          try clear q120
          try clear q121
          obtain ⟨x3_2, x5_2, rfl, HA, HK2, HO_3, HB⟩ := hrel
          cases gk with
          | zero => exact absurd HA.out (by simp [rolodexref03_words.l1])
          | succ k2 =>
            have H := HA.out
            clear HA
            simp only [rolodexref03_words.l1] at H
            by_cases c18 : x5_2 < 64
            · rw [if_pos c18] at H
              have c18b0 : decide (x5_2 < 64) = true := decide_eq_true c18
              clear c18
              obtain ⟨ji19, hji19⟩ : ∃ j_ : Int, (wrap64 (x5_2 - 15)) = j_ := ⟨_, rfl⟩
              replace H : (if 0 ≤ (ji19) then (if (ji19) < (x3_2.length : Int) then (if 0 ≤ (wrap64 (x5_2 - 2)) then (if (wrap64 (x5_2 - 2)) < (x3_2.length : Int) then ((rolodexref03_turned.f (rd x3_2 (ji19)) 7).bind fun t127 => ((rolodexref03_turned.f (rd x3_2 (ji19)) 18).bind fun t128 => ((rolodexref03_turned.f (rd x3_2 (wrap64 (x5_2 - 2))) 17).bind fun t129 => ((rolodexref03_turned.f (rd x3_2 (wrap64 (x5_2 - 2))) 19).bind fun t130 => (if 0 ≤ (wrap64 (x5_2 - 16)) then (if (wrap64 (x5_2 - 16)) < (x3_2.length : Int) then (if 0 ≤ (wrap64 (x5_2 - 7)) then (if (wrap64 (x5_2 - 7)) < (x3_2.length : Int) then (if x3_2.length < 35184372088832 then (rolodexref03_words.l1 k2 (x3_2 ++ [((((((rd x3_2 (wrap64 (x5_2 - 16))) + (Go.bits .xor .u32 (Go.bits .xor .u32 t127 t128) ((rd x3_2 (ji19)) / 8))) % 4294967296) + (rd x3_2 (wrap64 (x5_2 - 7)))) % 4294967296) + (Go.bits .xor .u32 (Go.bits .xor .u32 t129 t130) ((rd x3_2 (wrap64 (x5_2 - 2))) / 1024))) % 4294967296]) (wrap64 (x5_2 + 1))) else (none)) else (none)) else (none)) else (none)) else (none)))))) else (none)) else (none)) else (none)) else (none)) = some r := by first | (rw [hji19] at H; exact H) | (simp only [hji19] at H ⊢; exact H)
              have hji19w : (IntKind.i64.wrap (x5_2 - 15)) = ji19 := (i64_w _).trans hji19
              by_cases c20 : 0 ≤ (ji19)
              · rw [if_pos c20] at H
                have c20b0 : decide (0 ≤ (ji19)) = true := decide_eq_true c20
                clear c20
                by_cases c21 : (ji19) < (x3_2.length : Int)
                · rw [if_pos c21] at H
                  have c21b0 : decide ((ji19) < (x3_2.length : Int)) = true := decide_eq_true c21
                  clear c21
                  obtain ⟨ji22, hji22⟩ : ∃ j_ : Int, (wrap64 (x5_2 - 2)) = j_ := ⟨_, rfl⟩
                  replace H : (if 0 ≤ (ji22) then (if (ji22) < (x3_2.length : Int) then ((rolodexref03_turned.f (rd x3_2 (ji19)) 7).bind fun t127 => ((rolodexref03_turned.f (rd x3_2 (ji19)) 18).bind fun t128 => ((rolodexref03_turned.f (rd x3_2 (ji22)) 17).bind fun t129 => ((rolodexref03_turned.f (rd x3_2 (ji22)) 19).bind fun t130 => (if 0 ≤ (wrap64 (x5_2 - 16)) then (if (wrap64 (x5_2 - 16)) < (x3_2.length : Int) then (if 0 ≤ (wrap64 (x5_2 - 7)) then (if (wrap64 (x5_2 - 7)) < (x3_2.length : Int) then (if x3_2.length < 35184372088832 then (rolodexref03_words.l1 k2 (x3_2 ++ [((((((rd x3_2 (wrap64 (x5_2 - 16))) + (Go.bits .xor .u32 (Go.bits .xor .u32 t127 t128) ((rd x3_2 (ji19)) / 8))) % 4294967296) + (rd x3_2 (wrap64 (x5_2 - 7)))) % 4294967296) + (Go.bits .xor .u32 (Go.bits .xor .u32 t129 t130) ((rd x3_2 (ji22)) / 1024))) % 4294967296]) (wrap64 (x5_2 + 1))) else (none)) else (none)) else (none)) else (none)) else (none)))))) else (none)) else (none)) = some r := by first | (rw [hji22] at H; exact H) | (simp only [hji22] at H ⊢; exact H)
                  have hji22w : (IntKind.i64.wrap (x5_2 - 2)) = ji22 := (i64_w _).trans hji22
                  by_cases c23 : 0 ≤ (ji22)
                  · rw [if_pos c23] at H
                    have c23b0 : decide (0 ≤ (ji22)) = true := decide_eq_true c23
                    clear c23
                    by_cases c24 : (ji22) < (x3_2.length : Int)
                    · rw [if_pos c24] at H
                      have c24b0 : decide ((ji22) < (x3_2.length : Int)) = true := decide_eq_true c24
                      clear c24
                      replace H := Option.bind_eq_some_iff.mp H
                      obtain ⟨t127, A250, H⟩ := H
                      replace H : ((rolodexref03_turned.f (rd x3_2 (ji19)) 18).bind fun t128 => ((rolodexref03_turned.f (rd x3_2 (ji22)) 17).bind fun t129 => ((rolodexref03_turned.f (rd x3_2 (ji22)) 19).bind fun t130 => (if 0 ≤ (wrap64 (x5_2 - 16)) then (if (wrap64 (x5_2 - 16)) < (x3_2.length : Int) then (if 0 ≤ (wrap64 (x5_2 - 7)) then (if (wrap64 (x5_2 - 7)) < (x3_2.length : Int) then (if x3_2.length < 35184372088832 then (rolodexref03_words.l1 k2 (x3_2 ++ [((((((rd x3_2 (wrap64 (x5_2 - 16))) + (Go.bits .xor .u32 (Go.bits .xor .u32 t127 t128) ((rd x3_2 (ji19)) / 8))) % 4294967296) + (rd x3_2 (wrap64 (x5_2 - 7)))) % 4294967296) + (Go.bits .xor .u32 (Go.bits .xor .u32 t129 t130) ((rd x3_2 (ji22)) / 1024))) % 4294967296]) (wrap64 (x5_2 + 1))) else (none)) else (none)) else (none)) else (none)) else (none))))) = some r := H
                      have A25 := Aside0.mk A250
                      clear A250
                      replace H := Option.bind_eq_some_iff.mp H
                      obtain ⟨t128, A260, H⟩ := H
                      replace H : ((rolodexref03_turned.f (rd x3_2 (ji22)) 17).bind fun t129 => ((rolodexref03_turned.f (rd x3_2 (ji22)) 19).bind fun t130 => (if 0 ≤ (wrap64 (x5_2 - 16)) then (if (wrap64 (x5_2 - 16)) < (x3_2.length : Int) then (if 0 ≤ (wrap64 (x5_2 - 7)) then (if (wrap64 (x5_2 - 7)) < (x3_2.length : Int) then (if x3_2.length < 35184372088832 then (rolodexref03_words.l1 k2 (x3_2 ++ [((((((rd x3_2 (wrap64 (x5_2 - 16))) + (Go.bits .xor .u32 (Go.bits .xor .u32 t127 t128) ((rd x3_2 (ji19)) / 8))) % 4294967296) + (rd x3_2 (wrap64 (x5_2 - 7)))) % 4294967296) + (Go.bits .xor .u32 (Go.bits .xor .u32 t129 t130) ((rd x3_2 (ji22)) / 1024))) % 4294967296]) (wrap64 (x5_2 + 1))) else (none)) else (none)) else (none)) else (none)) else (none)))) = some r := H
                      have A26 := Aside0.mk A260
                      clear A260
                      replace H := Option.bind_eq_some_iff.mp H
                      obtain ⟨t129, A270, H⟩ := H
                      replace H : ((rolodexref03_turned.f (rd x3_2 (ji22)) 19).bind fun t130 => (if 0 ≤ (wrap64 (x5_2 - 16)) then (if (wrap64 (x5_2 - 16)) < (x3_2.length : Int) then (if 0 ≤ (wrap64 (x5_2 - 7)) then (if (wrap64 (x5_2 - 7)) < (x3_2.length : Int) then (if x3_2.length < 35184372088832 then (rolodexref03_words.l1 k2 (x3_2 ++ [((((((rd x3_2 (wrap64 (x5_2 - 16))) + (Go.bits .xor .u32 (Go.bits .xor .u32 t127 t128) ((rd x3_2 (ji19)) / 8))) % 4294967296) + (rd x3_2 (wrap64 (x5_2 - 7)))) % 4294967296) + (Go.bits .xor .u32 (Go.bits .xor .u32 t129 t130) ((rd x3_2 (ji22)) / 1024))) % 4294967296]) (wrap64 (x5_2 + 1))) else (none)) else (none)) else (none)) else (none)) else (none))) = some r := H
                      have A27 := Aside0.mk A270
                      clear A270
                      replace H := Option.bind_eq_some_iff.mp H
                      obtain ⟨t130, A280, H⟩ := H
                      replace H : (if 0 ≤ (wrap64 (x5_2 - 16)) then (if (wrap64 (x5_2 - 16)) < (x3_2.length : Int) then (if 0 ≤ (wrap64 (x5_2 - 7)) then (if (wrap64 (x5_2 - 7)) < (x3_2.length : Int) then (if x3_2.length < 35184372088832 then (rolodexref03_words.l1 k2 (x3_2 ++ [((((((rd x3_2 (wrap64 (x5_2 - 16))) + (Go.bits .xor .u32 (Go.bits .xor .u32 t127 t128) ((rd x3_2 (ji19)) / 8))) % 4294967296) + (rd x3_2 (wrap64 (x5_2 - 7)))) % 4294967296) + (Go.bits .xor .u32 (Go.bits .xor .u32 t129 t130) ((rd x3_2 (ji22)) / 1024))) % 4294967296]) (wrap64 (x5_2 + 1))) else (none)) else (none)) else (none)) else (none)) else (none)) = some r := H
                      have A28 := Aside0.mk A280
                      clear A280
                      obtain ⟨ji29, hji29⟩ : ∃ j_ : Int, (wrap64 (x5_2 - 16)) = j_ := ⟨_, rfl⟩
                      replace H : (if 0 ≤ (ji29) then (if (ji29) < (x3_2.length : Int) then (if 0 ≤ (wrap64 (x5_2 - 7)) then (if (wrap64 (x5_2 - 7)) < (x3_2.length : Int) then (if x3_2.length < 35184372088832 then (rolodexref03_words.l1 k2 (x3_2 ++ [((((((rd x3_2 (ji29)) + (Go.bits .xor .u32 (Go.bits .xor .u32 t127 t128) ((rd x3_2 (ji19)) / 8))) % 4294967296) + (rd x3_2 (wrap64 (x5_2 - 7)))) % 4294967296) + (Go.bits .xor .u32 (Go.bits .xor .u32 t129 t130) ((rd x3_2 (ji22)) / 1024))) % 4294967296]) (wrap64 (x5_2 + 1))) else (none)) else (none)) else (none)) else (none)) else (none)) = some r := by first | (rw [hji29] at H; exact H) | (simp only [hji29] at H ⊢; exact H)
                      (try rw [hji29] at A25)
                      (try rw [hji29] at A26)
                      (try rw [hji29] at A27)
                      (try rw [hji29] at A28)
                      have hji29w : (IntKind.i64.wrap (x5_2 - 16)) = ji29 := (i64_w _).trans hji29
                      by_cases c30 : 0 ≤ (ji29)
                      · rw [if_pos c30] at H
                        have c30b0 : decide (0 ≤ (ji29)) = true := decide_eq_true c30
                        clear c30
                        by_cases c31 : (ji29) < (x3_2.length : Int)
                        · rw [if_pos c31] at H
                          have c31b0 : decide ((ji29) < (x3_2.length : Int)) = true := decide_eq_true c31
                          clear c31
                          obtain ⟨ji32, hji32⟩ : ∃ j_ : Int, (wrap64 (x5_2 - 7)) = j_ := ⟨_, rfl⟩
                          replace H : (if 0 ≤ (ji32) then (if (ji32) < (x3_2.length : Int) then (if x3_2.length < 35184372088832 then (rolodexref03_words.l1 k2 (x3_2 ++ [((((((rd x3_2 (ji29)) + (Go.bits .xor .u32 (Go.bits .xor .u32 t127 t128) ((rd x3_2 (ji19)) / 8))) % 4294967296) + (rd x3_2 (ji32))) % 4294967296) + (Go.bits .xor .u32 (Go.bits .xor .u32 t129 t130) ((rd x3_2 (ji22)) / 1024))) % 4294967296]) (wrap64 (x5_2 + 1))) else (none)) else (none)) else (none)) = some r := by first | (rw [hji32] at H; exact H) | (simp only [hji32] at H ⊢; exact H)
                          (try rw [hji32] at A25)
                          (try rw [hji32] at A26)
                          (try rw [hji32] at A27)
                          (try rw [hji32] at A28)
                          have hji32w : (IntKind.i64.wrap (x5_2 - 7)) = ji32 := (i64_w _).trans hji32
                          by_cases c33 : 0 ≤ (ji32)
                          · rw [if_pos c33] at H
                            have c33b0 : decide (0 ≤ (ji32)) = true := decide_eq_true c33
                            clear c33
                            by_cases c34 : (ji32) < (x3_2.length : Int)
                            · rw [if_pos c34] at H
                              have c34b0 : decide ((ji32) < (x3_2.length : Int)) = true := decide_eq_true c34
                              clear c34
                              by_cases c35 : x3_2.length < 35184372088832
                              · rw [if_pos c35] at H
                                have LMc35 := Aside0.mk c35
                                clear c35
                                obtain ⟨y133, hy133⟩ : ∃ y_ : List Int, y_ = (x3_2 ++ [((((((rd x3_2 (ji29)) + (Go.bits .xor .u32 (Go.bits .xor .u32 t127 t128) ((rd x3_2 (ji19)) / 8))) % 4294967296) + (rd x3_2 (ji32))) % 4294967296) + (Go.bits .xor .u32 (Go.bits .xor .u32 t129 t130) ((rd x3_2 (ji22)) / 1024))) % 4294967296]) := ⟨_, rfl⟩
                                replace H : (rolodexref03_words.l1 k2 y133 (wrap64 (x5_2 + 1))) = some r := by first | (rw [hy133]; with_reducible exact H) | (have H2_ := (Option.bind_some _ _).symm.trans H; rw [hy133]; with_reducible exact H2_) | (have H2_ := (Option.bind_some _ _).symm.trans H; with_reducible exact H2_) | with_reducible exact H | (rw [hy133]; exact H) | exact H
                                have Ny133 := Aside0.mk hy133
                                clear hy133
                                have H' := Aside0.mk H
                                clear H
                                obtain ⟨Ao36, co36, eo36⟩ := Kd.R_slice HO_3.out
                                subst eo36
                                have p125 : 0 ≤ ((ji19) : Int) := of_decide_eq_true (by first | (with_reducible assumption) | assumption)
                                have q125 : (ji19) < (x3_2.length : Int) := of_decide_eq_true (by first | (with_reducible assumption) | assumption)
                                obtain ⟨ad125, e125, hx125_0⟩ := Kd.at_int (Kd.R_reads' HO_3.out).2.2 (ji19) p125 q125
                                cases e125
                                replace p125 := eq_true p125
                                replace q125 := eq_true q125
                                have p126 : 0 ≤ ((ji22) : Int) := of_decide_eq_true (by first | (with_reducible assumption) | assumption)
                                have q126 : (ji22) < (x3_2.length : Int) := of_decide_eq_true (by first | (with_reducible assumption) | assumption)
                                obtain ⟨ad126, e126, hx126_0⟩ := Kd.at_int (Kd.R_reads' HO_3.out).2.2 (ji22) p126 q126
                                obtain rfl : ad125 = ad126 := (by injection e126)
                                replace p126 := eq_true p126
                                replace q126 := eq_true q126
                                try go_wp2_with (first | ((with_reducible refine gate_callee (f := 166) rfl ?_); refine goesL_ (some 65) rfl rfl Try.func166 (by kernel_rfl) rfl #[.int .u32 (rd x3_2 (ji19)), .int .u32 7] rfl (by (try simp only [List.map_toArray, List.map_cons, List.map_nil]); first | done | (simp only [hji19]; rfl) | rfl | (simp only [List.length_drop, List.length_take]; rfl)) ?_; (with_reducible refine (rolodexref03_turned.calls (rd x3_2 (ji19)) 7 t127 _ A25.out).mono ?_); rintro e w' ⟨rfl, ⟨nd, rfl⟩⟩; refine ⟨_, rfl, ?_⟩) | ((with_reducible refine gate_callee (f := 166) rfl ?_); refine goesL_ (some 67) rfl rfl Try.func166 (by kernel_rfl) rfl #[.int .u32 (rd x3_2 (ji19)), .int .u32 18] rfl (by (try simp only [List.map_toArray, List.map_cons, List.map_nil]); first | done | (simp only [hji19]; rfl) | rfl | (simp only [List.length_drop, List.length_take]; rfl)) ?_; (with_reducible refine (rolodexref03_turned.calls (rd x3_2 (ji19)) 18 t128 _ A26.out).mono ?_); rintro e w' ⟨rfl, ⟨nd, rfl⟩⟩; refine ⟨_, rfl, ?_⟩) | ((with_reducible refine gate_callee (f := 166) rfl ?_); refine goesL_ (some 73) rfl rfl Try.func166 (by kernel_rfl) rfl #[.int .u32 (rd x3_2 (ji22)), .int .u32 17] rfl (by (try simp only [List.map_toArray, List.map_cons, List.map_nil]); first | done | (simp only [hji22]; rfl) | rfl | (simp only [List.length_drop, List.length_take]; rfl)) ?_; (with_reducible refine (rolodexref03_turned.calls (rd x3_2 (ji22)) 17 t129 _ A27.out).mono ?_); rintro e w' ⟨rfl, ⟨nd, rfl⟩⟩; refine ⟨_, rfl, ?_⟩) | ((with_reducible refine gate_callee (f := 166) rfl ?_); refine goesL_ (some 75) rfl rfl Try.func166 (by kernel_rfl) rfl #[.int .u32 (rd x3_2 (ji22)), .int .u32 19] rfl (by (try simp only [List.map_toArray, List.map_cons, List.map_nil]); first | done | (simp only [hji22]; rfl) | rfl | (simp only [List.length_drop, List.length_take]; rfl)) ?_; (with_reducible refine (rolodexref03_turned.calls (rd x3_2 (ji22)) 19 t130 _ A28.out).mono ?_); rintro e w' ⟨rfl, ⟨nd, rfl⟩⟩; refine ⟨_, rfl, ?_⟩))
                                (try (rw [drewN_self wr]; generalize hq_ : World.drewN wr _ = wr; have n0_ : Aside0 (Kd.R (Kd.int .u32) 26 wr w.heap.size (fun _ => True) (.slice (some ad125) x3_2.length co36) x3_2) := ⟨by rw [← hq_]; exact (by (with_reducible repeat (first | apply Kd.R_alloc | apply Kd.R_drewN | apply Kd.R_drew)); exact HO_3.out)⟩; have n1_ : Aside0 (Below w.heap.size w wr) := ⟨by rw [← hq_]; exact (by repeat (first | (with_reducible first | exact HB.out | apply below_alloc | apply pw_below_drewN | apply below_drew1) | exact HB.out))⟩; clear HO_3 HB hq_; have HO_3 := n0_; have HB := n1_; clear n0_ n1_))
                                have n0_ := Aside0.mk (Kd.R_drew HO_3.out)
                                have n1_ := Aside0.mk (below_drew1 HB.out)
                                clear HO_3
                                clear HB
                                have HO_3 := n0_
                                have HB := n1_
                                clear n0_ n1_
                                have p131 : 0 ≤ ((ji29) : Int) := of_decide_eq_true (by first | (with_reducible assumption) | assumption)
                                have q131 : (ji29) < (x3_2.length : Int) := of_decide_eq_true (by first | (with_reducible assumption) | assumption)
                                obtain ⟨ad131, e131, hx131_0⟩ := Kd.at_int (Kd.R_reads' HO_3.out).2.2 (ji29) p131 q131
                                obtain rfl : ad125 = ad131 := (by injection e131)
                                replace p131 := eq_true p131
                                replace q131 := eq_true q131
                                have p132 : 0 ≤ ((ji32) : Int) := of_decide_eq_true (by first | (with_reducible assumption) | assumption)
                                have q132 : (ji32) < (x3_2.length : Int) := of_decide_eq_true (by first | (with_reducible assumption) | assumption)
                                obtain ⟨ad132, e132, hx132_0⟩ := Kd.at_int (Kd.R_reads' HO_3.out).2.2 (ji32) p132 q132
                                obtain rfl : ad125 = ad132 := (by injection e132)
                                replace p132 := eq_true p132
                                replace q132 := eq_true q132
                                refine start_ (n := 19) (S := fun w' => w'.cell? (ad125.add ((ji29)).toNat) = some (.int .u32 (rd x3_2 (ji29))) ∧ w'.cell? (ad125.add ((ji32)).toNat) = some (.int .u32 (rd x3_2 (ji32)))) (ds := [16, 17]) #[false, false, false, false, false, false, false, false, false, false, false, false, false, false, false, false, false, false, false] (by kernel_rfl) rfl rfl ⟨hx131_0, hx132_0⟩ (fun hHeld => ?_); refine with_tabW rolodexref03_words.tab13 rolodexref03_words.bits13 (fun HT_ HW_ => ?_)
                                generalize wr.drew = w37 at HO_3 HB hx131_0 hx132_0 hHeld ⊢
                                refine pure_ (i := 0) (N := some 80) (v := ?_) (a' := ?_) #[true, false, false, false, false, false, false, false, false, false, false, false, false, false, false, false, false, false, false] rfl rfl (any_of HT_.out (by kernel_rfl)) (fun _ _ _ h => h) (Or.inl ⟨by rfl, ?_⟩) ?_ ?_
                                rotate_left
                                · intro w'
                                  go_simp
                                  with_reducible rfl
                                rotate_left
                                · simp only [Act.put, List.setIfInBounds_toArray, List.set_cons_zero, List.set_cons_succ, i64_w, i32_w]
                                  rfl
                                refine pure_ (i := 1) (N := some 81) (v := ?_) (a' := ?_) #[true, true, false, false, false, false, false, false, false, false, false, false, false, false, false, false, false, false, false] rfl rfl (any_of HT_.out (by kernel_rfl)) (fun _ _ _ h => h) (Or.inl ⟨by rfl, ?_⟩) ?_ ?_
                                rotate_left
                                · intro w'
                                  go_simp
                                  with_reducible rfl
                                rotate_left
                                · simp only [Act.put, List.setIfInBounds_toArray, List.set_cons_zero, List.set_cons_succ, i64_w, i32_w]
                                  rfl
                                refine pure_ (i := 2) (N := some 82) (v := ?_) (a' := ?_) #[true, true, true, false, false, false, false, false, false, false, false, false, false, false, false, false, false, false, false] rfl rfl (any_of HT_.out (by kernel_rfl)) (fun _ _ _ h => h) (Or.inl ⟨by rfl, ?_⟩) ?_ ?_
                                rotate_left
                                · intro w'
                                  go_simp
                                  with_reducible rfl
                                rotate_left
                                · simp only [Act.put, List.setIfInBounds_toArray, List.set_cons_zero, List.set_cons_succ, i64_w, i32_w]
                                  rfl
                                refine pure_ (i := 3) (N := some 83) (v := ?_) (a' := ?_) #[true, true, true, true, false, false, false, false, false, false, false, false, false, false, false, false, false, false, false] rfl rfl (any_of HT_.out (by kernel_rfl)) (fun _ _ _ h => h) (Or.inl ⟨by rfl, ?_⟩) ?_ ?_
                                rotate_left
                                · intro w'
                                  go_simp
                                  with_reducible rfl
                                rotate_left
                                · simp only [Act.put, List.setIfInBounds_toArray, List.set_cons_zero, List.set_cons_succ, i64_w, i32_w]
                                  rfl
                                refine pure_ (i := 4) (N := some 84) (v := ?_) (a' := ?_) #[true, true, true, true, true, false, false, false, false, false, false, false, false, false, false, false, false, false, false] rfl rfl (any_of HT_.out (by kernel_rfl)) (fun _ _ _ h => h) (Or.inl ⟨by rfl, ?_⟩) ?_ ?_
                                rotate_left
                                · intro w'
                                  go_simp
                                  with_reducible rfl
                                rotate_left
                                · simp only [Act.put, List.setIfInBounds_toArray, List.set_cons_zero, List.set_cons_succ, i64_w, i32_w]
                                  rfl
                                refine pure_ (i := 6) (N := some 86) (v := ?_) (a' := ?_) #[true, true, true, true, true, false, true, false, false, false, false, false, false, false, false, false, false, false, false] rfl rfl (any_of HT_.out (by kernel_rfl)) (fun _ _ _ h => h) (Or.inl ⟨by rfl, ?_⟩) ?_ ?_
                                rotate_left
                                · intro w'
                                  go_simp
                                  with_reducible rfl
                                rotate_left
                                · simp only [Act.put, List.setIfInBounds_toArray, List.set_cons_zero, List.set_cons_succ, i64_w, i32_w]
                                  rfl
                                refine pure_ (i := 8) (N := some 88) (v := ?_) (a' := ?_) #[true, true, true, true, true, false, true, false, true, false, false, false, false, false, false, false, false, false, false] rfl rfl (any_of HT_.out (by kernel_rfl)) (fun _ _ _ h => h) (Or.inl ⟨by rfl, ?_⟩) ?_ ?_
                                rotate_left
                                · intro w'
                                  go_simp
                                  with_reducible rfl
                                rotate_left
                                · simp only [Act.put, List.setIfInBounds_toArray, List.set_cons_zero, List.set_cons_succ, i64_w, i32_w]
                                  rfl
                                refine pure_ (i := 9) (N := some 89) (v := ?_) (a' := ?_) #[true, true, true, true, true, false, true, false, true, true, false, false, false, false, false, false, false, false, false] rfl rfl (any_of HT_.out (by kernel_rfl)) (fun _ _ _ h => h) (Or.inl ⟨by rfl, ?_⟩) ?_ ?_
                                rotate_left
                                · intro w'
                                  go_simp
                                  with_reducible rfl
                                rotate_left
                                · simp only [Act.put, List.setIfInBounds_toArray, List.set_cons_zero, List.set_cons_succ, i64_w, i32_w]
                                  rfl
                                refine pure_ (i := 10) (N := some 90) (v := ?_) (a' := ?_) #[true, true, true, true, true, false, true, false, true, true, true, false, false, false, false, false, false, false, false] rfl rfl (any_of HT_.out (by kernel_rfl)) (fun _ _ _ h => h) (Or.inl ⟨by rfl, ?_⟩) ?_ ?_
                                rotate_left
                                · intro w'
                                  go_simp
                                  with_reducible rfl
                                rotate_left
                                · simp only [Act.put, List.setIfInBounds_toArray, List.set_cons_zero, List.set_cons_succ, i64_w, i32_w]
                                  rfl
                                refine pure_ (i := 11) (N := some 91) (v := ?_) (a' := ?_) #[true, true, true, true, true, false, true, false, true, true, true, true, false, false, false, false, false, false, false] rfl rfl (any_of HT_.out (by kernel_rfl)) (fun _ _ _ h => h) (Or.inl ⟨by rfl, ?_⟩) ?_ ?_
                                rotate_left
                                · intro w'
                                  go_simp
                                  with_reducible rfl
                                rotate_left
                                · simp only [Act.put, List.setIfInBounds_toArray, List.set_cons_zero, List.set_cons_succ, i64_w, i32_w]
                                  rfl
                                refine pure_ (i := 14) (N := some 94) (v := ?_) (a' := ?_) #[true, true, true, true, true, false, true, false, true, true, true, true, false, false, true, false, false, false, false] rfl rfl (any_of HT_.out (by kernel_rfl)) (fun _ _ _ h => h) (Or.inl ⟨by rfl, ?_⟩) ?_ ?_
                                rotate_left
                                · intro w'
                                  go_simp
                                  with_reducible rfl
                                rotate_left
                                · simp only [Act.put, List.setIfInBounds_toArray, List.set_cons_zero, List.set_cons_succ, i64_w, i32_w]
                                  rfl
                                refine take_ (i := 5) (N := some 85) (v := ?_) (a' := ?_) #[true, true, true, true, true, true, true, false, true, true, true, true, false, false, true, false, false, false, false] rfl rfl (take_ofW HT_.out HW_.out (by kernel_rfl)) (fun _ _ _ h => h) (Or.inl ⟨by rfl, ?_⟩) hHeld ?_ ?_
                                rotate_left
                                · rintro w' ⟨s0, s1⟩
                                  go_simp
                                  with_reducible rfl
                                rotate_left
                                · simp only [Act.put, List.setIfInBounds_toArray, List.set_cons_zero, List.set_cons_succ, i64_w, i32_w]
                                  rfl
                                refine pure_ (i := 7) (N := some 87) (v := ?_) (a' := ?_) #[true, true, true, true, true, true, true, true, true, true, true, true, false, false, true, false, false, false, false] rfl rfl (any_of HT_.out (by kernel_rfl)) (fun _ _ _ h => h) (Or.inl ⟨by rfl, ?_⟩) ?_ ?_
                                rotate_left
                                · intro w'
                                  go_simp
                                  with_reducible rfl
                                rotate_left
                                · simp only [Act.put, List.setIfInBounds_toArray, List.set_cons_zero, List.set_cons_succ, i64_w, i32_w]
                                  rfl
                                refine take_ (i := 12) (N := some 92) (v := ?_) (a' := ?_) #[true, true, true, true, true, true, true, true, true, true, true, true, true, false, true, false, false, false, false] rfl rfl (take_ofW HT_.out HW_.out (by kernel_rfl)) (fun _ _ _ h => h) (Or.inl ⟨by rfl, ?_⟩) hHeld ?_ ?_
                                rotate_left
                                · rintro w' ⟨s0, s1⟩
                                  go_simp
                                  with_reducible rfl
                                rotate_left
                                · simp only [Act.put, List.setIfInBounds_toArray, List.set_cons_zero, List.set_cons_succ, i64_w, i32_w]
                                  rfl
                                refine pure_ (i := 13) (N := some 93) (v := ?_) (a' := ?_) #[true, true, true, true, true, true, true, true, true, true, true, true, true, true, true, false, false, false, false] rfl rfl (any_of HT_.out (by kernel_rfl)) (fun _ _ _ h => h) (Or.inl ⟨by rfl, ?_⟩) ?_ ?_
                                rotate_left
                                · intro w'
                                  go_simp
                                  with_reducible rfl
                                rotate_left
                                · simp only [Act.put, List.setIfInBounds_toArray, List.set_cons_zero, List.set_cons_succ, i64_w, i32_w]
                                  rfl
                                refine pure_ (i := 15) (N := some 95) (v := ?_) (a' := ?_) #[true, true, true, true, true, true, true, true, true, true, true, true, true, true, true, true, false, false, false] rfl rfl (any_of HT_.out (by kernel_rfl)) (fun _ _ _ h => h) (Or.inl ⟨by rfl, ?_⟩) ?_ ?_
                                rotate_left
                                · intro w'
                                  go_simp
                                  with_reducible rfl
                                rotate_left
                                · simp only [Act.put, List.setIfInBounds_toArray, List.set_cons_zero, List.set_cons_succ, i64_w, i32_w]
                                  rfl
                                refine last_ (i := 16) (N := some 96) #[true, true, true, true, true, true, true, true, true, true, true, true, true, true, true, true, true, false, false] rfl rfl (one_of HT_.out (by kernel_rfl)) (by decide) (fun K hK => ?_)
                                refine value_ (w1 := ?_) (v := ?_) (by rfl) rfl ?_ ?_
                                rotate_left 2
                                · go_simp
                                  constructor
                                  · rfl
                                  · rfl
                                refine hK.out _ _ ?_
                                clear hK K
                                refine norm_ (a' := ?_) ?_ ?_
                                rotate_left
                                · show Act.put _ (some 96) _ = _
                                  simp only [Act.put, List.setIfInBounds_toArray, List.set_cons_zero, List.set_cons_succ, i64_w, i32_w]
                                  rfl
                                refine last_ (i := 17) (N := some 97) #[true, true, true, true, true, true, true, true, true, true, true, true, true, true, true, true, true, true, false] rfl rfl (one_of HT_.out (by kernel_rfl)) (by decide) (fun K hK => ?_)
                                refine Kd.R_append_step (Kd.int .u32) (w0 := w) w.heap.size (by rfl) (.tmp 80) (.tmp 96) 225 26 (.int .u32 0) 4 rfl Try.underlying225 info26 rfl (by decide) (by omega) (.slice (some ad125) x3_2.length co36) x3_2 (((((((rd x3_2 (ji29)) + (Go.bits .xor .u32 (Go.bits .xor .u32 t127 t128) ((rd x3_2 (ji19)) / 8))) % 4294967296) + (rd x3_2 (ji32))) % 4294967296) + (Go.bits .xor .u32 (Go.bits .xor .u32 t129 t130) ((rd x3_2 (ji22)) / 1024))) % 4294967296) [.int .u32 (((((((rd x3_2 (ji29)) + (Go.bits .xor .u32 (Go.bits .xor .u32 t127 t128) ((rd x3_2 (ji19)) / 8))) % 4294967296) + (rd x3_2 (ji32))) % 4294967296) + (Go.bits .xor .u32 (Go.bits .xor .u32 t129 t130) ((rd x3_2 (ji22)) / 1024))) % 4294967296)] (fun _ => True) (fun _ => False) rfl rfl ?aP (fun _ hk => hk.elim) ?aF ?aO ?aB ?aS ?aL ?_
                                (case aP => exact rfl)
                                (case aB => exact (by repeat (first | (with_reducible first | exact HB.out | apply below_alloc | apply pw_below_drewN | apply below_drew1) | exact HB.out)))
                                (case aF => exact (fun _ _ => trivial))
                                (case aO => exact (by (with_reducible repeat (first | apply Kd.R_alloc | apply Kd.R_drewN | apply Kd.R_drew)); exact HO_3.out))
                                (case aS => exact (below_size (by repeat (first | (with_reducible first | exact HB.out | apply below_alloc | apply pw_below_drewN | apply below_drew1) | exact HB.out))))
                                (case aL => have := LMc35.out; omega)
                                intro v134 w38 ho hb hg hat
                                rw [← Ny133.out] at ho
                                have n0_ := Aside0.mk (hb)
                                have n1_ := Aside0.mk (ho)
                                clear HB
                                clear HO_3
                                have HB := n0_
                                have HO135 := n1_
                                clear n0_ n1_
                                clear ho hb hg hat
                                refine hK.out _ _ ?_
                                clear hK K
                                refine norm_ (a' := ?_) ?_ ?_
                                rotate_left
                                · show Act.put _ (some 97) _ = _
                                  simp only [Act.put, List.setIfInBounds_toArray, List.set_cons_zero, List.set_cons_succ, i64_w, i32_w]
                                  rfl
                                refine pure_ (i := 18) (N := some 3) (v := ?_) (a' := ?_) #[true, true, true, true, true, true, true, true, true, true, true, true, true, true, true, true, true, true, true] rfl rfl (any_of HT_.out (by kernel_rfl)) (fun _ _ _ h => h) (Or.inl ⟨by rfl, ?_⟩) ?_ ?_
                                rotate_left
                                · intro w'
                                  go_simp
                                  with_reducible rfl
                                rotate_left
                                · simp only [Act.put, List.setIfInBounds_toArray, List.set_cons_zero, List.set_cons_succ, i64_w, i32_w]
                                  rfl
                                refine done_ (done_of HT_.out (by kernel_rfl)) ?_
                                try go_wp2
                                go_roundg k2
                                case measure => have := HK1.out; have := HK2.out; omega
                                case rel => exact ⟨(y133), (wrap64 (x5_2 + 1)), (by first | rfl | (simp; done) | (simp [*]; done)), H', ⟨by have := HK1.out; have := HK2.out; omega⟩, ⟨by (with_reducible repeat (first | apply Kd.R_alloc | apply Kd.R_drewN | apply Kd.R_drew)); exact HO135.out⟩, ⟨by repeat (first | (with_reducible first | exact HB.out | apply below_alloc | apply pw_below_drewN | apply below_drew1) | exact HB.out)⟩⟩
                              · rw [if_neg c35] at H
                                exact absurd H (by simp)
                            · rw [if_neg c34] at H
                              exact absurd H (by simp)
                          · rw [if_neg c33] at H
                            exact absurd H (by simp)
                        · rw [if_neg c31] at H
                          exact absurd H (by simp)
                      · rw [if_neg c30] at H
                        exact absurd H (by simp)
                    · rw [if_neg c24] at H
                      exact absurd H (by simp)
                  · rw [if_neg c23] at H
                    exact absurd H (by simp)
                · rw [if_neg c21] at H
                  exact absurd H (by simp)
              · rw [if_neg c20] at H
                exact absurd H (by simp)
            · rw [if_neg c18] at H
              have c18b0 : decide (x5_2 < 64) = false := decide_eq_false c18
              clear c18
              obtain rfl := Option.some.inj H
              go_wp2
              go_ret
              exact ⟨_, by first | rfl | (simp [errW_none, errW_some] <;> rfl) | (simp [*, errW_none, errW_some] <;> rfl), by (with_reducible repeat (first | apply Kd.R_alloc | apply Kd.R_drewN | apply Kd.R_drew)); exact HO_3.out, by repeat (first | (with_reducible first | exact HB.out | apply below_alloc | apply pw_below_drewN | apply below_drew1) | exact HB.out)⟩

end Go.Proofs.Ytchaegfdcdlfaaa.X

namespace Go.Proofs.Ytchaegfdcdlfaaa.X
open Go.RowKit Go.Proofs.YtchaegfdcdlfaaaW.PrintWords Go.Proofs.YtchaegfdcdlfaaaW.PrintLast Go.Proofs.YtchaegfdcdlfaaaW.PrintMore
attribute [local go_sem] max2_int min2_int max_two min_two max_three min_three max_four min_four   -- for this text's walks alone
set_option linter.unusedVariables false
set_option linter.unusedSimpArgs false

/-! ### rolodexref03_k: function 167 -/
def rolodexref03_k.f  : Option (List Int) := some (([1116352408, 1899447441, 3049323471, 3921009573, 961987163, 1508970993, 2453635748, 2870763221, 3624381080, 310598401, 607225278, 1426881987, 1925078388, 2162078206, 2614888103, 3248222580, 3835390401, 4022224774, 264347078, 604807628, 770255983, 1249150122, 1555081692, 1996064986, 2554220882, 2821834349, 2952996808, 3210313671, 3336571891, 3584528711, 113926993, 338241895, 666307205, 773529912, 1294757372, 1396182291, 1695183700, 1986661051, 2177026350, 2456956037, 2730485921, 2820302411, 3259730800, 3345764771, 3516065817, 3600352804, 4094571909, 275423344, 430227734, 506948616, 659060556, 883997877, 958139571, 1322822218, 1537002063, 1747873779, 1955562222, 2024104815, 2227730452, 2361852424, 2428436474, 2756734187, 3204031479, 3329325298] : List Int))
set_option maxHeartbeats 8000000 in
set_option maxRecDepth 100000 in
theorem rolodexref03_k.calls  (r : List Int) (w : World) (h : rolodexref03_k.f  = some r) :
    Calls Try.prog 167 #[] w fun e w' => ∃ v0_ : Value, e = .returned (v0_) ∧ Kd.R (Kd.int .u32) 26 w' w.heap.size (fun _ => True) v0_ r ∧ Below w.heap.size w w' := by
  have HB := Aside0.mk (Below.refl w.heap.size w)
  have H : (some (([1116352408, 1899447441, 3049323471, 3921009573, 961987163, 1508970993, 2453635748, 2870763221, 3624381080, 310598401, 607225278, 1426881987, 1925078388, 2162078206, 2614888103, 3248222580, 3835390401, 4022224774, 264347078, 604807628, 770255983, 1249150122, 1555081692, 1996064986, 2554220882, 2821834349, 2952996808, 3210313671, 3336571891, 3584528711, 113926993, 338241895, 666307205, 773529912, 1294757372, 1396182291, 1695183700, 1986661051, 2177026350, 2456956037, 2730485921, 2820302411, 3259730800, 3345764771, 3516065817, 3600352804, 4094571909, 275423344, 430227734, 506948616, 659060556, 883997877, 958139571, 1322822218, 1537002063, 1747873779, 1955562222, 2024104815, 2227730452, 2361852424, 2428436474, 2756734187, 3204031479, 3329325298] : List Int))) = some r := h
  clear h
  obtain ⟨y136, hy136⟩ : ∃ y_ : List Int, y_ = (([1116352408, 1899447441, 3049323471, 3921009573, 961987163, 1508970993, 2453635748, 2870763221, 3624381080, 310598401, 607225278, 1426881987, 1925078388, 2162078206, 2614888103, 3248222580, 3835390401, 4022224774, 264347078, 604807628, 770255983, 1249150122, 1555081692, 1996064986, 2554220882, 2821834349, 2952996808, 3210313671, 3336571891, 3584528711, 113926993, 338241895, 666307205, 773529912, 1294757372, 1396182291, 1695183700, 1986661051, 2177026350, 2456956037, 2730485921, 2820302411, 3259730800, 3345764771, 3516065817, 3600352804, 4094571909, 275423344, 430227734, 506948616, 659060556, 883997877, 958139571, 1322822218, 1537002063, 1747873779, 1955562222, 2024104815, 2227730452, 2361852424, 2428436474, 2756734187, 3204031479, 3329325298] : List Int)) := ⟨_, rfl⟩
  replace H : (some y136) = some r := by first | (rw [hy136]; with_reducible exact H) | (have H2_ := (Option.bind_some _ _).symm.trans H; rw [hy136]; with_reducible exact H2_) | (have H2_ := (Option.bind_some _ _).symm.trans H; with_reducible exact H2_) | with_reducible exact H | (rw [hy136]; exact H) | exact H
  have Ny136 := Aside0.mk hy136
  clear hy136
  obtain rfl := Option.some.inj H
  go_enter Try.func167, Try.ntmps167
  go_wp2_with (first | ((with_reducible refine gate_dst (N := 1) rfl ?_); refine Kd.R_lit (Kd.int .u32) _ 26 ?hg (N := 1) ?hd (xs := ([1116352408, 1899447441, 3049323471, 3921009573, 961987163, 1508970993, 2453635748, 2870763221, 3624381080, 310598401, 607225278, 1426881987, 1925078388, 2162078206, 2614888103, 3248222580, 3835390401, 4022224774, 264347078, 604807628, 770255983, 1249150122, 1555081692, 1996064986, 2554220882, 2821834349, 2952996808, 3210313671, 3336571891, 3584528711, 113926993, 338241895, 666307205, 773529912, 1294757372, 1396182291, 1695183700, 1986661051, 2177026350, 2456956037, 2730485921, 2820302411, 3259730800, 3345764771, 3516065817, 3600352804, 4094571909, 275423344, 430227734, 506948616, 659060556, 883997877, 958139571, 1322822218, 1537002063, 1747873779, 1955562222, 2024104815, 2227730452, 2361852424, 2428436474, 2756734187, 3204031479, 3329325298] : List Int)) (inner := [.int .u32 1116352408, .int .u32 1899447441, .int .u32 3049323471, .int .u32 3921009573, .int .u32 961987163, .int .u32 1508970993, .int .u32 2453635748, .int .u32 2870763221, .int .u32 3624381080, .int .u32 310598401, .int .u32 607225278, .int .u32 1426881987, .int .u32 1925078388, .int .u32 2162078206, .int .u32 2614888103, .int .u32 3248222580, .int .u32 3835390401, .int .u32 4022224774, .int .u32 264347078, .int .u32 604807628, .int .u32 770255983, .int .u32 1249150122, .int .u32 1555081692, .int .u32 1996064986, .int .u32 2554220882, .int .u32 2821834349, .int .u32 2952996808, .int .u32 3210313671, .int .u32 3336571891, .int .u32 3584528711, .int .u32 113926993, .int .u32 338241895, .int .u32 666307205, .int .u32 773529912, .int .u32 1294757372, .int .u32 1396182291, .int .u32 1695183700, .int .u32 1986661051, .int .u32 2177026350, .int .u32 2456956037, .int .u32 2730485921, .int .u32 2820302411, .int .u32 3259730800, .int .u32 3345764771, .int .u32 3516065817, .int .u32 3600352804, .int .u32 4094571909, .int .u32 275423344, .int .u32 430227734, .int .u32 506948616, .int .u32 659060556, .int .u32 883997877, .int .u32 958139571, .int .u32 1322822218, .int .u32 1537002063, .int .u32 1747873779, .int .u32 1955562222, .int .u32 2024104815, .int .u32 2227730452, .int .u32 2361852424, .int .u32 2428436474, .int .u32 2756734187, .int .u32 3204031479, .int .u32 3329325298]) (ok := fun _ => True) (okp := fun _ => True) ?hr ?hp (fun _ hk => hk) trivial (Below.refl _ _) (Nat.le_refl _) (by simp) ?_; (case hd => rfl); (case hg => rfl); (case hr => first | (go_simp; done) | (go_simp; rfl)); (case hp => exact (Reps.one (show Kd.M (Kd.int .u32) _ _ _ 1116352408 [.int .u32 1116352408] from rfl) (Reps.one (show Kd.M (Kd.int .u32) _ _ _ 1899447441 [.int .u32 1899447441] from rfl) (Reps.one (show Kd.M (Kd.int .u32) _ _ _ 3049323471 [.int .u32 3049323471] from rfl) (Reps.one (show Kd.M (Kd.int .u32) _ _ _ 3921009573 [.int .u32 3921009573] from rfl) (Reps.one (show Kd.M (Kd.int .u32) _ _ _ 961987163 [.int .u32 961987163] from rfl) (Reps.one (show Kd.M (Kd.int .u32) _ _ _ 1508970993 [.int .u32 1508970993] from rfl) (Reps.one (show Kd.M (Kd.int .u32) _ _ _ 2453635748 [.int .u32 2453635748] from rfl) (Reps.one (show Kd.M (Kd.int .u32) _ _ _ 2870763221 [.int .u32 2870763221] from rfl) (Reps.one (show Kd.M (Kd.int .u32) _ _ _ 3624381080 [.int .u32 3624381080] from rfl) (Reps.one (show Kd.M (Kd.int .u32) _ _ _ 310598401 [.int .u32 310598401] from rfl) (Reps.one (show Kd.M (Kd.int .u32) _ _ _ 607225278 [.int .u32 607225278] from rfl) (Reps.one (show Kd.M (Kd.int .u32) _ _ _ 1426881987 [.int .u32 1426881987] from rfl) (Reps.one (show Kd.M (Kd.int .u32) _ _ _ 1925078388 [.int .u32 1925078388] from rfl) (Reps.one (show Kd.M (Kd.int .u32) _ _ _ 2162078206 [.int .u32 2162078206] from rfl) (Reps.one (show Kd.M (Kd.int .u32) _ _ _ 2614888103 [.int .u32 2614888103] from rfl) (Reps.one (show Kd.M (Kd.int .u32) _ _ _ 3248222580 [.int .u32 3248222580] from rfl) (Reps.one (show Kd.M (Kd.int .u32) _ _ _ 3835390401 [.int .u32 3835390401] from rfl) (Reps.one (show Kd.M (Kd.int .u32) _ _ _ 4022224774 [.int .u32 4022224774] from rfl) (Reps.one (show Kd.M (Kd.int .u32) _ _ _ 264347078 [.int .u32 264347078] from rfl) (Reps.one (show Kd.M (Kd.int .u32) _ _ _ 604807628 [.int .u32 604807628] from rfl) (Reps.one (show Kd.M (Kd.int .u32) _ _ _ 770255983 [.int .u32 770255983] from rfl) (Reps.one (show Kd.M (Kd.int .u32) _ _ _ 1249150122 [.int .u32 1249150122] from rfl) (Reps.one (show Kd.M (Kd.int .u32) _ _ _ 1555081692 [.int .u32 1555081692] from rfl) (Reps.one (show Kd.M (Kd.int .u32) _ _ _ 1996064986 [.int .u32 1996064986] from rfl) (Reps.one (show Kd.M (Kd.int .u32) _ _ _ 2554220882 [.int .u32 2554220882] from rfl) (Reps.one (show Kd.M (Kd.int .u32) _ _ _ 2821834349 [.int .u32 2821834349] from rfl) (Reps.one (show Kd.M (Kd.int .u32) _ _ _ 2952996808 [.int .u32 2952996808] from rfl) (Reps.one (show Kd.M (Kd.int .u32) _ _ _ 3210313671 [.int .u32 3210313671] from rfl) (Reps.one (show Kd.M (Kd.int .u32) _ _ _ 3336571891 [.int .u32 3336571891] from rfl) (Reps.one (show Kd.M (Kd.int .u32) _ _ _ 3584528711 [.int .u32 3584528711] from rfl) (Reps.one (show Kd.M (Kd.int .u32) _ _ _ 113926993 [.int .u32 113926993] from rfl) (Reps.one (show Kd.M (Kd.int .u32) _ _ _ 338241895 [.int .u32 338241895] from rfl) (Reps.one (show Kd.M (Kd.int .u32) _ _ _ 666307205 [.int .u32 666307205] from rfl) (Reps.one (show Kd.M (Kd.int .u32) _ _ _ 773529912 [.int .u32 773529912] from rfl) (Reps.one (show Kd.M (Kd.int .u32) _ _ _ 1294757372 [.int .u32 1294757372] from rfl) (Reps.one (show Kd.M (Kd.int .u32) _ _ _ 1396182291 [.int .u32 1396182291] from rfl) (Reps.one (show Kd.M (Kd.int .u32) _ _ _ 1695183700 [.int .u32 1695183700] from rfl) (Reps.one (show Kd.M (Kd.int .u32) _ _ _ 1986661051 [.int .u32 1986661051] from rfl) (Reps.one (show Kd.M (Kd.int .u32) _ _ _ 2177026350 [.int .u32 2177026350] from rfl) (Reps.one (show Kd.M (Kd.int .u32) _ _ _ 2456956037 [.int .u32 2456956037] from rfl) (Reps.one (show Kd.M (Kd.int .u32) _ _ _ 2730485921 [.int .u32 2730485921] from rfl) (Reps.one (show Kd.M (Kd.int .u32) _ _ _ 2820302411 [.int .u32 2820302411] from rfl) (Reps.one (show Kd.M (Kd.int .u32) _ _ _ 3259730800 [.int .u32 3259730800] from rfl) (Reps.one (show Kd.M (Kd.int .u32) _ _ _ 3345764771 [.int .u32 3345764771] from rfl) (Reps.one (show Kd.M (Kd.int .u32) _ _ _ 3516065817 [.int .u32 3516065817] from rfl) (Reps.one (show Kd.M (Kd.int .u32) _ _ _ 3600352804 [.int .u32 3600352804] from rfl) (Reps.one (show Kd.M (Kd.int .u32) _ _ _ 4094571909 [.int .u32 4094571909] from rfl) (Reps.one (show Kd.M (Kd.int .u32) _ _ _ 275423344 [.int .u32 275423344] from rfl) (Reps.one (show Kd.M (Kd.int .u32) _ _ _ 430227734 [.int .u32 430227734] from rfl) (Reps.one (show Kd.M (Kd.int .u32) _ _ _ 506948616 [.int .u32 506948616] from rfl) (Reps.one (show Kd.M (Kd.int .u32) _ _ _ 659060556 [.int .u32 659060556] from rfl) (Reps.one (show Kd.M (Kd.int .u32) _ _ _ 883997877 [.int .u32 883997877] from rfl) (Reps.one (show Kd.M (Kd.int .u32) _ _ _ 958139571 [.int .u32 958139571] from rfl) (Reps.one (show Kd.M (Kd.int .u32) _ _ _ 1322822218 [.int .u32 1322822218] from rfl) (Reps.one (show Kd.M (Kd.int .u32) _ _ _ 1537002063 [.int .u32 1537002063] from rfl) (Reps.one (show Kd.M (Kd.int .u32) _ _ _ 1747873779 [.int .u32 1747873779] from rfl) (Reps.one (show Kd.M (Kd.int .u32) _ _ _ 1955562222 [.int .u32 1955562222] from rfl) (Reps.one (show Kd.M (Kd.int .u32) _ _ _ 2024104815 [.int .u32 2024104815] from rfl) (Reps.one (show Kd.M (Kd.int .u32) _ _ _ 2227730452 [.int .u32 2227730452] from rfl) (Reps.one (show Kd.M (Kd.int .u32) _ _ _ 2361852424 [.int .u32 2361852424] from rfl) (Reps.one (show Kd.M (Kd.int .u32) _ _ _ 2428436474 [.int .u32 2428436474] from rfl) (Reps.one (show Kd.M (Kd.int .u32) _ _ _ 2756734187 [.int .u32 2756734187] from rfl) (Reps.one (show Kd.M (Kd.int .u32) _ _ _ 3204031479 [.int .u32 3204031479] from rfl) (Reps.one (show Kd.M (Kd.int .u32) _ _ _ 3329325298 [.int .u32 3329325298] from rfl) (Reps.none _ _)))))))))))))))))))))))))))))))))))))))))))))))))))))))))))))))))); intro v137 w1 ho2 hb hg_ hnew_; clear hg_ hnew_; (first | rw [← Ny136.out] at ho2 | (simp only [Int.reduceToNat] at ho2; rw [← Ny136.out] at ho2)); have n0_ := Aside0.mk (Kd.R_lower ho2 (below_size (by repeat (first | (with_reducible first | exact HB.out | apply below_alloc | apply pw_below_drewN | apply below_drew1) | exact HB.out)))); have n1_ := Aside0.mk (below_step (by repeat (first | (with_reducible first | exact HB.out | apply below_alloc | apply pw_below_drewN | apply below_drew1) | exact HB.out)) hb); clear HB; have HO138 := n0_; have HB := n1_; clear n0_ n1_; clear hb ho2))
  go_ret
  exact ⟨_, by first | rfl | (simp [errW_none, errW_some] <;> rfl) | (simp [*, errW_none, errW_some] <;> rfl), by (with_reducible repeat (first | apply Kd.R_alloc | apply Kd.R_drewN | apply Kd.R_drew)); exact HO138.out, by repeat (first | (with_reducible first | exact HB.out | apply below_alloc | apply pw_below_drewN | apply below_drew1) | exact HB.out)⟩

end Go.Proofs.Ytchaegfdcdlfaaa.X

/- The document's words of a chunk are the schedule. -/
namespace Go.Proofs.Ytchaegfdcdlfaaa.X
set_option linter.unusedVariables false
set_option linter.unusedSimpArgs false
open Go.RowKit Go.Proofs.YtchaegfdcdlfaaaW.PrintWords Go.Proofs.YtchaegfdcdlfaaaW.PrintLast Go.Proofs.YtchaegfdcdlfaaaW.PrintMore

/-- Numbers that are bytes. -/
def Bytes8 (l : List Int) : Prop := ∀ x ∈ l, 0 ≤ x ∧ x ≤ 255
theorem or_comm32 (k : IntKind) (x y : Int) : bits .or k x y = bits .or k y x := by
  simp only [bits, BitVec.or_comm]
theorem turned_eq (x : Int) (n : Nat) (h0 : 0 < n) (h1 : n < 32) : rolodexref03_turned.f x n = some (rotr x n) := by
  unfold rolodexref03_turned.f rotr
  rw [if_pos (by omega), or_comm32, show (32 - (n : Int)) % 4294967296 = 32 - n by omega]
theorem u32_wrap (n : Int) (h0 : 0 ≤ n) (h1 : n < 2 ^ 32) : IntKind.u32.wrap n = n := by rw [IntKind.wrap_u32]; omega
theorem or_join (x y : Int) (i : Nat) (hx0 : 0 ≤ x) (hx : x % 2 ^ i = 0) (hx1 : x < 2 ^ 32) (hy0 : 0 ≤ y) (hy : y < 2 ^ i) (hy1 : y < 2 ^ 32) : bits .or .u32 x y = x + y :=
  bits_join .u32 32 (by decide) u32_wrap i x y hx0 hx hx1 hy0 hy hy1
theorem be4_sum (a b c d : Int) (ha : 0 ≤ a ∧ a ≤ 255) (hb : 0 ≤ b ∧ b ≤ 255) (hc : 0 ≤ c ∧ c ≤ 255) (hd : 0 ≤ d ∧ d ≤ 255) :
    bits .or .u32 (bits .or .u32 (bits .or .u32 (a % 4294967296 * 16777216 % 4294967296) (b % 4294967296 * 65536 % 4294967296)) (c % 4294967296 * 256 % 4294967296)) (d % 4294967296) = a * 16777216 + b * 65536 + c * 256 + d := by
  have e1 : a % 4294967296 * 16777216 % 4294967296 = a * 16777216 := by omega
  have e2 : b % 4294967296 * 65536 % 4294967296 = b * 65536 := by omega
  have e3 : c % 4294967296 * 256 % 4294967296 = c * 256 := by omega
  have e4 : d % 4294967296 = d := by omega
  have j1 := or_join (a * 16777216) (b * 65536) 24 (by omega) (by omega) (by omega) (by omega) (by omega) (by omega)
  have j2 := or_join (a * 16777216 + b * 65536) (c * 256) 16 (by omega) (by omega) (by omega) (by omega) (by omega) (by omega)
  have j3 := or_join (a * 16777216 + b * 65536 + c * 256) d 8 (by omega) (by omega) (by omega) (by omega) (by omega) (by omega)
  rw [e1, e2, e3, e4, j1, j2, j3]
theorem take_set (xs : List Int) (i : Nat) (v : Int) (h : i < xs.length) : (xs.set i v).take (i + 1) = xs.take i ++ [v] := by
  apply List.ext_getElem
  · simp; omega
  · intro j h1 h2
    simp at h1
    by_cases hj : j = i
    · subst hj; simp [List.getElem_append]; omega
    · have : j < i := by omega
      simp [List.getElem_append, this, Ne.symm hj]; omega
theorem rd_take (xs : List Int) (n : Nat) (j : Nat) (h : j < n) (hn : n ≤ xs.length) : rd (xs.take n) (j : Int) = xs.getD j 0 := by
  unfold rd
  simp [List.getElem?_take, h]
theorem rd_byte {l : List Int} (hb : Bytes8 l) (j : Nat) : 0 ≤ rd l j ∧ rd l j ≤ 255 := by
  unfold rd
  rw [Int.toNat_natCast, List.getD_eq_getElem?_getD]
  by_cases h : j < l.length
  · rw [List.getElem?_eq_getElem h]; exact hb _ (List.getElem_mem h)
  · rw [List.getElem?_eq_none (by omega)]; simp
theorem words_step0 (l : List Int) (hl : l.length = 64) (hb : Bytes8 l) (i : Nat) (hi : i < 16) (k : Nat) :
    rolodexref03_words.l0 (k + 1) l ((schedAt l i).take i) i = rolodexref03_words.l0 k l ((schedAt l (i + 1)).take (i + 1)) ((i + 1 : Nat) : Int) := by
  have w0 : wrap64 (4 * (i : Int)) = ((4 * i : Nat) : Int) := by unfold wrap64; omega
  have w1 : wrap64 (((4 * i : Nat) : Int) + 1) = ((4 * i + 1 : Nat) : Int) := by unfold wrap64; omega
  have w2 : wrap64 (((4 * i : Nat) : Int) + 2) = ((4 * i + 2 : Nat) : Int) := by unfold wrap64; omega
  have w3 : wrap64 (((4 * i : Nat) : Int) + 3) = ((4 * i + 3 : Nat) : Int) := by unfold wrap64; omega
  have w4 : wrap64 ((i : Int) + 1) = ((i + 1 : Nat) : Int) := by unfold wrap64; omega
  have hlen : ((schedAt l i).take i).length < 35184372088832 := by rw [List.length_take, schedAt_length]; omega
  simp only [rolodexref03_words.l0, w0, w1, w2, w3, w4, hl]
  rw [if_pos (by omega), if_pos (by omega), if_pos (by omega), if_pos (by omega), if_pos (by omega), if_pos (by omega), if_pos (by omega), if_pos (by omega), if_pos (by omega), if_pos hlen]
  congr 1
  simp only [schedAt, if_pos hi]
  rw [take_set _ _ _ (by rw [schedAt_length]; omega)]
  congr 2
  unfold be4
  have c0 : 4 * (i : Int) = ((4 * i : Nat) : Int) := by omega
  have c1 : 4 * (i : Int) + 1 = ((4 * i + 1 : Nat) : Int) := by omega
  have c2 : 4 * (i : Int) + 2 = ((4 * i + 2 : Nat) : Int) := by omega
  have c3 : 4 * (i : Int) + 3 = ((4 * i + 3 : Nat) : Int) := by omega
  rw [c1, c2, c3, c0, be4_sum _ _ _ _ (rd_byte hb _) (rd_byte hb _) (rd_byte hb _) (rd_byte hb _)]
  have h0 := rd_byte hb (4 * i)
  have h1 := rd_byte hb (4 * i + 1)
  have h2 := rd_byte hb (4 * i + 2)
  have h3 := rd_byte hb (4 * i + 3)
  omega
theorem words_step1 (l : List Int) (i : Nat) (hi : 16 ≤ i) (hi2 : i < 64) (k : Nat) :
    rolodexref03_words.l1 (k + 1) ((schedAt l i).take i) i = rolodexref03_words.l1 k ((schedAt l (i + 1)).take (i + 1)) ((i + 1 : Nat) : Int) := by
  have w0 : wrap64 ((i : Int) - 15) = ((i - 15 : Nat) : Int) := by unfold wrap64; omega
  have w1 : wrap64 ((i : Int) - 2) = ((i - 2 : Nat) : Int) := by unfold wrap64; omega
  have w2 : wrap64 ((i : Int) - 16) = ((i - 16 : Nat) : Int) := by unfold wrap64; omega
  have w3 : wrap64 ((i : Int) - 7) = ((i - 7 : Nat) : Int) := by unfold wrap64; omega
  have w4 : wrap64 ((i : Int) + 1) = ((i + 1 : Nat) : Int) := by unfold wrap64; omega
  have hlen : ((schedAt l i).take i).length = i := by rw [List.length_take, schedAt_length]; omega
  have t7 : ∀ x, rolodexref03_turned.f x 7 = some (rotr x 7) := fun x => turned_eq x 7 (by decide) (by decide)
  have t18 : ∀ x, rolodexref03_turned.f x 18 = some (rotr x 18) := fun x => turned_eq x 18 (by decide) (by decide)
  have t17 : ∀ x, rolodexref03_turned.f x 17 = some (rotr x 17) := fun x => turned_eq x 17 (by decide) (by decide)
  have t19 : ∀ x, rolodexref03_turned.f x 19 = some (rotr x 19) := fun x => turned_eq x 19 (by decide) (by decide)
  simp only [rolodexref03_words.l1, w0, w1, w2, w3, w4, hlen]
  rw [if_pos (by omega), if_pos (by omega), if_pos (by omega), if_pos (by omega), if_pos (by omega)]
  rw [t7, Option.bind_some, t18, Option.bind_some, t17, Option.bind_some, t19, Option.bind_some]
  rw [if_pos (by omega), if_pos (by omega), if_pos (by omega), if_pos (by omega), if_pos (by omega)]
  congr 1
  have hs : (schedAt l i).length = 64 := schedAt_length l i
  simp only [schedAt, if_neg (show ¬ i < 16 by omega)]
  rw [take_set _ _ _ (by omega), rd_take _ _ _ (by omega) (by omega), rd_take _ _ _ (by omega) (by omega), rd_take _ _ _ (by omega) (by omega), rd_take _ _ _ (by omega) (by omega)]
  congr 2
  unfold later mix0 mix1
  omega
theorem words_l1 (l : List Int) : ∀ (d i k : Nat), i + d = 64 → 16 ≤ i → d < k → rolodexref03_words.l1 k ((schedAt l i).take i) i = some (schedAt l 64)
  | 0, i, k, h, _, hk => by
    obtain ⟨k, rfl⟩ : ∃ m, k = m + 1 := ⟨k - 1, by omega⟩
    obtain rfl : i = 64 := by omega
    simp only [rolodexref03_words.l1]
    rw [if_neg (by omega), List.take_of_length_le (by rw [schedAt_length]; omega)]
  | d + 1, i, k, h, h2, hk => by
    obtain ⟨k, rfl⟩ : ∃ m, k = m + 1 := ⟨k - 1, by omega⟩
    rw [words_step1 l i h2 (by omega)]
    exact words_l1 l d (i + 1) k (by omega) (by omega) (by omega)
theorem words_l0 (l : List Int) (hl : l.length = 64) (hb : Bytes8 l) : ∀ (d i k : Nat), i + d = 16 → d + 50 < k → rolodexref03_words.l0 k l ((schedAt l i).take i) i = some (schedAt l 64)
  | 0, i, k, h, hk => by
    obtain ⟨k, rfl⟩ : ∃ m, k = m + 1 := ⟨k - 1, by omega⟩
    obtain rfl : i = 16 := by omega
    simp only [rolodexref03_words.l0]
    rw [if_neg (by omega)]
    exact words_l1 l 48 16 k (by omega) (by omega) (by omega)
  | d + 1, i, k, h, hk => by
    obtain ⟨k, rfl⟩ : ∃ m, k = m + 1 := ⟨k - 1, by omega⟩
    rw [words_step0 l hl hb i (by omega)]
    exact words_l0 l hl hb d (i + 1) k (by omega) (by omega)
theorem words_eq (l : List Int) (hl : l.length = 64) (hb : Bytes8 l) : rolodexref03_words.f 100 l = some (schedAt l 64) := words_l0 l hl hb 16 0 100 (by omega) (by omega)
end Go.Proofs.Ytchaegfdcdlfaaa.X

/- The document's round is the code's. -/
namespace Go.Proofs.Ytchaegfdcdlfaaa.X
set_option linter.unusedVariables false
set_option linter.unusedSimpArgs false
open Go.RowKit
def Words (l : List Int) : Prop := ∀ x ∈ l, 0 ≤ x ∧ x < 4294967296
theorem words_get {l : List Int} (h : Words l) (i : Nat) : 0 ≤ l.getD i 0 ∧ l.getD i 0 < 4294967296 := by
  rw [List.getD_eq_getElem?_getD]
  by_cases hi : i < l.length
  · rw [List.getElem?_eq_getElem hi]; exact h _ (List.getElem_mem hi)
  · rw [List.getElem?_eq_none (by omega)]; simp
/-- The document's round. -/
def refT (xs : List Int) (k v : Int) : Int :=
  xs.getD 7 0 + bits .xor .u32 (bits .xor .u32 (rotr (xs.getD 4 0) 6) (rotr (xs.getD 4 0) 11)) (rotr (xs.getD 4 0) 25) + bits .or .u32 (bits .and .u32 (xs.getD 4 0) (xs.getD 5 0)) (bits .and .u32 ((4294967295 - xs.getD 4 0) % 4294967296) (xs.getD 6 0)) + k + v
def refU (xs : List Int) : Int :=
  bits .xor .u32 (bits .xor .u32 (rotr (xs.getD 0 0) 2) (rotr (xs.getD 0 0) 13)) (rotr (xs.getD 0 0) 22) + bits .or .u32 (bits .or .u32 (bits .and .u32 (xs.getD 0 0) (xs.getD 1 0)) (bits .and .u32 (xs.getD 0 0) (xs.getD 2 0))) (bits .and .u32 (xs.getD 1 0) (xs.getD 2 0))
def refL (xs : List Int) (k v : Int) : List Int :=
  [(refT xs k v + refU xs) % 4294967296, xs.getD 0 0, xs.getD 1 0, xs.getD 2 0, (xs.getD 3 0 + refT xs k v) % 4294967296, xs.getD 4 0, xs.getD 5 0, xs.getD 6 0]
theorem wrap_bv (b : BitVec 32) : IntKind.u32.wrap (b.toNat : Int) = b.toNat := by
  have := b.isLt
  simp [IntKind.wrap, IntKind.bits, IntKind.signed]
  omega
theorem and32 (x y : Int) : bits .and .u32 x y = ((BitVec.ofInt 32 x &&& BitVec.ofInt 32 y).toNat : Int) := wrap_bv _
theorem or32 (x y : Int) : bits .or .u32 x y = ((BitVec.ofInt 32 x ||| BitVec.ofInt 32 y).toNat : Int) := wrap_bv _
theorem xor32 (x y : Int) : bits .xor .u32 x y = ((BitVec.ofInt 32 x ^^^ BitVec.ofInt 32 y).toNat : Int) := wrap_bv _
theorem bv_back (b : BitVec 32) : BitVec.ofInt 32 (b.toNat : Int) = b := by
  rw [BitVec.ofInt_natCast]; simp
theorem bv_of {x : Int} (h : 0 ≤ x ∧ x < 4294967296) : ∃ b : BitVec 32, x = (b.toNat : Int) := by
  refine ⟨BitVec.ofNat 32 x.toNat, ?_⟩
  simp
  try omega
theorem not32 (b : BitVec 32) : bits .xor .u32 IntKind.u32.max (b.toNat : Int) = ((~~~b).toNat : Int) := by
  rw [xor32, bv_back]
  congr 2
theorem sub32 (b : BitVec 32) : (4294967295 - (b.toNat : Int)) % 4294967296 = ((~~~b).toNat : Int) := by
  have := b.isLt
  rw [BitVec.toNat_not]
  omega
theorem ch_bv (e f g : BitVec 32) : (e &&& f) ^^^ (~~~e &&& g) = (e &&& f) ||| (~~~e &&& g) := by
  ext i
  simp
  cases e[i] <;> cases f[i] <;> cases g[i] <;> rfl
theorem maj_bv (a b c : BitVec 32) : (a &&& b) ^^^ (a &&& c) ^^^ (b &&& c) = (a &&& b) ||| (a &&& c) ||| (b &&& c) := by
  ext i
  simp
  cases a[i] <;> cases b[i] <;> cases c[i] <;> rfl
theorem ch_eq {e f g : Int} (he : 0 ≤ e ∧ e < 4294967296) (hf : 0 ≤ f ∧ f < 4294967296) (hg : 0 ≤ g ∧ g < 4294967296) :
    bits .or .u32 (bits .and .u32 e f) (bits .and .u32 ((4294967295 - e) % 4294967296) g) = bits .xor .u32 (bits .and .u32 e f) (bits .and .u32 (bits .xor .u32 IntKind.u32.max e) g) := by
  obtain ⟨b, rfl⟩ := bv_of he
  obtain ⟨c, rfl⟩ := bv_of hf
  obtain ⟨d, rfl⟩ := bv_of hg
  rw [sub32, not32, and32, and32, or32, xor32]
  simp only [bv_back]
  rw [ch_bv]
theorem maj_eq {a b c : Int} (ha : 0 ≤ a ∧ a < 4294967296) (hb : 0 ≤ b ∧ b < 4294967296) (hc : 0 ≤ c ∧ c < 4294967296) :
    bits .or .u32 (bits .or .u32 (bits .and .u32 a b) (bits .and .u32 a c)) (bits .and .u32 b c) = bits .xor .u32 (bits .xor .u32 (bits .and .u32 a b) (bits .and .u32 a c)) (bits .and .u32 b c) := by
  obtain ⟨x, rfl⟩ := bv_of ha
  obtain ⟨y, rfl⟩ := bv_of hb
  obtain ⟨z, rfl⟩ := bv_of hc
  simp only [and32, or32, xor32, bv_back]
  rw [maj_bv]
theorem refT_eq {xs : List Int} (h : Words xs) (k v : Int) : refT xs k v = shaT xs k v := by
  unfold refT shaT
  rw [ch_eq (words_get h 4) (words_get h 5) (words_get h 6)]
theorem refU_eq {xs : List Int} (h : Words xs) : refU xs = shaU xs := by
  unfold refU shaU
  rw [maj_eq (words_get h 0) (words_get h 1) (words_get h 2)]
theorem ref_round {xs : List Int} (hl : xs.length = 8) (h : Words xs) (k v : Int) : refL xs k v = shaRound xs k v := by
  unfold refL shaRound
  rw [refT_eq h, refU_eq h]
  generalize shaT xs k v = T
  generalize shaU xs = U
  match xs, hl with
  | [x0, x1, x2, x3, x4, x5, x6, x7], _ => simp [splice]
theorem words_set {l : List Int} (h : Words l) (i : Nat) (v : Int) (hv : 0 ≤ v ∧ v < 4294967296) : Words (l.set i v) := by
  intro x hx
  rcases List.mem_or_eq_of_mem_set hx with h1 | h1
  · exact h x h1
  · rw [h1]; exact hv
theorem round_words {xs : List Int} (h : Words xs) (k v : Int) : Words (shaRound xs k v) := by
  unfold shaRound
  refine words_set (words_set ?_ _ _ (by omega)) _ _ (by omega)
  intro x hx
  unfold splice at hx
  simp only [List.mem_append] at hx
  rcases hx with hx | hx | hx
  · exact h x (List.mem_of_mem_take hx)
  · exact h x (List.mem_of_mem_take hx)
  · exact h x (List.mem_of_mem_drop hx)
theorem rounds_words {ss : List Int} (h : Words ss) (ws ks : List Int) : ∀ i, Words (shaRounds ss ws ks i)
  | 0 => h
  | i + 1 => round_words (rounds_words h ws ks i) _ _
theorem round_length {xs : List Int} (h : xs.length = 8) (k v : Int) : (shaRound xs k v).length = 8 := by
  unfold shaRound
  rw [List.length_set, List.length_set, length_splice _ _ _ (by rw [List.length_take, h]; decide), h]
theorem addUp_words {ss : List Int} (h : Words ss) (xs : List Int) : ∀ i, Words (addUp ss xs i)
  | 0 => h
  | i + 1 => words_set (addUp_words h xs i) _ _ (by omega)
/-- Three times an eighth. -/
theorem div_back (x : Int) (i : Nat) (h : i < 4) : x / 2 ^ (24 - 8 * i) % 256 = x / 256 ^ (3 - i) % 256 := by
  have : (2 : Int) ^ (24 - 8 * i) = 256 ^ (3 - i) := by
    obtain rfl | rfl | rfl | rfl : i = 0 ∨ i = 1 ∨ i = 2 ∨ i = 3 := by omega
    all_goals decide
  rw [this]
theorem div_step (x : Int) (n : Nat) : x / 256 ^ n / 256 = x / 256 ^ (n + 1) := by
  rw [Int.ediv_ediv_of_nonneg (Int.pow_nonneg (by decide)), ← Int.pow_succ]
end Go.Proofs.Ytchaegfdcdlfaaa.X

/- The document's digest: the walk. -/
namespace Go.Proofs.Ytchaegfdcdlfaaa.X
set_option linter.unusedVariables false
set_option linter.unusedSimpArgs false
open Go.RowKit Go.Proofs.YtchaegfdcdlfaaaW.PrintWords Go.Proofs.YtchaegfdcdlfaaaW.PrintLast Go.Proofs.YtchaegfdcdlfaaaW.PrintMore

/-- A slice of words that reads as a list. -/
abbrev RdW (w : World) (A : Option Addr) (n : Nat) (l : List Int) : Prop := Kd.C (Kd.int .u32) w A n l
theorem rdw_at {w : World} {ad : Addr} {n : Nat} {l : List Int} (h : RdW w (some ad) n l) {j : Nat} (hj : j < n) : w.cell? (ad.add j) = some (.int .u32 (l.getD j 0)) := by
  obtain ⟨ad2, e, hc⟩ := Kd.at_int h (j : Int) (by omega) (by omega)
  obtain rfl : ad = ad2 := by injection e
  rw [Int.toNat_natCast] at hc
  rw [hc]
  simp [rd]
theorem rdw_atn {w : World} {ad : Addr} {n : Nat} {l : List Int} (h : RdW w (some ad) n l) {j : Nat} (hj : j < n) (h0 : 0 < j) : w.cell? ⟨ad.block, ad.off + j, none⟩ = some (.int .u32 (l.getD j 0)) := by
  have := rdw_at h hj
  unfold Addr.add at this
  rw [if_neg (Nat.ne_of_gt h0)] at this
  exact this
theorem rdw_at0 {w : World} {ad : Addr} {n : Nat} {l : List Int} (h : RdW w (some ad) n l) (hn : 0 < n) : w.cell? ad = some (.int .u32 (l.getD 0 0)) := by
  have := rdw_at h hn
  unfold Addr.add at this
  rw [if_pos rfl] at this
  exact this
theorem rdw_below {w w' : World} {A : Option Addr} {n : Nat} {l : List Int} (h : RdW w A n l) (hb : Below w.heap.size w w') : RdW w' A n l := Kd.C_below h hb
theorem rdw_some {w : World} {A : Option Addr} {n : Nat} {l : List Int} (h : RdW w A n l) (hn : 0 < n) : ∃ ad, A = some ad := by
  obtain ⟨ad, e, _⟩ := Kd.at_int h 0 (by omega) (by omega)
  exact ⟨ad, e⟩
theorem Blk.readw {w : World} {g : Nat} {t : TypeId} {xs : List Int} (h : Blk w g t xs) (hm : xs.length ≤ 1000000000) : RdW w (some ⟨g, 0, none⟩) xs.length xs :=
  Kd.C_of_reads (d := (0 : Int)) (h1 := fun _ => rfl) ⟨rfl, by omega, fun _ => ⟨_, rfl, fun j hj => by rw [add_plain]; exact h.cell hj⟩⟩
/-- What has become of the world: new blocks, and one row of the call's own. -/
structure Fr (w w4 : World) (g : Nat) (w' : World) : Prop where
  below : Below w.heap.size w w'
  keep : KeepBut w4 w' g none
theorem Fr.step {w w4 w1 w2 : World} {g : Nat} (h : Fr w w4 g w1) (b : Below w1.heap.size w1 w2) : Fr w w4 g w2 :=
  ⟨below_step h.below b, h.keep.trans (KeepBut.of_below b g none) (.inl rfl)⟩
theorem Fr.set {w w4 w1 : World} {g : Nat} (h : Fr w w4 g w1) (hg : w.heap.size ≤ g) (i : Nat) (v : Value) : Fr w w4 g (w1.setCell ⟨g, i, none⟩ v) :=
  ⟨below_set h.below hg, h.keep.set_ i v⟩
theorem Fr.drewN {w w4 w1 : World} {g : Nat} (h : Fr w w4 g w1) (n : Nat) : Fr w w4 g (w1.drewN n) := h.step (pw_below_drewN (Below.refl _ _) n)
theorem Fr.drew {w w4 w1 : World} {g : Nat} (h : Fr w w4 g w1) : Fr w w4 g w1.drew := h.step (below_drew (Below.refl _ _))
theorem Fr.rdb {w w4 w1 : World} {g : Nat} {A : Option Addr} {n : Nat} {l : List Int} (h : Fr w w4 g w1) (hr : RdB w4 A n l) (hf : ∀ ad, A = some ad → 0 < n → ad.block ≠ g) : RdB w1 A n l :=
  Kd.C_of_reads (d := (0 : Int)) (h1 := fun _ => rfl) ((Kd.reads_of_C (d := (0 : Int)) hr : ReadsInt _ _ _ _ _).keep h.keep hf)
theorem Fr.rdw {w w4 w1 : World} {g : Nat} {A : Option Addr} {n : Nat} {l : List Int} (h : Fr w w4 g w1) (hr : RdW w4 A n l) (hf : ∀ ad, A = some ad → 0 < n → ad.block ≠ g) : RdW w1 A n l :=
  Kd.C_of_reads (d := (0 : Int)) (h1 := fun _ => rfl) ((Kd.reads_of_C (d := (0 : Int)) hr : ReadsInt _ _ _ _ _).keep h.keep hf)
theorem wpAnyH_str {P : Program} {md : Region.Mode} {ops : Array Oper} {Q : Exit → Act → World → Prop} {S S2 : World → Prop} (h : ∀ W, S2 W → S W) :
    ∀ (fuel : Nat) (listed : Array Bool) (a : Act) (w : World), wpAnyH P md ops Q S2 fuel listed a w → wpAnyH P md ops Q S fuel listed a w
  | 0, _, _, _, hh => hh
  | fuel + 1, _, _, _, hh => ⟨hh.1, fun i hi => wpOp_mono (fun a' w' h' => ⟨h w' h'.1, wpAnyH_str h fuel _ a' w' h'.2⟩) (hh.2 i hi)⟩
theorem adr_add (a : Addr) (i j : Nat) : (a.add i).add j = a.add (i + j) := by
  unfold Addr.add
  by_cases hi : i = 0
  · subst hi; simp
  · by_cases hj : j = 0
    · subst hj; simp
    · simp [hi, hj]; omega
theorem rdb_mid {w : World} {A : Option Addr} {l : List Int} (h : RdB w A l.length l) (q : Nat) (hq : q + 64 ≤ l.length) : RdB w (A.map fun x => x.add q) 64 ((l.drop q).take 64) := by
  have h1 := Kd.reads_of_C (d := (0 : Int)) h
  obtain ⟨ad, rfl, hc⟩ := h1.2.2 (by omega)
  refine Kd.C_of_reads (d := (0 : Int)) (h1 := fun _ => rfl) ⟨by simp; omega, by omega, fun _ => ⟨ad.add q, rfl, fun j hj => ?_⟩⟩
  rw [show (ad.add q).add j = ad.add (q + j) from adr_add ad q j, hc (q + j) (by omega)]
  simp [List.getElem?_take, hj, List.getElem?_drop]
theorem words_call (A : Option Addr) (c : Nat) (l : List Int) (w : World) (hr : RdB w A 64 l) (hc : 64 ≤ c) (hl : l.length = 64) (hb : Bytes8 l) :
    Calls Try.prog 165 #[.slice A 64 c] w fun e w' => ∃ ad c6, e = .returned (.slice (some ad) 64 c6) ∧ Aside0 (RdW w' (some ad) 64 (schedAt l 64)) ∧ Below w.heap.size w w' := by
  have h := rolodexref03_words.calls 100 A c l (schedAt l 64) w (by rw [hl]; exact hr) (by omega) (words_eq l hl hb)
  rw [hl] at h
  refine h.mono ?_
  rintro e w' ⟨v, rfl, hk, hb⟩
  obtain ⟨A6, c6, rfl, hc6, hr6⟩ := Kd.R_reads hk
  rw [schedAt_length] at hr6
  obtain ⟨ad, rfl⟩ := rdw_some hr6 (by decide)
  exact ⟨ad, c6, by rw [schedAt_length], ⟨hr6⟩, hb⟩
theorem k_call (w : World) : Calls Try.prog 167 #[] w fun e w' => ∃ ad c6, e = .returned (.slice (some ad) 64 c6) ∧ RdW w' (some ad) 64 rootsL ∧ Below w.heap.size w w' := by
  refine (rolodexref03_k.calls rootsL w rfl).mono ?_
  rintro e w' ⟨v, rfl, hk, hb⟩
  obtain ⟨A6, c6, rfl, hc6, hr6⟩ := Kd.R_reads hk
  rw [show rootsL.length = 64 from rfl] at hr6
  obtain ⟨ad, rfl⟩ := rdw_some hr6 (by decide)
  exact ⟨ad, c6, rfl, hr6, hb⟩
theorem turned_call (x : Int) (n : Nat) (h0 : 0 < n) (h1 : n < 32) (w : World) : Calls Try.prog 166 #[.int .u32 x, .int .u32 n] w fun e w' => e = .returned (.int .u32 (rotr x n)) ∧ Drawn0 w w' :=
  rolodexref03_turned.calls x n _ w (turned_eq x n h0 h1)
/-- 'append(v, ys...)' of rows of words. -/
theorem app_words {w0 W : World} {ops : Array Oper} {rest : List Oper} {o : Oper} {a : Act} {Q : Exit → Act → World → Prop} (base : Nat) (hgd : o.guard = none) (s x : Operand)
    (ho : o.op = .call { callee := .builtin .append, args := #[s, x], argTypes := #[225, 225] }) (v : Value) (xs ys : List Int) (A : Option Addr) (m c : Nat) (hs : a.eval s = v) (hx : a.eval x = .slice A m c)
    (HO : W.ownsRow base 26 1 v xs.length (nums .u32 xs)) (HR : RdW W A m ys) (HB : Below base w0 W) (hbase : base ≤ W.heap.size) (hl : xs.length + m ≤ 1000000000)
    (h : ∀ v1 w1, Aside0 (w1.ownsRow base 26 1 v1 (xs ++ ys).length (nums .u32 (xs ++ ys))) → Aside0 (Below base w0 w1) → wpList Try.prog ops Q rest (a.put o.dst v1) w1) :
    wpList Try.prog ops Q (o :: rest) a W :=
  print_append_row (w0 := w0) base hgd s x 225 26 .u32 4 ho Try.underlying225 info26 (by decide) v xs ys A m c hs hx HO (Kd.reads_of_C HR) HB hbase (by omega)
    fun v1 w1 h1 h2 _ _ => h v1 w1 ⟨h1⟩ ⟨h2⟩
theorem own_words {w : World} {base n : Nat} {v : Value} {l : List Int} (h : w.ownsRow base 26 1 v n (nums .u32 l)) (hn : 0 < n) : ∃ ad c, v = .slice (some ad) n c ∧ n ≤ c ∧ RdW w (some ad) n l ∧ base ≤ ad.block := by
  have hn2 : n = l.length := by have := h.1; simp [nums] at this; omega
  subst hn2
  obtain ⟨A, c, rfl, hc, hr⟩ := Kd.R_reads (Kd.R_of_own (enc := Value.int .u32) (h1 := fun _ => rfl) (ok := fun _ => True) h (fun _ _ => trivial))
  obtain ⟨ad, rfl⟩ := rdw_some hr hn
  exact ⟨ad, c, rfl, hc, hr, own_base h ad.block rfl⟩
theorem msg2_bytes (l : List Int) (h : Bytes8 l) : Bytes8 (msg2 l 8) := by
  intro x hx
  unfold msg2 msg1 at hx
  simp only [List.mem_append, List.mem_replicate, List.mem_map, List.mem_range, List.mem_singleton] at hx
  rcases hx with ((hx | hx) | hx) | ⟨i, _, rfl⟩
  · exact h x hx
  · omega
  · omega
  · unfold lenByte; omega
theorem rdw_set {w : World} {ad : Addr} {n : Nat} {l : List Int} (h : RdW w (some ad) n l) (g i : Nat) (v : Value) (hne : ad.block ≠ g) : RdW (w.setCell ⟨g, i, none⟩ v) (some ad) n l :=
  Kd.C_of_reads (d := (0 : Int)) (h1 := fun _ => rfl) ((Kd.reads_of_C (d := (0 : Int)) h : ReadsInt _ _ _ _ _).keep ((KeepBut.refl w g none).set_ i v) (fun a e _ => by injection e with e; subst e; exact hne))
theorem build24 (W : World) : (Instr.build 28 #[]).run Try.prog W = .ok (.agg (cells8 (List.replicate 32 0))) W := by kernel_rfl
theorem state_words (m : List Int) : ∀ j, Words (stateAt m j)
  | 0 => by intro x hx; simp only [stateAt, begunL, List.mem_cons, List.not_mem_nil, or_false] at hx; omega
  | j + 1 => addUp_words (state_words m j) _ _

set_option maxHeartbeats 8000000 in
set_option maxRecDepth 100000 in
theorem refsum_call (A : Option Addr) (c : Nat) (l : List Int) (w : World) (hr : RdB w A l.length l) (hc : l.length ≤ c) (hl : l.length ≤ 1000) (hb : Bytes8 l) :
    Calls Try.prog 136 #[.slice A l.length c] w fun e w' => e = .returned (.agg (cells8 (shaOf l))) ∧ Below w.heap.size w w' := by
  have HR := Aside0.mk hr
  have HB0 := Aside0.mk hb
  clear hr hb
  go_enter Try.func136, Try.ntmps136
  go_wp2_with fail
  refine (message_call A c l _ (rdb_below HR.out (below_alloc (below_alloc (Below.refl _ _) _) _)) hc (by omega)).mono ?_
  rintro e w4 ⟨v, rfl, HO, HB⟩
  have HBw : Aside0 (Below w.heap.size w w4) := ⟨below_step (below_alloc (below_alloc (Below.refl _ _) _) _) HB.out⟩
  have HZ : Aside0 (Blk8 w4 w.heap.size 28 (List.replicate 32 0)) := ⟨Blk8.below (heap_alloc2_old w _ _) HB.out (by simp; omega)⟩
  have HG : Aside0 (Blk w4 (w.heap.size + 1) 26 begunL) := ⟨Blk.below (heap_alloc2_new w _ _) HB.out (by simp)⟩
  obtain ⟨A4, c4, rfl, hc4, hr4⟩ := own_row HO.out
  have HFAR : Aside0 (∀ ad, A4 = some ad → ad.block ≠ w.heap.size + 1) := ⟨fun ad had => by
    have := own_base HO.out ad.block (by rw [had]; rfl)
    simp at this
    omega⟩
  have HR4 := Aside0.mk hr4
  obtain ⟨msg, hmsg⟩ : ∃ msg, msg = msg2 l 8 := ⟨_, rfl⟩
  obtain ⟨p, hp⟩ : ∃ p, p = msg.length := ⟨_, rfl⟩
  rw [← hmsg, ← hp] at HR4 hc4 ⊢
  have HP : Aside0 (msg.length = p) := ⟨hp.symm⟩
  have HMSG : Aside0 (msg2 l 8 = msg) := ⟨hmsg.symm⟩
  have HN : Aside0 (p % 64 = 0) := ⟨by rw [hp, hmsg, msg2_length]; have := padN_at l.length; omega⟩
  have hpl : p ≤ 2000 := by rw [hp, hmsg, msg2_length]; have := padN_lt l.length; omega
  have HMB : Aside0 (Bytes8 msg) := ⟨by rw [hmsg]; exact msg2_bytes l HB0.out⟩
  clear HO hr4 hmsg hp
  have HF : Aside0 (Fr w w4 (w.heap.size + 1) w4) := ⟨⟨HBw.out, KeepBut.refl _ _ _⟩⟩
  clear HB
  go_wp2_with fail
  go_loopg [5] (p / 64) (fun k v5 w' => ∃ (j : Nat), v5 = .int .i64 ((64 * j : Nat) : Int) ∧ Aside0 (k = p / 64 - j ∧ j ≤ p / 64) ∧ Aside0 (Blk w' (w.heap.size + 1) 26 (stateAt msg j)) ∧ Aside0 (Fr w w4 (w.heap.size + 1) w'))
  case atStart => exact ⟨0, rfl, ⟨by omega, by omega⟩, HG, HF⟩
  case round =>
    clear HG HF
    obtain ⟨j, rfl, HJ, HG, HF⟩ := hrel
    by_cases hj : j < p / 64
    · have d1 : decide (64 * j < p) = true := decide_eq_true (by omega)
      have d2 : decide (((64 * j : Nat) : Int) < (p : Int)) = true := decide_eq_true (by omega)
      obtain ⟨q, hq⟩ : ∃ q, q = 64 * j := ⟨_, rfl⟩
      rw [← hq] at d1 d2 ⊢
      have HQ := Aside0.mk hq
      have hqp : q + 64 ≤ p := by omega
      have HWF : Aside0 (RdB w4 A4 msg.length msg) := ⟨by rw [HP.out]; exact HR4.out⟩
      clear hq
      have HCH : Aside0 (RdB wr (A4.map fun x => x.add q) 64 ((msg.drop q).take 64)) := ⟨rdb_mid (by rw [HP.out]; exact HF.out.rdb HR4.out (fun ad had _ => HFAR.out ad had)) q (by rw [HP.out]; exact hqp)⟩
      have HCL : Aside0 (((msg.drop q).take 64).length = 64) := ⟨by simp; have := HP.out; omega⟩
      have HCB : Aside0 (Bytes8 ((msg.drop q).take 64)) := ⟨fun x hx => HMB.out x (List.mem_of_mem_drop (List.mem_of_mem_take hx))⟩
      clear HWF
      go_wp2_with fail
      refine (words_call _ _ ((msg.drop q).take 64) _ HCH.out (by omega) HCL.out HCB.out).mono ?_
      rintro e w5 ⟨a6, c6, rfl, HW5, hb5⟩
      have HB5 := Aside0.mk hb5
      clear hb5
      obtain ⟨ws, hws⟩ : ∃ ws, ws = schedAt ((msg.drop q).take 64) 64 := ⟨_, rfl⟩
      rw [← hws] at HW5
      have HWS := Aside0.mk hws
      have HSL : Aside0 ((stateAt msg j).length = 8) := ⟨stateAt_length _ _⟩
      obtain ⟨ss, hss⟩ : ∃ ss, ss = stateAt msg j := ⟨_, rfl⟩
      rw [← hss] at HG HSL
      have HSS := Aside0.mk hss
      clear hws hss
      have HG5 : Aside0 (Blk w5 (w.heap.size + 1) 26 ss) := ⟨Blk.below HG.out HB5.out (Blk.lt HG.out)⟩
      have HR5 : Aside0 (RdW w5 (some ⟨w.heap.size + 1, 0, none⟩) 8 ss) := ⟨by have := HG5.out.readw (by rw [HSL.out]; decide); rw [HSL.out] at this; exact this⟩
      go_wp2_with (first
        | ((with_reducible refine gate_builtin (b := .append) (xs := #[.const (.slice none 0 0), .tmp 33]) rfl ?_); at_builtin; refine app_words (w0 := w5) w5.heap.size rfl _ _ rfl (.slice none 0 0) [] ss (some ⟨w.heap.size + 1, 0, none⟩) 8 8 rfl rfl (own_nil _ _ _ _) HR5.out (Below.refl _ _) (Nat.le_refl _) (by decide) ?_; intro v6 w6 HO6 HB6; have HO7 : w6.ownsRow w5.heap.size 26 1 v6 8 (nums .u32 ss) := (by have h_ := HO6.out; rw [List.nil_append, HSL.out] at h_; exact h_); obtain ⟨ad, c7, rfl, hc7, hr7, hbl7⟩ := own_words HO7 (by decide))
        | fail)
      have HX6 : Aside0 (RdW w6 (some ad) 8 ss) := ⟨hr7⟩
      have HW6 : Aside0 (RdW w6 (some a6) 64 ws) := ⟨rdw_below HW5.out HB6.out⟩
      have HAD : Aside0 (w.heap.size + 1 < ad.block) := ⟨Nat.lt_of_lt_of_le (Blk.lt HG5.out) hbl7⟩
      have HWD : Aside0 (Words ss) := ⟨by rw [HSS.out]; exact state_words _ _⟩
      clear hr7 hbl7 HO6 HO7 hc7
      obtain ⟨wo, rfl⟩ : ∃ wo : World, wo = wr := ⟨_, rfl⟩
      go_loopg [7, 8] 64 (fun k v7 v8 w' => ∃ (i : Nat) (xs : List Int) (ad : Addr) (c7 : Nat), v7 = .slice (some ad) 8 c7 ∧ v8 = .int .i64 (i : Int) ∧ Aside0 (k = 64 - i ∧ i ≤ 64) ∧ Aside0 (xs = shaRounds ss ws rootsL i) ∧ Aside0 (xs.length = 8) ∧ Aside0 (w.heap.size + 1 < ad.block) ∧ Aside0 (RdW w' (some ad) 8 xs) ∧ Aside0 (RdW w' (some a6) 64 ws) ∧ Aside0 (Below w6.heap.size w6 w'))
      case atStart => exact ⟨0, ss, ad, c7, rfl, rfl, ⟨by omega, by omega⟩, ⟨rfl⟩, HSL, HAD, HX6, HW6, ⟨Below.refl _ _⟩⟩
      case round =>
        clear HX6 HAD
        obtain ⟨i, xs, ad, c7, rfl, rfl, HI, HXE, HXL, HAD, HX, HW, HL⟩ := hrel
        by_cases hi : i < 64
        · have e1 : decide (i < 64) = true := decide_eq_true hi
          have e2 : decide ((i : Int) < 64) = true := decide_eq_true (by omega)
          have pi : (0 ≤ (i : Int)) = True := eq_true (by omega)
          have qi : ((i : Int) < 64) = True := eq_true (by omega)
          have hwr : IntKind.i64.wrap ((i : Int) + 1) = ((i + 1 : Nat) : Int) := by rw [i64_w]; unfold wrap64; omega
          have x4 := rdw_atn HX.out (j := 4) (by decide) (by decide)
          have x0 := rdw_at0 HX.out (by decide)
          go_wp2_with fail
          refine wp_region_held_drew (S := (fun W => RdW W (some ad) 8 xs ∧ RdW W (some a6) 64 ws)) (by kernel_rfl) ((And.intro HX.out HW.out)) (fun hHeld => ?_)
          refine wpAnyH_take (i := 0) (v := ?_) (by simp only [List.getElem?_toArray, List.getElem?_cons_succ, List.getElem?_cons_zero]; rfl) (by kernel_rfl) (by kernel_rfl) (by kernel_rfl) (by intro _ _ _ h; exact h) (Or.inl ⟨by rfl, ?hy⟩) (by assumption) ?_
          case hy => (intro W_ hW_; go_simp; first | done | with_reducible rfl)
          try simp only [Act.put, List.setIfInBounds_toArray, List.set_cons_zero, List.set_cons_succ]
          refine wpAnyH_take (i := 1) (v := ?_) (by simp only [List.getElem?_toArray, List.getElem?_cons_succ, List.getElem?_cons_zero]; rfl) (by kernel_rfl) (by kernel_rfl) (by kernel_rfl) (by intro _ _ _ h; exact h) (Or.inl ⟨by rfl, ?hy⟩) (by assumption) ?_
          case hy => (intro W_ hW_; go_simp; first | done | with_reducible rfl)
          try simp only [Act.put, List.setIfInBounds_toArray, List.set_cons_zero, List.set_cons_succ]
          refine wpAnyH_take (i := 2) (v := ?_) (by simp only [List.getElem?_toArray, List.getElem?_cons_succ, List.getElem?_cons_zero]; rfl) (by kernel_rfl) (by kernel_rfl) (by kernel_rfl) (by intro _ _ _ h; exact h) (Or.inl ⟨by rfl, ?hy⟩) (by assumption) ?_
          case hy => (intro W_ hW_; have f_ := rdw_atn hW_.1 (j := 7) (by decide) (by decide); go_simp; first | done | with_reducible rfl)
          try simp only [Act.put, List.setIfInBounds_toArray, List.set_cons_zero, List.set_cons_succ]
          refine wpAnyH_take (i := 3) (v := ?_) (by simp only [List.getElem?_toArray, List.getElem?_cons_succ, List.getElem?_cons_zero]; rfl) (by kernel_rfl) (by kernel_rfl) (by kernel_rfl) (by intro _ _ _ h; exact h) (Or.inl ⟨by rfl, ?hy⟩) (by assumption) ?_
          case hy => (intro W_ hW_; go_simp; first | done | with_reducible rfl)
          try simp only [Act.put, List.setIfInBounds_toArray, List.set_cons_zero, List.set_cons_succ]
          refine wpAnyH_take (i := 5) (v := ?_) (by simp only [List.getElem?_toArray, List.getElem?_cons_succ, List.getElem?_cons_zero]; rfl) (by kernel_rfl) (by kernel_rfl) (by kernel_rfl) (by intro _ _ _ h; exact h) (Or.inl ⟨by rfl, ?hy⟩) (by assumption) ?_
          case hy => (intro W_ hW_; go_simp; first | done | with_reducible rfl)
          try simp only [Act.put, List.setIfInBounds_toArray, List.set_cons_zero, List.set_cons_succ]
          refine wpAnyH_take (i := 8) (v := ?_) (by simp only [List.getElem?_toArray, List.getElem?_cons_succ, List.getElem?_cons_zero]; rfl) (by kernel_rfl) (by kernel_rfl) (by kernel_rfl) (by intro _ _ _ h; exact h) (Or.inl ⟨by rfl, ?hy⟩) (by assumption) ?_
          case hy => (intro W_ hW_; go_simp; first | done | with_reducible rfl)
          try simp only [Act.put, List.setIfInBounds_toArray, List.set_cons_zero, List.set_cons_succ]
          refine wpAnyH_take (i := 12) (v := ?_) (by simp only [List.getElem?_toArray, List.getElem?_cons_succ, List.getElem?_cons_zero]; rfl) (by kernel_rfl) (by kernel_rfl) (by kernel_rfl) (by intro _ _ _ h; exact h) (Or.inl ⟨by rfl, ?hy⟩) (by assumption) ?_
          case hy => (intro W_ hW_; go_simp; first | done | with_reducible rfl)
          try simp only [Act.put, List.setIfInBounds_toArray, List.set_cons_zero, List.set_cons_succ]
          refine wpAnyH_take (i := 13) (v := ?_) (by simp only [List.getElem?_toArray, List.getElem?_cons_succ, List.getElem?_cons_zero]; rfl) (by kernel_rfl) (by kernel_rfl) (by kernel_rfl) (by intro _ _ _ h; exact h) (Or.inl ⟨by rfl, ?hy⟩) (by assumption) ?_
          case hy => (intro W_ hW_; go_simp; first | done | with_reducible rfl)
          try simp only [Act.put, List.setIfInBounds_toArray, List.set_cons_zero, List.set_cons_succ]
          refine wpAnyH_take (i := 14) (v := ?_) (by simp only [List.getElem?_toArray, List.getElem?_cons_succ, List.getElem?_cons_zero]; rfl) (by kernel_rfl) (by kernel_rfl) (by kernel_rfl) (by intro _ _ _ h; exact h) (Or.inl ⟨by rfl, ?hy⟩) (by assumption) ?_
          case hy => (intro W_ hW_; go_simp; first | done | with_reducible rfl)
          try simp only [Act.put, List.setIfInBounds_toArray, List.set_cons_zero, List.set_cons_succ]
          refine wpAnyH_take (i := 15) (v := ?_) (by simp only [List.getElem?_toArray, List.getElem?_cons_succ, List.getElem?_cons_zero]; rfl) (by kernel_rfl) (by kernel_rfl) (by kernel_rfl) (by intro _ _ _ h; exact h) (Or.inl ⟨by rfl, ?hy⟩) (by assumption) ?_
          case hy => (intro W_ hW_; have f_ := rdw_atn hW_.1 (j := 5) (by decide) (by decide); go_simp; first | done | with_reducible rfl)
          try simp only [Act.put, List.setIfInBounds_toArray, List.set_cons_zero, List.set_cons_succ]
          refine wpAnyH_take (i := 16) (v := ?_) (by simp only [List.getElem?_toArray, List.getElem?_cons_succ, List.getElem?_cons_zero]; rfl) (by kernel_rfl) (by kernel_rfl) (by kernel_rfl) (by intro _ _ _ h; exact h) (Or.inl ⟨by rfl, ?hy⟩) (by assumption) ?_
          case hy => (intro W_ hW_; go_simp; first | done | with_reducible rfl)
          try simp only [Act.put, List.setIfInBounds_toArray, List.set_cons_zero, List.set_cons_succ]
          refine wpAnyH_take (i := 17) (v := ?_) (by simp only [List.getElem?_toArray, List.getElem?_cons_succ, List.getElem?_cons_zero]; rfl) (by kernel_rfl) (by kernel_rfl) (by kernel_rfl) (by intro _ _ _ h; exact h) (Or.inl ⟨by rfl, ?hy⟩) (by assumption) ?_
          case hy => (intro W_ hW_; go_simp; first | done | with_reducible rfl)
          try simp only [Act.put, List.setIfInBounds_toArray, List.set_cons_zero, List.set_cons_succ]
          refine wpAnyH_take (i := 18) (v := ?_) (by simp only [List.getElem?_toArray, List.getElem?_cons_succ, List.getElem?_cons_zero]; rfl) (by kernel_rfl) (by kernel_rfl) (by kernel_rfl) (by intro _ _ _ h; exact h) (Or.inl ⟨by rfl, ?hy⟩) (by assumption) ?_
          case hy => (intro W_ hW_; go_simp; first | done | with_reducible rfl)
          try simp only [Act.put, List.setIfInBounds_toArray, List.set_cons_zero, List.set_cons_succ]
          refine wpAnyH_take (i := 19) (v := ?_) (by simp only [List.getElem?_toArray, List.getElem?_cons_succ, List.getElem?_cons_zero]; rfl) (by kernel_rfl) (by kernel_rfl) (by kernel_rfl) (by intro _ _ _ h; exact h) (Or.inl ⟨by rfl, ?hy⟩) (by assumption) ?_
          case hy => (intro W_ hW_; go_simp; first | done | with_reducible rfl)
          try simp only [Act.put, List.setIfInBounds_toArray, List.set_cons_zero, List.set_cons_succ]
          refine wpAnyH_take (i := 20) (v := ?_) (by simp only [List.getElem?_toArray, List.getElem?_cons_succ, List.getElem?_cons_zero]; rfl) (by kernel_rfl) (by kernel_rfl) (by kernel_rfl) (by intro _ _ _ h; exact h) (Or.inl ⟨by rfl, ?hy⟩) (by assumption) ?_
          case hy => (intro W_ hW_; go_simp; first | done | with_reducible rfl)
          try simp only [Act.put, List.setIfInBounds_toArray, List.set_cons_zero, List.set_cons_succ]
          refine wpAnyH_take (i := 21) (v := ?_) (by simp only [List.getElem?_toArray, List.getElem?_cons_succ, List.getElem?_cons_zero]; rfl) (by kernel_rfl) (by kernel_rfl) (by kernel_rfl) (by intro _ _ _ h; exact h) (Or.inl ⟨by rfl, ?hy⟩) (by assumption) ?_
          case hy => (intro W_ hW_; have f_ := rdw_atn hW_.1 (j := 6) (by decide) (by decide); go_simp; first | done | with_reducible rfl)
          try simp only [Act.put, List.setIfInBounds_toArray, List.set_cons_zero, List.set_cons_succ]
          refine wpAnyH_take (i := 22) (v := ?_) (by simp only [List.getElem?_toArray, List.getElem?_cons_succ, List.getElem?_cons_zero]; rfl) (by kernel_rfl) (by kernel_rfl) (by kernel_rfl) (by intro _ _ _ h; exact h) (Or.inl ⟨by rfl, ?hy⟩) (by assumption) ?_
          case hy => (intro W_ hW_; go_simp; first | done | with_reducible rfl)
          try simp only [Act.put, List.setIfInBounds_toArray, List.set_cons_zero, List.set_cons_succ]
          refine wpAnyH_take (i := 23) (v := ?_) (by simp only [List.getElem?_toArray, List.getElem?_cons_succ, List.getElem?_cons_zero]; rfl) (by kernel_rfl) (by kernel_rfl) (by kernel_rfl) (by intro _ _ _ h; exact h) (Or.inl ⟨by rfl, ?hy⟩) (by assumption) ?_
          case hy => (intro W_ hW_; go_simp; first | done | with_reducible rfl)
          try simp only [Act.put, List.setIfInBounds_toArray, List.set_cons_zero, List.set_cons_succ]
          refine wpAnyH_take (i := 26) (v := ?_) (by simp only [List.getElem?_toArray, List.getElem?_cons_succ, List.getElem?_cons_zero]; rfl) (by kernel_rfl) (by kernel_rfl) (by kernel_rfl) (by intro _ _ _ h; exact h) (Or.inl ⟨by rfl, ?hy⟩) (by assumption) ?_
          case hy => (intro W_ hW_; go_simp; first | done | with_reducible rfl)
          try simp only [Act.put, List.setIfInBounds_toArray, List.set_cons_zero, List.set_cons_succ]
          refine wpAnyH_take (i := 30) (v := ?_) (by simp only [List.getElem?_toArray, List.getElem?_cons_succ, List.getElem?_cons_zero]; rfl) (by kernel_rfl) (by kernel_rfl) (by kernel_rfl) (by intro _ _ _ h; exact h) (Or.inl ⟨by rfl, ?hy⟩) (by assumption) ?_
          case hy => (intro W_ hW_; go_simp; first | done | with_reducible rfl)
          try simp only [Act.put, List.setIfInBounds_toArray, List.set_cons_zero, List.set_cons_succ]
          refine wpAnyH_take (i := 31) (v := ?_) (by simp only [List.getElem?_toArray, List.getElem?_cons_succ, List.getElem?_cons_zero]; rfl) (by kernel_rfl) (by kernel_rfl) (by kernel_rfl) (by intro _ _ _ h; exact h) (Or.inl ⟨by rfl, ?hy⟩) (by assumption) ?_
          case hy => (intro W_ hW_; go_simp; first | done | with_reducible rfl)
          try simp only [Act.put, List.setIfInBounds_toArray, List.set_cons_zero, List.set_cons_succ]
          refine wpAnyH_take (i := 32) (v := ?_) (by simp only [List.getElem?_toArray, List.getElem?_cons_succ, List.getElem?_cons_zero]; rfl) (by kernel_rfl) (by kernel_rfl) (by kernel_rfl) (by intro _ _ _ h; exact h) (Or.inl ⟨by rfl, ?hy⟩) (by assumption) ?_
          case hy => (intro W_ hW_; go_simp; first | done | with_reducible rfl)
          try simp only [Act.put, List.setIfInBounds_toArray, List.set_cons_zero, List.set_cons_succ]
          refine wpAnyH_take (i := 33) (v := ?_) (by simp only [List.getElem?_toArray, List.getElem?_cons_succ, List.getElem?_cons_zero]; rfl) (by kernel_rfl) (by kernel_rfl) (by kernel_rfl) (by intro _ _ _ h; exact h) (Or.inl ⟨by rfl, ?hy⟩) (by assumption) ?_
          case hy => (intro W_ hW_; have f_ := rdw_at hW_.2 (j := i) hi; go_simp; first | done | with_reducible rfl)
          try simp only [Act.put, List.setIfInBounds_toArray, List.set_cons_zero, List.set_cons_succ]
          refine wpAnyH_ready (rs := [4]) (by kernel_rfl) (by simp) ?_
          refine AllReadyH.cons (by simp only [List.getElem?_toArray, List.getElem?_cons_succ, List.getElem?_cons_zero]; rfl) (fun K hK => ?_) AllReadyH.nil
          rw [if_pos (by rfl)]
          go_wp2_with fail
          refine (turned_call _ 6 (by decide) (by decide) _).mono ?_
          rintro e w7 ⟨rfl, ⟨q_, rfl⟩⟩
          refine hK.out _ _ (hHeld) (fun hHeld2 => ?_)
          clear hK K hHeld
          have hHeld := hHeld2
          clear hHeld2
          try simp only [Act.put, List.setIfInBounds_toArray, List.set_cons_zero, List.set_cons_succ]
          refine wpAnyH_ready (rs := [6]) (by kernel_rfl) (by simp) ?_
          refine AllReadyH.cons (by simp only [List.getElem?_toArray, List.getElem?_cons_succ, List.getElem?_cons_zero]; rfl) (fun K hK => ?_) AllReadyH.nil
          rw [if_pos (by rfl)]
          go_wp2_with fail
          refine (turned_call _ 11 (by decide) (by decide) _).mono ?_
          rintro e w7 ⟨rfl, ⟨q_, rfl⟩⟩
          refine hK.out _ _ (hHeld) (fun hHeld2 => ?_)
          clear hK K hHeld
          have hHeld := hHeld2
          clear hHeld2
          try simp only [Act.put, List.setIfInBounds_toArray, List.set_cons_zero, List.set_cons_succ]
          refine wpAnyH_take (i := 7) (v := ?_) (by simp only [List.getElem?_toArray, List.getElem?_cons_succ, List.getElem?_cons_zero]; rfl) (by kernel_rfl) (by kernel_rfl) (by kernel_rfl) (by intro _ _ _ h; exact h) (Or.inl ⟨by rfl, ?hy⟩) (by assumption) ?_
          case hy => (intro W_ hW_; go_simp; first | done | with_reducible rfl)
          try simp only [Act.put, List.setIfInBounds_toArray, List.set_cons_zero, List.set_cons_succ]
          refine wpAnyH_ready (rs := [9]) (by kernel_rfl) (by simp) ?_
          refine AllReadyH.cons (by simp only [List.getElem?_toArray, List.getElem?_cons_succ, List.getElem?_cons_zero]; rfl) (fun K hK => ?_) AllReadyH.nil
          rw [if_pos (by rfl)]
          go_wp2_with fail
          refine (turned_call _ 25 (by decide) (by decide) _).mono ?_
          rintro e w7 ⟨rfl, ⟨q_, rfl⟩⟩
          refine hK.out _ _ (hHeld) (fun hHeld2 => ?_)
          clear hK K hHeld
          have hHeld := hHeld2
          clear hHeld2
          try simp only [Act.put, List.setIfInBounds_toArray, List.set_cons_zero, List.set_cons_succ]
          refine wpAnyH_take (i := 10) (v := ?_) (by simp only [List.getElem?_toArray, List.getElem?_cons_succ, List.getElem?_cons_zero]; rfl) (by kernel_rfl) (by kernel_rfl) (by kernel_rfl) (by intro _ _ _ h; exact h) (Or.inl ⟨by rfl, ?hy⟩) (by assumption) ?_
          case hy => (intro W_ hW_; go_simp; first | done | with_reducible rfl)
          try simp only [Act.put, List.setIfInBounds_toArray, List.set_cons_zero, List.set_cons_succ]
          refine wpAnyH_take (i := 11) (v := ?_) (by simp only [List.getElem?_toArray, List.getElem?_cons_succ, List.getElem?_cons_zero]; rfl) (by kernel_rfl) (by kernel_rfl) (by kernel_rfl) (by intro _ _ _ h; exact h) (Or.inl ⟨by rfl, ?hy⟩) (by assumption) ?_
          case hy => (intro W_ hW_; go_simp; first | done | with_reducible rfl)
          try simp only [Act.put, List.setIfInBounds_toArray, List.set_cons_zero, List.set_cons_succ]
          refine wpAnyH_take (i := 24) (v := ?_) (by simp only [List.getElem?_toArray, List.getElem?_cons_succ, List.getElem?_cons_zero]; rfl) (by kernel_rfl) (by kernel_rfl) (by kernel_rfl) (by intro _ _ _ h; exact h) (Or.inl ⟨by rfl, ?hy⟩) (by assumption) ?_
          case hy => (intro W_ hW_; go_simp; first | done | with_reducible rfl)
          try simp only [Act.put, List.setIfInBounds_toArray, List.set_cons_zero, List.set_cons_succ]
          refine wpAnyH_ready (rs := [25]) (by kernel_rfl) (by simp) ?_
          refine AllReadyH.cons (by simp only [List.getElem?_toArray, List.getElem?_cons_succ, List.getElem?_cons_zero]; rfl) (fun K hK => ?_) AllReadyH.nil
          rw [if_pos (by rfl)]
          go_wp2_with fail
          refine (k_call _).mono ?_
          rintro e w8 ⟨ak, ck, rfl, hk8, hb8⟩
          refine hK.out _ _ (And.intro (rdw_below (Kd.C_drewN HX.out _) hb8) (rdw_below (Kd.C_drewN HW.out _) hb8)) (fun hHeld2 => ?_)
          clear hK K hHeld
          try simp only [Act.put, List.setIfInBounds_toArray, List.set_cons_zero, List.set_cons_succ]
          refine wpAnyH_str (S2 := (fun W => (RdW W (some ad) 8 xs ∧ RdW W (some a6) 64 ws) ∧ RdW W (some ak) 64 rootsL)) (fun W h => h.1) _ _ _ _ ?_
          have hHeld := (And.intro hHeld2 hk8)
          clear hHeld2
          refine wpAnyH_take (i := 27) (v := ?_) (by simp only [List.getElem?_toArray, List.getElem?_cons_succ, List.getElem?_cons_zero]; rfl) (by kernel_rfl) (by kernel_rfl) (by kernel_rfl) (by intro _ _ _ h; exact h) (Or.inl ⟨by rfl, ?hy⟩) (by assumption) ?_
          case hy => (intro W_ hW_; go_simp; first | done | with_reducible rfl)
          try simp only [Act.put, List.setIfInBounds_toArray, List.set_cons_zero, List.set_cons_succ]
          refine wpAnyH_take (i := 28) (v := ?_) (by simp only [List.getElem?_toArray, List.getElem?_cons_succ, List.getElem?_cons_zero]; rfl) (by kernel_rfl) (by kernel_rfl) (by kernel_rfl) (by intro _ _ _ h; exact h) (Or.inl ⟨by rfl, ?hy⟩) (by assumption) ?_
          case hy => (intro W_ hW_; have f_ := rdw_at hW_.2 (j := i) hi; go_simp; first | done | with_reducible rfl)
          try simp only [Act.put, List.setIfInBounds_toArray, List.set_cons_zero, List.set_cons_succ]
          refine wpAnyH_take (i := 29) (v := ?_) (by simp only [List.getElem?_toArray, List.getElem?_cons_succ, List.getElem?_cons_zero]; rfl) (by kernel_rfl) (by kernel_rfl) (by kernel_rfl) (by intro _ _ _ h; exact h) (Or.inl ⟨by rfl, ?hy⟩) (by assumption) ?_
          case hy => (intro W_ hW_; go_simp; first | done | with_reducible rfl)
          try simp only [Act.put, List.setIfInBounds_toArray, List.set_cons_zero, List.set_cons_succ]
          refine wpAnyH_take (i := 34) (v := ?_) (by simp only [List.getElem?_toArray, List.getElem?_cons_succ, List.getElem?_cons_zero]; rfl) (by kernel_rfl) (by kernel_rfl) (by kernel_rfl) (by intro _ _ _ h; exact h) (Or.inl ⟨by rfl, ?hy⟩) (by assumption) ?_
          case hy => (intro W_ hW_; go_simp; first | done | with_reducible rfl)
          try simp only [Act.put, List.setIfInBounds_toArray, List.set_cons_zero, List.set_cons_succ]
          refine wpAnyH_take (i := 35) (v := ?_) (by simp only [List.getElem?_toArray, List.getElem?_cons_succ, List.getElem?_cons_zero]; rfl) (by kernel_rfl) (by kernel_rfl) (by kernel_rfl) (by intro _ _ _ h; exact h) (Or.inl ⟨by rfl, ?hy⟩) (by assumption) ?_
          case hy => (intro W_ hW_; go_simp; first | done | with_reducible rfl)
          try simp only [Act.put, List.setIfInBounds_toArray, List.set_cons_zero, List.set_cons_succ]
          refine wpAnyH_done (by kernel_rfl) ?_ _
          have HX8 : Aside0 (RdW w8 (some ad) 8 xs) := ⟨hHeld.1.1⟩
          have HW8 : Aside0 (RdW w8 (some a6) 64 ws) := ⟨hHeld.1.2⟩
          have HB8 : Aside0 (Below w6.heap.size w6 w8) := ⟨below_step (pw_below_drewN HL.out _) hb8⟩
          clear hHeld hk8 hb8 x4 x0
          go_wp2_with fail
          refine wp_region_held_drew (S := (fun W => RdW W (some ad) 8 xs)) (by kernel_rfl) ((Kd.C_drew HX8.out)) (fun hHeld => ?_)
          refine wpAnyH_take (i := 0) (v := ?_) (by simp only [List.getElem?_toArray, List.getElem?_cons_succ, List.getElem?_cons_zero]; rfl) (by kernel_rfl) (by kernel_rfl) (by kernel_rfl) (by intro _ _ _ h; exact h) (Or.inl ⟨by rfl, ?hy⟩) (by assumption) ?_
          case hy => (intro W_ hW_; go_simp; first | done | with_reducible rfl)
          try simp only [Act.put, List.setIfInBounds_toArray, List.set_cons_zero, List.set_cons_succ]
          refine wpAnyH_take (i := 2) (v := ?_) (by simp only [List.getElem?_toArray, List.getElem?_cons_succ, List.getElem?_cons_zero]; rfl) (by kernel_rfl) (by kernel_rfl) (by kernel_rfl) (by intro _ _ _ h; exact h) (Or.inl ⟨by rfl, ?hy⟩) (by assumption) ?_
          case hy => (intro W_ hW_; go_simp; first | done | with_reducible rfl)
          try simp only [Act.put, List.setIfInBounds_toArray, List.set_cons_zero, List.set_cons_succ]
          refine wpAnyH_take (i := 5) (v := ?_) (by simp only [List.getElem?_toArray, List.getElem?_cons_succ, List.getElem?_cons_zero]; rfl) (by kernel_rfl) (by kernel_rfl) (by kernel_rfl) (by intro _ _ _ h; exact h) (Or.inl ⟨by rfl, ?hy⟩) (by assumption) ?_
          case hy => (intro W_ hW_; go_simp; first | done | with_reducible rfl)
          try simp only [Act.put, List.setIfInBounds_toArray, List.set_cons_zero, List.set_cons_succ]
          refine wpAnyH_take (i := 8) (v := ?_) (by simp only [List.getElem?_toArray, List.getElem?_cons_succ, List.getElem?_cons_zero]; rfl) (by kernel_rfl) (by kernel_rfl) (by kernel_rfl) (by intro _ _ _ h; exact h) (Or.inl ⟨by rfl, ?hy⟩) (by assumption) ?_
          case hy => (intro W_ hW_; go_simp; first | done | with_reducible rfl)
          try simp only [Act.put, List.setIfInBounds_toArray, List.set_cons_zero, List.set_cons_succ]
          refine wpAnyH_take (i := 9) (v := ?_) (by simp only [List.getElem?_toArray, List.getElem?_cons_succ, List.getElem?_cons_zero]; rfl) (by kernel_rfl) (by kernel_rfl) (by kernel_rfl) (by intro _ _ _ h; exact h) (Or.inl ⟨by rfl, ?hy⟩) (by assumption) ?_
          case hy => (intro W_ hW_; go_simp; first | done | with_reducible rfl)
          try simp only [Act.put, List.setIfInBounds_toArray, List.set_cons_zero, List.set_cons_succ]
          refine wpAnyH_take (i := 10) (v := ?_) (by simp only [List.getElem?_toArray, List.getElem?_cons_succ, List.getElem?_cons_zero]; rfl) (by kernel_rfl) (by kernel_rfl) (by kernel_rfl) (by intro _ _ _ h; exact h) (Or.inl ⟨by rfl, ?hy⟩) (by assumption) ?_
          case hy => (intro W_ hW_; go_simp; first | done | with_reducible rfl)
          try simp only [Act.put, List.setIfInBounds_toArray, List.set_cons_zero, List.set_cons_succ]
          refine wpAnyH_take (i := 11) (v := ?_) (by simp only [List.getElem?_toArray, List.getElem?_cons_succ, List.getElem?_cons_zero]; rfl) (by kernel_rfl) (by kernel_rfl) (by kernel_rfl) (by intro _ _ _ h; exact h) (Or.inl ⟨by rfl, ?hy⟩) (by assumption) ?_
          case hy => (intro W_ hW_; have f_ := rdw_atn hW_ (j := 1) (by decide) (by decide); go_simp; first | done | with_reducible rfl)
          try simp only [Act.put, List.setIfInBounds_toArray, List.set_cons_zero, List.set_cons_succ]
          refine wpAnyH_take (i := 12) (v := ?_) (by simp only [List.getElem?_toArray, List.getElem?_cons_succ, List.getElem?_cons_zero]; rfl) (by kernel_rfl) (by kernel_rfl) (by kernel_rfl) (by intro _ _ _ h; exact h) (Or.inl ⟨by rfl, ?hy⟩) (by assumption) ?_
          case hy => (intro W_ hW_; go_simp; first | done | with_reducible rfl)
          try simp only [Act.put, List.setIfInBounds_toArray, List.set_cons_zero, List.set_cons_succ]
          refine wpAnyH_take (i := 13) (v := ?_) (by simp only [List.getElem?_toArray, List.getElem?_cons_succ, List.getElem?_cons_zero]; rfl) (by kernel_rfl) (by kernel_rfl) (by kernel_rfl) (by intro _ _ _ h; exact h) (Or.inl ⟨by rfl, ?hy⟩) (by assumption) ?_
          case hy => (intro W_ hW_; go_simp; first | done | with_reducible rfl)
          try simp only [Act.put, List.setIfInBounds_toArray, List.set_cons_zero, List.set_cons_succ]
          refine wpAnyH_take (i := 14) (v := ?_) (by simp only [List.getElem?_toArray, List.getElem?_cons_succ, List.getElem?_cons_zero]; rfl) (by kernel_rfl) (by kernel_rfl) (by kernel_rfl) (by intro _ _ _ h; exact h) (Or.inl ⟨by rfl, ?hy⟩) (by assumption) ?_
          case hy => (intro W_ hW_; go_simp; first | done | with_reducible rfl)
          try simp only [Act.put, List.setIfInBounds_toArray, List.set_cons_zero, List.set_cons_succ]
          refine wpAnyH_take (i := 15) (v := ?_) (by simp only [List.getElem?_toArray, List.getElem?_cons_succ, List.getElem?_cons_zero]; rfl) (by kernel_rfl) (by kernel_rfl) (by kernel_rfl) (by intro _ _ _ h; exact h) (Or.inl ⟨by rfl, ?hy⟩) (by assumption) ?_
          case hy => (intro W_ hW_; go_simp; first | done | with_reducible rfl)
          try simp only [Act.put, List.setIfInBounds_toArray, List.set_cons_zero, List.set_cons_succ]
          refine wpAnyH_take (i := 16) (v := ?_) (by simp only [List.getElem?_toArray, List.getElem?_cons_succ, List.getElem?_cons_zero]; rfl) (by kernel_rfl) (by kernel_rfl) (by kernel_rfl) (by intro _ _ _ h; exact h) (Or.inl ⟨by rfl, ?hy⟩) (by assumption) ?_
          case hy => (intro W_ hW_; have f_ := rdw_atn hW_ (j := 2) (by decide) (by decide); go_simp; first | done | with_reducible rfl)
          try simp only [Act.put, List.setIfInBounds_toArray, List.set_cons_zero, List.set_cons_succ]
          refine wpAnyH_take (i := 17) (v := ?_) (by simp only [List.getElem?_toArray, List.getElem?_cons_succ, List.getElem?_cons_zero]; rfl) (by kernel_rfl) (by kernel_rfl) (by kernel_rfl) (by intro _ _ _ h; exact h) (Or.inl ⟨by rfl, ?hy⟩) (by assumption) ?_
          case hy => (intro W_ hW_; go_simp; first | done | with_reducible rfl)
          try simp only [Act.put, List.setIfInBounds_toArray, List.set_cons_zero, List.set_cons_succ]
          refine wpAnyH_take (i := 18) (v := ?_) (by simp only [List.getElem?_toArray, List.getElem?_cons_succ, List.getElem?_cons_zero]; rfl) (by kernel_rfl) (by kernel_rfl) (by kernel_rfl) (by intro _ _ _ h; exact h) (Or.inl ⟨by rfl, ?hy⟩) (by assumption) ?_
          case hy => (intro W_ hW_; go_simp; first | done | with_reducible rfl)
          try simp only [Act.put, List.setIfInBounds_toArray, List.set_cons_zero, List.set_cons_succ]
          refine wpAnyH_take (i := 19) (v := ?_) (by simp only [List.getElem?_toArray, List.getElem?_cons_succ, List.getElem?_cons_zero]; rfl) (by kernel_rfl) (by kernel_rfl) (by kernel_rfl) (by intro _ _ _ h; exact h) (Or.inl ⟨by rfl, ?hy⟩) (by assumption) ?_
          case hy => (intro W_ hW_; go_simp; first | done | with_reducible rfl)
          try simp only [Act.put, List.setIfInBounds_toArray, List.set_cons_zero, List.set_cons_succ]
          refine wpAnyH_take (i := 20) (v := ?_) (by simp only [List.getElem?_toArray, List.getElem?_cons_succ, List.getElem?_cons_zero]; rfl) (by kernel_rfl) (by kernel_rfl) (by kernel_rfl) (by intro _ _ _ h; exact h) (Or.inl ⟨by rfl, ?hy⟩) (by assumption) ?_
          case hy => (intro W_ hW_; go_simp; first | done | with_reducible rfl)
          try simp only [Act.put, List.setIfInBounds_toArray, List.set_cons_zero, List.set_cons_succ]
          refine wpAnyH_take (i := 21) (v := ?_) (by simp only [List.getElem?_toArray, List.getElem?_cons_succ, List.getElem?_cons_zero]; rfl) (by kernel_rfl) (by kernel_rfl) (by kernel_rfl) (by intro _ _ _ h; exact h) (Or.inl ⟨by rfl, ?hy⟩) (by assumption) ?_
          case hy => (intro W_ hW_; have f_ := rdw_atn hW_ (j := 1) (by decide) (by decide); go_simp; first | done | with_reducible rfl)
          try simp only [Act.put, List.setIfInBounds_toArray, List.set_cons_zero, List.set_cons_succ]
          refine wpAnyH_take (i := 22) (v := ?_) (by simp only [List.getElem?_toArray, List.getElem?_cons_succ, List.getElem?_cons_zero]; rfl) (by kernel_rfl) (by kernel_rfl) (by kernel_rfl) (by intro _ _ _ h; exact h) (Or.inl ⟨by rfl, ?hy⟩) (by assumption) ?_
          case hy => (intro W_ hW_; go_simp; first | done | with_reducible rfl)
          try simp only [Act.put, List.setIfInBounds_toArray, List.set_cons_zero, List.set_cons_succ]
          refine wpAnyH_take (i := 23) (v := ?_) (by simp only [List.getElem?_toArray, List.getElem?_cons_succ, List.getElem?_cons_zero]; rfl) (by kernel_rfl) (by kernel_rfl) (by kernel_rfl) (by intro _ _ _ h; exact h) (Or.inl ⟨by rfl, ?hy⟩) (by assumption) ?_
          case hy => (intro W_ hW_; go_simp; first | done | with_reducible rfl)
          try simp only [Act.put, List.setIfInBounds_toArray, List.set_cons_zero, List.set_cons_succ]
          refine wpAnyH_take (i := 24) (v := ?_) (by simp only [List.getElem?_toArray, List.getElem?_cons_succ, List.getElem?_cons_zero]; rfl) (by kernel_rfl) (by kernel_rfl) (by kernel_rfl) (by intro _ _ _ h; exact h) (Or.inl ⟨by rfl, ?hy⟩) (by assumption) ?_
          case hy => (intro W_ hW_; have f_ := rdw_atn hW_ (j := 2) (by decide) (by decide); go_simp; first | done | with_reducible rfl)
          try simp only [Act.put, List.setIfInBounds_toArray, List.set_cons_zero, List.set_cons_succ]
          refine wpAnyH_take (i := 25) (v := ?_) (by simp only [List.getElem?_toArray, List.getElem?_cons_succ, List.getElem?_cons_zero]; rfl) (by kernel_rfl) (by kernel_rfl) (by kernel_rfl) (by intro _ _ _ h; exact h) (Or.inl ⟨by rfl, ?hy⟩) (by assumption) ?_
          case hy => (intro W_ hW_; go_simp; first | done | with_reducible rfl)
          try simp only [Act.put, List.setIfInBounds_toArray, List.set_cons_zero, List.set_cons_succ]
          refine wpAnyH_take (i := 26) (v := ?_) (by simp only [List.getElem?_toArray, List.getElem?_cons_succ, List.getElem?_cons_zero]; rfl) (by kernel_rfl) (by kernel_rfl) (by kernel_rfl) (by intro _ _ _ h; exact h) (Or.inl ⟨by rfl, ?hy⟩) (by assumption) ?_
          case hy => (intro W_ hW_; go_simp; first | done | with_reducible rfl)
          try simp only [Act.put, List.setIfInBounds_toArray, List.set_cons_zero, List.set_cons_succ]
          refine wpAnyH_ready (rs := [1]) (by kernel_rfl) (by simp) ?_
          refine AllReadyH.cons (by simp only [List.getElem?_toArray, List.getElem?_cons_succ, List.getElem?_cons_zero]; rfl) (fun K hK => ?_) AllReadyH.nil
          rw [if_pos (by rfl)]
          go_wp2_with fail
          refine (turned_call _ 2 (by decide) (by decide) _).mono ?_
          rintro e w9 ⟨rfl, ⟨q_, rfl⟩⟩
          refine hK.out _ _ (hHeld) (fun hHeld2 => ?_)
          clear hK K hHeld
          have hHeld := hHeld2
          clear hHeld2
          try simp only [Act.put, List.setIfInBounds_toArray, List.set_cons_zero, List.set_cons_succ]
          refine wpAnyH_ready (rs := [3]) (by kernel_rfl) (by simp) ?_
          refine AllReadyH.cons (by simp only [List.getElem?_toArray, List.getElem?_cons_succ, List.getElem?_cons_zero]; rfl) (fun K hK => ?_) AllReadyH.nil
          rw [if_pos (by rfl)]
          go_wp2_with fail
          refine (turned_call _ 13 (by decide) (by decide) _).mono ?_
          rintro e w9 ⟨rfl, ⟨q_, rfl⟩⟩
          refine hK.out _ _ (hHeld) (fun hHeld2 => ?_)
          clear hK K hHeld
          have hHeld := hHeld2
          clear hHeld2
          try simp only [Act.put, List.setIfInBounds_toArray, List.set_cons_zero, List.set_cons_succ]
          refine wpAnyH_take (i := 4) (v := ?_) (by simp only [List.getElem?_toArray, List.getElem?_cons_succ, List.getElem?_cons_zero]; rfl) (by kernel_rfl) (by kernel_rfl) (by kernel_rfl) (by intro _ _ _ h; exact h) (Or.inl ⟨by rfl, ?hy⟩) (by assumption) ?_
          case hy => (intro W_ hW_; go_simp; first | done | with_reducible rfl)
          try simp only [Act.put, List.setIfInBounds_toArray, List.set_cons_zero, List.set_cons_succ]
          refine wpAnyH_ready (rs := [6]) (by kernel_rfl) (by simp) ?_
          refine AllReadyH.cons (by simp only [List.getElem?_toArray, List.getElem?_cons_succ, List.getElem?_cons_zero]; rfl) (fun K hK => ?_) AllReadyH.nil
          rw [if_pos (by rfl)]
          go_wp2_with fail
          refine (turned_call _ 22 (by decide) (by decide) _).mono ?_
          rintro e w9 ⟨rfl, ⟨q_, rfl⟩⟩
          refine hK.out _ _ (hHeld) (fun hHeld2 => ?_)
          clear hK K hHeld
          have hHeld := hHeld2
          clear hHeld2
          try simp only [Act.put, List.setIfInBounds_toArray, List.set_cons_zero, List.set_cons_succ]
          refine wpAnyH_take (i := 7) (v := ?_) (by simp only [List.getElem?_toArray, List.getElem?_cons_succ, List.getElem?_cons_zero]; rfl) (by kernel_rfl) (by kernel_rfl) (by kernel_rfl) (by intro _ _ _ h; exact h) (Or.inl ⟨by rfl, ?hy⟩) (by assumption) ?_
          case hy => (intro W_ hW_; go_simp; first | done | with_reducible rfl)
          try simp only [Act.put, List.setIfInBounds_toArray, List.set_cons_zero, List.set_cons_succ]
          refine wpAnyH_take (i := 27) (v := ?_) (by simp only [List.getElem?_toArray, List.getElem?_cons_succ, List.getElem?_cons_zero]; rfl) (by kernel_rfl) (by kernel_rfl) (by kernel_rfl) (by intro _ _ _ h; exact h) (Or.inl ⟨by rfl, ?hy⟩) (by assumption) ?_
          case hy => (intro W_ hW_; go_simp; first | done | with_reducible rfl)
          try simp only [Act.put, List.setIfInBounds_toArray, List.set_cons_zero, List.set_cons_succ]
          refine wpAnyH_take (i := 28) (v := ?_) (by simp only [List.getElem?_toArray, List.getElem?_cons_succ, List.getElem?_cons_zero]; rfl) (by kernel_rfl) (by kernel_rfl) (by kernel_rfl) (by intro _ _ _ h; exact h) (Or.inl ⟨by rfl, ?hy⟩) (by assumption) ?_
          case hy => (intro W_ hW_; go_simp; first | done | with_reducible rfl)
          try simp only [Act.put, List.setIfInBounds_toArray, List.set_cons_zero, List.set_cons_succ]
          refine wpAnyH_done (by kernel_rfl) ?_ _
          clear hHeld
          go_wp2_with fail
          refine wp_region_held_drew (S := (fun W => RdW W (some ad) 8 xs)) (by kernel_rfl) ((Kd.C_drew (Kd.C_drewN (Kd.C_drewN HX8.out _) _))) (fun hHeld => ?_)
          refine wpAnyH_take (i := 0) (v := ?_) (by simp only [List.getElem?_toArray, List.getElem?_cons_succ, List.getElem?_cons_zero]; rfl) (by kernel_rfl) (by kernel_rfl) (by kernel_rfl) (by intro _ _ _ h; exact h) (Or.inl ⟨by rfl, ?hy⟩) (by assumption) ?_
          case hy => (intro W_ hW_; go_simp; first | done | with_reducible rfl)
          try simp only [Act.put, List.setIfInBounds_toArray, List.set_cons_zero, List.set_cons_succ]
          refine wpAnyH_take (i := 1) (v := ?_) (by simp only [List.getElem?_toArray, List.getElem?_cons_succ, List.getElem?_cons_zero]; rfl) (by kernel_rfl) (by kernel_rfl) (by kernel_rfl) (by intro _ _ _ h; exact h) (Or.inl ⟨by rfl, ?hy⟩) (by assumption) ?_
          case hy => (intro W_ hW_; go_simp; first | done | with_reducible rfl)
          try simp only [Act.put, List.setIfInBounds_toArray, List.set_cons_zero, List.set_cons_succ]
          refine wpAnyH_take (i := 2) (v := ?_) (by simp only [List.getElem?_toArray, List.getElem?_cons_succ, List.getElem?_cons_zero]; rfl) (by kernel_rfl) (by kernel_rfl) (by kernel_rfl) (by intro _ _ _ h; exact h) (Or.inl ⟨by rfl, ?hy⟩) (by assumption) ?_
          case hy => (intro W_ hW_; go_simp; first | done | with_reducible rfl)
          try simp only [Act.put, List.setIfInBounds_toArray, List.set_cons_zero, List.set_cons_succ]
          refine wpAnyH_take (i := 3) (v := ?_) (by simp only [List.getElem?_toArray, List.getElem?_cons_succ, List.getElem?_cons_zero]; rfl) (by kernel_rfl) (by kernel_rfl) (by kernel_rfl) (by intro _ _ _ h; exact h) (Or.inl ⟨by rfl, ?hy⟩) (by assumption) ?_
          case hy => (intro W_ hW_; go_simp; first | done | with_reducible rfl)
          try simp only [Act.put, List.setIfInBounds_toArray, List.set_cons_zero, List.set_cons_succ]
          refine wpAnyH_take (i := 4) (v := ?_) (by simp only [List.getElem?_toArray, List.getElem?_cons_succ, List.getElem?_cons_zero]; rfl) (by kernel_rfl) (by kernel_rfl) (by kernel_rfl) (by intro _ _ _ h; exact h) (Or.inl ⟨by rfl, ?hy⟩) (by assumption) ?_
          case hy => (intro W_ hW_; go_simp; first | done | with_reducible rfl)
          try simp only [Act.put, List.setIfInBounds_toArray, List.set_cons_zero, List.set_cons_succ]
          refine wpAnyH_take (i := 5) (v := ?_) (by simp only [List.getElem?_toArray, List.getElem?_cons_succ, List.getElem?_cons_zero]; rfl) (by kernel_rfl) (by kernel_rfl) (by kernel_rfl) (by intro _ _ _ h; exact h) (Or.inl ⟨by rfl, ?hy⟩) (by assumption) ?_
          case hy => (intro W_ hW_; go_simp; first | done | with_reducible rfl)
          try simp only [Act.put, List.setIfInBounds_toArray, List.set_cons_zero, List.set_cons_succ]
          refine wpAnyH_take (i := 6) (v := ?_) (by simp only [List.getElem?_toArray, List.getElem?_cons_succ, List.getElem?_cons_zero]; rfl) (by kernel_rfl) (by kernel_rfl) (by kernel_rfl) (by intro _ _ _ h; exact h) (Or.inl ⟨by rfl, ?hy⟩) (by assumption) ?_
          case hy => (intro W_ hW_; have f_ := rdw_atn hW_ (j := 1) (by decide) (by decide); go_simp; first | done | with_reducible rfl)
          try simp only [Act.put, List.setIfInBounds_toArray, List.set_cons_zero, List.set_cons_succ]
          refine wpAnyH_take (i := 7) (v := ?_) (by simp only [List.getElem?_toArray, List.getElem?_cons_succ, List.getElem?_cons_zero]; rfl) (by kernel_rfl) (by kernel_rfl) (by kernel_rfl) (by intro _ _ _ h; exact h) (Or.inl ⟨by rfl, ?hy⟩) (by assumption) ?_
          case hy => (intro W_ hW_; go_simp; first | done | with_reducible rfl)
          try simp only [Act.put, List.setIfInBounds_toArray, List.set_cons_zero, List.set_cons_succ]
          refine wpAnyH_take (i := 8) (v := ?_) (by simp only [List.getElem?_toArray, List.getElem?_cons_succ, List.getElem?_cons_zero]; rfl) (by kernel_rfl) (by kernel_rfl) (by kernel_rfl) (by intro _ _ _ h; exact h) (Or.inl ⟨by rfl, ?hy⟩) (by assumption) ?_
          case hy => (intro W_ hW_; go_simp; first | done | with_reducible rfl)
          try simp only [Act.put, List.setIfInBounds_toArray, List.set_cons_zero, List.set_cons_succ]
          refine wpAnyH_take (i := 9) (v := ?_) (by simp only [List.getElem?_toArray, List.getElem?_cons_succ, List.getElem?_cons_zero]; rfl) (by kernel_rfl) (by kernel_rfl) (by kernel_rfl) (by intro _ _ _ h; exact h) (Or.inl ⟨by rfl, ?hy⟩) (by assumption) ?_
          case hy => (intro W_ hW_; have f_ := rdw_atn hW_ (j := 2) (by decide) (by decide); go_simp; first | done | with_reducible rfl)
          try simp only [Act.put, List.setIfInBounds_toArray, List.set_cons_zero, List.set_cons_succ]
          refine wpAnyH_take (i := 10) (v := ?_) (by simp only [List.getElem?_toArray, List.getElem?_cons_succ, List.getElem?_cons_zero]; rfl) (by kernel_rfl) (by kernel_rfl) (by kernel_rfl) (by intro _ _ _ h; exact h) (Or.inl ⟨by rfl, ?hy⟩) (by assumption) ?_
          case hy => (intro W_ hW_; go_simp; first | done | with_reducible rfl)
          try simp only [Act.put, List.setIfInBounds_toArray, List.set_cons_zero, List.set_cons_succ]
          refine wpAnyH_take (i := 11) (v := ?_) (by simp only [List.getElem?_toArray, List.getElem?_cons_succ, List.getElem?_cons_zero]; rfl) (by kernel_rfl) (by kernel_rfl) (by kernel_rfl) (by intro _ _ _ h; exact h) (Or.inl ⟨by rfl, ?hy⟩) (by assumption) ?_
          case hy => (intro W_ hW_; go_simp; first | done | with_reducible rfl)
          try simp only [Act.put, List.setIfInBounds_toArray, List.set_cons_zero, List.set_cons_succ]
          refine wpAnyH_take (i := 12) (v := ?_) (by simp only [List.getElem?_toArray, List.getElem?_cons_succ, List.getElem?_cons_zero]; rfl) (by kernel_rfl) (by kernel_rfl) (by kernel_rfl) (by intro _ _ _ h; exact h) (Or.inl ⟨by rfl, ?hy⟩) (by assumption) ?_
          case hy => (intro W_ hW_; have f_ := rdw_atn hW_ (j := 3) (by decide) (by decide); go_simp; first | done | with_reducible rfl)
          try simp only [Act.put, List.setIfInBounds_toArray, List.set_cons_zero, List.set_cons_succ]
          refine wpAnyH_take (i := 13) (v := ?_) (by simp only [List.getElem?_toArray, List.getElem?_cons_succ, List.getElem?_cons_zero]; rfl) (by kernel_rfl) (by kernel_rfl) (by kernel_rfl) (by intro _ _ _ h; exact h) (Or.inl ⟨by rfl, ?hy⟩) (by assumption) ?_
          case hy => (intro W_ hW_; go_simp; first | done | with_reducible rfl)
          try simp only [Act.put, List.setIfInBounds_toArray, List.set_cons_zero, List.set_cons_succ]
          refine wpAnyH_take (i := 14) (v := ?_) (by simp only [List.getElem?_toArray, List.getElem?_cons_succ, List.getElem?_cons_zero]; rfl) (by kernel_rfl) (by kernel_rfl) (by kernel_rfl) (by intro _ _ _ h; exact h) (Or.inl ⟨by rfl, ?hy⟩) (by assumption) ?_
          case hy => (intro W_ hW_; go_simp; first | done | with_reducible rfl)
          try simp only [Act.put, List.setIfInBounds_toArray, List.set_cons_zero, List.set_cons_succ]
          refine wpAnyH_take (i := 15) (v := ?_) (by simp only [List.getElem?_toArray, List.getElem?_cons_succ, List.getElem?_cons_zero]; rfl) (by kernel_rfl) (by kernel_rfl) (by kernel_rfl) (by intro _ _ _ h; exact h) (Or.inl ⟨by rfl, ?hy⟩) (by assumption) ?_
          case hy => (intro W_ hW_; go_simp; first | done | with_reducible rfl)
          try simp only [Act.put, List.setIfInBounds_toArray, List.set_cons_zero, List.set_cons_succ]
          refine wpAnyH_take (i := 16) (v := ?_) (by simp only [List.getElem?_toArray, List.getElem?_cons_succ, List.getElem?_cons_zero]; rfl) (by kernel_rfl) (by kernel_rfl) (by kernel_rfl) (by intro _ _ _ h; exact h) (Or.inl ⟨by rfl, ?hy⟩) (by assumption) ?_
          case hy => (intro W_ hW_; go_simp; first | done | with_reducible rfl)
          try simp only [Act.put, List.setIfInBounds_toArray, List.set_cons_zero, List.set_cons_succ]
          refine wpAnyH_take (i := 17) (v := ?_) (by simp only [List.getElem?_toArray, List.getElem?_cons_succ, List.getElem?_cons_zero]; rfl) (by kernel_rfl) (by kernel_rfl) (by kernel_rfl) (by intro _ _ _ h; exact h) (Or.inl ⟨by rfl, ?hy⟩) (by assumption) ?_
          case hy => (intro W_ hW_; go_simp; first | done | with_reducible rfl)
          try simp only [Act.put, List.setIfInBounds_toArray, List.set_cons_zero, List.set_cons_succ]
          refine wpAnyH_take (i := 18) (v := ?_) (by simp only [List.getElem?_toArray, List.getElem?_cons_succ, List.getElem?_cons_zero]; rfl) (by kernel_rfl) (by kernel_rfl) (by kernel_rfl) (by intro _ _ _ h; exact h) (Or.inl ⟨by rfl, ?hy⟩) (by assumption) ?_
          case hy => (intro W_ hW_; have f_ := rdw_atn hW_ (j := 5) (by decide) (by decide); go_simp; first | done | with_reducible rfl)
          try simp only [Act.put, List.setIfInBounds_toArray, List.set_cons_zero, List.set_cons_succ]
          refine wpAnyH_take (i := 19) (v := ?_) (by simp only [List.getElem?_toArray, List.getElem?_cons_succ, List.getElem?_cons_zero]; rfl) (by kernel_rfl) (by kernel_rfl) (by kernel_rfl) (by intro _ _ _ h; exact h) (Or.inl ⟨by rfl, ?hy⟩) (by assumption) ?_
          case hy => (intro W_ hW_; go_simp; first | done | with_reducible rfl)
          try simp only [Act.put, List.setIfInBounds_toArray, List.set_cons_zero, List.set_cons_succ]
          refine wpAnyH_take (i := 20) (v := ?_) (by simp only [List.getElem?_toArray, List.getElem?_cons_succ, List.getElem?_cons_zero]; rfl) (by kernel_rfl) (by kernel_rfl) (by kernel_rfl) (by intro _ _ _ h; exact h) (Or.inl ⟨by rfl, ?hy⟩) (by assumption) ?_
          case hy => (intro W_ hW_; go_simp; first | done | with_reducible rfl)
          try simp only [Act.put, List.setIfInBounds_toArray, List.set_cons_zero, List.set_cons_succ]
          refine wpAnyH_take (i := 21) (v := ?_) (by simp only [List.getElem?_toArray, List.getElem?_cons_succ, List.getElem?_cons_zero]; rfl) (by kernel_rfl) (by kernel_rfl) (by kernel_rfl) (by intro _ _ _ h; exact h) (Or.inl ⟨by rfl, ?hy⟩) (by assumption) ?_
          case hy => (intro W_ hW_; have f_ := rdw_atn hW_ (j := 6) (by decide) (by decide); go_simp; first | done | with_reducible rfl)
          try simp only [Act.put, List.setIfInBounds_toArray, List.set_cons_zero, List.set_cons_succ]
          refine wpAnyH_ready (rs := [22]) (by kernel_rfl) (by simp) ?_
          refine AllReadyH.cons (by simp only [List.getElem?_toArray, List.getElem?_cons_succ, List.getElem?_cons_zero]; rfl) (fun K hK => ?_) AllReadyH.nil
          rw [if_pos (by rfl)]
          skip
          go_wp2_with fail
          refine hK.out _ _ ((by first | exact Kd.C_drewN (rdw_below HX8.out (below_alloc (Below.refl _ _) _)) _ | exact rdw_below (Kd.C_drewN HX8.out _) (below_alloc (Below.refl _ _) _))) (fun hHeld2 => ?_)
          clear hK K hHeld
          have hHeld := hHeld2
          clear hHeld2
          try simp only [Act.put, List.setIfInBounds_toArray, List.set_cons_zero, List.set_cons_succ]
          refine wpAnyH_take (i := 23) (v := ?_) (by simp only [List.getElem?_toArray, List.getElem?_cons_succ, List.getElem?_cons_zero]; rfl) (by kernel_rfl) (by kernel_rfl) (by kernel_rfl) (by intro _ _ _ h; exact h) (Or.inl ⟨by rfl, ?hy⟩) (by assumption) ?_
          case hy => (intro W_ hW_; go_simp; first | done | with_reducible rfl)
          try simp only [Act.put, List.setIfInBounds_toArray, List.set_cons_zero, List.set_cons_succ]
          refine wpAnyH_done (by kernel_rfl) ?_ _
          go_wp2_with fail
          go_roundg (64 - (i + 1))
          case measure => have := HI.out; omega
          case rel =>
            have hlist : refL xs (rootsL.getD i 0) (ws.getD i 0) = shaRound xs (rootsL.getD i 0) (ws.getD i 0) := ref_round HXL.out (by rw [HXE.out]; exact rounds_words HWD.out _ _ _) _ _
            refine ⟨i + 1, shaRound xs (rootsL.getD i 0) (ws.getD i 0), ⟨w8.heap.size, 0, none⟩, 8, rfl, by simp, ⟨rfl, by omega⟩, ⟨by rw [HXE.out]; rfl⟩, ⟨round_length HXL.out _ _⟩, ⟨?_⟩, ⟨?_⟩, ⟨?_⟩, ⟨?_⟩⟩
            · exact Nat.lt_of_lt_of_le (Nat.lt_of_lt_of_le (Nat.lt_of_lt_of_le (Blk.lt HG5.out) HB6.out.size) HB8.out.size) (Nat.le_refl _)
            · rw [← hlist]
              exact Blk.readw (t := 26) (xs := refL xs (rootsL.getD i 0) (ws.getD i 0)) (heap_alloc_new (w8.drewN _) _) (by simp [refL])
            · exact rdw_below (Kd.C_drewN HW8.out _) (below_alloc (Below.refl _ _) _)
            · exact below_alloc (pw_below_drewN HB8.out _) _
        · have e1 : decide (i < 64) = false := decide_eq_false hi
          have e2 : decide ((i : Int) < 64) = false := decide_eq_false (by omega)
          obtain rfl : i = 64 := by have := HI.out; omega
          have HGB : Aside0 (Blk wr (w.heap.size + 1) 26 ss) := ⟨Blk.below (Blk.below HG5.out HB6.out (Blk.lt HG5.out)) HL.out (Nat.lt_of_lt_of_le (Blk.lt HG5.out) HB6.out.size)⟩
          have HFB : Aside0 (Fr w w4 (w.heap.size + 1) wr) := ⟨((HF.out.step HB5.out).step HB6.out).step HL.out⟩
          have HWG : Aside0 (w.heap.size ≤ w.heap.size + 1) := ⟨Nat.le_succ _⟩
          clear HI hi
          go_wp2_with fail
          obtain ⟨wb, rfl⟩ : ∃ wb : World, wb = wr := ⟨_, rfl⟩
          go_loopg [13] 8 (fun k v13 w' => ∃ (n : Nat), v13 = .int .i64 (n : Int) ∧ Aside0 (k = 8 - n ∧ n ≤ 8) ∧ Aside0 (Blk w' (w.heap.size + 1) 26 (addUp ss xs n)) ∧ Aside0 (RdW w' (some ad) 8 xs) ∧ Aside0 (Fr w w4 (w.heap.size + 1) w'))
          case atStart => exact ⟨0, rfl, ⟨by omega, by omega⟩, HGB, HX, HFB⟩
          case round =>
            clear HGB HX HFB
            obtain ⟨n, rfl, HN2, HGB, HX, HFB⟩ := hrel
            by_cases hn : n < 8
            · have g1 : decide (n < 8) = true := decide_eq_true hn
              have g2 : decide ((n : Int) < 8) = true := decide_eq_true (by omega)
              have pn : (0 ≤ (n : Int)) = True := eq_true (by omega)
              have qn : ((n : Int) < 8) = True := eq_true (by omega)
              have hwr : IntKind.i64.wrap ((n : Int) + 1) = ((n + 1 : Nat) : Int) := by rw [i64_w]; unfold wrap64; omega
              have y1 : wr.drew.cell? ⟨w.heap.size + 1, n, none⟩ = _ := HGB.out.cell (i := n) (by rw [addUp_length, HSL.out]; exact hn)
              have y2 : wr.cell? ⟨w.heap.size + 1, n, none⟩ = _ := HGB.out.cell (i := n) (by rw [addUp_length, HSL.out]; exact hn)
              have y3 : wr.drew.frozen? ⟨w.heap.size + 1, n, none⟩ = false := HGB.out.free n
              have y4 : wr.frozen? ⟨w.heap.size + 1, n, none⟩ = false := HGB.out.free n
              have z1 : wr.drew.cell? (ad.add n) = _ := rdw_at (Kd.C_drew HX.out) (j := n) hn
              have z2 : wr.cell? (ad.add n) = _ := rdw_at HX.out (j := n) hn
              have ap : ∀ g : Nat, (⟨g, 0, none⟩ : Addr).add n = ⟨g, n, none⟩ := fun g => add_plain g n
              go_wp2_with fail
              go_still_tail 12, (by kernel_rfl)
              go_wp2_with fail
              go_roundg (8 - (n + 1))
              case measure => have := HN2.out; omega
              case rel =>
                refine ⟨n + 1, by simp, ⟨rfl, by omega⟩, ⟨?_⟩, ⟨?_⟩, ⟨?_⟩⟩
                · exact HGB.out.set n _
                · exact Kd.C_drew (rdw_set HX.out _ _ _ (Nat.ne_of_gt HAD.out))
                · exact (HFB.out.set HWG.out n _).drew
            · have g1 : decide (n < 8) = false := decide_eq_false hn
              have g2 : decide ((n : Int) < 8) = false := decide_eq_false (by omega)
              obtain rfl : n = 8 := by have := HN2.out; omega
              have hq64 : IntKind.i64.wrap ((q : Int) + 64) = ((q + 64 : Nat) : Int) := by rw [i64_w]; unfold wrap64; omega
              go_wp2_with fail
              go_roundg (p / 64 - (j + 1))
              case measure => have := HJ.out; omega
              case rel =>
                refine ⟨j + 1, ?_, ⟨rfl, by omega⟩, ⟨?_⟩, HFB⟩
                · have := HQ.out
                  congr 1
                  omega
                · have h_ := HGB.out
                  rw [HXE.out, HWS.out, HSS.out, HQ.out] at h_
                  exact h_
    · obtain rfl : j = p / 64 := by have := HJ.out; omega
      have hq : 64 * (p / 64) = p := by have := HN.out; omega
      rw [hq]
      have d1 : decide (p < p) = false := decide_eq_false (by omega)
      have d2 : decide ((p : Int) < (p : Int)) = false := decide_eq_false (by omega)
      have HSL : Aside0 ((stateAt msg (p / 64)).length = 8) := ⟨stateAt_length _ _⟩
      have HWD : Aside0 (Words (stateAt msg (p / 64))) := ⟨state_words _ _⟩
      obtain ⟨st, hst⟩ : ∃ st, st = stateAt msg (p / 64) := ⟨_, rfl⟩
      rw [← hst] at HG HSL HWD
      have HST := Aside0.mk hst
      obtain ⟨Z, hZ⟩ : ∃ Z, Z = cells8 (List.replicate 32 0) := ⟨_, rfl⟩
      have hzs : Z.size = 32 := by rw [hZ]; rfl
      have hz := store_new wr #[.int .u8 0, .int .u8 0, .int .u8 0, .int .u8 0, .int .u8 0, .int .u8 0, .int .u8 0, .int .u8 0, .int .u8 0, .int .u8 0, .int .u8 0, .int .u8 0, .int .u8 0, .int .u8 0, .int .u8 0, .int .u8 0, .int .u8 0, .int .u8 0, .int .u8 0, .int .u8 0, .int .u8 0, .int .u8 0, .int .u8 0, .int .u8 0, .int .u8 0, .int .u8 0, .int .u8 0, .int .u8 0, .int .u8 0, .int .u8 0, .int .u8 0, .int .u8 0] Z 28 (by rw [hzs]; rfl) (by rw [hZ]; exact cells8_all _)
      have HZZ : Aside0 (Z = cells8 (List.replicate 32 0)) := ⟨hZ⟩
      clear hZ
      have HB8 : Aside0 (Below w.heap.size w wr) := ⟨HF.out.below⟩
      have HZ8 : Aside0 (Blk8 wr w.heap.size 28 (List.replicate 32 0)) := ⟨HF.out.keep.blk HZ.out (by omega) (by simp)⟩
      clear hst hj hq
      go_wp2_with (first
        | ((with_reducible refine gate_dst (N := 147) rfl ?_); refine wpList_build rfl 28 _ rfl (by kernel_rfl) ?_; generalize hX : (Program.built _ _ _).getD #[] = X; obtain rfl : Z = X := (hX.symm.trans (by rw [HZZ.out]; kernel_rfl)).symm; clear hX)
        | fail)
      clear hz
      obtain ⟨wo, rfl⟩ : ∃ wo : World, wo = wr := ⟨_, rfl⟩
      have HG0 : Aside0 (Blk (wo.alloc (.cells Z 28 (0, 0))) (w.heap.size + 1) 26 st) := ⟨Blk.below HG.out (below_alloc (Below.refl _ _) _) (Blk.lt HG.out)⟩
      go_loopg [15] 32 (fun k v15 w' => ∃ (i : Nat), v15 = .int .i64 (i : Int) ∧ Aside0 (k = 32 - i ∧ i ≤ 32) ∧ Aside0 (Blk8 w' wo.heap.size 28 (outAt st i)) ∧ Aside0 (Below wo.heap.size wo w'))
      case atStart => exact ⟨0, rfl, ⟨by omega, by omega⟩, ⟨by have := heap_alloc_new wo (.cells Z 28 (0, 0)); rw [HZZ.out] at this ⊢; exact this⟩, ⟨below_alloc (Below.refl _ _) _⟩⟩
      case round =>
        clear HG0 d1 d2
        obtain ⟨i, rfl, HI, HO, HL⟩ := hrel
        have HGR : Aside0 (Blk wr (w.heap.size + 1) 26 st) := ⟨Blk.below HG.out HL.out (Blk.lt HG.out)⟩
        by_cases hi : i < 32
        · have e1 : decide (i < 32) = true := decide_eq_true hi
          have e2 : decide ((i : Int) < 32) = true := decide_eq_true (by omega)
          have hwr : IntKind.i64.wrap ((i : Int) + 1) = ((i + 1 : Nat) : Int) := by rw [i64_w]; unfold wrap64; omega
          have b0 : 0 ≤ (i : Int) := by omega
          have b1 : (i : Int) < 32 := by omega
          have pi : (0 ≤ (i : Int)) = True := eq_true (by omega)
          have qi : ((i : Int) < 32) = True := eq_true (by omega)
          have y2 : wr.cell? ⟨w.heap.size + 1, i / 4, none⟩ = _ := HGR.out.cell (i := i / 4) (by rw [HSL.out]; omega)
          have ap : (⟨w.heap.size + 1, 0, none⟩ : Addr).add (i / 4) = ⟨w.heap.size + 1, i / 4, none⟩ := add_plain _ _
          obtain ⟨x, hx⟩ : ∃ x, x = st.getD (i / 4) 0 := ⟨_, rfl⟩
          have HXB : Aside0 (0 ≤ x ∧ x < 4294967296) := ⟨by rw [hx]; exact words_get HWD.out _⟩
          rw [← hx] at y2
          have HX := Aside0.mk hx
          clear hx
          go_wp2_with fail
          have rfour : i % 4 < 4 := Nat.mod_lt _ (by decide)
          go_loopg [16, 17] (3 - i % 4) (fun k v16 v17 w' => ∃ (n : Nat) (y : Int), v16 = .int .u32 y ∧ v17 = .int .i64 (n : Int) ∧ Aside0 (k = 3 - n ∧ n ≤ 3 ∧ i % 4 ≤ n) ∧ Aside0 (y = x / 256 ^ (n - i % 4)) ∧ Aside0 (0 ≤ y ∧ y < 4294967296) ∧ wr = w')
          case atStart => exact ⟨i % 4, x, rfl, by simp, ⟨by omega, by omega, by omega⟩, ⟨by simp⟩, HXB, rfl⟩
          case round =>
            obtain ⟨n, y, rfl, rfl, HN3, HYE, HYB, rfl⟩ := hrel
            have yb0 := HYB.out.1
            have yb1 := HYB.out.2
            by_cases hn : n < 3
            · have f1 : decide (n < 3) = true := decide_eq_true hn
              have f2 : decide ((n : Int) < 3) = true := decide_eq_true (by omega)
              have hwn : IntKind.i64.wrap ((n : Int) + 1) = ((n + 1 : Nat) : Int) := by rw [i64_w]; unfold wrap64; omega
              go_wp2_with fail
              go_roundg (3 - (n + 1))
              case measure => have := HN3.out; omega
              case rel =>
                refine ⟨n + 1, y / 256, by simp, by simp, ⟨rfl, by omega, by have := HN3.out; omega⟩, ⟨?_⟩, ⟨by have := HYB.out; omega⟩, rfl⟩
                rw [HYE.out, div_step]
                congr 2
                have := HN3.out
                omega
            · have f1 : decide (n < 3) = false := decide_eq_false hn
              have f2 : decide ((n : Int) < 3) = false := decide_eq_false (by omega)
              obtain rfl : n = 3 := by have := HN3.out; omega
              have HV : Aside0 (outByte st i = y % 256) := ⟨by
                unfold outByte
                rw [← HX.out, div_back x (i % 4) (by omega), HYE.out]⟩
              have w3 : wr.cell? ⟨wo.heap.size, i, none⟩ = _ := HO.out.cell (i := i) (by rw [outAt_length]; exact hi)
              have w4 : wr.frozen? ⟨wo.heap.size, i, none⟩ = false := HO.out.free i
              go_wp2_with fail
              go_roundg (32 - (i + 1))
              case measure => have := HI.out; omega
              case rel =>
                refine ⟨i + 1, by simp, ⟨rfl, by omega⟩, ⟨?_⟩, ⟨?_⟩⟩
                · have h_ := HO.out.set i (outByte st i)
                  rw [HV.out] at h_
                  simp only [outAt]
                  rw [HV.out]
                  exact h_
                · exact HL.out.setCell (Nat.le_refl _) _
        · have e1 : decide (i < 32) = false := decide_eq_false hi
          have e2 : decide ((i : Int) < 32) = false := decide_eq_false (by omega)
          obtain rfl : i = 32 := by have := HI.out; omega
          have HZ2 : Aside0 (Blk8 wr w.heap.size 28 (List.replicate 32 0)) := ⟨Blk8.below HZ8.out HL.out (Blk8.lt HZ8.out)⟩
          obtain ⟨d, hd⟩ : ∃ d, d = outAt st 32 := ⟨_, rfl⟩
          have HDL : Aside0 (d.length = 32) := ⟨by rw [hd, outAt_length]⟩
          rw [← hd] at HO
          have HCS : Aside0 (d = shaOf l) := ⟨by rw [hd]; unfold shaOf; rw [HMSG.out, HP.out, ← HST.out]⟩
          clear hd
          have hzd : (cells8 d).size = 32 := by rw [cells8_size, HDL.out]
          have hst := store8 (xs := d) HZ2.out (by rw [HDL.out]; rfl)
          have HBL : Aside0 (Below w.heap.size w (wr.setRow w.heap.size (cells8 d))) := ⟨below_row (below_step HB8.out HL.out) (Nat.le_refl _)⟩
          have HROW := Aside0.mk (setRow_heap wr w.heap.size _ (cells8 d) 28 (0, 0) HZ2.out)
          go_wp2_with (first
            | ((with_reducible refine gate_dst (N := 170) rfl ?_); refine wpList_load_row rfl 28 (.tmp 14) rfl wo.heap.size rfl 28 (cells8 d) (0, 0) _ HO.out rfl (by kernel_rfl) (by rw [hzd]; kernel_rfl) ?_)
            | fail)
          refine bodyPost_ret (v := .agg (cells8 d)) ?_ rfl ⟨by rw [HCS.out], HBL.out⟩
          exact results_cell_row (P := Try.prog) Try.results136 _ _ w.heap.size 28 (cells8 d) (0, 0) _ rfl HROW.out rfl (by kernel_rfl) (by rw [hzd]; kernel_rfl)

end Go.Proofs.Ytchaegfdcdlfaaa.X

/- The document's digest of a text; which digest is less: the walks. -/
namespace Go.Proofs.Ytchaegfdcdlfaaa.X
set_option linter.unusedVariables false
set_option linter.unusedSimpArgs false
open Go.RowKit Go.Proofs.YtchaegfdcdlfaaaW.PrintWords Go.Proofs.YtchaegfdcdlfaaaW.PrintLast Go.Proofs.YtchaegfdcdlfaaaW.PrintMore

theorem bytesOf_bytes8 (s : ByteArray) : Bytes8 (bytesOf s) := by
  intro x hx
  unfold bytesOf at hx
  obtain ⟨b, _, rfl⟩ := List.mem_map.1 hx
  have := b.toNat_lt
  omega
set_option maxHeartbeats 1000000 in
set_option maxRecDepth 100000 in
theorem refof_call (s : ByteArray) (w : World) (hs : s.size ≤ 1000) :
    Calls Try.prog 78 #[.string s] w fun e w' => e = .returned (.agg (cells8 (shaOf (bytesOf s)))) ∧ Below w.heap.size w w' := by
  have hcv := fun W => print_bytes (P := Try.prog) 9 40 5 Try.underlying9 Try.underlying40 Try.underlying5 s W
  have hz : (cells8 (shaOf (bytesOf s))).size = 32 := by rw [cells8_size, shaOf_length]
  obtain ⟨d, hd⟩ : ∃ d, d = shaOf (bytesOf s) := ⟨_, rfl⟩
  rw [← hd] at hz ⊢
  have HD : Aside0 (shaOf (bytesOf s) = d) := ⟨hd.symm⟩
  clear hd
  go_enter Try.func78, Try.ntmps78
  go_wp2_with fail
  obtain ⟨wA, hwA⟩ : ∃ wA : World, wA = Lib.bytesWorld (w.alloc (.cells #[.int .u8 0, .int .u8 0, .int .u8 0, .int .u8 0, .int .u8 0, .int .u8 0, .int .u8 0, .int .u8 0, .int .u8 0, .int .u8 0, .int .u8 0, .int .u8 0, .int .u8 0, .int .u8 0, .int .u8 0, .int .u8 0, .int .u8 0, .int .u8 0, .int .u8 0, .int .u8 0, .int .u8 0, .int .u8 0, .int .u8 0, .int .u8 0, .int .u8 0, .int .u8 0, .int .u8 0, .int .u8 0, .int .u8 0, .int .u8 0, .int .u8 0, .int .u8 0] 28 (0, 0))) 5 s := ⟨_, rfl⟩
  have HZA : Aside0 (Blk8 wA w.heap.size 28 (List.replicate 32 0)) := ⟨by rw [hwA]; unfold Blk8; rw [Lib.bytesWorld_at_old _ _ _ _ (by simp)]; exact heap_alloc_new w _⟩
  have HBA : Aside0 (Below w.heap.size w wA) := ⟨by rw [hwA]; exact bytes_below (below_alloc (Below.refl _ _) _) (by simp) _ _⟩
  have HRA : Aside0 (RdB wA (some ⟨w.heap.size + 1, 0, none⟩) s.size (bytesOf s)) := ⟨by rw [hwA]; have h_ := bytes_reads (w.alloc (.cells #[.int .u8 0, .int .u8 0, .int .u8 0, .int .u8 0, .int .u8 0, .int .u8 0, .int .u8 0, .int .u8 0, .int .u8 0, .int .u8 0, .int .u8 0, .int .u8 0, .int .u8 0, .int .u8 0, .int .u8 0, .int .u8 0, .int .u8 0, .int .u8 0, .int .u8 0, .int .u8 0, .int .u8 0, .int .u8 0, .int .u8 0, .int .u8 0, .int .u8 0, .int .u8 0, .int .u8 0, .int .u8 0, .int .u8 0, .int .u8 0, .int .u8 0, .int .u8 0] 28 (0, 0))) 5 s (by omega); rw [show (w.alloc (.cells #[.int .u8 0, .int .u8 0, .int .u8 0, .int .u8 0, .int .u8 0, .int .u8 0, .int .u8 0, .int .u8 0, .int .u8 0, .int .u8 0, .int .u8 0, .int .u8 0, .int .u8 0, .int .u8 0, .int .u8 0, .int .u8 0, .int .u8 0, .int .u8 0, .int .u8 0, .int .u8 0, .int .u8 0, .int .u8 0, .int .u8 0, .int .u8 0, .int .u8 0, .int .u8 0, .int .u8 0, .int .u8 0, .int .u8 0, .int .u8 0, .int .u8 0, .int .u8 0] 28 (0, 0))).heap.size = w.heap.size + 1 from Array.size_push ..] at h_; exact Kd.C_of_reads (h1 := fun _ => rfl) h_⟩
  rw [← hwA]
  clear hwA
  obtain ⟨cc, hcc⟩ : ∃ cc, cc = grownCap (w.alloc (.cells #[.int .u8 0, .int .u8 0, .int .u8 0, .int .u8 0, .int .u8 0, .int .u8 0, .int .u8 0, .int .u8 0, .int .u8 0, .int .u8 0, .int .u8 0, .int .u8 0, .int .u8 0, .int .u8 0, .int .u8 0, .int .u8 0, .int .u8 0, .int .u8 0, .int .u8 0, .int .u8 0, .int .u8 0, .int .u8 0, .int .u8 0, .int .u8 0, .int .u8 0, .int .u8 0, .int .u8 0, .int .u8 0, .int .u8 0, .int .u8 0, .int .u8 0, .int .u8 0] 28 (0, 0))) s.size 0 5 := ⟨_, rfl⟩
  have HCC : Aside0 (s.size ≤ cc) := ⟨by rw [hcc]; exact grownCap_ge _ _ _ _⟩
  rw [← hcc]
  clear hcc
  have hsum := refsum_call (some ⟨w.heap.size + 1, 0, none⟩) cc (bytesOf s) wA (by rw [bytesOf_length]; exact HRA.out) (by rw [bytesOf_length]; exact HCC.out) (by rw [bytesOf_length]; exact hs) (bytesOf_bytes8 s)
  rw [bytesOf_length, HD.out] at hsum
  refine hsum.mono ?_
  clear hsum
  rintro e w2 ⟨rfl, hb2⟩
  have HZ2 : Aside0 (Blk8 w2 w.heap.size 28 (List.replicate 32 0)) := ⟨Blk8.below HZA.out hb2 (Blk8.lt HZA.out)⟩
  have HB2 : Aside0 (Below w.heap.size w w2) := ⟨below_step HBA.out hb2⟩
  have HL2 : Aside0 (d.length = 32) := ⟨by rw [← HD.out, shaOf_length]⟩
  have hst := store8 (xs := d) HZ2.out (by rw [HL2.out]; rfl)
  clear hb2
  go_wp2_with fail
  refine bodyPost_ret (v := .agg (cells8 d)) ?_ rfl ⟨rfl, below_row HB2.out (Nat.le_refl _)⟩
  exact results_cell_row (P := Try.prog) Try.results78 _ _ w.heap.size 28 (cells8 d) (0, 0) _ rfl (setRow_heap _ _ _ _ _ _ HZ2.out) rfl (by kernel_rfl) (by rw [hz]; kernel_rfl)


end Go.Proofs.Ytchaegfdcdlfaaa.X

/- Block signatures: the document's functions. -/
namespace Go.Proofs.Ytchaegfdcdlfaaa.X
set_option linter.unusedVariables false
set_option linter.unusedSimpArgs false
open Go.RowKit Go.Maps Go.Proofs.YtchaegfdcdlfaaaW.PrintWords Go.Proofs.YtchaegfdcdlfaaaW.PrintLast Go.Proofs.YtchaegfdcdlfaaaW.PrintMore

set_option maxHeartbeats 1000000 in
set_option maxRecDepth 100000 in
theorem refone_call (s : ByteArray) (w : World) (hs : s.size ≤ 1000) :
    Calls Try.prog 36 #[.string s] w fun e w' => e = .returned (.agg (sgA (oneOf s))) ∧ Below w.heap.size w w' := by
  have hroll := refSum_eq s (by omega) (s.size + 1) (by omega)
  obtain ⟨x, hx⟩ : ∃ x, x = roll (bs s) := ⟨_, rfl⟩
  obtain ⟨d, hd⟩ : ∃ d, d = shaOf (bytesOf s) := ⟨_, rfl⟩
  have HX : Aside0 (oneOf s = (x, d)) := ⟨by rw [hx, hd]; rfl⟩
  have hd32 : d.length = 32 := by rw [hd]; exact shaOf_length _
  have HD : Aside0 (shaOf (bytesOf s) = d) := ⟨hd.symm⟩
  rw [← hx] at hroll
  have HR := Aside0.mk hroll
  have HL := Aside0.mk hd32
  have HBU := Aside0.mk (built_sg x d hd32)
  clear hx hd hroll hd32
  rw [HX.out]
  go_enter Try.func36, Try.ntmps36
  go_wp2_with fail
  refine (rolodexref09_Sum.calls (s.size + 1) s x _ HR.out).mono ?_
  rintro e w1 ⟨rfl, m, rfl⟩
  go_wp2_with fail
  have hof := refof_call s (World.drewN (w.alloc (.cells #[.int .u32 0, .int .u8 0, .int .u8 0, .int .u8 0, .int .u8 0, .int .u8 0, .int .u8 0, .int .u8 0, .int .u8 0, .int .u8 0, .int .u8 0, .int .u8 0, .int .u8 0, .int .u8 0, .int .u8 0, .int .u8 0, .int .u8 0, .int .u8 0, .int .u8 0, .int .u8 0, .int .u8 0, .int .u8 0, .int .u8 0, .int .u8 0, .int .u8 0, .int .u8 0, .int .u8 0, .int .u8 0, .int .u8 0, .int .u8 0, .int .u8 0, .int .u8 0, .int .u8 0] 30)) m) hs
  rw [HD.out] at hof
  refine hof.mono ?_
  clear hof
  rintro e w2 ⟨rfl, hb2⟩
  have HZ : Aside0 (w2.heap[w.heap.size]? = some (.cells #[.int .u32 0, .int .u8 0, .int .u8 0, .int .u8 0, .int .u8 0, .int .u8 0, .int .u8 0, .int .u8 0, .int .u8 0, .int .u8 0, .int .u8 0, .int .u8 0, .int .u8 0, .int .u8 0, .int .u8 0, .int .u8 0, .int .u8 0, .int .u8 0, .int .u8 0, .int .u8 0, .int .u8 0, .int .u8 0, .int .u8 0, .int .u8 0, .int .u8 0, .int .u8 0, .int .u8 0, .int .u8 0, .int .u8 0, .int .u8 0, .int .u8 0, .int .u8 0, .int .u8 0] 30 (0, 0))) := ⟨(hb2.block _ (by simp)).trans (heap_alloc_new w _)⟩
  have HB2 : Aside0 (Below w.heap.size w w2) := ⟨below_step (pw_below_drewN (below_alloc (Below.refl _ _) _) m) hb2⟩
  have hst := storeA (cs := sgA (x, d)) HZ.out (by rw [sgA_size HL.out]; rfl) (sgA_all _)
  clear hb2
  have hsz := sgA_size (s := (x, d)) HL.out
  go_wp2_with (first
    | ((with_reducible refine gate_dst (N := 7) rfl ?_); refine wpList_build_cells rfl 30 _ rfl (sgA (x, d)) ?hb ?_; case hb => (simp only [List.map_toArray, List.map_cons, List.map_nil]; exact HBU.out))
    | fail)
  refine bodyPost_ret (v := .agg (sgA (x, d))) ?_ rfl ⟨rfl, below_row HB2.out (Nat.le_refl _)⟩
  exact results_cell_row (P := Try.prog) Try.results36 _ _ w.heap.size 30 (sgA (x, d)) (0, 0) _ rfl (setRow_heap _ _ _ _ _ _ HZ.out) Try.underlying30 rfl (sgInfo HL.out)

set_option maxHeartbeats 1000000 in
set_option maxRecDepth 100000 in
theorem refof10_call (s : ByteArray) (w : World) (hs : s.size ≤ 1000) :
    Calls Try.prog 34 #[.string s] w fun e w' => ∃ v, e = .returned v ∧ sgK.R 30 w' w.heap.size (fun _ => True) v (signOf s) ∧ Below w.heap.size w w' := by
  by_cases h24 : s.size < 24
  · have e1 : decide ((s.size : Int) < 24) = true := by simp; omega
    have e2 : ((s.size : Int) < 24) = True := by simp; omega
    have HE : Aside0 (signOf s = []) := ⟨by simp [signOf, h24]⟩
    clear h24
    go_enter Try.func34, Try.ntmps34
    go_wp2_with fail
    go_ret
    exact ⟨_, rfl, by rw [HE.out]; exact Kd.R_nil _ _ _ _ _, Below.refl _ _⟩
  · have e1 : decide ((s.size : Int) < 24) = false := by simp; omega
    have e2 : ((s.size : Int) < 24) = False := by simp; omega
    have HE : Aside0 (signOf s = blocks s (s.size / 8)) := ⟨by simp [signOf, h24]⟩
    have HN := Aside0.mk h24
    have HZ := Aside0.mk hs
    clear h24 hs
    go_enter Try.func34, Try.ntmps34
    go_wp2_with fail
    go_loopg [3, 4] s.size (fun k v3 v4 w' => ∃ (j : Nat), v4 = .int .i64 ((8 * j : Nat) : Int) ∧ Aside0 (8 * j ≤ s.size ∧ k = s.size - 8 * j) ∧ Aside0 (sgK.R 30 w' w.heap.size (fun _ => True) v3 (blocks s j)) ∧ Aside0 (Below w.heap.size w w'))
    case atStart => exact ⟨0, rfl, ⟨by omega, by omega⟩, ⟨Kd.R_nil _ _ _ _ _⟩, ⟨Below.refl _ _⟩⟩
    case round =>
      clear e1 e2
      obtain ⟨j, rfl, HT, HR, HB⟩ := hrel
      obtain ⟨i, hi⟩ : ∃ i, i = 8 * j := ⟨_, rfl⟩
      rw [← hi] at HT ⊢
      have HI := Aside0.mk hi
      have hib : i ≤ s.size := HT.out.1
      have hsz := HZ.out
      clear hi
      by_cases h8 : i + 8 ≤ s.size
      · have e1 : decide ((i : Int) + 8 ≤ (s.size : Int)) = true := by simp; omega
        have e2 : ((i : Int) + 8 ≤ (s.size : Int)) = True := by simp; omega
        have e3 : (0 ≤ (i : Int)) = True := by simp
        have e5 : ((s.size : Int) < (i : Int) + 8) = False := by simp; omega
        have ew2 : wrap64 ((i : Int) + 8) = (i : Int) + 8 := by unfold wrap64; omega
        have HP : Aside0 (oneOf (s.extract i (i + 8)) = blockAt s j) := ⟨by rw [HI.out]; rfl⟩
        have hsl := slice_mid s i (i + 8) (by omega) h8 ((i : Int) + 8) (by simp)
        have H8 := Aside0.mk h8
        clear h8 hib hsz
        go_wp2_with fail
        refine (refone_call (s.extract i (i + 8)) _ (by simp; omega)).mono ?_
        rintro e w1 ⟨rfl, hb1⟩
        rw [HP.out]
        have HOK : Aside0 (SgOk (blockAt s j)) := ⟨oneOf_ok _⟩
        obtain ⟨y, hy⟩ : ∃ y, y = blockAt s j := ⟨_, rfl⟩
        rw [← hy] at HOK ⊢
        have HY := Aside0.mk hy
        clear hy
        have HR1 := Aside0.mk (Kd.R_below HR.out hb1)
        have HB1 := Aside0.mk (below_step HB.out hb1)
        have HSZ := Aside0.mk HB1.out.size
        clear hb1
        go_wp2_with (first
          | ((with_reducible refine gate_dst (N := 22) rfl ?_); refine wpList_buildSlice_one rfl 22 30 (.tmp 21) rfl 33 (sgA y) _ Try.underlying22 zeroSig2 (sgA_size HOK.out.len).symm (by decide) (by decide) rfl ?_)
          | ((with_reducible refine gate_builtin (b := .append) (xs := #[.tmp 15, .tmp 22]) rfl ?_); at_builtin; go_loud (refine Kd.R_append sgK (w0 := w) w.heap.size rfl _ _ 22 30 _ 36 rfl Try.underlying22 zeroSig rfl (by decide) (by decide) u3 (blocks s j) y (sgL y) (fun _ => True) (fun k => False) (by rfl) (by rfl) (sgK_M HOK.out.len) (fun k hk => hk.elim) (fun _ _ => trivial) HR1.out HB1.out HSZ.out (by have := HT.out.1; have := HZ.out; have := HI.out; rw [blocks_length]; omega) ?_; intro v2 w2 hR2 hB2 hg2 hat2; clear hg2 hat2; have HR2 := Aside0.mk hR2; have HB2 := Aside0.mk hB2; clear hR2 hB2))
          | fail)
        go_roundg (s.size - (i + 8))
        case measure => have := HT.out; have := H8.out; omega
        case rel =>
          refine ⟨j + 1, ?_, ⟨by have := H8.out; have := HI.out; omega, by have := HI.out; omega⟩, ⟨?_⟩, HB2⟩
          · have := HI.out
            rw [ew2, show ((8 * (j + 1) : Nat) : Int) = (i : Int) + 8 by omega]
          · rw [← blocks_snoc, ← HY.out]
            exact HR2.out
      · have e1 : decide ((i : Int) + 8 ≤ (s.size : Int)) = false := by simp; omega
        have e2 : ((i : Int) + 8 ≤ (s.size : Int)) = False := by simp; omega
        have e5 : ((s.size : Int) < (i : Int) + 8) = True := by simp; omega
        have ew2 : wrap64 ((i : Int) + 8) = (i : Int) + 8 := by unfold wrap64; omega
        have hj : j = s.size / 8 := by have := HI.out; omega
        have HJ := Aside0.mk hj
        clear h8 hj hib hsz
        go_wp2_with fail
        go_ret
        refine ⟨_, rfl, ?_, HB.out⟩
        rw [HE.out, ← HJ.out]
        exact HR.out
end Go.Proofs.Ytchaegfdcdlfaaa.X

/- Block signatures: the document's Find and Same. -/
namespace Go.Proofs.Ytchaegfdcdlfaaa.X
set_option linter.unusedVariables false
set_option linter.unusedSimpArgs false
open Go.RowKit Go.Maps Go.Proofs.YtchaegfdcdlfaaaW.PrintWords Go.Proofs.YtchaegfdcdlfaaaW.PrintLast Go.Proofs.YtchaegfdcdlfaaaW.PrintMore
set_option maxHeartbeats 1000000 in
set_option maxRecDepth 100000 in
theorem reffind_call (A : Option Addr) (c : Nat) (l : List Sg) (p : ByteArray) (w : World) (hr : sgK.C w A l.length l) (hok : ∀ s ∈ l, SgOk s) (hl : l.length ≤ 100000) (hp : p.size ≤ 1000) :
    Calls Try.prog 38 #[.slice A l.length c, .string p] w fun e w' => e = .returned (.int .i64 (findOf l p)) ∧ Below w.heap.size w w' := by
  have HR := Aside0.mk hr
  have HOK := Aside0.mk hok
  have HL := Aside0.mk hl
  have HP := Aside0.mk hp
  clear hr hok hl
  by_cases h8 : p.size = 8
  · have HF : Aside0 (findOf l p = idxI l (oneOf p)) := ⟨by simp [findOf, h8]⟩
    obtain ⟨y, hy⟩ : ∃ y, y = oneOf p := ⟨_, rfl⟩
    have HYO : Aside0 (SgOk y) := ⟨by rw [hy]; exact oneOf_ok _⟩
    have HY := Aside0.mk hy
    have e1 : ((p.size : Int) != 8) = false := by simp; omega
    have e2 : ((p.size : Int) = 8) = True := by simp; omega
    clear h8 hy hp
    rw [HF.out, ← HY.out]
    go_enter Try.func38, Try.ntmps38
    go_wp2_with fail
    refine (refone_call p _ (by have := HP.out; omega)).mono ?_
    rintro e w1 ⟨rfl, hb1⟩
    rw [← HY.out]
    have HB1 := Aside0.mk hb1
    have hsz := sgA_size HYO.out.len
    have hst := store_new w1 #[.int .u32 0, .int .u8 0, .int .u8 0, .int .u8 0, .int .u8 0, .int .u8 0, .int .u8 0, .int .u8 0, .int .u8 0, .int .u8 0, .int .u8 0, .int .u8 0, .int .u8 0, .int .u8 0, .int .u8 0, .int .u8 0, .int .u8 0, .int .u8 0, .int .u8 0, .int .u8 0, .int .u8 0, .int .u8 0, .int .u8 0, .int .u8 0, .int .u8 0, .int .u8 0, .int .u8 0, .int .u8 0, .int .u8 0, .int .u8 0, .int .u8 0, .int .u8 0, .int .u8 0] (sgA y) 30 (by rw [hsz]; rfl) (sgA_all y)
    have HG : Aside0 ((w1.alloc (.cells (sgA y) 30 (0, 0))).heap[w1.heap.size]? = some (.cells (sgA y) 30 (0, 0))) := ⟨heap_alloc_new w1 _⟩
    have HB2 := Aside0.mk (below_alloc HB1.out (.cells (sgA y) 30 (0, 0)))
    clear hb1
    go_wp2_with fail
    -- LOOP
    have HS1 := Aside0.mk HB1.out.size
    have HM := Aside0.mk (Kd.C_max HR.out)
    clear hst hsz
    go_loopg [6] l.length (fun k v w' => ∃ j : Nat, v = .int .i64 j ∧ Aside0 (k = l.length - j ∧ j ≤ l.length) ∧ Aside0 (∀ i, i < j → l[i]? ≠ some y) ∧ Aside0 (Below w.heap.size w w' ∧ w'.heap[w1.heap.size]? = some (.cells (sgA y) 30 (0, 0))))
    case atStart => exact ⟨0, rfl, ⟨by omega, by omega⟩, ⟨fun i hi => by omega⟩, ⟨HB2.out, HG.out⟩⟩
    case round =>
      clear HG HB2
      obtain ⟨j, rfl, HJ, HN, HW⟩ := hrel
      have HGR := Aside0.mk HW.out.2
      have HBR := Aside0.mk HW.out.1
      clear HW
      by_cases hj : j < l.length
      · obtain ⟨ad, hA, h32, hcell⟩ := sgs_at (Kd.C_below HR.out HBR.out) hj
        have hmem : l[j]? = some (l.getD j (0, [])) := by simp [List.getD_eq_getElem?_getD, hj]
        obtain ⟨s, hs⟩ : ∃ s, s = l.getD j (0, []) := ⟨_, rfl⟩
        rw [← hs] at h32 hcell hmem
        have HS := Aside0.mk hmem
        have HC := Aside0.mk hcell
        have HSO : Aside0 (SgOk s) := ⟨HOK.out s (List.mem_of_getElem? HS.out)⟩
        clear hs hmem hcell h32
        subst hA
        have e1 : decide ((j : Int) < (l.length : Int)) = true := by simpa using hj
        have e2 : ((j : Int) < (l.length : Int)) = True := by simpa using hj
        have e3 : (0 ≤ (j : Int)) = True := by simp
        have e4 : IntKind.i64.wrap ((j : Int) + 1) = ((j + 1 : Nat) : Int) := by have := HL.out; simp [IntKind.wrap, IntKind.bits, IntKind.signed]; omega
        have HJ2 := Aside0.mk hj
        clear hj
        go_wp2_with fail
        refine wp_region_held_drew (S := (fun W => (∀ j_ v_, (sgA s)[j_]? = some v_ → W.cell? ((ad.add (j * 33)).add j_) = some v_) ∧ W.heap[w1.heap.size]? = some (.cells (sgA y) 30 (0, 0)))) (by kernel_rfl) ((And.intro HC.out HGR.out)) (fun hHeld => ?_)
        refine wpAnyH_take (i := 0) (v := ?_) (by simp only [List.getElem?_toArray, List.getElem?_cons_succ, List.getElem?_cons_zero]; rfl) (by kernel_rfl) (by kernel_rfl) (by kernel_rfl) (by intro _ _ _ h; exact h) (Or.inl ⟨by rfl, ?hy⟩) (by assumption) ?_
        case hy => (intro W_ hW_; go_simp; first | done | with_reducible rfl)
        try simp only [Act.put, List.setIfInBounds_toArray, List.set_cons_zero, List.set_cons_succ]
        refine wpAnyH_take (i := 1) (v := ?_) (by simp only [List.getElem?_toArray, List.getElem?_cons_succ, List.getElem?_cons_zero]; rfl) (by kernel_rfl) (by kernel_rfl) (by kernel_rfl) (by intro _ _ _ h; exact h) (Or.inl ⟨by rfl, ?hy⟩) (by assumption) ?_
        case hy => (intro W_ hW_; go_simp; first | done | with_reducible rfl)
        try simp only [Act.put, List.setIfInBounds_toArray, List.set_cons_zero, List.set_cons_succ]
        refine wpAnyH_take (i := 2) (v := ?_) (by simp only [List.getElem?_toArray, List.getElem?_cons_succ, List.getElem?_cons_zero]; rfl) (by kernel_rfl) (by kernel_rfl) (by kernel_rfl) (by intro _ _ _ h; exact h) (Or.inl ⟨by rfl, ?hy⟩) (by assumption) ?_
        case hy => (intro W_ hW_; go_simp; first | done | with_reducible rfl)
        try simp only [Act.put, List.setIfInBounds_toArray, List.set_cons_zero, List.set_cons_succ]
        refine wpAnyH_take (i := 3) (v := ?_) (by simp only [List.getElem?_toArray, List.getElem?_cons_succ, List.getElem?_cons_zero]; rfl) (by kernel_rfl) (by kernel_rfl) (by kernel_rfl) (by intro _ _ _ h; exact h) (Or.inl ⟨by rfl, ?hy⟩) (by assumption) ?_
        case hy => (intro W_ hW_; refine Eq.trans (exec_load_cells 30 (.tmp 20) ?_ (ad.add (j * 33)) ?_ (sgA s) _ hW_.1 Try.underlying30 rfl (sgInfo HSO.out.len)) ?_ <;> (first | with_reducible rfl | rfl))
        try simp only [Act.put, List.setIfInBounds_toArray, List.set_cons_zero, List.set_cons_succ]
        refine wpAnyH_take (i := 4) (v := ?_) (by simp only [List.getElem?_toArray, List.getElem?_cons_succ, List.getElem?_cons_zero]; rfl) (by kernel_rfl) (by kernel_rfl) (by kernel_rfl) (by intro _ _ _ h; exact h) (Or.inl ⟨by rfl, ?hy⟩) (by assumption) ?_
        case hy => (intro W_ hW_; refine Eq.trans (exec_load_row 30 (.tmp 5) ?_ w1.heap.size ?_ 30 (sgA y) (0, 0) _ hW_.2 Try.underlying30 rfl (sgInfo HYO.out.len)) ?_ <;> (first | with_reducible rfl | rfl))
        try simp only [Act.put, List.setIfInBounds_toArray, List.set_cons_zero, List.set_cons_succ]
        refine wpAnyH_take (i := 5) (v := ?_) (by simp only [List.getElem?_toArray, List.getElem?_cons_succ, List.getElem?_cons_zero]; rfl) (by kernel_rfl) (by kernel_rfl) (by kernel_rfl) (by intro _ _ _ h; exact h) (Or.inl ⟨by rfl, ?hy⟩) (by assumption) ?_
        case hy => (intro W_ hW_; refine Eq.trans (exec_eql_sg s y HSO.out HYO.out (.tmp 21) (.tmp 22) ?_ ?_ ?_) ?_ <;> (first | with_reducible rfl | rfl))
        try simp only [Act.put, List.setIfInBounds_toArray, List.set_cons_zero, List.set_cons_succ]
        refine wpAnyH_done (by kernel_rfl) ?_ _

        cases hq : (s == y)
        · have hne : s ≠ y := by simpa using hq
          have HNE := Aside0.mk hne
          clear hne hq
          go_wp2_with fail
          go_roundg (l.length - (j + 1))
          case measure => have := HJ.out; have := HJ2.out; omega
          case rel =>
            refine ⟨j + 1, ?_, ⟨by omega, by have := HJ2.out; omega⟩, ⟨fun i hi => ?_⟩, ⟨?_, ?_⟩⟩
            · simp [e4]
            · rcases Nat.lt_or_ge i j with h | h
              · exact HN.out i h
              · obtain rfl : i = j := by omega
                rw [HS.out]
                intro e; injection e with e; exact HNE.out e
            · exact below_drew HBR.out
            · exact HGR.out
        · have heq : s = y := by simpa using hq
          have HEQ := Aside0.mk heq
          clear heq hq
          go_wp2_with fail
          go_ret
          refine ⟨?_, below_drew HBR.out⟩
          rw [idxI_at (by rw [HS.out, HEQ.out]) HN.out]
          rfl
      · have e1 : decide ((j : Int) < (l.length : Int)) = false := by simpa using hj
        have e2 : ((j : Int) < (l.length : Int)) = False := by simpa using hj
        have hjl : j = l.length := by have := HJ.out; omega
        have HJL := Aside0.mk hjl
        clear hj hjl
        go_wp2_with fail
        go_ret
        refine ⟨?_, HBR.out⟩
        rw [idxI_none (fun i hi => HN.out i (by have := HJL.out; omega))]
        rfl
  · have HF : Aside0 (findOf l p = -1) := ⟨by simp [findOf, h8]⟩
    have e1 : ((p.size : Int) != 8) = true := by simp; omega
    have e2 : ((p.size : Int) = 8) = False := by simp; omega
    clear h8 hp
    rw [HF.out]
    go_enter Try.func38, Try.ntmps38
    go_wp2_with fail
    go_ret
    exact ⟨rfl, Below.refl _ _⟩
end Go.Proofs.Ytchaegfdcdlfaaa.X
