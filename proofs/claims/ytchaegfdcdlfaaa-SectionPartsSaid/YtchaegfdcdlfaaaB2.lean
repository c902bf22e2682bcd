/- Texts of this claim, one behind the other: CSum, STake, STools, CClone, COpen, CCat, Xx37, Xx39, Xx43, XxPack, CPack, CAwk, CLaw, JFacts, JWords, Xx48, XxRef2, CRef, SApp, CROpen. -/
import Derived.Test.YtchaegfdcdlfaaaB1
import Derived.Laws.CopyOwn
import Derived.WalkLawsBesides
import Derived.Lib.LazyBuf
import Derived.Lib.AppendZeros
import Derived.Lib.SlBytesConst
import Derived.JoinedOf
import Derived.Test.YtchaegfdcdlfaaaProg
import Derived.KernelRfl

/- section.Sum, by hand: a closure that captures a table, filled at its first call. -/
namespace Go.Proofs.Ytchaegfdcdlfaaa.X
set_option linter.unusedVariables false
set_option linter.unusedSimpArgs false
open Go.RowKit Go.Proofs.YtchaegfdcdlfaaaW.PrintWords Go.Proofs.YtchaegfdcdlfaaaW.PrintLast Go.Proofs.YtchaegfdcdlfaaaW.PrintMore

/-- The flag's block. -/
def Flg (w : World) (g : Nat) (b : Bool) : Prop := w.heap[g]? = some (.cells #[.bool b] 4 (0, 0))
theorem Flg.cell {w : World} {g : Nat} {b : Bool} (h : Flg w g b) : w.cell? ⟨g, 0, none⟩ = some (.bool b) := cell_of_one h
theorem Flg.free {w : World} {g : Nat} {b : Bool} (h : Flg w g b) : w.frozen? ⟨g, 0, none⟩ = false := free_of_one h
/-- The table, so far. -/
def tabAt : Nat → List Int
  | 0 => List.replicate 256 0
  | i + 1 => (tabAt i).set i (tn 8 i : Int)
theorem tabAt_length : ∀ i, (tabAt i).length = 256
  | 0 => List.length_replicate
  | i + 1 => by rw [tabAt, List.length_set]; exact tabAt_length i
theorem tabAt_get : ∀ (i j : Nat), j < i → i ≤ 256 → (tabAt i).getD j 0 = (tn 8 j : Int)
  | i + 1, j, hj, hi => by
    rw [tabAt, List.getD_eq_getElem?_getD, List.getElem?_set, tabAt_length]
    by_cases h : i = j
    · subst h
      rw [if_pos rfl, if_pos (show i < 256 by omega)]
      rfl
    · rw [if_neg h]
      have := tabAt_get i j (by omega) (by omega)
      rwa [List.getD_eq_getElem?_getD] at this
theorem bit_eq (x : Nat) (h : x < 4294967296) : bits .xor .u32 ((x : Int) / 2) (bits .and .u32 3988292384 ((-(bits .and .u32 (x : Int) 1)) % 4294967296)) = (t1 x : Int) := by
  have h1 : bits .and .u32 (x : Int) 1 = ((x % 2 : Nat) : Int) := by
    have := u32_and_nat x 1 h (by decide)
    rw [Nat.and_one_is_mod] at this
    exact this
  rw [h1]
  have h3 : bits .and .u32 3988292384 ((-((x % 2 : Nat) : Int)) % 4294967296) = ((if x % 2 = 1 then cpoly else 0 : Nat) : Int) := by
    rcases Nat.mod_two_eq_zero_or_one x with hx | hx <;> rw [hx] <;> decide
  rw [h3]
  have h4 : (x : Int) / 2 = ((x / 2 : Nat) : Int) := by omega
  rw [h4]
  have := u32_xor_nat (x / 2) (if x % 2 = 1 then cpoly else 0) (by omega) (by split <;> decide)
  rw [this]
  rfl

set_option maxHeartbeats 1000000 in
set_option maxRecDepth 100000 in
theorem step_full (F T c : Nat) (hc : c < 256) (w0 w : World) (hF : w0.heap.size ≤ F) (hf : Flg w F true) (ht : Blk w T 195 (tabAt 256)) (hFT : F ≠ T) (hb : Below w0.heap.size w0 w) :
    Calls Try.prog 142 #[.int .u8 c, .pointer (some ⟨F, 0, none⟩), .pointer (some ⟨T, 0, none⟩)] w fun e w' => e = .returned (.int .u32 (tn 8 c : Int)) ∧ Flg w' F true ∧ Blk w' T 195 (tabAt 256) ∧ Below w0.heap.size w0 w' := by
  have y1 := hf.cell
  have y2 := hf.free
  have y3 := ht.cell (i := c) (by rw [tabAt_length]; omega)
  rw [tabAt_get 256 c hc (Nat.le_refl _)] at y3
  have HF := Aside0.mk hf
  have HT := Aside0.mk ht
  have HB := Aside0.mk hb
  have pc : ((c : Int) < 256) = True := eq_true (by omega)
  have qc : (0 ≤ (c : Int)) = True := eq_true (by omega)
  clear hf ht hb
  go_enter Try.func142, Try.ntmps142
  go_wp2_with fail
  go_loopg [5] 1 (fun k v5 w' => v5 = .int .i64 0 ∧ Aside0 (k = 1) ∧ w' = w)
  case atStart => exact ⟨rfl, ⟨rfl⟩, rfl⟩
  case round =>
    obtain ⟨rfl, HK, rfl⟩ := hrel
    go_wp2_with fail
    have z1 : (wr.setCell ⟨F, 0, none⟩ (.bool true)).cell? ⟨T, c, none⟩ = _ := (World.cell?_setCell_other wr ⟨F, 0, none⟩ ⟨T, c, none⟩ _ (by simp [hFT])).trans y3
    go_wp2_with fail
    go_ret
    refine ⟨rfl, one_setCell HF.out, ?_, below_set HB.out hF⟩
    unfold Blk
    rw [heap_setCell_other _ _ _ _ (by simp; omega)]
    exact HT.out

set_option maxHeartbeats 1000000 in
set_option maxRecDepth 100000 in
theorem step_first (F T c : Nat) (hc : c < 256) (w0 w : World) (hF : w0.heap.size ≤ F) (hT : w0.heap.size ≤ T) (hf : Flg w F false) (ht : Blk w T 195 (tabAt 0)) (hFT : F ≠ T) (hb : Below w0.heap.size w0 w) :
    Calls Try.prog 142 #[.int .u8 c, .pointer (some ⟨F, 0, none⟩), .pointer (some ⟨T, 0, none⟩)] w fun e w' => e = .returned (.int .u32 (tn 8 c : Int)) ∧ Flg w' F true ∧ Blk w' T 195 (tabAt 256) ∧ Below w0.heap.size w0 w' := by
  have HF := Aside0.mk hf
  have HT := Aside0.mk ht
  have HB := Aside0.mk hb
  have pc : ((c : Int) < 256) = True := eq_true (by omega)
  have qc : (0 ≤ (c : Int)) = True := eq_true (by omega)
  clear hf ht hb
  go_enter Try.func142, Try.ntmps142
  go_wp2_with fail
  go_loopg [5] 256 (fun k v5 w' => ∃ i : Nat, v5 = .int .i64 i ∧ Aside0 (k = 256 - i ∧ i ≤ 256) ∧ Aside0 (Flg w' F false) ∧ Aside0 (Blk w' T 195 (tabAt i)) ∧ Aside0 (Below w0.heap.size w0 w'))
  case atStart => exact ⟨0, rfl, ⟨by omega, by omega⟩, HF, HT, HB⟩
  case round =>
    clear HF HT HB
    obtain ⟨i, rfl, HI, HF, HT, HB⟩ := hrel
    have y1 := HF.out.cell
    by_cases hi : i < 256
    · have d1 : decide (i < 256) = true := decide_eq_true hi
      have d2 : decide ((i : Int) < 256) = true := decide_eq_true (by omega)
      have pi : ((i : Int) < 256) = True := eq_true (by omega)
      have qi : (0 ≤ (i : Int)) = True := eq_true (by omega)
      have ui : (i : Int) % 4294967296 = (i : Int) := by omega
      have hwr : IntKind.i64.wrap ((i : Int) + 1) = ((i + 1 : Nat) : Int) := by rw [i64_w]; unfold wrap64; omega
      have HII := Aside0.mk hi
      go_wp2_with fail
      go_loopg [6, 17] 8 (fun k v6 v17 w' => ∃ j : Nat, v6 = .int .u32 (tn j i : Int) ∧ v17 = .int .i64 j ∧ Aside0 (k = 8 - j ∧ j ≤ 8) ∧ Aside0 (Flg w' F false) ∧ Aside0 (Blk w' T 195 (tabAt i)) ∧ Aside0 (Below w0.heap.size w0 w'))
      case atStart => exact ⟨0, rfl, rfl, ⟨by omega, by omega⟩, HF, HT, HB⟩
      case round =>
        clear HF HT HB y1
        obtain ⟨j, rfl, rfl, HJ, HF, HT, HB⟩ := hrel
        obtain ⟨x, hx⟩ : ∃ x, x = tn j i := ⟨_, rfl⟩
        have hxl : x < 4294967296 := by rw [hx]; exact tn_lt j (by have := HII.out; omega)
        have HX : Aside0 (t1 x = tn (j + 1) i) := ⟨by rw [hx, tn_succ]⟩
        have hbit := bit_eq x hxl
        rw [← hx]
        have HXX := Aside0.mk hx
        clear hx
        by_cases hj : j < 8
        · have d3 : decide (j < 8) = true := decide_eq_true hj
          have d4 : decide ((j : Int) < 8) = true := decide_eq_true (by omega)
          have hwj : IntKind.i64.wrap ((j : Int) + 1) = ((j + 1 : Nat) : Int) := by rw [i64_w]; unfold wrap64; omega
          go_wp2_with fail
          go_roundg (8 - (j + 1))
          case measure => have := HJ.out; omega
          case rel =>
            refine ⟨j + 1, ?_, ?_, ⟨rfl, by omega⟩, HF, HT, HB⟩
            · rw [← HX.out, ← hbit]
            · simp
        · have d3 : decide (j < 8) = false := decide_eq_false hj
          have d4 : decide ((j : Int) < 8) = false := decide_eq_false (by omega)
          obtain rfl : j = 8 := by have := HJ.out; omega
          have y1 := HT.out.cell (i := i) (by rw [tabAt_length]; have := HII.out; omega)
          have y2 := HT.out.free i
          clear hbit HX
          go_wp2_with fail
          go_roundg (256 - (i + 1))
          case measure => have := HI.out; have := HII.out; omega
          case rel =>
            refine ⟨i + 1, by simp, ⟨rfl, by have := HII.out; omega⟩, ⟨?_⟩, ⟨?_⟩, ⟨below_set HB.out hT⟩⟩
            · unfold Flg
              rw [heap_setCell_other _ _ _ _ (by simp; omega)]
              exact HF.out
            · rw [HXX.out]
              exact HT.out.set i _
    · have d1 : decide (i < 256) = false := decide_eq_false hi
      have d2 : decide ((i : Int) < 256) = false := decide_eq_false (by omega)
      obtain rfl : i = 256 := by have := HI.out; omega
      have y2 := HF.out.free
      have y3 := HT.out.cell (i := c) (by rw [tabAt_length]; omega)
      rw [tabAt_get 256 c hc (Nat.le_refl _)] at y3
      go_wp2_with fail
      have z1 : (wr.setCell ⟨F, 0, none⟩ (.bool true)).cell? ⟨T, c, none⟩ = _ := (World.cell?_setCell_other wr ⟨F, 0, none⟩ ⟨T, c, none⟩ _ (by simp [hFT])).trans y3
      go_wp2_with fail
      go_ret
      refine ⟨rfl, one_setCell HF.out, ?_, below_set HB.out hF⟩
      unfold Blk
      rw [heap_setCell_other _ _ _ _ (by simp; omega)]
      exact HT.out

theorem step_any (b : Bool) (n F T c : Nat) (hn : n = if b = true then 256 else 0) (hc : c < 256) (w0 w : World) (hF : w0.heap.size ≤ F) (hT : w0.heap.size ≤ T) (hf : Flg w F b) (ht : Blk w T 195 (tabAt n)) (hFT : F ≠ T) (hb : Below w0.heap.size w0 w) :
    Calls Try.prog 142 #[.int .u8 c, .pointer (some ⟨F, 0, none⟩), .pointer (some ⟨T, 0, none⟩)] w fun e w' => e = .returned (.int .u32 (tn 8 c : Int)) ∧ Flg w' F true ∧ Blk w' T 195 (tabAt 256) ∧ Below w0.heap.size w0 w' := by
  cases b with
  | false =>
    rw [if_neg (by decide)] at hn
    subst hn
    exact step_first F T c hc w0 w hF hT hf ht hFT hb
  | true =>
    rw [if_pos rfl] at hn
    subst hn
    exact step_full F T c hc w0 w hF hf ht hFT hb
theorem neg_eq (x : Nat) (h : x < 4294967296) : bits .xor .u32 IntKind.u32.max (x : Int) = 4294967295 - (x : Int) := by
  have h1 := u32_xor_nat 4294967295 x (by decide) h
  rw [Nat.xor_comm, ← not_xor h] at h1
  rw [show IntKind.u32.max = ((4294967295 : Nat) : Int) by decide, h1]
  omega

set_option maxHeartbeats 1000000 in
set_option maxRecDepth 100000 in
theorem steps_call (w : World) : Calls Try.prog 92 #[] w fun e w' => e = .returned (.func (.func 142) #[] #[.pointer (some ⟨w.heap.size + 1, 0, none⟩), .pointer (some ⟨w.heap.size, 0, none⟩)]) ∧ Flg w' (w.heap.size + 1) false ∧ Blk w' w.heap.size 195 (tabAt 0) ∧ Below w.heap.size w w' := by
  have hmf : ∀ (fn : Fn) (first cap : Array Value) (w : World), (Instr.makeFunc fn first cap).run Try.prog w = .ok (.func fn first cap) w := fun _ _ _ _ => rfl
  go_enter Try.func92, Try.ntmps92
  go_wp2_with fail
  go_ret
  refine ⟨rfl, heap_alloc2_new w _ _, ?_, below_alloc (below_alloc (Below.refl _ _) _) _⟩
  have hz : Try.zeroCells195 = ((tabAt 0).map (Value.int .u32)).toArray := by kernel_rfl
  unfold Blk
  rw [← hz]
  exact heap_alloc2_old w _ _

/-- The bytes as natural numbers. -/
def nats (l : List Int) : List Nat := l.map Int.toNat
def Byt (l : List Int) : Prop := ∀ x ∈ l, 0 ≤ x ∧ x ≤ 255
theorem nats_lt {l : List Int} (h : Byt l) : ∀ c ∈ nats l, c < 256 := fun c hc => by
  obtain ⟨x, hx, rfl⟩ := List.mem_map.1 hc
  have := h x hx
  omega
def crcA (l : List Int) (i : Nat) : Nat := crcFrom 4294967295 (nats (l.take i))
theorem crcA_lt {l : List Int} (h : Byt l) (i : Nat) : crcA l i < 4294967296 := crcFrom_lt (by omega) (nats_lt (fun x hx => h x (List.mem_of_mem_take hx)))
theorem crcA_succ {l : List Int} {i : Nat} (hi : i < l.length) : crcA l (i + 1) = crcStep (crcA l i) (l.getD i 0).toNat := by
  have : l.take (i + 1) = l.take i ++ [l.getD i 0] := by
    rw [List.getD_eq_getElem?_getD, List.getElem?_eq_getElem hi, Option.getD_some, List.take_succ_eq_append_getElem hi]
  unfold crcA nats
  rw [this, List.map_append, crcFrom_append]
  rfl
/-- A check. -/
def sumL (l : List Int) : Int := (crc (nats l) : Int)

set_option maxHeartbeats 1000000 in
set_option maxRecDepth 100000 in
theorem sum2_call (A : Option Addr) (c : Nat) (l : List Int) (w : World) (hr : Kd.C (Kd.int .u8) w A l.length l) (hb : Byt l) (hl : l.length ≤ 4611686018427387904) :
    Calls Try.prog 46 #[.slice A l.length c] w fun e w' => e = .returned (.int .u32 (sumL l)) ∧ Below w.heap.size w w' := by
  have HR := Aside0.mk hr
  have HBY := Aside0.mk hb
  have HL := Aside0.mk hl
  clear hr hb hl
  go_enter Try.func46, Try.ntmps46
  go_wp2_with fail
  refine (steps_call _).mono ?_
  rintro e w1 ⟨rfl, hf1, ht1, hb1⟩
  have HF := Aside0.mk hf1
  have HT := Aside0.mk ht1
  have HB := Aside0.mk hb1
  clear hf1 ht1 hb1
  go_wp2_with fail
  go_loopg [4, 10] l.length (fun k v4 v10 w' => ∃ i : Nat, v4 = .int .u32 (crcA l i : Int) ∧ v10 = .int .i64 i ∧ Aside0 (k = l.length - i ∧ i ≤ l.length) ∧ Aside0 (Flg w' (w.heap.size + 1) (decide (0 < i))) ∧ Aside0 (Blk w' w.heap.size 195 (tabAt (if 0 < i then 256 else 0))) ∧ Aside0 (Below w.heap.size w w'))
  case atStart => exact ⟨0, by simp [crcA, crcFrom, nats], rfl, ⟨by omega, by omega⟩, HF, HT, HB⟩
  case round =>
    clear HF HT HB
    obtain ⟨i, rfl, rfl, HI, HF, HT, HB⟩ := hrel
    obtain ⟨x, hx⟩ : ∃ x, x = crcA l i := ⟨_, rfl⟩
    have hxl : x < 4294967296 := by rw [hx]; exact crcA_lt HBY.out i
    rw [← hx]
    by_cases hi : i < l.length
    · have d1 : decide (i < l.length) = true := decide_eq_true hi
      have d2 : decide ((i : Int) < (l.length : Int)) = true := decide_eq_true (by omega)
      have pi : ((i : Int) < (l.length : Int)) = True := eq_true (by omega)
      have qi : (0 ≤ (i : Int)) = True := eq_true (by omega)
      obtain ⟨ad0, e0, x0⟩ := Kd.at_int (Kd.C_below HR.out HB.out) (i : Int) (by omega) (by omega)
      subst e0
      simp only [Int.toNat_natCast] at x0
      have hby := HBY.out (rd l i) (by
        unfold rd
        simp only [Int.toNat_natCast]
        rw [List.getD_eq_getElem?_getD, List.getElem?_eq_getElem hi, Option.getD_some]
        exact List.getElem_mem hi)
      obtain ⟨cn, hcn⟩ : ∃ cn : Nat, rd l i = (cn : Int) := ⟨(rd l i).toNat, by omega⟩
      rw [hcn] at x0 hby
      have hc2 : cn < 256 := by omega
      have HS : Aside0 (crcA l (i + 1) = crcStep x cn) := ⟨by
        rw [crcA_succ hi, hx]
        congr 1
        have h1 : rd l i = l.getD i 0 := by unfold rd; simp
        rw [← h1, hcn]
        rfl⟩
      obtain ⟨b8, hb8⟩ : ∃ b8, b8 = (x % 256) ^^^ cn := ⟨_, rfl⟩
      have hb8l : b8 < 256 := by rw [hb8]; exact xor_byte_lt hc2
      have hx8 : bits .xor .u8 ((x : Int) % 256) (cn : Int) = (b8 : Int) := by
        have := u8_xor_nat (x % 256) cn (by omega) hc2
        rw [hb8, ← this]
        rfl
      obtain ⟨y, hy⟩ : ∃ y, y = tn 8 b8 := ⟨_, rfl⟩
      have hx32 : bits .xor .u32 (y : Int) ((x : Int) / 256) = (crcStep x cn : Int) := by
        have hyl : y < 4294967296 := by rw [hy]; exact tn_lt 8 (by omega)
        have := u32_xor_nat y (x / 256) hyl (by omega)
        rw [show (x : Int) / 256 = ((x / 256 : Nat) : Int) by omega, this, hy, hb8, step_table x cn hc2]
      have HX32 := Aside0.mk hx32
      have HY := Aside0.mk hy
      clear hx hb8 hx32 hy hby hcn
      have hwi : IntKind.i64.wrap ((i : Int) + 1) = ((i + 1 : Nat) : Int) := by rw [i64_w]; unfold wrap64; have := HL.out; omega
      go_wp2_with fail
      refine (step_any (decide (0 < i)) _ _ _ _ (by by_cases h0 : 0 < i <;> simp [h0]) hb8l w _ (by omega) (Nat.le_refl _) HF.out HT.out (by omega) HB.out).mono ?_
      rintro e w2 ⟨rfl, hf2, ht2, hb2⟩
      have HF2 := Aside0.mk hf2
      have HT2 := Aside0.mk ht2
      have HB2 := Aside0.mk hb2
      rw [← HY.out]
      have hx32 := HX32.out
      clear hf2 ht2 hb2
      go_wp2_with fail
      go_roundg (l.length - (i + 1))
      case measure => have := HI.out; omega
      case rel =>
        refine ⟨i + 1, ?_, by simp, ⟨rfl, by omega⟩, ?_, ?_, HB2⟩
        · rw [HS.out]
        · rw [decide_eq_true (show 0 < i + 1 by omega)]; exact HF2
        · rw [if_pos (show 0 < i + 1 by omega)]; exact HT2
    · have d1 : decide (i < l.length) = false := decide_eq_false hi
      have d2 : decide ((i : Int) < (l.length : Int)) = false := decide_eq_false (by omega)
      have hil : i = l.length := by have := HI.out; omega
      have HE : Aside0 (sumL l = 4294967295 - (x : Int)) := ⟨by
        rw [hx, hil]
        unfold sumL crc crcA
        rw [List.take_length]
        have := crcFrom_lt (w := 4294967295) (by omega) (nats_lt HBY.out)
        omega⟩
      clear hx
      go_wp2_with fail
      go_ret
      refine ⟨?_, HB.out⟩
      rw [HE.out, neg_eq x hxl]
      rfl

/-- In the printed form. -/
def section_Sum.f (k : Nat) (l : List Int) : Option Int := if l.all (fun x => decide (0 ≤ x ∧ x ≤ 255)) = true ∧ l.length ≤ 4611686018427387904 then some (sumL l) else none
theorem section_Sum.mono : ∀ a0 k, LeO (section_Sum.f k a0) (section_Sum.f (k + 1) a0) := fun _ _ => LeO.refl _
theorem section_Sum.calls (k : Nat) (A0 : Option Addr) (c0 : Nat) (l0 : List Int) (r : Int) (w : World) (hr0 : Kd.C (Kd.int .u8) w A0 l0.length l0) (hc0 : l0.length ≤ c0) (h : section_Sum.f k l0 = some r) :
    Calls Try.prog 46 #[.slice A0 l0.length c0] w fun e w' => e = .returned (.int .u32 r) ∧ Below w.heap.size w w' := by
  unfold section_Sum.f at h
  split at h
  · rename_i hh
    injection h with h
    subst h
    exact sum2_call A0 c0 l0 w hr0 (fun x hx => by simpa using List.all_eq_true.1 hh.1 x hx) hh.2
  · cases h
theorem Sum2_eq (k : Nat) {l : List Int} (hb : Byt l) (hl : l.length ≤ 4611686018427387904) : section_Sum.f k l = some (sumL l) := by
  unfold section_Sum.f
  rw [if_pos ⟨List.all_eq_true.2 fun x hx => decide_eq_true (hb x hx), hl⟩]
end Go.Proofs.Ytchaegfdcdlfaaa.X

/- A chunk taken: the walk. -/
namespace Go.Proofs.Ytchaegfdcdlfaaa.X
set_option linter.unusedVariables false
set_option linter.unusedSimpArgs false
open Go.RowKit Go.Proofs.YtchaegfdcdlfaaaW.PrintWords Go.Proofs.YtchaegfdcdlfaaaW.PrintLast Go.Proofs.YtchaegfdcdlfaaaW.PrintMore

theorem Blk.below {B : Nat} {w w' : World} {g : Nat} {t : TypeId} {xs : List Int} (h : Blk w g t xs) (hb : Below B w w') (hg : g < B) : Blk w' g t xs := (hb.block g hg).trans h
theorem Blk.lt {w : World} {g : Nat} {t : TypeId} {xs : List Int} (h : Blk w g t xs) : g < w.heap.size := (Array.getElem?_eq_some_iff.1 h).1
/-- An array's cells. -/
def cellsOf (xs : List Int) : Array Value := (xs.map (Value.int .u32)).toArray
theorem cellsOf_size (xs : List Int) : (cellsOf xs).size = xs.length := by simp [cellsOf]
theorem cellsOf_all (xs : List Int) : (cellsOf xs).all (·.oneCell') = true := by simp [cellsOf, Value.oneCell']
theorem info38s : (Try.prog.info? 26).map (·.size) = some 1 := by kernel_rfl
theorem take7_get {xs : List Int} {j : Nat} {v : Value} (h : ((xs.take 7).map (Value.int .u32))[j]? = some v) : j < 7 ∧ v = Value.int .u32 (xs.getD j 0) := by
  rw [List.getElem?_map] at h
  by_cases hj : j < 7
  · refine ⟨hj, ?_⟩
    rw [List.getElem?_take_of_lt hj] at h
    obtain ⟨z, hz, rfl⟩ := Option.map_eq_some_iff.1 h
    simp [hz]
  · rw [List.getElem?_take_eq_none (by omega)] at h
    cases h
theorem splice_map {α β : Type} (f : α → β) (L : List α) (k : Nat) (cs : List α) : (splice L k cs).map f = splice (L.map f) k (cs.map f) := by
  simp [splice, List.map_take, List.map_drop]
theorem Blk.other {w : World} {g : Nat} {t : TypeId} {xs : List Int} (h : Blk w g t xs) (a : Addr) (v : Value) (hne : g ≠ a.block) : Blk (w.setCell a v) g t xs := by
  unfold Blk
  rw [heap_setCell_other _ _ _ _ hne]
  exact h
def shaT (xs : List Int) (k v : Int) : Int :=
  xs.getD 7 0 + bits .xor .u32 (bits .xor .u32 (rotr (xs.getD 4 0) 6) (rotr (xs.getD 4 0) 11)) (rotr (xs.getD 4 0) 25) + bits .xor .u32 (bits .and .u32 (xs.getD 4 0) (xs.getD 5 0)) (bits .and .u32 (bits .xor .u32 IntKind.u32.max (xs.getD 4 0)) (xs.getD 6 0)) + k + v
def shaU (xs : List Int) : Int :=
  bits .xor .u32 (bits .xor .u32 (rotr (xs.getD 0 0) 2) (rotr (xs.getD 0 0) 13)) (rotr (xs.getD 0 0) 22) + bits .xor .u32 (bits .xor .u32 (bits .and .u32 (xs.getD 0 0) (xs.getD 1 0)) (bits .and .u32 (xs.getD 0 0) (xs.getD 2 0))) (bits .and .u32 (xs.getD 1 0) (xs.getD 2 0))
def shaRound (xs : List Int) (k v : Int) : List Int :=
  ((splice xs 1 (xs.take 7)).set 0 ((shaT xs k v + shaU xs) % 4294967296)).set 4 (((splice xs 1 (xs.take 7)).getD 4 0 + shaT xs k v) % 4294967296)
def addUp (ss xs : List Int) : Nat → List Int
  | 0 => ss
  | j + 1 => (addUp ss xs j).set j (((addUp ss xs j).getD j 0 + xs.getD j 0) % 4294967296)
theorem addUp_length (ss xs : List Int) : ∀ j, (addUp ss xs j).length = ss.length
  | 0 => rfl
  | j + 1 => by simp [addUp, addUp_length ss xs j]
theorem grown_below {w w1 : World} {r : Option Nat} (h : Below w.heap.size w w1) : w.grownBy w1 r := ⟨h.os, h.tape, h.output, h.size, fun k hk _ => h.block k hk⟩
theorem grown_drew {w w1 : World} {r : Option Nat} (h : w.grownBy w1 r) : w.grownBy w1.drew r := ⟨h.os, h.tape, h.output, h.size, h.block⟩
theorem grown_set {w w1 : World} {g : Nat} (h : w.grownBy w1 (some g)) (i : Nat) (v : Value) : w.grownBy (w1.setCell ⟨g, i, none⟩ v) (some g) :=
  ⟨h.os, h.tape, h.output, by rw [show (w1.setCell ⟨g, i, none⟩ v).heap.size = w1.heap.size from by simp [World.setCell]]; exact h.size, fun k hk hne => by rw [heap_setCell_other _ _ _ _ (by intro e; exact hne (by rw [e]))]; exact h.block k hk hne⟩
def shaRounds (ss ws ks : List Int) : Nat → List Int
  | 0 => ss
  | i + 1 => shaRound (shaRounds ss ws ks i) (ks.getD i 0) (ws.getD i 0)

set_option maxHeartbeats 4000000 in
set_option maxRecDepth 100000 in
theorem take_call (gs gq : Nat) (A : Option Addr) (c : Nat) (l ss ks : List Int) (w : World) (hs : Blk w gs 187 ss) (hsl : ss.length = 8) (hk : Blk w gq 189 ks) (hkl : ks.length = 64) (hne : gs ≠ gq)
    (hr : Kd.C (Kd.int .u8) w A l.length l) (hc : 64 ≤ c) (hlen : l.length = 64) :
    Calls Try.prog 139 #[.pointer (some ⟨gs, 0, none⟩), .slice A 64 c, .pointer (some ⟨gq, 0, none⟩)] w fun e w' => e = .returned (.tuple #[]) ∧ Blk w' gs 187 (addUp ss (shaRounds ss (schedAt l 64) ks 64) 8) ∧ w.grownBy w' (some gs) := by
  obtain ⟨ws, hws⟩ : ∃ ws, schedAt l 64 = ws := ⟨_, rfl⟩
  have HWL : Aside0 (ws.length = 64) := ⟨by rw [← hws]; exact schedAt_length _ _⟩
  have HSC : Aside0 (∀ W, Kd.C (Kd.int .u8) W A l.length l → Calls Try.prog 168 #[.slice A 64 c] W fun e w' => e = .returned (.agg (cellsOf ws)) ∧ Below W.heap.size W w') := ⟨fun W h => by rw [← hws]; exact sched_call A c l W h hc hlen⟩
  rw [hws]
  clear hws hlen
  have HR := Aside0.mk hr
  have HSL := Aside0.mk hsl
  have HKL := Aside0.mk hkl
  have HS0 := Aside0.mk hs
  have HK0 := Aside0.mk hk
  have HNE := Aside0.mk hne
  clear hr hs hk hsl hkl hne
  go_enter Try.func139, Try.ntmps139
  go_wp2_with fail
  refine (HSC.out _ HR.out).mono ?_
  rintro e w1 ⟨rfl, hb1⟩
  have HB1 := Aside0.mk hb1
  clear hb1
  have hst := store_new w1 #[.int .u32 0, .int .u32 0, .int .u32 0, .int .u32 0, .int .u32 0, .int .u32 0, .int .u32 0, .int .u32 0, .int .u32 0, .int .u32 0, .int .u32 0, .int .u32 0, .int .u32 0, .int .u32 0, .int .u32 0, .int .u32 0, .int .u32 0, .int .u32 0, .int .u32 0, .int .u32 0, .int .u32 0, .int .u32 0, .int .u32 0, .int .u32 0, .int .u32 0, .int .u32 0, .int .u32 0, .int .u32 0, .int .u32 0, .int .u32 0, .int .u32 0, .int .u32 0, .int .u32 0, .int .u32 0, .int .u32 0, .int .u32 0, .int .u32 0, .int .u32 0, .int .u32 0, .int .u32 0, .int .u32 0, .int .u32 0, .int .u32 0, .int .u32 0, .int .u32 0, .int .u32 0, .int .u32 0, .int .u32 0, .int .u32 0, .int .u32 0, .int .u32 0, .int .u32 0, .int .u32 0, .int .u32 0, .int .u32 0, .int .u32 0, .int .u32 0, .int .u32 0, .int .u32 0, .int .u32 0, .int .u32 0, .int .u32 0, .int .u32 0, .int .u32 0] (cellsOf ws) 189 (by rw [cellsOf_size, HWL.out]; kernel_rfl) (cellsOf_all ws)
  have hz64 : (cellsOf ws).size = 64 := by rw [cellsOf_size, HWL.out]
  have hz8 : (cellsOf ss).size = 8 := by rw [cellsOf_size, HSL.out]
  obtain ⟨A1, hA1⟩ : ∃ A1, A1 = Obj.cells (cellsOf ws) 189 (0, 0) := ⟨_, rfl⟩
  rw [← hA1] at hst
  have HA1 := Aside0.mk hA1
  clear hA1
  have hst2 : (storeCells ⟨w1.heap.size + 1, 0, none⟩ (cellsOf ss).toList).run Try.prog ((w1.alloc A1).alloc (.cells #[.int .u32 0, .int .u32 0, .int .u32 0, .int .u32 0, .int .u32 0, .int .u32 0, .int .u32 0, .int .u32 0] 187 (0, 0))) = .ok () ((w1.alloc A1).alloc (.cells (cellsOf ss) 187 (0, 0))) := by
    have h_ := store_new (w1.alloc A1) #[.int .u32 0, .int .u32 0, .int .u32 0, .int .u32 0, .int .u32 0, .int .u32 0, .int .u32 0, .int .u32 0] (cellsOf ss) 187 (by rw [cellsOf_size, HSL.out]; kernel_rfl) (cellsOf_all ss)
    rw [show (w1.alloc A1).heap.size = w1.heap.size + 1 from Array.size_push ..] at h_
    exact h_
  have HS1 : Aside0 ((w1.alloc A1).heap[gs]? = some (.cells (cellsOf ss) 187 (0, 0))) := ⟨(Below.heap_alloc w1 A1 _ (Nat.lt_of_lt_of_le (Blk.lt HS0.out) HB1.out.size)).trans ((Blk.below HS0.out HB1.out (Blk.lt HS0.out)))⟩
  go_wp2_with (first
    | ((with_reducible refine gate_dst (N := 18) rfl ?_); refine wpList_load_row rfl 187 (.tmp 17) rfl gs rfl 187 (cellsOf ss) (0, 0) _ HS1.out rfl (by kernel_rfl) (by rw [cellsOf_size, HSL.out]; kernel_rfl) ?_)
    | fail)
  have HX0 : Aside0 (Blk ((w1.alloc A1).alloc (Obj.cells (cellsOf ss) 187)) (w1.heap.size + 1) 187 ss) := ⟨heap_alloc2_new w1 _ _⟩
  have HW0 : Aside0 (Blk ((w1.alloc A1).alloc (Obj.cells (cellsOf ss) 187)) w1.heap.size 189 ws) := ⟨by unfold Blk; rw [heap_alloc2_old w1, HA1.out]; rfl⟩
  have HB2 : Aside0 (Below w.heap.size w ((w1.alloc A1).alloc (Obj.cells (cellsOf ss) 187))) := ⟨below_alloc (below_alloc HB1.out _) _⟩
  clear hst hst2 HS1
  go_loopg [19] 64 (fun k v19 wr => ∃ (i : Nat) (xs : List Int), v19 = .int .i64 (i : Int) ∧ Aside0 (k = 64 - i ∧ i ≤ 64) ∧ Aside0 (xs = shaRounds ss ws ks i) ∧ Aside0 (xs.length = 8) ∧ Aside0 (Blk wr (w1.heap.size + 1) 187 xs) ∧ Aside0 (Blk wr w1.heap.size 189 ws) ∧ Aside0 (Below w.heap.size w wr))
  case atStart => exact ⟨0, ss, rfl, ⟨by omega, by omega⟩, ⟨rfl⟩, HSL, HX0, HW0, HB2⟩
  case round =>
    clear HX0 HW0 HB2
    obtain ⟨i, xs, rfl, HI, HXE, HXL, HX, HW, HL⟩ := hrel
    by_cases hi : i < 64
    · have d1 : decide (i < 64) = true := decide_eq_true hi
      have d2 : decide ((i : Int) < 64) = true := decide_eq_true (by omega)
      have pi : (0 ≤ (i : Int)) = True := eq_true (by omega)
      have qi : ((i : Int) < 64) = True := eq_true (by omega)
      have hwr : IntKind.i64.wrap ((i : Int) + 1) = ((i + 1 : Nat) : Int) := by rw [i64_w]; unfold wrap64; omega
      have HK : Aside0 (Blk wr gq 189 ks) := ⟨Blk.below HK0.out HL.out (Blk.lt HK0.out)⟩
      go_wp2_with fail
      refine wp_region_held_drew (S := (fun W => Blk W (w1.heap.size + 1) 187 xs ∧ Blk W w1.heap.size 189 ws ∧ Blk W gq 189 ks)) (by kernel_rfl) ((And.intro HX.out (And.intro HW.out HK.out))) (fun hHeld => ?_)
      refine wpAnyH_take (i := 0) (v := ?_) (by simp only [List.getElem?_toArray, List.getElem?_cons_succ, List.getElem?_cons_zero]; rfl) (by kernel_rfl) (by kernel_rfl) (by kernel_rfl) (by intro _ _ _ h; exact h) (Or.inl ⟨by rfl, ?hy⟩) (by assumption) ?_
      case hy => (intro W_ hW_; go_simp; first | done | with_reducible rfl)
      try simp only [Act.put, List.setIfInBounds_toArray, List.set_cons_zero, List.set_cons_succ]
      refine wpAnyH_take (i := 1) (v := ?_) (by simp only [List.getElem?_toArray, List.getElem?_cons_succ, List.getElem?_cons_zero]; rfl) (by kernel_rfl) (by kernel_rfl) (by kernel_rfl) (by intro _ _ _ h; exact h) (Or.inl ⟨by rfl, ?hy⟩) (by assumption) ?_
      case hy => (intro W_ hW_; have f_ := hW_.1.cell (i := 0) (by rw [HXL.out]; decide); go_simp; first | done | with_reducible rfl)
      try simp only [Act.put, List.setIfInBounds_toArray, List.set_cons_zero, List.set_cons_succ]
      refine wpAnyH_take (i := 2) (v := ?_) (by simp only [List.getElem?_toArray, List.getElem?_cons_succ, List.getElem?_cons_zero]; rfl) (by kernel_rfl) (by kernel_rfl) (by kernel_rfl) (by intro _ _ _ h; exact h) (Or.inl ⟨by rfl, ?hy⟩) (by assumption) ?_
      case hy => (intro W_ hW_; go_simp; first | done | with_reducible rfl)
      try simp only [Act.put, List.setIfInBounds_toArray, List.set_cons_zero, List.set_cons_succ]
      refine wpAnyH_take (i := 3) (v := ?_) (by simp only [List.getElem?_toArray, List.getElem?_cons_succ, List.getElem?_cons_zero]; rfl) (by kernel_rfl) (by kernel_rfl) (by kernel_rfl) (by intro _ _ _ h; exact h) (Or.inl ⟨by rfl, ?hy⟩) (by assumption) ?_
      case hy => (intro W_ hW_; have f_ := hW_.1.cell (i := 4) (by rw [HXL.out]; decide); go_simp; first | done | with_reducible rfl)
      try simp only [Act.put, List.setIfInBounds_toArray, List.set_cons_zero, List.set_cons_succ]
      refine wpAnyH_take (i := 4) (v := ?_) (by simp only [List.getElem?_toArray, List.getElem?_cons_succ, List.getElem?_cons_zero]; rfl) (by kernel_rfl) (by kernel_rfl) (by kernel_rfl) (by intro _ _ _ h; exact h) (Or.inl ⟨by rfl, ?hy⟩) (by assumption) ?_
      case hy => (intro W_ hW_; go_simp; first | done | with_reducible rfl)
      try simp only [Act.put, List.setIfInBounds_toArray, List.set_cons_zero, List.set_cons_succ]
      refine wpAnyH_take (i := 5) (v := ?_) (by simp only [List.getElem?_toArray, List.getElem?_cons_succ, List.getElem?_cons_zero]; rfl) (by kernel_rfl) (by kernel_rfl) (by kernel_rfl) (by intro _ _ _ h; exact h) (Or.inl ⟨by rfl, ?hy⟩) (by assumption) ?_
      case hy => (intro W_ hW_; go_simp; first | done | with_reducible rfl)
      try simp only [Act.put, List.setIfInBounds_toArray, List.set_cons_zero, List.set_cons_succ]
      refine wpAnyH_done (by kernel_rfl) ?_ _
      go_wp2_with fail
      refine wp_region_held_drew (S := (fun W => Blk W (w1.heap.size + 1) 187 xs ∧ Blk W w1.heap.size 189 ws ∧ Blk W gq 189 ks)) (by kernel_rfl) (hHeld) (fun hHeld => ?_)
      refine wpAnyH_take (i := 0) (v := ?_) (by simp only [List.getElem?_toArray, List.getElem?_cons_succ, List.getElem?_cons_zero]; rfl) (by kernel_rfl) (by kernel_rfl) (by kernel_rfl) (by intro _ _ _ h; exact h) (Or.inl ⟨by rfl, ?hy⟩) (by assumption) ?_
      case hy => (intro W_ hW_; go_simp; first | done | with_reducible rfl)
      try simp only [Act.put, List.setIfInBounds_toArray, List.set_cons_zero, List.set_cons_succ]
      refine wpAnyH_take (i := 1) (v := ?_) (by simp only [List.getElem?_toArray, List.getElem?_cons_succ, List.getElem?_cons_zero]; rfl) (by kernel_rfl) (by kernel_rfl) (by kernel_rfl) (by intro _ _ _ h; exact h) (Or.inl ⟨by rfl, ?hy⟩) (by assumption) ?_
      case hy => (intro W_ hW_; have f_ := hW_.1.cell (i := 7) (by rw [HXL.out]; decide); go_simp; first | done | with_reducible rfl)
      try simp only [Act.put, List.setIfInBounds_toArray, List.set_cons_zero, List.set_cons_succ]
      refine wpAnyH_take (i := 2) (v := ?_) (by simp only [List.getElem?_toArray, List.getElem?_cons_succ, List.getElem?_cons_zero]; rfl) (by kernel_rfl) (by kernel_rfl) (by kernel_rfl) (by intro _ _ _ h; exact h) (Or.inl ⟨by rfl, ?hy⟩) (by assumption) ?_
      case hy => (intro W_ hW_; go_simp; first | done | with_reducible rfl)
      try simp only [Act.put, List.setIfInBounds_toArray, List.set_cons_zero, List.set_cons_succ]
      refine wpAnyH_take (i := 4) (v := ?_) (by simp only [List.getElem?_toArray, List.getElem?_cons_succ, List.getElem?_cons_zero]; rfl) (by kernel_rfl) (by kernel_rfl) (by kernel_rfl) (by intro _ _ _ h; exact h) (Or.inl ⟨by rfl, ?hy⟩) (by assumption) ?_
      case hy => (intro W_ hW_; go_simp; first | done | with_reducible rfl)
      try simp only [Act.put, List.setIfInBounds_toArray, List.set_cons_zero, List.set_cons_succ]
      refine wpAnyH_take (i := 7) (v := ?_) (by simp only [List.getElem?_toArray, List.getElem?_cons_succ, List.getElem?_cons_zero]; rfl) (by kernel_rfl) (by kernel_rfl) (by kernel_rfl) (by intro _ _ _ h; exact h) (Or.inl ⟨by rfl, ?hy⟩) (by assumption) ?_
      case hy => (intro W_ hW_; go_simp; first | done | with_reducible rfl)
      try simp only [Act.put, List.setIfInBounds_toArray, List.set_cons_zero, List.set_cons_succ]
      refine wpAnyH_take (i := 11) (v := ?_) (by simp only [List.getElem?_toArray, List.getElem?_cons_succ, List.getElem?_cons_zero]; rfl) (by kernel_rfl) (by kernel_rfl) (by kernel_rfl) (by intro _ _ _ h; exact h) (Or.inl ⟨by rfl, ?hy⟩) (by assumption) ?_
      case hy => (intro W_ hW_; go_simp; first | done | with_reducible rfl)
      try simp only [Act.put, List.setIfInBounds_toArray, List.set_cons_zero, List.set_cons_succ]
      refine wpAnyH_take (i := 12) (v := ?_) (by simp only [List.getElem?_toArray, List.getElem?_cons_succ, List.getElem?_cons_zero]; rfl) (by kernel_rfl) (by kernel_rfl) (by kernel_rfl) (by intro _ _ _ h; exact h) (Or.inl ⟨by rfl, ?hy⟩) (by assumption) ?_
      case hy => (intro W_ hW_; go_simp; first | done | with_reducible rfl)
      try simp only [Act.put, List.setIfInBounds_toArray, List.set_cons_zero, List.set_cons_succ]
      refine wpAnyH_take (i := 13) (v := ?_) (by simp only [List.getElem?_toArray, List.getElem?_cons_succ, List.getElem?_cons_zero]; rfl) (by kernel_rfl) (by kernel_rfl) (by kernel_rfl) (by intro _ _ _ h; exact h) (Or.inl ⟨by rfl, ?hy⟩) (by assumption) ?_
      case hy => (intro W_ hW_; have f_ := hW_.1.cell (i := 5) (by rw [HXL.out]; decide); go_simp; first | done | with_reducible rfl)
      try simp only [Act.put, List.setIfInBounds_toArray, List.set_cons_zero, List.set_cons_succ]
      refine wpAnyH_take (i := 14) (v := ?_) (by simp only [List.getElem?_toArray, List.getElem?_cons_succ, List.getElem?_cons_zero]; rfl) (by kernel_rfl) (by kernel_rfl) (by kernel_rfl) (by intro _ _ _ h; exact h) (Or.inl ⟨by rfl, ?hy⟩) (by assumption) ?_
      case hy => (intro W_ hW_; go_simp; first | done | with_reducible rfl)
      try simp only [Act.put, List.setIfInBounds_toArray, List.set_cons_zero, List.set_cons_succ]
      refine wpAnyH_take (i := 15) (v := ?_) (by simp only [List.getElem?_toArray, List.getElem?_cons_succ, List.getElem?_cons_zero]; rfl) (by kernel_rfl) (by kernel_rfl) (by kernel_rfl) (by intro _ _ _ h; exact h) (Or.inl ⟨by rfl, ?hy⟩) (by assumption) ?_
      case hy => (intro W_ hW_; go_simp; first | done | with_reducible rfl)
      try simp only [Act.put, List.setIfInBounds_toArray, List.set_cons_zero, List.set_cons_succ]
      refine wpAnyH_take (i := 16) (v := ?_) (by simp only [List.getElem?_toArray, List.getElem?_cons_succ, List.getElem?_cons_zero]; rfl) (by kernel_rfl) (by kernel_rfl) (by kernel_rfl) (by intro _ _ _ h; exact h) (Or.inl ⟨by rfl, ?hy⟩) (by assumption) ?_
      case hy => (intro W_ hW_; go_simp; first | done | with_reducible rfl)
      try simp only [Act.put, List.setIfInBounds_toArray, List.set_cons_zero, List.set_cons_succ]
      refine wpAnyH_take (i := 17) (v := ?_) (by simp only [List.getElem?_toArray, List.getElem?_cons_succ, List.getElem?_cons_zero]; rfl) (by kernel_rfl) (by kernel_rfl) (by kernel_rfl) (by intro _ _ _ h; exact h) (Or.inl ⟨by rfl, ?hy⟩) (by assumption) ?_
      case hy => (intro W_ hW_; go_simp; first | done | with_reducible rfl)
      try simp only [Act.put, List.setIfInBounds_toArray, List.set_cons_zero, List.set_cons_succ]
      refine wpAnyH_take (i := 18) (v := ?_) (by simp only [List.getElem?_toArray, List.getElem?_cons_succ, List.getElem?_cons_zero]; rfl) (by kernel_rfl) (by kernel_rfl) (by kernel_rfl) (by intro _ _ _ h; exact h) (Or.inl ⟨by rfl, ?hy⟩) (by assumption) ?_
      case hy => (intro W_ hW_; have f_ := hW_.1.cell (i := 6) (by rw [HXL.out]; decide); go_simp; first | done | with_reducible rfl)
      try simp only [Act.put, List.setIfInBounds_toArray, List.set_cons_zero, List.set_cons_succ]
      refine wpAnyH_take (i := 19) (v := ?_) (by simp only [List.getElem?_toArray, List.getElem?_cons_succ, List.getElem?_cons_zero]; rfl) (by kernel_rfl) (by kernel_rfl) (by kernel_rfl) (by intro _ _ _ h; exact h) (Or.inl ⟨by rfl, ?hy⟩) (by assumption) ?_
      case hy => (intro W_ hW_; go_simp; first | done | with_reducible rfl)
      try simp only [Act.put, List.setIfInBounds_toArray, List.set_cons_zero, List.set_cons_succ]
      refine wpAnyH_take (i := 20) (v := ?_) (by simp only [List.getElem?_toArray, List.getElem?_cons_succ, List.getElem?_cons_zero]; rfl) (by kernel_rfl) (by kernel_rfl) (by kernel_rfl) (by intro _ _ _ h; exact h) (Or.inl ⟨by rfl, ?hy⟩) (by assumption) ?_
      case hy => (intro W_ hW_; go_simp; first | done | with_reducible rfl)
      try simp only [Act.put, List.setIfInBounds_toArray, List.set_cons_zero, List.set_cons_succ]
      refine wpAnyH_take (i := 22) (v := ?_) (by simp only [List.getElem?_toArray, List.getElem?_cons_succ, List.getElem?_cons_zero]; rfl) (by kernel_rfl) (by kernel_rfl) (by kernel_rfl) (by intro _ _ _ h; exact h) (Or.inl ⟨by rfl, ?hy⟩) (by assumption) ?_
      case hy => (intro W_ hW_; go_simp; first | done | with_reducible rfl)
      try simp only [Act.put, List.setIfInBounds_toArray, List.set_cons_zero, List.set_cons_succ]
      refine wpAnyH_take (i := 23) (v := ?_) (by simp only [List.getElem?_toArray, List.getElem?_cons_succ, List.getElem?_cons_zero]; rfl) (by kernel_rfl) (by kernel_rfl) (by kernel_rfl) (by intro _ _ _ h; exact h) (Or.inl ⟨by rfl, ?hy⟩) (by assumption) ?_
      case hy => (intro W_ hW_; go_simp; first | done | with_reducible rfl)
      try simp only [Act.put, List.setIfInBounds_toArray, List.set_cons_zero, List.set_cons_succ]
      refine wpAnyH_take (i := 24) (v := ?_) (by simp only [List.getElem?_toArray, List.getElem?_cons_succ, List.getElem?_cons_zero]; rfl) (by kernel_rfl) (by kernel_rfl) (by kernel_rfl) (by intro _ _ _ h; exact h) (Or.inl ⟨by rfl, ?hy⟩) (by assumption) ?_
      case hy => (intro W_ hW_; go_simp; first | done | with_reducible rfl)
      try simp only [Act.put, List.setIfInBounds_toArray, List.set_cons_zero, List.set_cons_succ]
      refine wpAnyH_take (i := 25) (v := ?_) (by simp only [List.getElem?_toArray, List.getElem?_cons_succ, List.getElem?_cons_zero]; rfl) (by kernel_rfl) (by kernel_rfl) (by kernel_rfl) (by intro _ _ _ h; exact h) (Or.inl ⟨by rfl, ?hy⟩) (by assumption) ?_
      case hy => (intro W_ hW_; go_simp; first | done | with_reducible rfl)
      try simp only [Act.put, List.setIfInBounds_toArray, List.set_cons_zero, List.set_cons_succ]
      refine wpAnyH_take (i := 26) (v := ?_) (by simp only [List.getElem?_toArray, List.getElem?_cons_succ, List.getElem?_cons_zero]; rfl) (by kernel_rfl) (by kernel_rfl) (by kernel_rfl) (by intro _ _ _ h; exact h) (Or.inl ⟨by rfl, ?hy⟩) (by assumption) ?_
      case hy => (intro W_ hW_; have f_ := hW_.2.2.cell (i := i) (by rw [HKL.out]; exact hi); go_simp; first | done | with_reducible rfl)
      try simp only [Act.put, List.setIfInBounds_toArray, List.set_cons_zero, List.set_cons_succ]
      refine wpAnyH_take (i := 28) (v := ?_) (by simp only [List.getElem?_toArray, List.getElem?_cons_succ, List.getElem?_cons_zero]; rfl) (by kernel_rfl) (by kernel_rfl) (by kernel_rfl) (by intro _ _ _ h; exact h) (Or.inl ⟨by rfl, ?hy⟩) (by assumption) ?_
      case hy => (intro W_ hW_; go_simp; first | done | with_reducible rfl)
      try simp only [Act.put, List.setIfInBounds_toArray, List.set_cons_zero, List.set_cons_succ]
      refine wpAnyH_take (i := 29) (v := ?_) (by simp only [List.getElem?_toArray, List.getElem?_cons_succ, List.getElem?_cons_zero]; rfl) (by kernel_rfl) (by kernel_rfl) (by kernel_rfl) (by intro _ _ _ h; exact h) (Or.inl ⟨by rfl, ?hy⟩) (by assumption) ?_
      case hy => (intro W_ hW_; go_simp; first | done | with_reducible rfl)
      try simp only [Act.put, List.setIfInBounds_toArray, List.set_cons_zero, List.set_cons_succ]
      refine wpAnyH_take (i := 30) (v := ?_) (by simp only [List.getElem?_toArray, List.getElem?_cons_succ, List.getElem?_cons_zero]; rfl) (by kernel_rfl) (by kernel_rfl) (by kernel_rfl) (by intro _ _ _ h; exact h) (Or.inl ⟨by rfl, ?hy⟩) (by assumption) ?_
      case hy => (intro W_ hW_; have f_ := hW_.2.1.cell (i := i) (by rw [HWL.out]; exact hi); go_simp; first | done | with_reducible rfl)
      try simp only [Act.put, List.setIfInBounds_toArray, List.set_cons_zero, List.set_cons_succ]
      refine wpAnyH_ready (rs := [3]) (by kernel_rfl) (by simp) ?_
      refine AllReadyH.cons (by simp only [List.getElem?_toArray, List.getElem?_cons_succ, List.getElem?_cons_zero]; rfl) (fun K hK => ?_) AllReadyH.nil
      rw [if_pos (by rfl)]
      go_wp2_with fail
      refine (sha_right.calls _ _ _ _ (right_6 _)).mono ?_
      rintro e w2 ⟨rfl, ⟨q_, rfl⟩⟩
      refine hK.out _ _ (hHeld) (fun hHeld2 => ?_)
      clear hK K hHeld
      have hHeld := hHeld2
      clear hHeld2
      try simp only [Act.put, List.setIfInBounds_toArray, List.set_cons_zero, List.set_cons_succ]
      refine wpAnyH_ready (rs := [5]) (by kernel_rfl) (by simp) ?_
      refine AllReadyH.cons (by simp only [List.getElem?_toArray, List.getElem?_cons_succ, List.getElem?_cons_zero]; rfl) (fun K hK => ?_) AllReadyH.nil
      rw [if_pos (by rfl)]
      go_wp2_with fail
      refine (sha_right.calls _ _ _ _ (right_11 _)).mono ?_
      rintro e w2 ⟨rfl, ⟨q_, rfl⟩⟩
      refine hK.out _ _ (hHeld) (fun hHeld2 => ?_)
      clear hK K hHeld
      have hHeld := hHeld2
      clear hHeld2
      try simp only [Act.put, List.setIfInBounds_toArray, List.set_cons_zero, List.set_cons_succ]
      refine wpAnyH_take (i := 6) (v := ?_) (by simp only [List.getElem?_toArray, List.getElem?_cons_succ, List.getElem?_cons_zero]; rfl) (by kernel_rfl) (by kernel_rfl) (by kernel_rfl) (by intro _ _ _ h; exact h) (Or.inl ⟨by rfl, ?hy⟩) (by assumption) ?_
      case hy => (intro W_ hW_; go_simp; first | done | with_reducible rfl)
      try simp only [Act.put, List.setIfInBounds_toArray, List.set_cons_zero, List.set_cons_succ]
      refine wpAnyH_ready (rs := [8]) (by kernel_rfl) (by simp) ?_
      refine AllReadyH.cons (by simp only [List.getElem?_toArray, List.getElem?_cons_succ, List.getElem?_cons_zero]; rfl) (fun K hK => ?_) AllReadyH.nil
      rw [if_pos (by rfl)]
      go_wp2_with fail
      refine (sha_right.calls _ _ _ _ (right_25 _)).mono ?_
      rintro e w2 ⟨rfl, ⟨q_, rfl⟩⟩
      refine hK.out _ _ (hHeld) (fun hHeld2 => ?_)
      clear hK K hHeld
      have hHeld := hHeld2
      clear hHeld2
      try simp only [Act.put, List.setIfInBounds_toArray, List.set_cons_zero, List.set_cons_succ]
      refine wpAnyH_take (i := 9) (v := ?_) (by simp only [List.getElem?_toArray, List.getElem?_cons_succ, List.getElem?_cons_zero]; rfl) (by kernel_rfl) (by kernel_rfl) (by kernel_rfl) (by intro _ _ _ h; exact h) (Or.inl ⟨by rfl, ?hy⟩) (by assumption) ?_
      case hy => (intro W_ hW_; go_simp; first | done | with_reducible rfl)
      try simp only [Act.put, List.setIfInBounds_toArray, List.set_cons_zero, List.set_cons_succ]
      refine wpAnyH_take (i := 10) (v := ?_) (by simp only [List.getElem?_toArray, List.getElem?_cons_succ, List.getElem?_cons_zero]; rfl) (by kernel_rfl) (by kernel_rfl) (by kernel_rfl) (by intro _ _ _ h; exact h) (Or.inl ⟨by rfl, ?hy⟩) (by assumption) ?_
      case hy => (intro W_ hW_; go_simp; first | done | with_reducible rfl)
      try simp only [Act.put, List.setIfInBounds_toArray, List.set_cons_zero, List.set_cons_succ]
      refine wpAnyH_take (i := 21) (v := ?_) (by simp only [List.getElem?_toArray, List.getElem?_cons_succ, List.getElem?_cons_zero]; rfl) (by kernel_rfl) (by kernel_rfl) (by kernel_rfl) (by intro _ _ _ h; exact h) (Or.inl ⟨by rfl, ?hy⟩) (by assumption) ?_
      case hy => (intro W_ hW_; go_simp; first | done | with_reducible rfl)
      try simp only [Act.put, List.setIfInBounds_toArray, List.set_cons_zero, List.set_cons_succ]
      refine wpAnyH_take (i := 27) (v := ?_) (by simp only [List.getElem?_toArray, List.getElem?_cons_succ, List.getElem?_cons_zero]; rfl) (by kernel_rfl) (by kernel_rfl) (by kernel_rfl) (by intro _ _ _ h; exact h) (Or.inl ⟨by rfl, ?hy⟩) (by assumption) ?_
      case hy => (intro W_ hW_; go_simp; first | done | with_reducible rfl)
      try simp only [Act.put, List.setIfInBounds_toArray, List.set_cons_zero, List.set_cons_succ]
      refine wpAnyH_take (i := 31) (v := ?_) (by simp only [List.getElem?_toArray, List.getElem?_cons_succ, List.getElem?_cons_zero]; rfl) (by kernel_rfl) (by kernel_rfl) (by kernel_rfl) (by intro _ _ _ h; exact h) (Or.inl ⟨by rfl, ?hy⟩) (by assumption) ?_
      case hy => (intro W_ hW_; go_simp; first | done | with_reducible rfl)
      try simp only [Act.put, List.setIfInBounds_toArray, List.set_cons_zero, List.set_cons_succ]
      refine wpAnyH_take (i := 32) (v := ?_) (by simp only [List.getElem?_toArray, List.getElem?_cons_succ, List.getElem?_cons_zero]; rfl) (by kernel_rfl) (by kernel_rfl) (by kernel_rfl) (by intro _ _ _ h; exact h) (Or.inl ⟨by rfl, ?hy⟩) (by assumption) ?_
      case hy => (intro W_ hW_; go_simp; first | done | with_reducible rfl)
      try simp only [Act.put, List.setIfInBounds_toArray, List.set_cons_zero, List.set_cons_succ]
      refine wpAnyH_done (by kernel_rfl) ?_ _
      go_wp2_with fail
      refine wp_region_held_drew (S := (fun W => Blk W (w1.heap.size + 1) 187 xs ∧ Blk W w1.heap.size 189 ws ∧ Blk W gq 189 ks)) (by kernel_rfl) (hHeld) (fun hHeld => ?_)
      refine wpAnyH_take (i := 0) (v := ?_) (by simp only [List.getElem?_toArray, List.getElem?_cons_succ, List.getElem?_cons_zero]; rfl) (by kernel_rfl) (by kernel_rfl) (by kernel_rfl) (by intro _ _ _ h; exact h) (Or.inl ⟨by rfl, ?hy⟩) (by assumption) ?_
      case hy => (intro W_ hW_; go_simp; first | done | with_reducible rfl)
      try simp only [Act.put, List.setIfInBounds_toArray, List.set_cons_zero, List.set_cons_succ]
      refine wpAnyH_take (i := 2) (v := ?_) (by simp only [List.getElem?_toArray, List.getElem?_cons_succ, List.getElem?_cons_zero]; rfl) (by kernel_rfl) (by kernel_rfl) (by kernel_rfl) (by intro _ _ _ h; exact h) (Or.inl ⟨by rfl, ?hy⟩) (by assumption) ?_
      case hy => (intro W_ hW_; go_simp; first | done | with_reducible rfl)
      try simp only [Act.put, List.setIfInBounds_toArray, List.set_cons_zero, List.set_cons_succ]
      refine wpAnyH_take (i := 5) (v := ?_) (by simp only [List.getElem?_toArray, List.getElem?_cons_succ, List.getElem?_cons_zero]; rfl) (by kernel_rfl) (by kernel_rfl) (by kernel_rfl) (by intro _ _ _ h; exact h) (Or.inl ⟨by rfl, ?hy⟩) (by assumption) ?_
      case hy => (intro W_ hW_; go_simp; first | done | with_reducible rfl)
      try simp only [Act.put, List.setIfInBounds_toArray, List.set_cons_zero, List.set_cons_succ]
      refine wpAnyH_take (i := 8) (v := ?_) (by simp only [List.getElem?_toArray, List.getElem?_cons_succ, List.getElem?_cons_zero]; rfl) (by kernel_rfl) (by kernel_rfl) (by kernel_rfl) (by intro _ _ _ h; exact h) (Or.inl ⟨by rfl, ?hy⟩) (by assumption) ?_
      case hy => (intro W_ hW_; go_simp; first | done | with_reducible rfl)
      try simp only [Act.put, List.setIfInBounds_toArray, List.set_cons_zero, List.set_cons_succ]
      refine wpAnyH_take (i := 9) (v := ?_) (by simp only [List.getElem?_toArray, List.getElem?_cons_succ, List.getElem?_cons_zero]; rfl) (by kernel_rfl) (by kernel_rfl) (by kernel_rfl) (by intro _ _ _ h; exact h) (Or.inl ⟨by rfl, ?hy⟩) (by assumption) ?_
      case hy => (intro W_ hW_; go_simp; first | done | with_reducible rfl)
      try simp only [Act.put, List.setIfInBounds_toArray, List.set_cons_zero, List.set_cons_succ]
      refine wpAnyH_take (i := 10) (v := ?_) (by simp only [List.getElem?_toArray, List.getElem?_cons_succ, List.getElem?_cons_zero]; rfl) (by kernel_rfl) (by kernel_rfl) (by kernel_rfl) (by intro _ _ _ h; exact h) (Or.inl ⟨by rfl, ?hy⟩) (by assumption) ?_
      case hy => (intro W_ hW_; have f_ := hW_.1.cell (i := 1) (by rw [HXL.out]; decide); go_simp; first | done | with_reducible rfl)
      try simp only [Act.put, List.setIfInBounds_toArray, List.set_cons_zero, List.set_cons_succ]
      refine wpAnyH_take (i := 11) (v := ?_) (by simp only [List.getElem?_toArray, List.getElem?_cons_succ, List.getElem?_cons_zero]; rfl) (by kernel_rfl) (by kernel_rfl) (by kernel_rfl) (by intro _ _ _ h; exact h) (Or.inl ⟨by rfl, ?hy⟩) (by assumption) ?_
      case hy => (intro W_ hW_; go_simp; first | done | with_reducible rfl)
      try simp only [Act.put, List.setIfInBounds_toArray, List.set_cons_zero, List.set_cons_succ]
      refine wpAnyH_take (i := 12) (v := ?_) (by simp only [List.getElem?_toArray, List.getElem?_cons_succ, List.getElem?_cons_zero]; rfl) (by kernel_rfl) (by kernel_rfl) (by kernel_rfl) (by intro _ _ _ h; exact h) (Or.inl ⟨by rfl, ?hy⟩) (by assumption) ?_
      case hy => (intro W_ hW_; go_simp; first | done | with_reducible rfl)
      try simp only [Act.put, List.setIfInBounds_toArray, List.set_cons_zero, List.set_cons_succ]
      refine wpAnyH_take (i := 13) (v := ?_) (by simp only [List.getElem?_toArray, List.getElem?_cons_succ, List.getElem?_cons_zero]; rfl) (by kernel_rfl) (by kernel_rfl) (by kernel_rfl) (by intro _ _ _ h; exact h) (Or.inl ⟨by rfl, ?hy⟩) (by assumption) ?_
      case hy => (intro W_ hW_; go_simp; first | done | with_reducible rfl)
      try simp only [Act.put, List.setIfInBounds_toArray, List.set_cons_zero, List.set_cons_succ]
      refine wpAnyH_take (i := 14) (v := ?_) (by simp only [List.getElem?_toArray, List.getElem?_cons_succ, List.getElem?_cons_zero]; rfl) (by kernel_rfl) (by kernel_rfl) (by kernel_rfl) (by intro _ _ _ h; exact h) (Or.inl ⟨by rfl, ?hy⟩) (by assumption) ?_
      case hy => (intro W_ hW_; have f_ := hW_.1.cell (i := 2) (by rw [HXL.out]; decide); go_simp; first | done | with_reducible rfl)
      try simp only [Act.put, List.setIfInBounds_toArray, List.set_cons_zero, List.set_cons_succ]
      refine wpAnyH_take (i := 15) (v := ?_) (by simp only [List.getElem?_toArray, List.getElem?_cons_succ, List.getElem?_cons_zero]; rfl) (by kernel_rfl) (by kernel_rfl) (by kernel_rfl) (by intro _ _ _ h; exact h) (Or.inl ⟨by rfl, ?hy⟩) (by assumption) ?_
      case hy => (intro W_ hW_; go_simp; first | done | with_reducible rfl)
      try simp only [Act.put, List.setIfInBounds_toArray, List.set_cons_zero, List.set_cons_succ]
      refine wpAnyH_take (i := 16) (v := ?_) (by simp only [List.getElem?_toArray, List.getElem?_cons_succ, List.getElem?_cons_zero]; rfl) (by kernel_rfl) (by kernel_rfl) (by kernel_rfl) (by intro _ _ _ h; exact h) (Or.inl ⟨by rfl, ?hy⟩) (by assumption) ?_
      case hy => (intro W_ hW_; go_simp; first | done | with_reducible rfl)
      try simp only [Act.put, List.setIfInBounds_toArray, List.set_cons_zero, List.set_cons_succ]
      refine wpAnyH_take (i := 17) (v := ?_) (by simp only [List.getElem?_toArray, List.getElem?_cons_succ, List.getElem?_cons_zero]; rfl) (by kernel_rfl) (by kernel_rfl) (by kernel_rfl) (by intro _ _ _ h; exact h) (Or.inl ⟨by rfl, ?hy⟩) (by assumption) ?_
      case hy => (intro W_ hW_; go_simp; first | done | with_reducible rfl)
      try simp only [Act.put, List.setIfInBounds_toArray, List.set_cons_zero, List.set_cons_succ]
      refine wpAnyH_take (i := 18) (v := ?_) (by simp only [List.getElem?_toArray, List.getElem?_cons_succ, List.getElem?_cons_zero]; rfl) (by kernel_rfl) (by kernel_rfl) (by kernel_rfl) (by intro _ _ _ h; exact h) (Or.inl ⟨by rfl, ?hy⟩) (by assumption) ?_
      case hy => (intro W_ hW_; have f_ := hW_.1.cell (i := 1) (by rw [HXL.out]; decide); go_simp; first | done | with_reducible rfl)
      try simp only [Act.put, List.setIfInBounds_toArray, List.set_cons_zero, List.set_cons_succ]
      refine wpAnyH_take (i := 19) (v := ?_) (by simp only [List.getElem?_toArray, List.getElem?_cons_succ, List.getElem?_cons_zero]; rfl) (by kernel_rfl) (by kernel_rfl) (by kernel_rfl) (by intro _ _ _ h; exact h) (Or.inl ⟨by rfl, ?hy⟩) (by assumption) ?_
      case hy => (intro W_ hW_; go_simp; first | done | with_reducible rfl)
      try simp only [Act.put, List.setIfInBounds_toArray, List.set_cons_zero, List.set_cons_succ]
      refine wpAnyH_take (i := 20) (v := ?_) (by simp only [List.getElem?_toArray, List.getElem?_cons_succ, List.getElem?_cons_zero]; rfl) (by kernel_rfl) (by kernel_rfl) (by kernel_rfl) (by intro _ _ _ h; exact h) (Or.inl ⟨by rfl, ?hy⟩) (by assumption) ?_
      case hy => (intro W_ hW_; have f_ := hW_.1.cell (i := 2) (by rw [HXL.out]; decide); go_simp; first | done | with_reducible rfl)
      try simp only [Act.put, List.setIfInBounds_toArray, List.set_cons_zero, List.set_cons_succ]
      refine wpAnyH_take (i := 21) (v := ?_) (by simp only [List.getElem?_toArray, List.getElem?_cons_succ, List.getElem?_cons_zero]; rfl) (by kernel_rfl) (by kernel_rfl) (by kernel_rfl) (by intro _ _ _ h; exact h) (Or.inl ⟨by rfl, ?hy⟩) (by assumption) ?_
      case hy => (intro W_ hW_; go_simp; first | done | with_reducible rfl)
      try simp only [Act.put, List.setIfInBounds_toArray, List.set_cons_zero, List.set_cons_succ]
      refine wpAnyH_take (i := 22) (v := ?_) (by simp only [List.getElem?_toArray, List.getElem?_cons_succ, List.getElem?_cons_zero]; rfl) (by kernel_rfl) (by kernel_rfl) (by kernel_rfl) (by intro _ _ _ h; exact h) (Or.inl ⟨by rfl, ?hy⟩) (by assumption) ?_
      case hy => (intro W_ hW_; go_simp; first | done | with_reducible rfl)
      try simp only [Act.put, List.setIfInBounds_toArray, List.set_cons_zero, List.set_cons_succ]
      refine wpAnyH_ready (rs := [1]) (by kernel_rfl) (by simp) ?_
      refine AllReadyH.cons (by simp only [List.getElem?_toArray, List.getElem?_cons_succ, List.getElem?_cons_zero]; rfl) (fun K hK => ?_) AllReadyH.nil
      rw [if_pos (by rfl)]
      go_wp2_with fail
      refine (sha_right.calls _ _ _ _ (right_2 _)).mono ?_
      rintro e w2 ⟨rfl, ⟨q_, rfl⟩⟩
      refine hK.out _ _ (hHeld) (fun hHeld2 => ?_)
      clear hK K hHeld
      have hHeld := hHeld2
      clear hHeld2
      try simp only [Act.put, List.setIfInBounds_toArray, List.set_cons_zero, List.set_cons_succ]
      refine wpAnyH_ready (rs := [3]) (by kernel_rfl) (by simp) ?_
      refine AllReadyH.cons (by simp only [List.getElem?_toArray, List.getElem?_cons_succ, List.getElem?_cons_zero]; rfl) (fun K hK => ?_) AllReadyH.nil
      rw [if_pos (by rfl)]
      go_wp2_with fail
      refine (sha_right.calls _ _ _ _ (right_13 _)).mono ?_
      rintro e w2 ⟨rfl, ⟨q_, rfl⟩⟩
      refine hK.out _ _ (hHeld) (fun hHeld2 => ?_)
      clear hK K hHeld
      have hHeld := hHeld2
      clear hHeld2
      try simp only [Act.put, List.setIfInBounds_toArray, List.set_cons_zero, List.set_cons_succ]
      refine wpAnyH_take (i := 4) (v := ?_) (by simp only [List.getElem?_toArray, List.getElem?_cons_succ, List.getElem?_cons_zero]; rfl) (by kernel_rfl) (by kernel_rfl) (by kernel_rfl) (by intro _ _ _ h; exact h) (Or.inl ⟨by rfl, ?hy⟩) (by assumption) ?_
      case hy => (intro W_ hW_; go_simp; first | done | with_reducible rfl)
      try simp only [Act.put, List.setIfInBounds_toArray, List.set_cons_zero, List.set_cons_succ]
      refine wpAnyH_ready (rs := [6]) (by kernel_rfl) (by simp) ?_
      refine AllReadyH.cons (by simp only [List.getElem?_toArray, List.getElem?_cons_succ, List.getElem?_cons_zero]; rfl) (fun K hK => ?_) AllReadyH.nil
      rw [if_pos (by rfl)]
      go_wp2_with fail
      refine (sha_right.calls _ _ _ _ (right_22 _)).mono ?_
      rintro e w2 ⟨rfl, ⟨q_, rfl⟩⟩
      refine hK.out _ _ (hHeld) (fun hHeld2 => ?_)
      clear hK K hHeld
      have hHeld := hHeld2
      clear hHeld2
      try simp only [Act.put, List.setIfInBounds_toArray, List.set_cons_zero, List.set_cons_succ]
      refine wpAnyH_take (i := 7) (v := ?_) (by simp only [List.getElem?_toArray, List.getElem?_cons_succ, List.getElem?_cons_zero]; rfl) (by kernel_rfl) (by kernel_rfl) (by kernel_rfl) (by intro _ _ _ h; exact h) (Or.inl ⟨by rfl, ?hy⟩) (by assumption) ?_
      case hy => (intro W_ hW_; go_simp; first | done | with_reducible rfl)
      try simp only [Act.put, List.setIfInBounds_toArray, List.set_cons_zero, List.set_cons_succ]
      refine wpAnyH_take (i := 23) (v := ?_) (by simp only [List.getElem?_toArray, List.getElem?_cons_succ, List.getElem?_cons_zero]; rfl) (by kernel_rfl) (by kernel_rfl) (by kernel_rfl) (by intro _ _ _ h; exact h) (Or.inl ⟨by rfl, ?hy⟩) (by assumption) ?_
      case hy => (intro W_ hW_; go_simp; first | done | with_reducible rfl)
      try simp only [Act.put, List.setIfInBounds_toArray, List.set_cons_zero, List.set_cons_succ]
      refine wpAnyH_take (i := 24) (v := ?_) (by simp only [List.getElem?_toArray, List.getElem?_cons_succ, List.getElem?_cons_zero]; rfl) (by kernel_rfl) (by kernel_rfl) (by kernel_rfl) (by intro _ _ _ h; exact h) (Or.inl ⟨by rfl, ?hy⟩) (by assumption) ?_
      case hy => (intro W_ hW_; go_simp; first | done | with_reducible rfl)
      try simp only [Act.put, List.setIfInBounds_toArray, List.set_cons_zero, List.set_cons_succ]
      refine wpAnyH_done (by kernel_rfl) ?_ _
      go_wp2_with fail
      clear hHeld
      go_still_tail 2, (by kernel_rfl)
      have hxl : (xs.map (Value.int .u32)).length = 8 := by rw [List.length_map]; exact HXL.out
      refine wpList_copy_splice rfl (.tmp 82) (.tmp 83) 225 225 rfl 26 Try.underlying225 info38s (some ⟨w1.heap.size + 1, 1, none⟩) (some ⟨w1.heap.size + 1, 0, none⟩) 7 7 7 8 (by rfl) (by rfl) (w1.heap.size + 1) 1 (xs.map (Value.int .u32)) 187 (by exact HX.out) ((xs.take 7).map (Value.int .u32)) ?c1 ?c2 ?c3 ?c4 (w1.heap.size + 1) _ (Below.refl _ _) (Nat.le_refl _) ?c5
      case c1 => rw [List.length_map, List.length_take, HXL.out]; rfl
      case c2 =>
        intro _
        refine ⟨rfl, _, rfl, fun j v hj => ?_⟩
        obtain ⟨hj7, rfl⟩ := take7_get hj
        have := HX.out.cell (i := j) (by rw [HXL.out]; omega)
        rw [show (⟨w1.heap.size + 1, 0, none⟩ : Addr).add j = ⟨w1.heap.size + 1, j, none⟩ from by simp [Addr.add]; intro h; exact h.symm]
        exact this
      case c3 => rw [List.length_map, List.length_take, HXL.out, hxl]; decide
      case c4 => intro v hv; simp only [List.mem_map] at hv; obtain ⟨z, _, rfl⟩ := hv; rfl
      case c5 =>
        intro w3 hh hb3
        obtain ⟨ys, hys⟩ : ∃ ys, ys = splice xs 1 (xs.take 7) := ⟨_, rfl⟩
        have HYE := Aside0.mk hys
        have HYL : Aside0 (ys.length = 8) := ⟨by rw [hys, length_splice _ _ _ (by rw [List.length_take, HXL.out]; decide)]; exact HXL.out⟩
        have HY : Aside0 (Blk w3 (w1.heap.size + 1) 187 ys) := ⟨by unfold Blk; rw [hys, splice_map]; exact hh⟩
        have HW3 : Aside0 (Blk w3 w1.heap.size 189 ws) := ⟨Blk.below (by exact HW.out) hb3 (Nat.lt_succ_self _)⟩
        have HL3 : Aside0 (Below w.heap.size w w3) := ⟨Below.trans (by exact ⟨HL.out.os, HL.out.tape, HL.out.output, HL.out.size, HL.out.block⟩) (hb3.mono (Nat.le_succ_of_le HB1.out.size))⟩
        have c0 := HY.out.cell (i := 0) (by rw [HYL.out]; decide)
        have c4 := HY.out.cell (i := 4) (by rw [HYL.out]; decide)
        have f0 := HY.out.free 0
        have f4 := HY.out.free 4
        clear hh hb3 hys hxl
        go_wp2_with fail
        go_roundg (64 - (i + 1))
        case measure => have := HI.out; omega
        case rel =>
          refine ⟨i + 1, shaRound xs (ks.getD i 0) (ws.getD i 0), by simp, ⟨rfl, by omega⟩, ⟨by rw [HXE.out]; rfl⟩, ⟨?_⟩, ⟨?_⟩, ⟨?_⟩, ⟨?_⟩⟩
          · unfold shaRound
            rw [← HYE.out, List.length_set, List.length_set]
            exact HYL.out
          · unfold shaRound
            rw [← HYE.out]
            exact (HY.out.set 0 _).set 4 _
          · exact Blk.other (Blk.other HW3.out _ _ (Nat.ne_of_lt (Nat.lt_succ_self _))) _ _ (Nat.ne_of_lt (Nat.lt_succ_self _))
          · exact below_set (below_set HL3.out (Nat.le_succ_of_le HB1.out.size)) (Nat.le_succ_of_le HB1.out.size)
    · have d1 : decide (i < 64) = false := decide_eq_false hi
      have d2 : decide ((i : Int) < 64) = false := decide_eq_false (by omega)
      obtain rfl : i = 64 := by have := HI.out; omega
      clear HI hi
      go_wp2_with fail
      go_loopg [95] 8 (fun k v95 w2 => ∃ (j : Nat), v95 = .int .i64 (j : Int) ∧ Aside0 (k = 8 - j ∧ j ≤ 8) ∧ Aside0 (Blk w2 gs 187 (addUp ss xs j)) ∧ Aside0 (Blk w2 (w1.heap.size + 1) 187 xs) ∧ Aside0 (w.grownBy w2 (some gs)))
      case atStart => exact ⟨0, rfl, ⟨by omega, by omega⟩, ⟨Blk.below HS0.out HL.out (Blk.lt HS0.out)⟩, HX, ⟨grown_below HL.out⟩⟩
      case round =>
        have HGX : Aside0 (w1.heap.size + 1 ≠ gs) := ⟨by have := Blk.lt HS0.out; have := HB1.out.size; omega⟩
        clear HX HW HL d1 d2
        obtain ⟨j, rfl, HJ, HS, HX, HG⟩ := hrel
        by_cases hj : j < 8
        · have d1 : decide (j < 8) = true := decide_eq_true hj
          have d2 : decide ((j : Int) < 8) = true := decide_eq_true (by omega)
          have pi : (0 ≤ (j : Int)) = True := eq_true (by omega)
          have qi : ((j : Int) < 8) = True := eq_true (by omega)
          have hwr : IntKind.i64.wrap ((j : Int) + 1) = ((j + 1 : Nat) : Int) := by rw [i64_w]; unfold wrap64; omega
          have y1 : wr.drew.cell? ⟨gs, j, none⟩ = _ := HS.out.cell (i := j) (by rw [addUp_length, HSL.out]; exact hj)
          have y2 : wr.cell? ⟨gs, j, none⟩ = _ := HS.out.cell (i := j) (by rw [addUp_length, HSL.out]; exact hj)
          have z1 : wr.drew.cell? ⟨w1.heap.size + 1, j, none⟩ = _ := HX.out.cell (i := j) (by rw [HXL.out]; exact hj)
          have z2 : wr.cell? ⟨w1.heap.size + 1, j, none⟩ = _ := HX.out.cell (i := j) (by rw [HXL.out]; exact hj)
          have y3 : wr.drew.frozen? ⟨gs, j, none⟩ = false := HS.out.free j
          have y4 : wr.frozen? ⟨gs, j, none⟩ = false := HS.out.free j
          go_wp2_with fail
          go_still_tail 11, (by kernel_rfl)
          go_wp2_with fail
          go_roundg (8 - (j + 1))
          case measure => have := HJ.out; omega
          case rel =>
            refine ⟨j + 1, by simp, ⟨rfl, by omega⟩, ⟨?_⟩, ⟨?_⟩, ⟨?_⟩⟩
            · exact HS.out.set j _
            · exact Blk.other HX.out _ _ HGX.out
            · exact grown_drew (grown_set HG.out j _)
        · have d1 : decide (j < 8) = false := decide_eq_false hj
          have d2 : decide ((j : Int) < 8) = false := decide_eq_false (by omega)
          obtain rfl : j = 8 := by have := HJ.out; omega
          go_wp2_with fail
          go_end0
          exact ⟨rfl, by rw [← HXE.out]; exact HS.out, HG.out⟩

end Go.Proofs.Ytchaegfdcdlfaaa.X

/- Rows of bytes, arrays of bytes: small tools; bytes.Clone by hand. -/
namespace Go.Proofs.Ytchaegfdcdlfaaa.X
set_option linter.unusedVariables false
set_option linter.unusedSimpArgs false
open Go.RowKit Go.Proofs.YtchaegfdcdlfaaaW.PrintWords Go.Proofs.YtchaegfdcdlfaaaW.PrintLast Go.Proofs.YtchaegfdcdlfaaaW.PrintMore

theorem hinfo5 : (Try.prog.info? 5).map (fun i => (i.zero, i.size, i.bytes)) = some (some (.int .u8 0), 1, 1) := by kernel_rfl
/-- A slice that reads as a list, whoever owns it. -/
abbrev RdB (w : World) (A : Option Addr) (n : Nat) (l : List Int) : Prop := Kd.C (Kd.int .u8) w A n l
theorem row_slice {w : World} {base : Nat} {ok : Nat → Prop} {v : Value} {l : List Int} (h : Kd.R (Kd.int .u8) 5 w base ok v l) : ∃ A c, v = .slice A l.length c ∧ l.length ≤ c ∧ RdB w A l.length l := Kd.R_reads h
theorem rdb_take {w : World} {A : Option Addr} {l : List Int} (h : RdB w A l.length l) (m : Nat) (hm : m ≤ l.length) : RdB w A m (l.take m) := by
  obtain ⟨i0, hi0, _, hsz0, _⟩ := info_parts hinfo5
  obtain ⟨_, hA, _⟩ := print_take_of (P := Try.prog) (Value.int .u8) 0 40 5 .i64 Try.underlying40 hi0 hsz0 A l.length l (m : Int) (by omega) (by omega) (Nat.le_refl _)
  have := hA w (Kd.reads_of_C h)
  simp only [Int.toNat_natCast] at this
  rw [List.length_take, Nat.min_eq_left hm] at this
  exact Kd.C_of_reads (h1 := fun _ => rfl) this
theorem rdb_drop (A : Option Addr) (c : Nat) (l : List Int) (m : Nat) (hm : m ≤ l.length) (hc : l.length ≤ c) :
    ∃ A' : Option Addr, (∀ W : World, (Instr.slice 40 (.slice A l.length c) (some (.int .i64 (m : Int))) none none).run Try.prog W = .ok (.slice A' (l.length - m) (c - m)) W) ∧ (∀ w : World, RdB w A l.length l → RdB w A' (l.length - m) (l.drop m)) ∧ l.length - m ≤ c - m := by
  obtain ⟨i0, hi0, _, hsz0, _⟩ := info_parts hinfo5
  obtain ⟨A', hcut, hA, hC⟩ := print_drop_of (P := Try.prog) (Value.int .u8) 0 40 5 .i64 Try.underlying40 hi0 hsz0 A c l (m : Int) (by omega) (by omega) hc
  simp only [Int.toNat_natCast, List.length_drop] at hcut hA hC
  exact ⟨A', hcut, fun w h => Kd.C_of_reads (h1 := fun _ => rfl) (hA w (Kd.reads_of_C h)), hC⟩
theorem rdb_cut (A : Option Addr) (c : Nat) (l : List Int) (m : Nat) (hm : m ≤ l.length) (hc : l.length ≤ c) :
    ∀ W : World, (Instr.slice 40 (.slice A l.length c) none (some (.int .i64 (m : Int))) none).run Try.prog W = .ok (.slice A m c) W := by
  obtain ⟨i0, hi0, _, hsz0, _⟩ := info_parts hinfo5
  obtain ⟨h, _, _⟩ := print_take_of (P := Try.prog) (Value.int .u8) 0 40 5 .i64 Try.underlying40 hi0 hsz0 A c l (m : Int) (by omega) (by omega) hc
  simp only [Int.toNat_natCast, List.length_take, Nat.min_eq_left hm] at h
  exact h
theorem rdb_below {w w' : World} {A : Option Addr} {n : Nat} {l : List Int} (h : RdB w A n l) (hb : Below w.heap.size w w') : RdB w' A n l := Kd.C_below h hb
theorem rdb_drewN {w : World} {A : Option Addr} {n : Nat} {l : List Int} (h : RdB w A n l) (q : Nat) : RdB (w.drewN q) A n l := Kd.C_drewN h q
theorem rdb_nil {w : World} {n : Nat} {l : List Int} (h : RdB w none n l) : n = 0 := by
  rcases Nat.eq_zero_or_pos n with h0 | h0
  · exact h0
  · obtain ⟨ad, e, _⟩ := Kd.at_int h 0 (by omega) (by omega)
    cases e
theorem own_row {w : World} {base n : Nat} {v : Value} {l : List Int} (h : w.ownsRow base 5 1 v n (nums .u8 l)) : ∃ A c, v = .slice A n c ∧ n ≤ c ∧ RdB w A n l := by
  have hn : n = l.length := by have := h.1; simp [nums] at this; omega
  subst hn
  exact row_slice (Kd.R_of_own (ok := fun _ => True) h (fun _ _ => trivial))

/-- An array of bytes in a block of its own. -/
def Blk8 (w : World) (g : Nat) (t : TypeId) (xs : List Int) : Prop := w.heap[g]? = some (.cells (xs.map (Value.int .u8)).toArray t (0, 0))
theorem Blk8.cell {w : World} {g : Nat} {t : TypeId} {xs : List Int} (h : Blk8 w g t xs) {i : Nat} (hi : i < xs.length) : w.cell? ⟨g, i, none⟩ = some (.int .u8 (xs.getD i 0)) := by
  rw [cell_of_row w g i _ t (0, 0) h]
  simp [hi]
theorem Blk8.set {w : World} {g : Nat} {t : TypeId} {xs : List Int} (h : Blk8 w g t xs) (i : Nat) (v : Int) : Blk8 (w.setCell ⟨g, i, none⟩ (.int .u8 v)) g t (xs.set i v) := by
  rw [setCell_eq_setRow w g i _ t (0, 0) _ h]
  unfold Blk8
  rw [setRow_heap w g _ _ t (0, 0) h]
  congr 2
  simp [List.map_set]
theorem Blk8.free {w : World} {g : Nat} {t : TypeId} {xs : List Int} (h : Blk8 w g t xs) (i : Nat) : w.frozen? ⟨g, i, none⟩ = false := by
  unfold Blk8 at h
  simp [World.frozen?, h]
theorem Blk8.below {B : Nat} {w w' : World} {g : Nat} {t : TypeId} {xs : List Int} (h : Blk8 w g t xs) (hb : Below B w w') (hg : g < B) : Blk8 w' g t xs := (hb.block g hg).trans h
theorem Blk8.lt {w : World} {g : Nat} {t : TypeId} {xs : List Int} (h : Blk8 w g t xs) : g < w.heap.size := (Array.getElem?_eq_some_iff.1 h).1
def cells8 (xs : List Int) : Array Value := (xs.map (Value.int .u8)).toArray
theorem cells8_size (xs : List Int) : (cells8 xs).size = xs.length := by simp [cells8]
theorem cells8_all (xs : List Int) : (cells8 xs).all (·.oneCell') = true := by simp [cells8, Value.oneCell']

theorem setRow_alloc2 (w : World) (old cs : Array Value) (t : TypeId) (B : Obj) : ((w.alloc (.cells old t (0, 0))).alloc B).setRow w.heap.size cs = (w.alloc (.cells cs t (0, 0))).alloc B := by
  unfold World.setRow World.alloc
  congr 1
  apply Array.ext
  · simp
  · intro k h1 h2
    simp only [Array.getElem_modify, Array.getElem_push]
    simp at h1
    by_cases hk : k < w.heap.size
    · rw [if_neg (by omega)]
      simp [hk, Nat.lt_succ_of_lt hk]
    · by_cases hk2 : k = w.heap.size
      · subst hk2
        simp
      · rw [if_neg (by omega)]
        simp [hk, show ¬ k < w.heap.size + 1 by omega]
/-- An array's cells, laid into the last block but one. -/
theorem store_new2 (w : World) (old cs : Array Value) (t : TypeId) (B : Obj) (hs : old.size = cs.size) (h1 : cs.all (·.oneCell') = true) :
    (storeCells ⟨w.heap.size, 0, none⟩ cs.toList).run Try.prog ((w.alloc (.cells old t (0, 0))).alloc B) = .ok () ((w.alloc (.cells cs t (0, 0))).alloc B) := by
  have := run_storeCells_from (P := Try.prog) w.heap.size t cs.toList 0 old ((w.alloc (.cells old t (0, 0))).alloc B) (heap_alloc2_old w _ _) (by simp; omega) (fun v hv => (Array.all_eq_true_iff_forall_mem.1 h1) v (by simpa using hv))
  simp only [List.take_zero, List.nil_append, Array.toArray_toList] at this
  rw [setRow_alloc2] at this
  exact this
theorem begun_call' (w : World) : Calls Try.prog 137 #[] w fun e w' => e = .returned (.agg (cellsOf begunL)) ∧ Below w.heap.size w w' := begun_call w
theorem roots_call' (w : World) : Calls Try.prog 138 #[] w fun e w' => e = .returned (.agg (cellsOf rootsL)) ∧ Below w.heap.size w w' := roots_call w
/-- A chunk's state; all chunks'. -/
def nextState (ss l : List Int) : List Int := addUp ss (shaRounds ss (schedAt l 64) rootsL 64) 8
def stateAt (m : List Int) : Nat → List Int
  | 0 => begunL
  | j + 1 => nextState (stateAt m j) ((m.drop (64 * j)).take 64)
theorem stateAt_length (m : List Int) : ∀ j, (stateAt m j).length = 8
  | 0 => rfl
  | j + 1 => by rw [stateAt, nextState, addUp_length]; exact stateAt_length m j
theorem reads_lit (W : World) (y : Int) : ReadsInt (W.alloc (.cells #[.int .u8 y] 5)) .u8 (some ⟨W.heap.size, 0, none⟩) 1 [y] := by
  refine ⟨rfl, by decide, fun _ => ⟨_, rfl, fun j hj => ?_⟩⟩
  obtain rfl : j = 0 := by omega
  rw [add_plain, cell_of_row _ _ _ _ _ _ (heap_alloc_new W _)]
  rfl
/-- 'all = append(all, y)' of a row of bytes. -/
theorem app_one {w0 W : World} {ops : Array Oper} {rest : List Oper} {o : Oper} {a : Act} {Q : Exit → Act → World → Prop} (base : Nat) (hgd : o.guard = none) (s x : Operand)
    (ho : o.op = .call { callee := .builtin .append, args := #[s, x], argTypes := #[40, 40] }) (v : Value) (xs : List Int) (y : Int) (hs : a.eval s = v) (hx : a.eval x = .slice (some ⟨W.heap.size, 0, none⟩) 1 1)
    (HO : W.ownsRow base 5 1 v xs.length (nums .u8 xs)) (HB : Below base w0 W) (hbase : base ≤ W.heap.size) (hl : xs.length ≤ 1000000000)
    (h : ∀ v1 w1, Aside0 (w1.ownsRow base 5 1 v1 (xs ++ [y]).length (nums .u8 (xs ++ [y]))) → Aside0 (Below base w0 w1) → wpList Try.prog ops Q rest (a.put o.dst v1) w1) :
    wpList Try.prog ops Q (o :: rest) a (W.alloc (.cells #[.int .u8 y] 5)) :=
  print_append_row (w0 := w0) base hgd s x 40 5 .u8 1 ho Try.underlying40 hinfo5 (by decide) v xs [y] (some ⟨W.heap.size, 0, none⟩) 1 1 hs hx (own_alloc HO _) (reads_lit W y) (HB.alloc hbase _) (by simp; omega) (by omega)
    fun v1 w1 h1 h2 _ _ => h v1 w1 ⟨h1⟩ ⟨h2⟩
set_option maxHeartbeats 1000000 in
set_option maxRecDepth 100000 in
theorem clone_some (ad : Addr) (c : Nat) (l : List Int) (w : World) (hr : RdB w (some ad) l.length l) (hc : l.length ≤ c) (hl : l.length ≤ 1000000000) :
    Calls Try.prog 90 #[.slice (some ad) l.length c] w fun e w' => ∃ v, e = .returned v ∧ Aside0 (w'.ownsRow w.heap.size 5 1 v l.length (nums .u8 l)) ∧ Aside0 (Below w.heap.size w w') := by
  have heq : ∀ W : World, (binOp .eql 40 (.slice (some ad) l.length c) (.slice none 0 0)).run Try.prog W = .ok (.bool false) W := fun W => run_eql_slice_nil W 40 5 _ _ _ Try.underlying40
  have HR := Aside0.mk hr
  clear hr
  go_enter Try.func90, Try.ntmps90
  go_wp2_with (first
    | ((with_reducible refine gate_builtin (b := .append) (xs := #[.tmp 5, .tmp 6]) rfl ?_); at_builtin; refine print_append_row (w0 := w) w.heap.size rfl _ _ 40 5 .u8 1 rfl Try.underlying40 hinfo5 (by decide) _ [] l (some ad) l.length c rfl rfl (by exact own_lit w w.heap.size 5 .u8 [] (Nat.le_refl _) (by decide)) (Kd.reads_of_C (rdb_below HR.out (below_alloc (Below.refl _ _) _))) (below_alloc (Below.refl _ _) _) (by simp) (by simp; omega) ?_; intro v1 w3 ho3 hB3 hg3 _)
    | fail)
  go_ret
  exact ⟨_, rfl, ⟨by simpa using ho3⟩, ⟨hB3⟩⟩
theorem clone_none (c : Nat) (w : World) :
    Calls Try.prog 90 #[.slice none 0 c] w fun e w' => ∃ v, e = .returned v ∧ Aside0 (w'.ownsRow w.heap.size 5 1 v 0 (nums .u8 [])) ∧ Aside0 (Below w.heap.size w w') := by
  have heq : ∀ W : World, (binOp .eql 40 (.slice none 0 c) (.slice none 0 0)).run Try.prog W = .ok (.bool true) W := fun W => run_eql_slice_nil W 40 5 _ _ _ Try.underlying40
  go_enter Try.func90, Try.ntmps90
  go_wp2_with fail
  go_ret
  exact ⟨_, rfl, ⟨own_nil _ _ _ _⟩, ⟨Below.refl _ _⟩⟩
theorem clone_call (A : Option Addr) (c : Nat) (l : List Int) (w : World) (hr : RdB w A l.length l) (hc : l.length ≤ c) (hl : l.length ≤ 1000000000) :
    Calls Try.prog 90 #[.slice A l.length c] w fun e w' => ∃ v, e = .returned v ∧ Aside0 (w'.ownsRow w.heap.size 5 1 v l.length (nums .u8 l)) ∧ Aside0 (Below w.heap.size w w') := by
  cases A with
  | some ad => exact clone_some ad c l w hr hc hl
  | none =>
    have h0 := rdb_nil hr
    obtain rfl : l = [] := List.eq_nil_of_length_eq_zero h0
    exact clone_none c w

end Go.Proofs.Ytchaegfdcdlfaaa.X

/- bytes.Clone in the printed form, out of the walk by hand. -/
namespace Go.Proofs.Ytchaegfdcdlfaaa.X
set_option linter.unusedVariables false
set_option linter.unusedSimpArgs false
open Go.RowKit Go.Proofs.YtchaegfdcdlfaaaW.PrintWords Go.Proofs.YtchaegfdcdlfaaaW.PrintLast Go.Proofs.YtchaegfdcdlfaaaW.PrintMore

def bytes_Clone.f (l0 : List Int) : Option (List Int) := if l0.length ≤ 1000000000 then some l0 else none
theorem bytes_Clone.calls (A0 : Option Addr) (c0 : Nat) (l0 : List Int) (r : List Int) (w : World) (hr0 : Kd.C (Kd.int .u8) w A0 l0.length l0) (hc0 : l0.length ≤ c0) (h : bytes_Clone.f l0 = some r) :
    Calls Try.prog 90 #[.slice A0 l0.length c0] w fun e w' => ∃ v0_ : Value, e = .returned (v0_) ∧ Kd.R (Kd.int .u8) 5 w' w.heap.size (fun _ => True) v0_ r ∧ Below w.heap.size w w' := by
  unfold bytes_Clone.f at h
  split at h
  · rename_i hl
    injection h with h
    subst h
    refine (clone_call A0 c0 l0 w hr0 hc0 hl).mono ?_
    rintro e w' ⟨v, rfl, ho, hb⟩
    exact ⟨v, rfl, Kd.R_of_own (ok := fun _ => True) ho.out (fun _ _ => trivial), hb.out⟩
  · cases h
theorem Clone_eq {l : List Int} (h : l.length ≤ 1000000000) : bytes_Clone.f l = some l := by
  unfold bytes_Clone.f
  rw [if_pos h]
end Go.Proofs.Ytchaegfdcdlfaaa.X

/- section.Open by hand, in the printed form. -/
namespace Go.Proofs.Ytchaegfdcdlfaaa.X
set_option linter.unusedVariables false
set_option linter.unusedSimpArgs false
open Go.Proofs.Ytchaegfdcdlfaaa.Y (IsGet Bytes RdB four wraps_u64 four_call get_call' rdb_drop rdb_below rdb_cut rdb_drewN wraps_u32)
open Go.RowKit Go.Proofs.YtchaegfdcdlfaaaW.PrintWords Go.Proofs.YtchaegfdcdlfaaaW.PrintLast Go.Proofs.YtchaegfdcdlfaaaW.PrintMore

theorem w64s (n : Int) (h0 : -9223372036854775808 ≤ n) (h1 : n ≤ 9223372036854775807) : wrap64 n = n := by unfold wrap64; omega
/-- A cut by both bounds. -/
theorem rdb_mid (A : Option Addr) (c : Nat) (l : List Int) (a b : Nat) (hab : a ≤ b) (hb : b ≤ l.length) (hc : l.length ≤ c) :
    ∃ A' : Option Addr, (∀ W : World, (Instr.slice 40 (.slice A l.length c) (some (.int .i64 (a : Int))) (some (.int .i64 (b : Int))) none).run Try.prog W = .ok (.slice A' (b - a) (c - a)) W) ∧ (∀ w : World, RdB w A l.length l → RdB w A' (b - a) ((l.take b).drop a)) ∧ b - a ≤ c - a := by
  obtain ⟨i0, hi0, _, hsz0, _⟩ := info_parts info5
  obtain ⟨A', hcut, hA, hC⟩ := print_mid_of (P := Try.prog) (Value.int .u8) 0 40 5 .i64 .i64 Try.underlying40 hi0 hsz0 A c l (a : Int) (b : Int) (by omega) (by omega) (by omega) hc
  have hlen : ((l.take b).drop a).length = b - a := by rw [List.length_drop, List.length_take]; omega
  simp only [Int.toNat_natCast] at hcut hA hC
  rw [hlen] at hcut hA hC
  exact ⟨A', hcut, fun w h => Kd.C_of_reads (h1 := fun _ => rfl) (hA w (Kd.reads_of_C h)), hC⟩
theorem byt_of {l : List Int} (h : Bytes l) : Byt l := h
/-- What section.Open tells of a list, of whose rest g is got. -/
def openR (l : List Int) (g : Int × Int × Bool) : Int × List Int × Int × Int :=
  if l.length = 0 ∨ 10 ≤ rd l 0 then (0, [], 0, 2)
  else if g.2.2 = false ∨ 100000 < g.1 ∨ (l.length : Int) < 1 + g.2.1 + g.1 + 4 then (0, [], 0, 2)
  else if (four ((l.take (1 + g.2.1.toNat + g.1.toNat + 4)).drop (1 + g.2.1.toNat + g.1.toNat)) : Int) ≠ sumL (l.take (1 + g.2.1.toNat + g.1.toNat)) then (0, [], 0, 3)
  else (rd l 0, (l.take (1 + g.2.1.toNat + g.1.toNat)).drop (1 + g.2.1.toNat), (1 + g.2.1.toNat + g.1.toNat + 4 : Nat), 0)
theorem clone_call2 (A : Option Addr) (c : Nat) (l : List Int) (n : Nat) (hn : l.length = n) (w : World) (hr : RdB w A n l) (hc : n ≤ c) (hl : n ≤ 1000000000) :
    Calls Try.prog 90 #[.slice A n c] w fun e w' => ∃ v0_ : Value, e = .returned (v0_) ∧ Kd.R (Kd.int .u8) 5 w' w.heap.size (fun _ => True) v0_ l ∧ Below w.heap.size w w' := by
  subst hn
  exact bytes_Clone.calls A c l l w hr hc (Clone_eq hl)
abbrev OpenQ (w : World) (r : Int × List Int × Int × Int) (e : Ending) (w' : World) : Prop := ∃ v1_ : Value, e = .returned (.tuple #[.int .i64 r.1, v1_, .int .i64 r.2.2.1, .int .i64 r.2.2.2]) ∧ Kd.R (Kd.int .u8) 5 w' w.heap.size (fun _ => True) v1_ r.2.1 ∧ Below w.heap.size w w'
theorem openQ_none (w w' : World) (k : Int) (hb : Below w.heap.size w w') : OpenQ w (0, [], 0, k) (.returned (.tuple #[.int .i64 0, .slice none 0 0, .int .i64 0, .int .i64 k])) w' := ⟨_, rfl, Kd.R_nil _ _ _ _ _, hb⟩
/-- The first byte's cell. -/
theorem first_cell {w : World} {A : Option Addr} {l : List Int} (h : RdB w A l.length l) (h0 : 0 < l.length) : ∃ ad, A = some ad ∧ w.cell? ad = some (.int .u8 (rd l 0)) := by
  obtain ⟨ad, e, x⟩ := Kd.at_int h 0 (by omega) (by omega)
  exact ⟨ad, e, by simpa [Addr.add] using x⟩

set_option maxHeartbeats 1000000 in
set_option maxRecDepth 100000 in
theorem sopen_empty (A0 : Option Addr) (c0 : Nat) (l : List Int) (w : World) (hr0 : RdB w A0 l.length l) (hc0 : l.length ≤ c0) (hb : Bytes l) (hl : l.length ≤ 1000000000) (h0 : l.length = 0) :
    Calls Try.prog 44 #[.slice A0 l.length c0] w fun e w' => OpenQ w (0, [], 0, 2) e w' := by
  have HR := Aside0.mk hr0
  have HC := Aside0.mk hc0
  have HLL := Aside0.mk hl
  have HBY := Aside0.mk hb
  have e1 : ((l.length : Int) == 0) = true := by simp [h0]
  have e2 : ((l.length : Int) = 0) = True := by simp [h0]
  clear hr0 hc0 hb hl
  go_enter Try.func44, Try.ntmps44
  go_wp2_with fail
  (try simp only [Exit.inBlock, Exit.then])
  refine bodyPost_ret (results_list (rs := [.tmp 2, .tmp 3, .tmp 4, .tmp 5]) rfl (by simp) (.tmp (.tmp (.tmp (.tmp .nil))))) rfl ?_
  exact openQ_none _ _ _ (Below.refl _ _)

set_option maxHeartbeats 1000000 in
set_option maxRecDepth 100000 in
theorem sopen_kind (A0 : Option Addr) (c0 : Nat) (l : List Int) (w : World) (hr0 : RdB w A0 l.length l) (hc0 : l.length ≤ c0) (hb : Bytes l) (hl : l.length ≤ 1000000000) (h0 : 0 < l.length) (h10 : 10 ≤ rd l 0) :
    Calls Try.prog 44 #[.slice A0 l.length c0] w fun e w' => OpenQ w (0, [], 0, 2) e w' := by
  have HR := Aside0.mk hr0
  have HC := Aside0.mk hc0
  have HLL := Aside0.mk hl
  have HBY := Aside0.mk hb
  have e1 : ((l.length : Int) == 0) = false := beq_false_of_ne (by omega)
  have e2 : ((l.length : Int) = 0) = False := eq_false (by omega)
  obtain ⟨ad, rfl, x0⟩ := first_cell hr0 h0
  have qi : (0 < l.length) = True := eq_true h0
  have qj : ((0 : Int) < (l.length : Int)) = True := eq_true (by omega)
  have d1 : decide (rd l 0 ≥ 10) = true := decide_eq_true h10
  clear hr0 hc0 hb hl
  go_enter Try.func44, Try.ntmps44
  go_wp2_with fail
  (try simp only [Exit.inBlock, Exit.then])
  refine bodyPost_ret (results_list (rs := [.tmp 2, .tmp 3, .tmp 4, .tmp 5]) rfl (by simp) (.tmp (.tmp (.tmp (.tmp .nil))))) rfl ?_
  exact openQ_none _ _ _ (Below.refl _ _)

set_option maxHeartbeats 1000000 in
set_option maxRecDepth 100000 in
theorem sopen_not (A0 : Option Addr) (c0 : Nat) (l : List Int) (w : World) (hr0 : RdB w A0 l.length l) (hc0 : l.length ≤ c0) (hb : Bytes l) (hl : l.length ≤ 1000000000) (h0 : 0 < l.length) (h10 : ¬ 10 ≤ rd l 0) (n u : Nat) (hg : IsGet (l.drop 1) ((n : Int), (u : Int), false)) (hu : u + 1 ≤ l.length) :
    Calls Try.prog 44 #[.slice A0 l.length c0] w fun e w' => OpenQ w (0, [], 0, 2) e w' := by
  have HR := Aside0.mk hr0
  have HC := Aside0.mk hc0
  have HLL := Aside0.mk hl
  have HBY := Aside0.mk hb
  have e1 : ((l.length : Int) == 0) = false := beq_false_of_ne (by omega)
  have e2 : ((l.length : Int) = 0) = False := eq_false (by omega)
  obtain ⟨ad, rfl, x0⟩ := first_cell hr0 h0
  have qi : (0 < l.length) = True := eq_true h0
  have qj : ((0 : Int) < (l.length : Int)) = True := eq_true (by omega)
  have d1 : decide (rd l 0 ≥ 10) = false := decide_eq_false (by omega)
  obtain ⟨A', hcut, hA, hC⟩ := rdb_drop (some ad) c0 l 1 (by omega) hc0
  have HA := Aside0.mk (hA w hr0)
  have HG := Aside0.mk hg
  have HB1 : Aside0 (Bytes (l.drop 1)) := ⟨fun x hx => hb x (List.mem_of_mem_drop hx)⟩
  have hcut1 : ∀ W : World, (Instr.slice 40 (.slice (some ad) l.length c0) (some (.int .i64 1)) none none).run Try.prog W = .ok (.slice A' (l.length - 1) (c0 - 1)) W := hcut
  obtain ⟨f, hf⟩ : ∃ f : Nat, f = 1 + u := ⟨_, rfl⟩
  have w1_ : IntKind.i64.wrap (1 + (u : Int)) = (f : Int) := by rw [i64_w, w64s _ (by omega) (by omega)]; omega
  clear hA hcut hg
  clear hr0 hb hf hu
  go_enter Try.func44, Try.ntmps44
  go_wp2_with fail
  refine (get_call' HG.out HB1.out (by rw [List.length_drop]; omega) _ (by rw [List.length_drop]) A' _ _ HA.out hC).mono ?_
  rintro e w1 ⟨rfl, q, rfl⟩
  go_wp2_with fail
  (try simp only [Exit.inBlock, Exit.then])
  refine bodyPost_ret (results_list (rs := [.tmp 2, .tmp 3, .tmp 4, .tmp 5]) rfl (by simp) (.tmp (.tmp (.tmp (.tmp .nil))))) rfl ?_
  exact openQ_none _ _ _ (pw_below_drewN (Below.refl _ _) _)

set_option maxHeartbeats 1000000 in
set_option maxRecDepth 100000 in
theorem sopen_big (A0 : Option Addr) (c0 : Nat) (l : List Int) (w : World) (hr0 : RdB w A0 l.length l) (hc0 : l.length ≤ c0) (hb : Bytes l) (hl : l.length ≤ 1000000000) (h0 : 0 < l.length) (h10 : ¬ 10 ≤ rd l 0) (n u : Nat) (hg : IsGet (l.drop 1) ((n : Int), (u : Int), true)) (hu : u + 1 ≤ l.length) (hn : 100000 < n) :
    Calls Try.prog 44 #[.slice A0 l.length c0] w fun e w' => OpenQ w (0, [], 0, 2) e w' := by
  have HR := Aside0.mk hr0
  have HC := Aside0.mk hc0
  have HLL := Aside0.mk hl
  have HBY := Aside0.mk hb
  have e1 : ((l.length : Int) == 0) = false := beq_false_of_ne (by omega)
  have e2 : ((l.length : Int) = 0) = False := eq_false (by omega)
  obtain ⟨ad, rfl, x0⟩ := first_cell hr0 h0
  have qi : (0 < l.length) = True := eq_true h0
  have qj : ((0 : Int) < (l.length : Int)) = True := eq_true (by omega)
  have d1 : decide (rd l 0 ≥ 10) = false := decide_eq_false (by omega)
  obtain ⟨A', hcut, hA, hC⟩ := rdb_drop (some ad) c0 l 1 (by omega) hc0
  have HA := Aside0.mk (hA w hr0)
  have HG := Aside0.mk hg
  have HB1 : Aside0 (Bytes (l.drop 1)) := ⟨fun x hx => hb x (List.mem_of_mem_drop hx)⟩
  have hcut1 : ∀ W : World, (Instr.slice 40 (.slice (some ad) l.length c0) (some (.int .i64 1)) none none).run Try.prog W = .ok (.slice A' (l.length - 1) (c0 - 1)) W := hcut
  obtain ⟨f, hf⟩ : ∃ f : Nat, f = 1 + u := ⟨_, rfl⟩
  have w1_ : IntKind.i64.wrap (1 + (u : Int)) = (f : Int) := by rw [i64_w, w64s _ (by omega) (by omega)]; omega
  have d2 : decide ((n : Int) > 100000) = true := decide_eq_true (by omega)
  have d2' : decide (n > 100000) = true := decide_eq_true (by omega)
  clear hA hcut hg
  clear hr0 hb hf hu hn
  go_enter Try.func44, Try.ntmps44
  go_wp2_with fail
  refine (get_call' HG.out HB1.out (by rw [List.length_drop]; omega) _ (by rw [List.length_drop]) A' _ _ HA.out hC).mono ?_
  rintro e w1 ⟨rfl, q, rfl⟩
  go_wp2_with fail
  (try simp only [Exit.inBlock, Exit.then])
  refine bodyPost_ret (results_list (rs := [.tmp 2, .tmp 3, .tmp 4, .tmp 5]) rfl (by simp) (.tmp (.tmp (.tmp (.tmp .nil))))) rfl ?_
  exact openQ_none _ _ _ (pw_below_drewN (Below.refl _ _) _)

set_option maxHeartbeats 1000000 in
set_option maxRecDepth 100000 in
theorem sopen_short (A0 : Option Addr) (c0 : Nat) (l : List Int) (w : World) (hr0 : RdB w A0 l.length l) (hc0 : l.length ≤ c0) (hb : Bytes l) (hl : l.length ≤ 1000000000) (h0 : 0 < l.length) (h10 : ¬ 10 ≤ rd l 0) (n u : Nat) (hg : IsGet (l.drop 1) ((n : Int), (u : Int), true)) (hu : u + 1 ≤ l.length) (hn : n ≤ 100000) (hs : l.length < 1 + u + n + 4) :
    Calls Try.prog 44 #[.slice A0 l.length c0] w fun e w' => OpenQ w (0, [], 0, 2) e w' := by
  have HR := Aside0.mk hr0
  have HC := Aside0.mk hc0
  have HLL := Aside0.mk hl
  have HBY := Aside0.mk hb
  have e1 : ((l.length : Int) == 0) = false := beq_false_of_ne (by omega)
  have e2 : ((l.length : Int) = 0) = False := eq_false (by omega)
  obtain ⟨ad, rfl, x0⟩ := first_cell hr0 h0
  have qi : (0 < l.length) = True := eq_true h0
  have qj : ((0 : Int) < (l.length : Int)) = True := eq_true (by omega)
  have d1 : decide (rd l 0 ≥ 10) = false := decide_eq_false (by omega)
  obtain ⟨A', hcut, hA, hC⟩ := rdb_drop (some ad) c0 l 1 (by omega) hc0
  have HA := Aside0.mk (hA w hr0)
  have HG := Aside0.mk hg
  have HB1 : Aside0 (Bytes (l.drop 1)) := ⟨fun x hx => hb x (List.mem_of_mem_drop hx)⟩
  have hcut1 : ∀ W : World, (Instr.slice 40 (.slice (some ad) l.length c0) (some (.int .i64 1)) none none).run Try.prog W = .ok (.slice A' (l.length - 1) (c0 - 1)) W := hcut
  obtain ⟨f, hf⟩ : ∃ f : Nat, f = 1 + u := ⟨_, rfl⟩
  have w1_ : IntKind.i64.wrap (1 + (u : Int)) = (f : Int) := by rw [i64_w, w64s _ (by omega) (by omega)]; omega
  have d2 : decide ((n : Int) > 100000) = false := decide_eq_false (by omega)
  have d2' : decide (n > 100000) = false := decide_eq_false (by omega)
  have wn : IntKind.i64.wrap (n : Int) = (n : Int) := by rw [i64_w, w64s _ (by omega) (by omega)]
  obtain ⟨z, hz⟩ : ∃ z : Nat, z = l.length - f := ⟨_, rfl⟩
  have w2_ : IntKind.i64.wrap ((l.length : Int) - (f : Int)) = (z : Int) := by rw [i64_w, w64s _ (by omega) (by omega)]; omega
  obtain ⟨y, hy⟩ : ∃ y : Int, y = (z : Int) - 4 := ⟨_, rfl⟩
  have w3_ : IntKind.i64.wrap ((z : Int) - 4) = y := by rw [i64_w, w64s _ (by omega) (by omega)]; omega
  have d3 : decide ((n : Int) > y) = true := decide_eq_true (by omega)
  have d3' : decide (y < (n : Int)) = true := decide_eq_true (by omega)
  clear hA hcut hg
  clear hr0 hb hf hz hy hu hn hs
  go_enter Try.func44, Try.ntmps44
  go_wp2_with fail
  refine (get_call' HG.out HB1.out (by rw [List.length_drop]; omega) _ (by rw [List.length_drop]) A' _ _ HA.out hC).mono ?_
  rintro e w1 ⟨rfl, q, rfl⟩
  go_wp2_with fail
  (try simp only [Exit.inBlock, Exit.then])
  refine bodyPost_ret (results_list (rs := [.tmp 2, .tmp 3, .tmp 4, .tmp 5]) rfl (by simp) (.tmp (.tmp (.tmp (.tmp .nil))))) rfl ?_
  exact openQ_none _ _ _ (pw_below_drewN (Below.refl _ _) _)

set_option maxHeartbeats 1000000 in
set_option maxRecDepth 100000 in
theorem sopen_bad (A0 : Option Addr) (c0 : Nat) (l : List Int) (w : World) (hr0 : RdB w A0 l.length l) (hc0 : l.length ≤ c0) (hb : Bytes l) (hl : l.length ≤ 1000000000) (h0 : 0 < l.length) (h10 : ¬ 10 ≤ rd l 0) (n u : Nat) (hg : IsGet (l.drop 1) ((n : Int), (u : Int), true)) (hu : u + 1 ≤ l.length) (hn : n ≤ 100000) (hs : 1 + u + n + 4 ≤ l.length) (hq : (four ((l.take (1 + u + n + 4)).drop (1 + u + n)) : Int) ≠ sumL (l.take (1 + u + n))) :
    Calls Try.prog 44 #[.slice A0 l.length c0] w fun e w' => OpenQ w (0, [], 0, 3) e w' := by
  have HR := Aside0.mk hr0
  have HC := Aside0.mk hc0
  have HLL := Aside0.mk hl
  have HBY := Aside0.mk hb
  have e1 : ((l.length : Int) == 0) = false := beq_false_of_ne (by omega)
  have e2 : ((l.length : Int) = 0) = False := eq_false (by omega)
  obtain ⟨ad, rfl, x0⟩ := first_cell hr0 h0
  have qi : (0 < l.length) = True := eq_true h0
  have qj : ((0 : Int) < (l.length : Int)) = True := eq_true (by omega)
  have d1 : decide (rd l 0 ≥ 10) = false := decide_eq_false (by omega)
  obtain ⟨A', hcut, hA, hC⟩ := rdb_drop (some ad) c0 l 1 (by omega) hc0
  have HA := Aside0.mk (hA w hr0)
  have HG := Aside0.mk hg
  have HB1 : Aside0 (Bytes (l.drop 1)) := ⟨fun x hx => hb x (List.mem_of_mem_drop hx)⟩
  have hcut1 : ∀ W : World, (Instr.slice 40 (.slice (some ad) l.length c0) (some (.int .i64 1)) none none).run Try.prog W = .ok (.slice A' (l.length - 1) (c0 - 1)) W := hcut
  obtain ⟨f, hf⟩ : ∃ f : Nat, f = 1 + u := ⟨_, rfl⟩
  have w1_ : IntKind.i64.wrap (1 + (u : Int)) = (f : Int) := by rw [i64_w, w64s _ (by omega) (by omega)]; omega
  have d2 : decide ((n : Int) > 100000) = false := decide_eq_false (by omega)
  have d2' : decide (n > 100000) = false := decide_eq_false (by omega)
  have wn : IntKind.i64.wrap (n : Int) = (n : Int) := by rw [i64_w, w64s _ (by omega) (by omega)]
  obtain ⟨z, hz⟩ : ∃ z : Nat, z = l.length - f := ⟨_, rfl⟩
  have w2_ : IntKind.i64.wrap ((l.length : Int) - (f : Int)) = (z : Int) := by rw [i64_w, w64s _ (by omega) (by omega)]; omega
  obtain ⟨y, hy⟩ : ∃ y : Int, y = (z : Int) - 4 := ⟨_, rfl⟩
  have w3_ : IntKind.i64.wrap ((z : Int) - 4) = y := by rw [i64_w, w64s _ (by omega) (by omega)]; omega
  have d3 : decide ((n : Int) > y) = false := decide_eq_false (by omega)
  have d3' : decide (y < (n : Int)) = false := decide_eq_false (by omega)
  obtain ⟨e_, he⟩ : ∃ e_ : Nat, e_ = 1 + u + n := ⟨_, rfl⟩
  obtain ⟨t, ht⟩ : ∃ t : Nat, t = 1 + u + n + 4 := ⟨_, rfl⟩
  have w4_ : IntKind.i64.wrap ((f : Int) + (n : Int)) = (e_ : Int) := by rw [i64_w, w64s _ (by omega) (by omega)]; omega
  have w5_ : IntKind.i64.wrap ((e_ : Int) + 4) = (t : Int) := by rw [i64_w, w64s _ (by omega) (by omega)]; omega
  obtain ⟨A2, hcut2, hA2, hC2⟩ := rdb_mid (some ad) c0 l e_ t (by omega) (by omega) hc0
  have hcut3 := rdb_cut (some ad) c0 l e_ (by omega) hc0
  obtain ⟨A3, hcut4, hA3, hC3⟩ := rdb_mid (some ad) c0 l f e_ (by omega) (by omega) hc0
  have ht4 : t - e_ = 4 := by omega
  rw [ht4] at hcut2 hA2 hC2
  obtain ⟨p, hp⟩ : ∃ p, p = (l.take t).drop e_ := ⟨_, rfl⟩
  obtain ⟨b, hbd⟩ : ∃ b, b = l.take e_ := ⟨_, rfl⟩
  have HP4 : Aside0 (p.length = 4) := ⟨by rw [hp, List.length_drop, List.length_take]; omega⟩
  have HPB : Aside0 (Bytes p) := ⟨fun x hx => hb x (by rw [hp] at hx; exact List.mem_of_mem_take (List.mem_of_mem_drop hx))⟩
  have HBL : Aside0 (b.length = e_) := ⟨by rw [hbd, List.length_take]; omega⟩
  have HBB : Aside0 (Byt b) := ⟨fun x hx => hb x (by rw [hbd] at hx; exact List.mem_of_mem_take hx)⟩
  rw [← hp] at hA2
  have HA2 := Aside0.mk (hA2 w hr0)
  have HA3 := Aside0.mk (hA3 w hr0)
  have HRB : Aside0 (RdB w (some ad) e_ b) := ⟨by rw [hbd]; exact Go.Proofs.Ytchaegfdcdlfaaa.Y.rdb_take hr0 e_ (by omega)⟩
  clear hA2 hA3
  rw [← ht, ← he, ← hp, ← hbd] at hq
  have d4 : ((four p : Int) != sumL b) = true := by simp [hq]
  have d4' : ((four p : Int) = sumL b) = False := eq_false hq
  have HT := Aside0.mk ht
  have HE := Aside0.mk he
  have HFF := Aside0.mk hf
  have HSS := Aside0.mk hs
  have HNN := Aside0.mk hn
  clear hp hbd hq
  clear hA hcut hg
  clear hr0 hb hf hz hy he ht ht4 hu hn hs
  go_enter Try.func44, Try.ntmps44
  go_wp2_with fail
  refine (get_call' HG.out HB1.out (by rw [List.length_drop]; omega) _ (by rw [List.length_drop]) A' _ _ HA.out hC).mono ?_
  rintro e w1 ⟨rfl, q, rfl⟩
  go_wp2_with fail
  refine (four_call p HP4.out HPB.out A2 _ _ (rdb_drewN HA2.out q) hC2).mono ?_
  rintro e w1 ⟨rfl, q2, rfl⟩
  go_wp2_with fail
  have hsum := sum2_call (some ad) c0 b (w.drewN (q + q2)) (by rw [HBL.out]; exact rdb_drewN HRB.out _) HBB.out (by rw [HBL.out]; have := HLL.out; have := HE.out; have := HSS.out; have := HT.out; omega)
  rw [HBL.out] at hsum
  refine hsum.mono ?_
  rintro e w1 ⟨rfl, hb1⟩
  have HB := Aside0.mk (below_step (pw_below_drewN (Below.refl _ _) (q + q2)) hb1)
  clear hb1 hsum
  go_wp2_with fail
  (try simp only [Exit.inBlock, Exit.then])
  refine bodyPost_ret (results_list (rs := [.tmp 2, .tmp 3, .tmp 4, .tmp 5]) rfl (by simp) (.tmp (.tmp (.tmp (.tmp .nil))))) rfl ?_
  exact openQ_none _ _ _ HB.out

set_option maxHeartbeats 1000000 in
set_option maxRecDepth 100000 in
theorem sopen_ok (A0 : Option Addr) (c0 : Nat) (l : List Int) (w : World) (hr0 : RdB w A0 l.length l) (hc0 : l.length ≤ c0) (hb : Bytes l) (hl : l.length ≤ 1000000000) (h0 : 0 < l.length) (h10 : ¬ 10 ≤ rd l 0) (n u : Nat) (hg : IsGet (l.drop 1) ((n : Int), (u : Int), true)) (hu : u + 1 ≤ l.length) (hn : n ≤ 100000) (hs : 1 + u + n + 4 ≤ l.length) (hq : (four ((l.take (1 + u + n + 4)).drop (1 + u + n)) : Int) = sumL (l.take (1 + u + n))) :
    Calls Try.prog 44 #[.slice A0 l.length c0] w fun e w' => OpenQ w (rd l 0, (l.take (1 + u + n)).drop (1 + u), (1 + u + n + 4 : Nat), 0) e w' := by
  have HR := Aside0.mk hr0
  have HC := Aside0.mk hc0
  have HLL := Aside0.mk hl
  have HBY := Aside0.mk hb
  have e1 : ((l.length : Int) == 0) = false := beq_false_of_ne (by omega)
  have e2 : ((l.length : Int) = 0) = False := eq_false (by omega)
  obtain ⟨ad, rfl, x0⟩ := first_cell hr0 h0
  have qi : (0 < l.length) = True := eq_true h0
  have qj : ((0 : Int) < (l.length : Int)) = True := eq_true (by omega)
  have d1 : decide (rd l 0 ≥ 10) = false := decide_eq_false (by omega)
  obtain ⟨A', hcut, hA, hC⟩ := rdb_drop (some ad) c0 l 1 (by omega) hc0
  have HA := Aside0.mk (hA w hr0)
  have HG := Aside0.mk hg
  have HB1 : Aside0 (Bytes (l.drop 1)) := ⟨fun x hx => hb x (List.mem_of_mem_drop hx)⟩
  have hcut1 : ∀ W : World, (Instr.slice 40 (.slice (some ad) l.length c0) (some (.int .i64 1)) none none).run Try.prog W = .ok (.slice A' (l.length - 1) (c0 - 1)) W := hcut
  obtain ⟨f, hf⟩ : ∃ f : Nat, f = 1 + u := ⟨_, rfl⟩
  have w1_ : IntKind.i64.wrap (1 + (u : Int)) = (f : Int) := by rw [i64_w, w64s _ (by omega) (by omega)]; omega
  have d2 : decide ((n : Int) > 100000) = false := decide_eq_false (by omega)
  have d2' : decide (n > 100000) = false := decide_eq_false (by omega)
  have wn : IntKind.i64.wrap (n : Int) = (n : Int) := by rw [i64_w, w64s _ (by omega) (by omega)]
  obtain ⟨z, hz⟩ : ∃ z : Nat, z = l.length - f := ⟨_, rfl⟩
  have w2_ : IntKind.i64.wrap ((l.length : Int) - (f : Int)) = (z : Int) := by rw [i64_w, w64s _ (by omega) (by omega)]; omega
  obtain ⟨y, hy⟩ : ∃ y : Int, y = (z : Int) - 4 := ⟨_, rfl⟩
  have w3_ : IntKind.i64.wrap ((z : Int) - 4) = y := by rw [i64_w, w64s _ (by omega) (by omega)]; omega
  have d3 : decide ((n : Int) > y) = false := decide_eq_false (by omega)
  have d3' : decide (y < (n : Int)) = false := decide_eq_false (by omega)
  obtain ⟨e_, he⟩ : ∃ e_ : Nat, e_ = 1 + u + n := ⟨_, rfl⟩
  obtain ⟨t, ht⟩ : ∃ t : Nat, t = 1 + u + n + 4 := ⟨_, rfl⟩
  have w4_ : IntKind.i64.wrap ((f : Int) + (n : Int)) = (e_ : Int) := by rw [i64_w, w64s _ (by omega) (by omega)]; omega
  have w5_ : IntKind.i64.wrap ((e_ : Int) + 4) = (t : Int) := by rw [i64_w, w64s _ (by omega) (by omega)]; omega
  obtain ⟨A2, hcut2, hA2, hC2⟩ := rdb_mid (some ad) c0 l e_ t (by omega) (by omega) hc0
  have hcut3 := rdb_cut (some ad) c0 l e_ (by omega) hc0
  obtain ⟨A3, hcut4, hA3, hC3⟩ := rdb_mid (some ad) c0 l f e_ (by omega) (by omega) hc0
  have ht4 : t - e_ = 4 := by omega
  rw [ht4] at hcut2 hA2 hC2
  obtain ⟨p, hp⟩ : ∃ p, p = (l.take t).drop e_ := ⟨_, rfl⟩
  obtain ⟨b, hbd⟩ : ∃ b, b = l.take e_ := ⟨_, rfl⟩
  have HP4 : Aside0 (p.length = 4) := ⟨by rw [hp, List.length_drop, List.length_take]; omega⟩
  have HPB : Aside0 (Bytes p) := ⟨fun x hx => hb x (by rw [hp] at hx; exact List.mem_of_mem_take (List.mem_of_mem_drop hx))⟩
  have HBL : Aside0 (b.length = e_) := ⟨by rw [hbd, List.length_take]; omega⟩
  have HBB : Aside0 (Byt b) := ⟨fun x hx => hb x (by rw [hbd] at hx; exact List.mem_of_mem_take hx)⟩
  rw [← hp] at hA2
  have HA2 := Aside0.mk (hA2 w hr0)
  have HA3 := Aside0.mk (hA3 w hr0)
  have HRB : Aside0 (RdB w (some ad) e_ b) := ⟨by rw [hbd]; exact Go.Proofs.Ytchaegfdcdlfaaa.Y.rdb_take hr0 e_ (by omega)⟩
  clear hA2 hA3
  rw [← ht, ← he, ← hp, ← hbd] at hq
  rw [← ht, ← he, ← hf]
  rw [← hbd] at HA3 ⊢
  have d4 : ((four p : Int) != sumL b) = false := by simp [hq]
  have d4' : ((four p : Int) = sumL b) = True := eq_true hq
  have hrd := hb (rd l 0) (by
    show l.getD 0 0 ∈ l
    rw [List.getD_eq_getElem?_getD, List.getElem?_eq_getElem h0, Option.getD_some]
    exact List.getElem_mem h0)
  have w6_ : IntKind.i64.wrap (rd l 0) = rd l 0 := by rw [i64_w, w64s _ (by omega) (by omega)]
  have HML : Aside0 ((b.drop f).length = e_ - f) := ⟨by rw [List.length_drop, HBL.out]⟩
  have X0 := Aside0.mk x0
  have HT := Aside0.mk ht
  have HE := Aside0.mk he
  have HFF := Aside0.mk hf
  have HSS := Aside0.mk hs
  have HNN := Aside0.mk hn
  clear hp hbd hq
  clear hA hcut hg
  clear hr0 hb hf hz hy he ht ht4 hu hn hs
  go_enter Try.func44, Try.ntmps44
  go_wp2_with fail
  refine (get_call' HG.out HB1.out (by rw [List.length_drop]; omega) _ (by rw [List.length_drop]) A' _ _ HA.out hC).mono ?_
  rintro e w1 ⟨rfl, q, rfl⟩
  go_wp2_with fail
  refine (four_call p HP4.out HPB.out A2 _ _ (rdb_drewN HA2.out q) hC2).mono ?_
  rintro e w1 ⟨rfl, q2, rfl⟩
  go_wp2_with fail
  have hsum := sum2_call (some ad) c0 b (w.drewN (q + q2)) (by rw [HBL.out]; exact rdb_drewN HRB.out _) HBB.out (by rw [HBL.out]; have := HLL.out; have := HE.out; have := HSS.out; have := HT.out; omega)
  rw [HBL.out] at hsum
  refine hsum.mono ?_
  rintro e w1 ⟨rfl, hb1⟩
  have HB := Aside0.mk (below_step (pw_below_drewN (Below.refl _ _) (q + q2)) hb1)
  clear hb1 hsum
  go_wp2_with fail
  have HB2 : Aside0 (Below w.heap.size w w1.drew) := ⟨below_drew HB.out⟩
  refine wp_region_held_drew (S := (fun W => W.cell? ad = some (.int .u8 (rd l 0)) ∧ RdB W A3 (e_ - f) (b.drop f))) (by kernel_rfl) ((And.intro ((HB2.out.cell (World.block_lt_of_cell? w _ X0.out)).trans X0.out) (rdb_below HA3.out HB2.out))) (fun hHeld => ?_)
  refine wpAnyH_take (i := 0) (v := ?_) (by simp only [List.getElem?_toArray, List.getElem?_cons_succ, List.getElem?_cons_zero]; rfl) (by kernel_rfl) (by kernel_rfl) (by kernel_rfl) (by intro _ _ _ h; exact h) (Or.inl ⟨by rfl, ?hy⟩) (by assumption) ?_
  case hy => (intro W_ hW_; go_simp; first | done | with_reducible rfl)
  try simp only [Act.put, List.setIfInBounds_toArray, List.set_cons_zero, List.set_cons_succ]
  refine wpAnyH_take (i := 1) (v := ?_) (by simp only [List.getElem?_toArray, List.getElem?_cons_succ, List.getElem?_cons_zero]; rfl) (by kernel_rfl) (by kernel_rfl) (by kernel_rfl) (by intro _ _ _ h; exact h) (Or.inl ⟨by rfl, ?hy⟩) (by assumption) ?_
  case hy => (intro W_ hW_; go_simp; first | done | with_reducible rfl)
  try simp only [Act.put, List.setIfInBounds_toArray, List.set_cons_zero, List.set_cons_succ]
  refine wpAnyH_take (i := 2) (v := ?_) (by simp only [List.getElem?_toArray, List.getElem?_cons_succ, List.getElem?_cons_zero]; rfl) (by kernel_rfl) (by kernel_rfl) (by kernel_rfl) (by intro _ _ _ h; exact h) (Or.inl ⟨by rfl, ?hy⟩) (by assumption) ?_
  case hy => (intro W_ hW_; have f_ := hW_.1; go_simp; first | done | with_reducible rfl)
  try simp only [Act.put, List.setIfInBounds_toArray, List.set_cons_zero, List.set_cons_succ]
  refine wpAnyH_take (i := 3) (v := ?_) (by simp only [List.getElem?_toArray, List.getElem?_cons_succ, List.getElem?_cons_zero]; rfl) (by kernel_rfl) (by kernel_rfl) (by kernel_rfl) (by intro _ _ _ h; exact h) (Or.inl ⟨by rfl, ?hy⟩) (by assumption) ?_
  case hy => (intro W_ hW_; go_simp; first | done | with_reducible rfl)
  try simp only [Act.put, List.setIfInBounds_toArray, List.set_cons_zero, List.set_cons_succ]
  refine wpAnyH_take (i := 4) (v := ?_) (by simp only [List.getElem?_toArray, List.getElem?_cons_succ, List.getElem?_cons_zero]; rfl) (by kernel_rfl) (by kernel_rfl) (by kernel_rfl) (by intro _ _ _ h; exact h) (Or.inl ⟨by rfl, ?hy⟩) (by assumption) ?_
  case hy => (intro W_ hW_; go_simp; first | done | with_reducible rfl)
  try simp only [Act.put, List.setIfInBounds_toArray, List.set_cons_zero, List.set_cons_succ]
  refine wpAnyH_take (i := 5) (v := ?_) (by simp only [List.getElem?_toArray, List.getElem?_cons_succ, List.getElem?_cons_zero]; rfl) (by kernel_rfl) (by kernel_rfl) (by kernel_rfl) (by intro _ _ _ h; exact h) (Or.inl ⟨by rfl, ?hy⟩) (by assumption) ?_
  case hy => (intro W_ hW_; go_simp; first | done | with_reducible rfl)
  try simp only [Act.put, List.setIfInBounds_toArray, List.set_cons_zero, List.set_cons_succ]
  refine wpAnyH_take (i := 6) (v := ?_) (by simp only [List.getElem?_toArray, List.getElem?_cons_succ, List.getElem?_cons_zero]; rfl) (by kernel_rfl) (by kernel_rfl) (by kernel_rfl) (by intro _ _ _ h; exact h) (Or.inl ⟨by rfl, ?hy⟩) (by assumption) ?_
  case hy => (intro W_ hW_; go_simp; first | done | with_reducible rfl)
  try simp only [Act.put, List.setIfInBounds_toArray, List.set_cons_zero, List.set_cons_succ]
  refine wpAnyH_take (i := 7) (v := ?_) (by simp only [List.getElem?_toArray, List.getElem?_cons_succ, List.getElem?_cons_zero]; rfl) (by kernel_rfl) (by kernel_rfl) (by kernel_rfl) (by intro _ _ _ h; exact h) (Or.inl ⟨by rfl, ?hy⟩) (by assumption) ?_
  case hy => (intro W_ hW_; go_simp; first | done | with_reducible rfl)
  try simp only [Act.put, List.setIfInBounds_toArray, List.set_cons_zero, List.set_cons_succ]
  refine wpAnyH_take (i := 9) (v := ?_) (by simp only [List.getElem?_toArray, List.getElem?_cons_succ, List.getElem?_cons_zero]; rfl) (by kernel_rfl) (by kernel_rfl) (by kernel_rfl) (by intro _ _ _ h; exact h) (Or.inl ⟨by rfl, ?hy⟩) (by assumption) ?_
  case hy => (intro W_ hW_; go_simp; first | done | with_reducible rfl)
  try simp only [Act.put, List.setIfInBounds_toArray, List.set_cons_zero, List.set_cons_succ]
  refine wpAnyH_take (i := 10) (v := ?_) (by simp only [List.getElem?_toArray, List.getElem?_cons_succ, List.getElem?_cons_zero]; rfl) (by kernel_rfl) (by kernel_rfl) (by kernel_rfl) (by intro _ _ _ h; exact h) (Or.inl ⟨by rfl, ?hy⟩) (by assumption) ?_
  case hy => (intro W_ hW_; go_simp; first | done | with_reducible rfl)
  try simp only [Act.put, List.setIfInBounds_toArray, List.set_cons_zero, List.set_cons_succ]
  refine wpAnyH_ready (rs := [8]) (by kernel_rfl) (by simp) ?_
  refine AllReadyH.cons (by simp only [List.getElem?_toArray, List.getElem?_cons_succ, List.getElem?_cons_zero]; rfl) (fun K hK => ?_) AllReadyH.nil
  rw [if_pos (by rfl)]
  go_wp2_with fail
  refine (clone_call2 A3 (c0 - f) (b.drop f) _ HML.out _ hHeld.2 hC3 (by have := HE.out; have := HFF.out; have := HNN.out; omega)).mono ?_
  rintro e w4 ⟨v4, rfl, hR4, hb4⟩
  refine hK.out _ _ (And.intro ((hb4.cell (World.block_lt_of_cell? _ _ hHeld.1)).trans hHeld.1) (rdb_below hHeld.2 hb4)) (fun hHeld2 => ?_)
  clear hK K hHeld
  have hHeld := hHeld2
  clear hHeld2
  try simp only [Act.put, List.setIfInBounds_toArray, List.set_cons_zero, List.set_cons_succ]
  refine wpAnyH_take (i := 11) (v := ?_) (by simp only [List.getElem?_toArray, List.getElem?_cons_succ, List.getElem?_cons_zero]; rfl) (by kernel_rfl) (by kernel_rfl) (by kernel_rfl) (by intro _ _ _ h; exact h) (Or.inl ⟨by rfl, ?hy⟩) (by assumption) ?_
  case hy => (intro W_ hW_; go_simp; first | done | with_reducible rfl)
  try simp only [Act.put, List.setIfInBounds_toArray, List.set_cons_zero, List.set_cons_succ]
  refine wpAnyH_take (i := 12) (v := ?_) (by simp only [List.getElem?_toArray, List.getElem?_cons_succ, List.getElem?_cons_zero]; rfl) (by kernel_rfl) (by kernel_rfl) (by kernel_rfl) (by intro _ _ _ h; exact h) (Or.inl ⟨by rfl, ?hy⟩) (by assumption) ?_
  case hy => (intro W_ hW_; go_simp; first | done | with_reducible rfl)
  try simp only [Act.put, List.setIfInBounds_toArray, List.set_cons_zero, List.set_cons_succ]
  refine wpAnyH_take (i := 13) (v := ?_) (by simp only [List.getElem?_toArray, List.getElem?_cons_succ, List.getElem?_cons_zero]; rfl) (by kernel_rfl) (by kernel_rfl) (by kernel_rfl) (by intro _ _ _ h; exact h) (Or.inl ⟨by rfl, ?hy⟩) (by assumption) ?_
  case hy => (intro W_ hW_; go_simp; first | done | with_reducible rfl)
  try simp only [Act.put, List.setIfInBounds_toArray, List.set_cons_zero, List.set_cons_succ]
  refine wpAnyH_take (i := 14) (v := ?_) (by simp only [List.getElem?_toArray, List.getElem?_cons_succ, List.getElem?_cons_zero]; rfl) (by kernel_rfl) (by kernel_rfl) (by kernel_rfl) (by intro _ _ _ h; exact h) (Or.inl ⟨by rfl, ?hy⟩) (by assumption) ?_
  case hy => (intro W_ hW_; go_simp; first | done | with_reducible rfl)
  try simp only [Act.put, List.setIfInBounds_toArray, List.set_cons_zero, List.set_cons_succ]
  refine wpAnyH_done (by kernel_rfl) ?_ _
  go_wp2_with fail
  (try simp only [Exit.inBlock, Exit.then])
  refine bodyPost_ret (results_list (rs := [.tmp 2, .tmp 3, .tmp 4, .tmp 5]) rfl (by simp) (.tmp (.tmp (.tmp (.tmp .nil))))) rfl ?_
  exact ⟨v4, rfl, Kd.R_lower hR4 HB2.out.size, below_step HB2.out hb4⟩

/-- What is got of a list. -/
def getL (l : List Int) : Int × Int × Bool := (wire_Get.f (2 * l.length + 3) l).getD (0, 0, false)
theorem getL_is {l : List Int} (hb : Bytes l) (hl : l.length ≤ 1000000000) : IsGet l (getL l) := by
  obtain ⟨r, h, hr⟩ := Go.Proofs.Ytchaegfdcdlfaaa.Y.Get_is l hb (by omega) (2 * l.length + 3) (by omega)
  unfold getL
  rw [h]
  exact hr
theorem getL_eq {l : List Int} (hb : Bytes l) (hl : l.length ≤ 1000000000) {r : Int × Int × Bool} (h : IsGet l r) : getL l = r := (getL_is hb hl).unique h
/-- What is opened. -/
def openL (l : List Int) : Int × List Int × Int × Int := openR l (getL (l.drop 1))
theorem drop_bytes {l : List Int} (hb : Bytes l) (k : Nat) : Bytes (l.drop k) := fun x hx => hb x (List.mem_of_mem_drop hx)
theorem used_lt {l : List Int} {r : Int × Int × Bool} (h0 : 0 < l.length) (h : IsGet (l.drop 1) r) : ∃ n u : Nat, r = ((n : Int), (u : Int), r.2.2) ∧ u + 1 ≤ l.length := by
  have hu := Go.Proofs.Ytchaegfdcdlfaaa.Y.IsGet.used h
  rw [List.length_drop] at hu
  refine ⟨r.1.toNat, r.2.1.toNat, ?_, by omega⟩
  obtain ⟨a, b, c⟩ := r
  simp only at hu ⊢
  rw [Int.toNat_of_nonneg hu.2.2.1, Int.toNat_of_nonneg hu.1]
theorem OpenQ.of {w w' : World} {e : Ending} {r r' : Int × List Int × Int × Int} (h : OpenQ w r e w') (he : r = r') : OpenQ w r' e w' := he ▸ h
theorem sopen_call (A0 : Option Addr) (c0 : Nat) (l : List Int) (w : World) (hr0 : RdB w A0 l.length l) (hc0 : l.length ≤ c0) (hb : Bytes l) (hl : l.length ≤ 1000000000) :
    Calls Try.prog 44 #[.slice A0 l.length c0] w fun e w' => OpenQ w (openL l) e w' := by
  have hg := getL_is (drop_bytes hb 1) (by rw [List.length_drop]; omega)
  unfold openL
  generalize getL (l.drop 1) = g at hg
  by_cases h0 : l.length = 0
  · refine (sopen_empty A0 c0 l w hr0 hc0 hb hl h0).mono fun e w' h => h.of ?_
    unfold openR
    rw [if_pos (Or.inl h0)]
  · by_cases h10 : 10 ≤ rd l 0
    · refine (sopen_kind A0 c0 l w hr0 hc0 hb hl (by omega) h10).mono fun e w' h => h.of ?_
      unfold openR
      rw [if_pos (Or.inr h10)]
    · obtain ⟨n, u, hgg, hu⟩ := used_lt (by omega) hg
      obtain ⟨b, hbb⟩ : ∃ b, b = g.2.2 := ⟨_, rfl⟩
      rw [← hbb] at hgg
      subst hgg
      cases b with
      | false =>
        refine (sopen_not A0 c0 l w hr0 hc0 hb hl (by omega) h10 n u hg hu).mono fun e w' h => h.of ?_
        unfold openR
        rw [if_neg (by omega), if_pos (Or.inl rfl)]
      | true =>
        by_cases hn : 100000 < n
        · refine (sopen_big A0 c0 l w hr0 hc0 hb hl (by omega) h10 n u hg hu hn).mono fun e w' h => h.of ?_
          unfold openR
          rw [if_neg (by omega), if_pos (Or.inr (Or.inl (show (100000 : Int) < (n : Int) by omega)))]
        · by_cases hs : l.length < 1 + u + n + 4
          · refine (sopen_short A0 c0 l w hr0 hc0 hb hl (by omega) h10 n u hg hu (by omega) hs).mono fun e w' h => h.of ?_
            unfold openR
            rw [if_neg (by omega), if_pos (Or.inr (Or.inr (show (l.length : Int) < 1 + (u : Int) + (n : Int) + 4 by omega)))]
          · have hcond : ¬ ((true = false) ∨ (100000 : Int) < (n : Int) ∨ (l.length : Int) < 1 + (u : Int) + (n : Int) + 4) := by
              rintro (h | h | h)
              · cases h
              · omega
              · omega
            by_cases hq : (four ((l.take (1 + u + n + 4)).drop (1 + u + n)) : Int) = sumL (l.take (1 + u + n))
            · refine (sopen_ok A0 c0 l w hr0 hc0 hb hl (by omega) h10 n u hg hu (by omega) (by omega) hq).mono fun e w' h => h.of ?_
              unfold openR
              rw [if_neg (by omega), if_neg hcond]
              simp only [Int.toNat_natCast]
              rw [if_neg (fun h => h hq)]
            · refine (sopen_bad A0 c0 l w hr0 hc0 hb hl (by omega) h10 n u hg hu (by omega) (by omega) hq).mono fun e w' h => h.of ?_
              unfold openR
              rw [if_neg (by omega), if_neg hcond]
              simp only [Int.toNat_natCast]
              rw [if_pos hq]
/-- In the printed form. -/
def section_Open.f (k : Nat) (l0 : List Int) : Option (Int × List Int × Int × Int) := if l0.all (fun x => decide (0 ≤ x ∧ x ≤ 255)) = true ∧ l0.length ≤ 1000000000 then some (openL l0) else none
theorem section_Open.mono : ∀ a0 k, LeO (section_Open.f k a0) (section_Open.f (k + 1) a0) := fun _ _ => LeO.refl _
theorem section_Open.calls (k : Nat) (A0 : Option Addr) (c0 : Nat) (l0 : List Int) (r1 : Int) (r2 : List Int) (r3 : Int) (r4 : Int) (w : World) (hr0 : Kd.C (Kd.int .u8) w A0 l0.length l0) (hc0 : l0.length ≤ c0) (h : section_Open.f k l0 = some (r1, r2, r3, r4)) :
    Calls Try.prog 44 #[.slice A0 l0.length c0] w fun e w' => ∃ v1_ : Value, e = .returned (.tuple #[.int .i64 r1, v1_, .int .i64 r3, .int .i64 r4]) ∧ Kd.R (Kd.int .u8) 5 w' w.heap.size (fun _ => True) v1_ r2 ∧ Below w.heap.size w w' := by
  unfold section_Open.f at h
  split at h
  · rename_i hh
    injection h with h
    refine (sopen_call A0 c0 l0 w hr0 hc0 (fun x hx => by simpa using List.all_eq_true.1 hh.1 x hx) hh.2).mono fun e w' hq => ?_
    exact hq.of h
  · cases h
theorem Open_eq (k : Nat) {l : List Int} (hb : Bytes l) (hl : l.length ≤ 1000000000) : section_Open.f k l = some (openL l) := by
  unfold section_Open.f
  rw [if_pos ⟨List.all_eq_true.2 fun x hx => decide_eq_true (hb x hx), hl⟩]
end Go.Proofs.Ytchaegfdcdlfaaa.X

/- slices.Concat of rows of bytes, and slices.Grow of none, by hand. -/
namespace Go.Proofs.Ytchaegfdcdlfaaa.X
set_option linter.unusedVariables false
set_option linter.unusedSimpArgs false
open Go.RowKit Go.Proofs.YtchaegfdcdlfaaaW.PrintWords Go.Proofs.YtchaegfdcdlfaaaW.PrintLast Go.Proofs.YtchaegfdcdlfaaaW.PrintMore

set_option maxHeartbeats 1000000 in
set_option maxRecDepth 100000 in
theorem grow_call (n : Nat) (hn : n ≤ 1000000000) (w : World) :
    Calls Try.prog 140 #[.slice none 0 0, .int .i64 n] w fun e w' => ∃ v, e = .returned v ∧ Kd.R (Kd.int .u8) 5 w' w.heap.size (fun _ => True) v [] ∧ Below w.heap.size w w' := by
  have e1 : decide ((n : Int) < 0) = false := decide_eq_false (by omega)
  by_cases h0 : 0 < n
  · obtain ⟨i0, hi0, hz0, hs0, hb0⟩ := info_parts info5
    have e2 : decide ((n : Int) > 0) = true := decide_eq_true (by omega)
    have e3 : IntKind.i64.wrap ((n : Int) - 0) = (n : Int) := by rw [i64_w]; unfold wrap64; omega
    have hrun := Go.Lib.run_append_nil_zeros (P := Try.prog) w 40 3 40 5 i0 _ .i64 .i64 Try.underlying40 Try.underlying3 hi0 hz0 n h0 (by omega) (by omega) (by rw [hb0]; omega)
    obtain ⟨cp, hcp⟩ : ∃ cp, cp = grownCap w n 0 5 := ⟨_, rfl⟩
    rw [← hcp] at hrun
    go_enter Try.func140, Try.ntmps140
    go_wp2_with (first
      | ((with_reducible refine gate_builtin (b := .append) (xs := #[.tmp 20, .tmp 21]) rfl ?_); at_builtin; refine Go.Lib.wpList_append_run _ rfl _ _ _ _ rfl _ _ rfl rfl _ _ hrun ?_)
      | fail)
    go_ret
    refine ⟨_, rfl, Kd.R_of_own (ok := fun _ => True) ⟨rfl, .inr ⟨w.heap.size, grownCap w n 0 5, _, rfl, Nat.le_refl _, heap_alloc_new _ _, Nat.zero_le _, grownCap_le_maxLen w n 0 5 (by unfold maxLen; omega), ?_, by simp [encs]⟩⟩ (fun _ _ => trivial), below_drew (below_alloc (Below.refl _ _) _)⟩
    have := grownCap_ge w n 0 5
    simp [size_zeroCells]
    omega
  · obtain rfl : n = 0 := by omega
    have e2 : decide (((0 : Nat) : Int) > 0) = false := by decide
    have e3 : IntKind.i64.wrap ((0 : Int) - 0) = 0 := by decide
    go_enter Try.func140, Try.ntmps140
    go_wp2_with fail
    go_ret
    exact ⟨_, rfl, Kd.R_nil _ _ _ _ _, Below.refl _ _⟩

/-- How long the first i rows are together. -/
def lens (l : List (List Int)) (i : Nat) : Nat := (l.take i).flatten.length
theorem lens_succ {l : List (List Int)} {i : Nat} (hi : i < l.length) : (l.take (i + 1)).flatten = (l.take i).flatten ++ rd_L2 l i := by
  have : l.take (i + 1) = l.take i ++ [rd_L2 l i] := by
    unfold rd_L2
    rw [Int.toNat_natCast, List.getD_eq_getElem?_getD, List.getElem?_eq_getElem hi, Option.getD_some, List.take_succ_eq_append_getElem hi]
  rw [this, List.flatten_append]
  simp
theorem lens_le (l : List (List Int)) (i : Nat) : lens l i ≤ l.flatten.length := by
  have : l.flatten = (l.take i).flatten ++ (l.drop i).flatten := by rw [← List.flatten_append, List.take_append_drop]
  unfold lens
  rw [this, List.length_append]
  omega

set_option maxHeartbeats 1000000 in
set_option maxRecDepth 100000 in
theorem cat_call (A : Option Addr) (c : Nat) (l : List (List Int)) (w : World) (hr : Kd.C (Kd.slice 5 (Kd.int .u8)) w A l.length l) (hl : l.flatten.length ≤ 1000000000) (hn : l.length ≤ 1000000000) :
    Calls Try.prog 83 #[.slice A l.length c] w fun e w' => ∃ v, e = .returned v ∧ Kd.R (Kd.int .u8) 5 w' w.heap.size (fun _ => True) v l.flatten ∧ Below w.heap.size w w' := by
  have HR := Aside0.mk hr
  have HL := Aside0.mk hl
  have HN := Aside0.mk hn
  clear hr hl
  go_enter Try.func83, Try.ntmps83
  go_wp2_with fail
  go_loopg [3, 11] l.length (fun k v3 v11 w' => ∃ i : Nat, v3 = .int .i64 (lens l i : Int) ∧ v11 = .int .i64 i ∧ Aside0 (k = l.length - i ∧ i ≤ l.length) ∧ Aside0 (Below w.heap.size w w'))
  case atStart => exact ⟨0, by simp [lens], rfl, ⟨by omega, by omega⟩, ⟨Below.refl _ _⟩⟩
  case round =>
    obtain ⟨i, rfl, rfl, HI, HB⟩ := hrel
    by_cases hi : i < l.length
    · have d1 : decide (i < l.length) = true := decide_eq_true hi
      have d2 : decide ((i : Int) < (l.length : Int)) = true := decide_eq_true (by omega)
      have pi : ((i : Int) < (l.length : Int)) = True := eq_true (by omega)
      have qi : (0 ≤ (i : Int)) = True := eq_true (by omega)
      have hwi : IntKind.i64.wrap ((i : Int) + 1) = ((i + 1 : Nat) : Int) := by rw [i64_w]; unfold wrap64; omega
      obtain ⟨ad0, A0, c0, e0, x0, hc0, _⟩ := at_L2 (Kd.C_below HR.out HB.out) (i : Int) (by omega) (by omega)
      subst e0
      simp only [Int.toNat_natCast] at x0
      have HE := lens_succ hi
      have hs : lens l (i + 1) = lens l i + (rd_L2 l i).length := by unfold lens; rw [HE, List.length_append]
      have hle := lens_le l (i + 1)
      have hll := HL.out
      have hw2 : IntKind.i64.wrap ((lens l i : Int) + ((rd_L2 l i).length : Int)) = (lens l (i + 1) : Int) := by rw [i64_w]; unfold wrap64; omega
      have d3 : decide ((lens l (i + 1) : Int) < 0) = false := decide_eq_false (by omega)
      clear HE hs hle hll
      go_wp2_with fail
      go_roundg (l.length - (i + 1))
      case measure => have := HI.out; omega
      case rel => exact ⟨i + 1, rfl, by simp, ⟨rfl, by omega⟩, HB⟩
    · have d1 : decide (i < l.length) = false := decide_eq_false hi
      have d2 : decide ((i : Int) < (l.length : Int)) = false := decide_eq_false (by omega)
      obtain rfl : i = l.length := by have := HI.out; omega
      have hle := lens_le l l.length
      have hll := HL.out
      clear hi
      go_wp2_with fail
      refine (grow_call (lens l l.length) (by omega) _).mono ?_
      rintro e w1 ⟨v, rfl, ho1, hb1⟩
      have HO := Aside0.mk (Kd.R_lower ho1 HB.out.size)
      have HB1 := Aside0.mk (below_step HB.out hb1)
      clear ho1 hb1 hle hll HB
      go_wp2_with fail
      go_loopg [6, 27] l.length (fun k v6 v27 w' => ∃ i : Nat, v27 = .int .i64 i ∧ Aside0 (k = l.length - i ∧ i ≤ l.length) ∧ Aside0 (Kd.R (Kd.int .u8) 5 w' w.heap.size (fun _ => True) v6 (l.take i).flatten) ∧ Aside0 (Below w.heap.size w w'))
      case atStart => exact ⟨0, rfl, ⟨by omega, by omega⟩, ⟨by simpa using HO.out⟩, HB1⟩
      case round =>
        clear HO HB1 HI
        obtain ⟨i, rfl, HI, HO, HB⟩ := hrel
        by_cases hi : i < l.length
        · have d1 : decide (i < l.length) = true := decide_eq_true hi
          have d2 : decide ((i : Int) < (l.length : Int)) = true := decide_eq_true (by omega)
          have pi : ((i : Int) < (l.length : Int)) = True := eq_true (by omega)
          have qi : (0 ≤ (i : Int)) = True := eq_true (by omega)
          have hwi : IntKind.i64.wrap ((i : Int) + 1) = ((i + 1 : Nat) : Int) := by rw [i64_w]; unfold wrap64; omega
          obtain ⟨ad0, A0, c0, e0, x0, hc0, hi0⟩ := at_L2 (Kd.C_below HR.out HB.out) (i : Int) (by omega) (by omega)
          subst e0
          simp only [Int.toNat_natCast] at x0
          have HI0 := Aside0.mk hi0
          have HE := Aside0.mk (lens_succ hi)
          have hs : lens l (i + 1) = lens l i + (rd_L2 l i).length := by unfold lens; rw [HE.out, List.length_append]
          have hle := lens_le l (i + 1)
          have HLE : Aside0 (((l.take i).flatten.length + (rd_L2 l i).length) * 1 ≤ 140737488355328) := ⟨by have := HL.out; have := hs; unfold lens at this hle; omega⟩
          clear hi0 hs hle
          go_wp2_with (first | ((with_reducible refine gate_builtin (b := .append) (xs := #[.tmp 31, .tmp 32]) rfl ?_); at_builtin; refine Kd.R_append_rows (Kd.int .u8) (w0 := w) w.heap.size rfl (.tmp 31) (.tmp 32) 40 5 (.int .u8 0) 1 rfl Try.underlying40 info5 rfl (by decide) (by omega) u6 (l.take i).flatten (rd_L2 l i) _ _ _ (fun _ => True) (fun _ => False) rfl rfl HO.out HI0.out (fun _ _ h => h) (fun _ h => h.elim) (fun _ _ => trivial) HB.out HB.out.size (by have := HLE.out; omega) ?_; intro v1 w1 ho hb hg hat; have HO1 := Aside0.mk ho; have HB1 := Aside0.mk hb; clear ho hb hg hat) | fail)
          go_roundg (l.length - (i + 1))
          case measure => have := HI.out; omega
          case rel => exact ⟨i + 1, by simp, ⟨rfl, by omega⟩, ⟨by rw [HE.out]; exact HO1.out⟩, HB1⟩
        · have d1 : decide (i < l.length) = false := decide_eq_false hi
          have d2 : decide ((i : Int) < (l.length : Int)) = false := decide_eq_false (by omega)
          have hil : i = l.length := by have := HI.out; omega
          have HX : Aside0 ((l.take i).flatten = l.flatten) := ⟨by rw [hil, List.take_length]⟩
          clear hi hil
          go_wp2_with fail
          go_ret
          exact ⟨_, rfl, by rw [← HX.out]; exact HO.out, HB.out⟩

/-- In the printed form. -/
def slices_Concat_byte_byte.f (k : Nat) (l0 : List (List Int)) : Option (List Int) := if l0.flatten.length ≤ 1000000000 ∧ l0.length ≤ 1000000000 then some l0.flatten else none
theorem slices_Concat_byte_byte.mono : ∀ a0 k, LeO (slices_Concat_byte_byte.f k a0) (slices_Concat_byte_byte.f (k + 1) a0) := fun _ _ => LeO.refl _
theorem slices_Concat_byte_byte.calls (k : Nat) (A0 : Option Addr) (c0 : Nat) (l0 : List (List Int)) (r : List Int) (w : World) (hr0 : Kd.C (Kd.slice 5 (Kd.int .u8)) w A0 l0.length l0) (hc0 : l0.length ≤ c0) (h : slices_Concat_byte_byte.f k l0 = some r) :
    Calls Try.prog 83 #[.slice A0 l0.length c0] w fun e w' => ∃ v0_ : Value, e = .returned (v0_) ∧ Kd.R (Kd.int .u8) 5 w' w.heap.size (fun _ => True) v0_ r ∧ Below w.heap.size w w' := by
  unfold slices_Concat_byte_byte.f at h
  split at h
  · rename_i hh
    injection h with h
    subst h
    exact cat_call A0 c0 l0 w hr0 hh.1 hh.2
  · cases h
theorem Cat_eq (k : Nat) {l0 : List (List Int)} (h1 : l0.flatten.length ≤ 1000000000) (h2 : l0.length ≤ 1000000000) : slices_Concat_byte_byte.f k l0 = some l0.flatten := by
  unfold slices_Concat_byte_byte.f
  rw [if_pos ⟨h1, h2⟩]
end Go.Proofs.Ytchaegfdcdlfaaa.X

-- Printed for this session by a program of its own over an edited copy of the translation's print.

-- Printed for this session by a program of its own over an edited copy of the translation's print.

namespace Go.Proofs.Ytchaegfdcdlfaaa.X
open Go.RowKit Go.Proofs.YtchaegfdcdlfaaaW.PrintWords Go.Proofs.YtchaegfdcdlfaaaW.PrintLast Go.Proofs.YtchaegfdcdlfaaaW.PrintMore
attribute [local go_sem] max2_int min2_int max_two min_two max_three min_three max_four min_four   -- for this text's walks alone
set_option linter.unusedVariables false
set_option linter.unusedSimpArgs false

/-! ### section_Pack: function 42 -/
def section_Pack.j0 : Nat → Int → List Int → Bool → Option (List Int × Bool)
  | 0, _, _, _ => none
  | k + 1, x0, x1, x17 => if x17 = true then (some (([] : List Int), false)) else ((wire_Put.f k (IntKind.u64.wrap ((x1.length : Int)))).bind fun t162 => ((slices_Concat_byte_byte.f k (([(([(x0) % 256] : List Int)), t162, x1] : List (List Int)))).bind fun t168 => ((section_Sum.f k t168).bind fun t171 => ((wire_Word.f k t171).bind fun t172 => (if t168.length + t172.length < 140737488355328 then (some ((t168 ++ t172), true)) else (none))))))
def section_Pack.f (k : Nat) (a0 : Int) (l1 : List Int) : Option (List Int × Bool) := if a0 < 0 then (section_Pack.j0 k a0 l1 true) else (if a0 ≥ 10 then (section_Pack.j0 k a0 l1 true) else (section_Pack.j0 k a0 l1 (decide ((l1.length : Int) > 100000))))
theorem section_Pack.mono_l : ∀ k, (∀ y0 y1 y2, LeO (section_Pack.j0 k y0 y1 y2) (section_Pack.j0 (k + 1) y0 y1 y2))
  | 0 => fun _ _ _ r h => by simp [section_Pack.j0] at h
  | k + 1 => by
    have ih0 := section_Pack.mono_l k
    · intro y0 y1 y2
      unfold section_Pack.j0
      repeat' first
      | (with_reducible exact ih0 _ _ _)
      | (with_reducible exact section_Sum.mono _ _)
      | (with_reducible exact slices_Concat_byte_byte.mono _ _)
      | (with_reducible exact wire_Put.mono _ _)
      | (with_reducible exact wire_Word.mono _ _)
      | (with_reducible exact LeO.refl _)
      | (with_reducible exact LeO.none _)
      | (with_reducible refine LeO.ite ?_ ?_)
      | (with_reducible refine LeO.bind ?_ (fun _ => ?_))
      | exact ih0 _ _ _
      | exact section_Sum.mono _ _
      | exact slices_Concat_byte_byte.mono _ _
      | exact wire_Put.mono _ _
      | exact wire_Word.mono _ _
      | exact LeO.none _
      | refine LeO.ite ?_ ?_
      | refine LeO.bind ?_ (fun _ => ?_)
theorem section_Pack.mono : ∀ a0 a1 k, LeO (section_Pack.f k a0 a1) (section_Pack.f (k + 1) a0 a1) := by
  intro a0 a1 k
  have ih0 := section_Pack.mono_l k
  unfold section_Pack.f
  repeat' first
      | (with_reducible exact ih0 _ _ _)
      | (with_reducible exact section_Sum.mono _ _)
      | (with_reducible exact slices_Concat_byte_byte.mono _ _)
      | (with_reducible exact wire_Put.mono _ _)
      | (with_reducible exact wire_Word.mono _ _)
      | (with_reducible exact LeO.refl _)
      | (with_reducible exact LeO.none _)
      | (with_reducible refine LeO.ite ?_ ?_)
      | (with_reducible refine LeO.bind ?_ (fun _ => ?_))
      | exact ih0 _ _ _
      | exact section_Sum.mono _ _
      | exact slices_Concat_byte_byte.mono _ _
      | exact wire_Put.mono _ _
      | exact wire_Word.mono _ _
      | exact LeO.none _
      | refine LeO.ite ?_ ?_
      | refine LeO.bind ?_ (fun _ => ?_)
set_option maxHeartbeats 8000000 in
set_option maxRecDepth 100000 in
theorem section_Pack.calls (k : Nat) (a0 : Int) (P1_ : Nat → Prop) (A1 : Option Addr) (c1 : Nat) (l1 : List Int) (r1 : List Int) (r2 : Bool) (w : World) (hs1 : Kd.V (Kd.int .u8) 5 w w.heap.size (fun k_ => P1_ k_) (.slice A1 l1.length c1) l1) (h : section_Pack.f k a0 l1 = some (r1, r2)) :
    Calls Try.prog 42 #[.int .i64 a0, .slice A1 l1.length c1] w fun e w' => ∃ v0_ : Value, e = .returned (.tuple #[v0_, .bool r2]) ∧ Kd.R (Kd.int .u8) 5 w' w.heap.size (fun k_ => (w.heap.size ≤ k_)) v0_ r1 ∧ Below w.heap.size w w' := by
  have HO1 := Aside0.mk (show Kd.V (Kd.int .u8) 5 w w.heap.size (fun k_ => (P1_ k_ ∨ w.heap.size ≤ k_)) (.slice A1 l1.length c1) l1 from Kd.V_mono hs1 (fun k_ hk => .inl hk))
  have HB := Aside0.mk (Below.refl w.heap.size w)
  have H : (if a0 < 0 then (section_Pack.j0 k a0 l1 true) else (if a0 ≥ 10 then (section_Pack.j0 k a0 l1 true) else (section_Pack.j0 k a0 l1 (decide ((l1.length : Int) > 100000))))) = some (r1, r2) := h
  clear h
  have HC3 := Aside0.mk H
  clear H
  go_enter Try.func42, Try.ntmps42
  go_upto_region 1 with (fail)
  go_cut [17] (fun v17 wc => ∃ (kq : Nat) (x17_2 : Bool), v17 = .bool x17_2 ∧ Aside0 (section_Pack.j0 kq a0 l1 x17_2 = some (r1, r2)) ∧ Aside0 (kq ≤ k) ∧ Aside0 (Kd.V (Kd.int .u8) 5 wc w.heap.size (fun k_ => (P1_ k_ ∨ w.heap.size ≤ k_)) (.slice A1 l1.length c1) l1) ∧ Aside0 (Below w.heap.size w wc))
  case first =>
    have H := HC3.out
    clear HC3
    by_cases c4 : a0 < 0
    · rw [if_pos c4] at H
      have c4b0 : decide (a0 < 0) = true := decide_eq_true c4
      clear c4
      (first | rw [c4b0] | (simp only [i64_w, i32_w]; rw [c4b0]) | skip)
      have H' := Aside0.mk H
      clear H
      go_wp2
      go_meet
      case rel => exact ⟨_, (true), (by first | rfl | (simp; done) | (simp [*]; done)), H', ⟨by first | omega | exact Nat.le_refl _⟩, ⟨by (with_reducible repeat (first | apply Kd.V_alloc | apply Kd.V_drewN | apply Kd.V_drew)); exact HO1.out⟩, ⟨by repeat (first | (with_reducible first | exact HB.out | apply below_alloc | apply pw_below_drewN | apply below_drew1) | exact HB.out)⟩⟩
    · rw [if_neg c4] at H
      have c4b0 : decide (a0 < 0) = false := decide_eq_false c4
      clear c4
      (first | rw [c4b0] | (simp only [i64_w, i32_w]; rw [c4b0]) | skip)
      by_cases c5 : a0 ≥ 10
      · rw [if_pos c5] at H
        have c5b0 : decide (10 ≤ a0) = true := decide_eq_true c5
        clear c5
        have H' := Aside0.mk H
        clear H
        go_wp2
        go_meet
        case rel => exact ⟨_, (true), (by first | rfl | (simp; done) | (simp [*]; done)), H', ⟨by first | omega | exact Nat.le_refl _⟩, ⟨by (with_reducible repeat (first | apply Kd.V_alloc | apply Kd.V_drewN | apply Kd.V_drew)); exact HO1.out⟩, ⟨by repeat (first | (with_reducible first | exact HB.out | apply below_alloc | apply pw_below_drewN | apply below_drew1) | exact HB.out)⟩⟩
      · rw [if_neg c5] at H
        have c5b0 : decide (10 ≤ a0) = false := decide_eq_false c5
        clear c5
        have H' := Aside0.mk H
        clear H
        go_wp2
        go_meet
        case rel => exact ⟨_, (decide ((l1.length : Int) > 100000)), (by first | rfl | (simp; done) | (simp [*]; done)), H', ⟨by first | omega | exact Nat.le_refl _⟩, ⟨by (with_reducible repeat (first | apply Kd.V_alloc | apply Kd.V_drewN | apply Kd.V_drew)); exact HO1.out⟩, ⟨by repeat (first | (with_reducible first | exact HB.out | apply below_alloc | apply pw_below_drewN | apply below_drew1) | exact HB.out)⟩⟩
  case rest =>
    clear HC3
    try clear c1
    try clear p2
    try clear c4
    try clear c4b0
    try clear c5
    try clear c5b0
    obtain ⟨kq, x17_2, rfl, HA, HJ2, HO_1, HB⟩ := hcut
    cases kq with
    | zero => exact absurd HA.out (by simp [section_Pack.j0])
    | succ kj2 =>
      have H := HA.out
      clear HA
      simp only [section_Pack.j0] at H
      by_cases c6 : x17_2 = true
      · subst c6
        have H1 : (some (([] : List Int), false)) = some (r1, r2) := by rw [if_pos rfl] at H; exact H
        clear H
        have H := H1
        clear H1
        simp only [Option.some.injEq, Prod.mk.injEq] at H
        obtain ⟨rfl, rfl⟩ := H
        go_wp2
        go_ret2
        exact ⟨_, by first | rfl | (simp [errW_none, errW_some] <;> rfl) | (simp [*, errW_none, errW_some] <;> rfl), by first | exact Kd.R_nil _ _ _ _ _ | exact Kd.N_nil _ _ _ _ _ | exact Kd.V_nil _ _ _ _ _ | exact Kd.Q_nil _ _ _ _ _ | exact Kd.S_nil _ _ _ _ _, by repeat (first | (with_reducible first | exact HB.out | apply below_alloc | apply pw_below_drewN | apply below_drew1) | exact HB.out)⟩
      · replace c6 := Bool.eq_false_iff.mpr c6
        subst c6
        have H1 : ((wire_Put.f kj2 (IntKind.u64.wrap ((l1.length : Int)))).bind fun t162 => ((slices_Concat_byte_byte.f kj2 (([(([(a0) % 256] : List Int)), t162, l1] : List (List Int)))).bind fun t168 => ((section_Sum.f kj2 t168).bind fun t171 => ((wire_Word.f kj2 t171).bind fun t172 => (if t168.length + t172.length < 140737488355328 then (some ((t168 ++ t172), true)) else (none)))))) = some (r1, r2) := by rw [if_neg (show ¬ (false = true) by decide)] at H; exact H
        clear H
        have H := H1
        clear H1
        obtain ⟨y159, hy159⟩ : ∃ y_ : List Int, y_ = (([(a0) % 256] : List Int)) := ⟨_, rfl⟩
        replace H : ((wire_Put.f kj2 (IntKind.u64.wrap ((l1.length : Int)))).bind fun t162 => ((slices_Concat_byte_byte.f kj2 (([y159, t162, l1] : List (List Int)))).bind fun t168 => ((section_Sum.f kj2 t168).bind fun t171 => ((wire_Word.f kj2 t171).bind fun t172 => (if t168.length + t172.length < 140737488355328 then (some ((t168 ++ t172), true)) else (none)))))) = some (r1, r2) := by first | (rw [hy159]; with_reducible exact H) | (have H2_ := (Option.bind_some _ _).symm.trans H; rw [hy159]; with_reducible exact H2_) | (have H2_ := (Option.bind_some _ _).symm.trans H; with_reducible exact H2_) | with_reducible exact H | (rw [hy159]; exact H) | exact H
        have Ny159 := Aside0.mk hy159
        clear hy159
        replace H := Option.bind_eq_some_iff.mp H
        obtain ⟨t162, A70, H⟩ := H
        replace H : ((slices_Concat_byte_byte.f kj2 (([y159, t162, l1] : List (List Int)))).bind fun t168 => ((section_Sum.f kj2 t168).bind fun t171 => ((wire_Word.f kj2 t171).bind fun t172 => (if t168.length + t172.length < 140737488355328 then (some ((t168 ++ t172), true)) else (none))))) = some (r1, r2) := H
        have A7 := Aside0.mk A70
        clear A70
        obtain ⟨y165, hy165⟩ : ∃ y_ : List (List Int), y_ = (([y159, t162, l1] : List (List Int))) := ⟨_, rfl⟩
        replace H : ((slices_Concat_byte_byte.f kj2 y165).bind fun t168 => ((section_Sum.f kj2 t168).bind fun t171 => ((wire_Word.f kj2 t171).bind fun t172 => (if t168.length + t172.length < 140737488355328 then (some ((t168 ++ t172), true)) else (none))))) = some (r1, r2) := by first | (rw [hy165]; with_reducible exact H) | (have H2_ := (Option.bind_some _ _).symm.trans H; rw [hy165]; with_reducible exact H2_) | (have H2_ := (Option.bind_some _ _).symm.trans H; with_reducible exact H2_) | with_reducible exact H | (rw [hy165]; exact H) | exact H
        have Ny165 := Aside0.mk hy165
        clear hy165
        replace H := Option.bind_eq_some_iff.mp H
        obtain ⟨t168, A80, H⟩ := H
        replace H : ((section_Sum.f kj2 t168).bind fun t171 => ((wire_Word.f kj2 t171).bind fun t172 => (if t168.length + t172.length < 140737488355328 then (some ((t168 ++ t172), true)) else (none)))) = some (r1, r2) := H
        have A8 := Aside0.mk A80
        clear A80
        replace H := Option.bind_eq_some_iff.mp H
        obtain ⟨t171, A90, H⟩ := H
        replace H : ((wire_Word.f kj2 t171).bind fun t172 => (if t168.length + t172.length < 140737488355328 then (some ((t168 ++ t172), true)) else (none))) = some (r1, r2) := H
        have A9 := Aside0.mk A90
        clear A90
        replace H := Option.bind_eq_some_iff.mp H
        obtain ⟨t172, A100, H⟩ := H
        replace H : (if t168.length + t172.length < 140737488355328 then (some ((t168 ++ t172), true)) else (none)) = some (r1, r2) := H
        have A10 := Aside0.mk A100
        clear A100
        by_cases c11 : t168.length + t172.length < 140737488355328
        · rw [if_pos c11] at H
          have LMc11 := Aside0.mk c11
          clear c11
          obtain ⟨y175, hy175⟩ : ∃ y_ : List Int, y_ = (t168 ++ t172) := ⟨_, rfl⟩
          replace H : (some (y175, true)) = some (r1, r2) := by first | (rw [hy175]; with_reducible exact H) | (have H2_ := (Option.bind_some _ _).symm.trans H; rw [hy175]; with_reducible exact H2_) | (have H2_ := (Option.bind_some _ _).symm.trans H; with_reducible exact H2_) | with_reducible exact H | (rw [hy175]; exact H) | exact H
          have Ny175 := Aside0.mk hy175
          clear hy175
          simp only [Option.some.injEq, Prod.mk.injEq] at H
          obtain ⟨rfl, rfl⟩ := H
          go_wp2_with (first | ((with_reducible refine gate_dst (N := 20) rfl ?_); (try (refine gate_guard (by rfl) ?_; dsimp only)); refine Kd.R_lit (Kd.int .u8) _ 5 ?hg (N := 20) ?hd (xs := ([(a0) % 256] : List Int)) (inner := [.int .u8 ((a0) % 256)]) (ok := fun _ => True) (okp := fun _ => True) ?hr ?hp (fun _ hk => hk) trivial (Below.refl _ _) (Nat.le_refl _) (by simp) ?_; (case hd => rfl); (case hg => rfl); (case hr => first | (go_simp; done) | (go_simp; rfl)); (case hp => exact (Reps.one (show Kd.M (Kd.int .u8) _ _ _ ((a0) % 256) [.int .u8 ((a0) % 256)] from rfl) (Reps.none _ _))); intro v160 w12 ho13 hb hg_ hnew_; clear hg_ hnew_; (first | rw [← Ny159.out] at ho13 | (simp only [Int.reduceToNat] at ho13; rw [← Ny159.out] at ho13)); have n0_ := Aside0.mk (Kd.V_elder' (by (with_reducible repeat (first | apply Kd.V_alloc | apply Kd.V_drewN | apply Kd.V_drew)); exact HO_1.out) (Kd.R_base ho13) hb); have n1_ := Aside0.mk (Kd.R_lower (Kd.R_newM (M := fun k_ => (w.heap.size ≤ k_)) ho13 (below_size (by repeat (first | (with_reducible first | exact HB.out | apply below_alloc | apply pw_below_drewN | apply below_drew1) | exact HB.out))) (fun k_ h_ => h_)) (below_size (by repeat (first | (with_reducible first | exact HB.out | apply below_alloc | apply pw_below_drewN | apply below_drew1) | exact HB.out)))); have n2_ := Aside0.mk (below_step (by repeat (first | (with_reducible first | exact HB.out | apply below_alloc | apply pw_below_drewN | apply below_drew1) | exact HB.out)) hb); clear HO_1; clear HB; have HO_1 := n0_; have HO161 := n1_; have HB := n2_; clear n0_ n1_ n2_; clear hb ho13) | ((with_reducible refine gate_callee (f := 84) rfl ?_); refine goesL_ (some 24) rfl rfl Try.func84 (by kernel_rfl) rfl #[.int .u64 (IntKind.u64.wrap ((l1.length : Int)))] rfl (by (try simp only [List.map_toArray, List.map_cons, List.map_nil]); first | done | rfl | (simp only [List.length_drop, List.length_take]; rfl)) ?_; (with_reducible refine (wire_Put.calls kj2 (IntKind.u64.wrap ((l1.length : Int))) t162 _ A7.out).mono ?_); rintro e w14 ⟨v163, rfl, ho0, hb⟩; refine ⟨_, rfl, ?_⟩; have n0_ := Aside0.mk (Kd.V_elder' (by (with_reducible repeat (first | apply Kd.V_alloc | apply Kd.V_drewN | apply Kd.V_drew)); exact HO_1.out) (Kd.R_base ho0) hb); have n1_ := Aside0.mk (Kd.R_elder' (by (with_reducible repeat (first | apply Kd.R_alloc | apply Kd.R_drewN | apply Kd.R_drew)); exact HO161.out) (Kd.R_base ho0) hb); have n2_ := Aside0.mk (Kd.R_lower (Kd.R_new' (Kd.R_newM (M := fun k_ => (w.heap.size ≤ k_)) ho0 (below_size (by repeat (first | (with_reducible first | exact HB.out | apply below_alloc | apply pw_below_drewN | apply below_drew1) | exact HB.out))) (fun k_ h_ => h_)) (Kd.R_lt (by (with_reducible repeat (first | apply Kd.R_alloc | apply Kd.R_drewN | apply Kd.R_drew)); exact HO161.out))) (below_size (by repeat (first | (with_reducible first | exact HB.out | apply below_alloc | apply pw_below_drewN | apply below_drew1) | exact HB.out)))); have n3_ := Aside0.mk (below_step (by repeat (first | (with_reducible first | exact HB.out | apply below_alloc | apply pw_below_drewN | apply below_drew1) | exact HB.out)) hb); clear HO_1; clear HO161; clear HB; have HO_1 := n0_; have HO161 := n1_; have HO164 := n2_; have HB := n3_; clear n0_ n1_ n2_ n3_; (try clear hb); (try clear hb2); (try clear hk); (try clear hi); (try clear ho0); obtain ⟨Ao15, co15, eo15⟩ := Kd.R_slice HO161.out; subst eo15; obtain ⟨Ao16, co16, eo16⟩ := Kd.R_slice HO164.out; subst eo16) | ((with_reducible refine gate_dst (N := 26) rfl ?_); (try (refine gate_guard (by rfl) ?_; dsimp only)); refine Kd.N_lit (Kd.slice 5 (Kd.int .u8)) _ 40 ?hg (N' := 26) ?hd (xs := ([y159, t162, l1] : List (List Int))) (inner := [.slice Ao15 y159.length co15, .slice Ao16 t162.length co16, .slice A1 l1.length c1]) (ok := (fun k_ => (P1_ k_ ∨ w.heap.size ≤ k_))) (okp := (fun k_ => (P1_ k_ ∨ w.heap.size ≤ k_))) ?hr ?hp (fun _ hk => hk) ((show ∀ k_, w14.heap.size ≤ k_ → (fun k_ => (P1_ k_ ∨ w.heap.size ≤ k_)) k_ from fun k_ hk => (.inr (Nat.le_trans (below_size (by repeat (first | (with_reducible first | exact HB.out | apply below_alloc | apply pw_below_drewN | apply below_drew1) | exact HB.out))) hk))) _ (Nat.le_refl _)) (Below.refl _ _) (Nat.le_refl _) (by simp) ?_; (case hd => rfl); (case hg => rfl); (case hr => first | (go_simp; done) | (go_simp; rfl)); (case hp => exact (Reps.one (show Kd.FK (Kd.slice 5 (Kd.int .u8)) _ _ y159 [.slice Ao15 y159.length co15] from (Kd.FK_slice_mk (Kd.R_reads' (Kd.R_mono (ok' := (fun k_ => (P1_ k_ ∨ w.heap.size ≤ k_))) (HO161.out) (fun k_ hk => (.inr (hk.1.1))))).2.1 (Kd.R_F (Kd.R_mono (ok' := (fun k_ => (P1_ k_ ∨ w.heap.size ≤ k_))) (HO161.out) (fun k_ hk => (.inr (hk.1.1))))))) (Reps.one (show Kd.FK (Kd.slice 5 (Kd.int .u8)) _ _ t162 [.slice Ao16 t162.length co16] from (Kd.FK_slice_mk (Kd.R_reads' (Kd.R_mono (ok' := (fun k_ => (P1_ k_ ∨ w.heap.size ≤ k_))) (HO164.out) (fun k_ hk => (.inr (hk.1.1))))).2.1 (Kd.R_F (Kd.R_mono (ok' := (fun k_ => (P1_ k_ ∨ w.heap.size ≤ k_))) (HO164.out) (fun k_ hk => (.inr (hk.1.1))))))) (Reps.one (show Kd.FK (Kd.slice 5 (Kd.int .u8)) _ _ l1 [.slice A1 l1.length c1] from (Kd.FK_slice_mk (Kd.V_reads' (Kd.V_mono (ok' := (fun k_ => (P1_ k_ ∨ w.heap.size ≤ k_))) (HO_1.out) (fun k_ hk => hk.1.1))).2.1 (Kd.V_F (Kd.V_mono (ok' := (fun k_ => (P1_ k_ ∨ w.heap.size ≤ k_))) (HO_1.out) (fun k_ hk => hk.1.1))))) (Reps.none _ _))))); intro v166 w17 ho18 hb hg_ hnew_; clear hg_ hnew_; (first | rw [← Ny165.out] at ho18 | (simp only [Int.reduceToNat] at ho18; rw [← Ny165.out] at ho18)); have n0_ := Aside0.mk (Kd.V_elder' (by (with_reducible repeat (first | apply Kd.V_alloc | apply Kd.V_drewN | apply Kd.V_drew)); exact HO_1.out) (Kd.N_base ho18) hb); have n1_ := Aside0.mk (Kd.N_lower ho18 (below_size (by repeat (first | (with_reducible first | exact HB.out | apply below_alloc | apply pw_below_drewN | apply below_drew1) | exact HB.out)))); have n2_ := Aside0.mk (below_step (by repeat (first | (with_reducible first | exact HB.out | apply below_alloc | apply pw_below_drewN | apply below_drew1) | exact HB.out)) hb); clear HO_1; clear HB; clear HO161; clear HO164; have HO_1 := n0_; have HO167 := n1_; have HB := n2_; clear n0_ n1_ n2_; clear hb ho18; obtain ⟨Ao19, co19, eo19⟩ := Kd.N_slice HO167.out; subst eo19) | ((with_reducible refine gate_callee (f := 83) rfl ?_); refine goesL_ (some 27) rfl rfl Try.func83 (by kernel_rfl) rfl #[.slice Ao19 y165.length co19] rfl (by (try simp only [List.map_toArray, List.map_cons, List.map_nil]); first | done | rfl | (simp only [List.length_drop, List.length_take]; rfl)) ?_; (with_reducible refine (slices_Concat_byte_byte.calls kj2 _ _ y165 t168 _ ?side1 ?side2 A8.out).mono ?_); (case side1 => repeat (first | exact (Kd.N_reads' HO167.out).2.2 | (with_reducible refine Kd.C_alloc ?_ _) | (with_reducible refine Kd.C_drewN ?_ _) | (with_reducible refine Kd.C_drew ?_))); (case side2 => exact (Kd.N_reads' HO167.out).2.1); rintro e w20 ⟨v169, rfl, ho0, hb⟩; refine ⟨_, rfl, ?_⟩; have n0_ := Aside0.mk (Kd.V_elder' (by (with_reducible repeat (first | apply Kd.V_alloc | apply Kd.V_drewN | apply Kd.V_drew)); exact HO_1.out) (Kd.R_base ho0) hb); have n1_ := Aside0.mk (Kd.N_elder' (by (with_reducible repeat (first | apply Kd.N_alloc | apply Kd.N_drewN | apply Kd.N_drew)); exact HO167.out) (Kd.R_base ho0) hb); have n2_ := Aside0.mk (Kd.R_lower (Kd.R_newM (M := fun k_ => (w.heap.size ≤ k_)) ho0 (below_size (by repeat (first | (with_reducible first | exact HB.out | apply below_alloc | apply pw_below_drewN | apply below_drew1) | exact HB.out))) (fun k_ h_ => h_)) (below_size (by repeat (first | (with_reducible first | exact HB.out | apply below_alloc | apply pw_below_drewN | apply below_drew1) | exact HB.out)))); have n3_ := Aside0.mk (below_step (by repeat (first | (with_reducible first | exact HB.out | apply below_alloc | apply pw_below_drewN | apply below_drew1) | exact HB.out)) hb); clear HO_1; clear HO167; clear HB; have HO_1 := n0_; have HO167 := n1_; have HO170 := n2_; have HB := n3_; clear n0_ n1_ n2_ n3_; (try clear hb); (try clear hb2); (try clear hk); (try clear hi); (try clear ho0); obtain ⟨Ao21, co21, eo21⟩ := Kd.R_slice HO170.out; subst eo21) | ((with_reducible refine gate_callee (f := 46) rfl ?_); refine goesL_ (some 30) rfl rfl Try.func46 (by kernel_rfl) rfl #[.slice Ao21 t168.length co21] rfl (by (try simp only [List.map_toArray, List.map_cons, List.map_nil]); first | done | rfl | (simp only [List.length_drop, List.length_take]; rfl)) ?_; (with_reducible refine (section_Sum.calls kj2 _ _ t168 t171 _ ?side1 ?side2 A9.out).mono ?_); (case side1 => repeat (first | exact (Kd.R_reads' HO170.out).2.2 | (with_reducible refine Kd.C_alloc ?_ _) | (with_reducible refine Kd.C_drewN ?_ _) | (with_reducible refine Kd.C_drew ?_))); (case side2 => exact (Kd.R_reads' HO170.out).2.1); rintro e w22 ⟨rfl, hb⟩; refine ⟨_, rfl, ?_⟩; have n0_ := Aside0.mk (Kd.V_below (by (with_reducible repeat (first | apply Kd.V_alloc | apply Kd.V_drewN | apply Kd.V_drew)); exact HO_1.out) hb); have n1_ := Aside0.mk (Kd.N_below (by (with_reducible repeat (first | apply Kd.N_alloc | apply Kd.N_drewN | apply Kd.N_drew)); exact HO167.out) hb); have n2_ := Aside0.mk (Kd.R_below (by (with_reducible repeat (first | apply Kd.R_alloc | apply Kd.R_drewN | apply Kd.R_drew)); exact HO170.out) hb); have n3_ := Aside0.mk (below_step (by repeat (first | (with_reducible first | exact HB.out | apply below_alloc | apply pw_below_drewN | apply below_drew1) | exact HB.out)) hb); clear HO_1; clear HO167; clear HO170; clear HB; have HO_1 := n0_; have HO167 := n1_; have HO170 := n2_; have HB := n3_; clear n0_ n1_ n2_ n3_; (try clear hb); (try clear hb2); (try clear hk); (try clear hi)) | ((with_reducible refine gate_callee (f := 85) rfl ?_); refine goesL_ (some 31) rfl rfl Try.func85 (by kernel_rfl) rfl #[.int .u32 t171] rfl (by (try simp only [List.map_toArray, List.map_cons, List.map_nil]); first | done | rfl | (simp only [List.length_drop, List.length_take]; rfl)) ?_; (with_reducible refine (wire_Word.calls kj2 t171 t172 _ A10.out).mono ?_); rintro e w23 ⟨v173, rfl, ho0, hb⟩; refine ⟨_, rfl, ?_⟩; have n0_ := Aside0.mk (Kd.V_elder' (by (with_reducible repeat (first | apply Kd.V_alloc | apply Kd.V_drewN | apply Kd.V_drew)); exact HO_1.out) (Kd.R_base ho0) hb); have n1_ := Aside0.mk (Kd.N_elder' (by (with_reducible repeat (first | apply Kd.N_alloc | apply Kd.N_drewN | apply Kd.N_drew)); exact HO167.out) (Kd.R_base ho0) hb); have n2_ := Aside0.mk (Kd.R_elder' (by (with_reducible repeat (first | apply Kd.R_alloc | apply Kd.R_drewN | apply Kd.R_drew)); exact HO170.out) (Kd.R_base ho0) hb); have n3_ := Aside0.mk (Kd.R_lower (Kd.R_new' (Kd.R_newM (M := fun k_ => (w.heap.size ≤ k_)) ho0 (below_size (by repeat (first | (with_reducible first | exact HB.out | apply below_alloc | apply pw_below_drewN | apply below_drew1) | exact HB.out))) (fun k_ h_ => h_)) (Kd.R_lt (by (with_reducible repeat (first | apply Kd.R_alloc | apply Kd.R_drewN | apply Kd.R_drew)); exact HO170.out))) (below_size (by repeat (first | (with_reducible first | exact HB.out | apply below_alloc | apply pw_below_drewN | apply below_drew1) | exact HB.out)))); have n4_ := Aside0.mk (below_step (by repeat (first | (with_reducible first | exact HB.out | apply below_alloc | apply pw_below_drewN | apply below_drew1) | exact HB.out)) hb); clear HO_1; clear HO167; clear HO170; clear HB; have HO_1 := n0_; have HO167 := n1_; have HO170 := n2_; have HO174 := n3_; have HB := n4_; clear n0_ n1_ n2_ n3_ n4_; (try clear hb); (try clear hb2); (try clear hk); (try clear hi); (try clear ho0); obtain ⟨Ao25, co25, eo25⟩ := Kd.R_slice HO174.out; subst eo25) | ((with_reducible refine gate_builtin (b := .append) (xs := #[.tmp 28, .tmp 31]) rfl ?_); (try (refine gate_guard (by rfl) ?_; dsimp only)); at_builtin; refine Kd.R_append_rows (Kd.int .u8) (w0 := w) w.heap.size rfl (.tmp 28) (.tmp 31) 40 5 (.int .u8 0) 1 rfl Try.underlying40 info5 rfl (by decide) (by omega) (.slice Ao21 t168.length co21) t168 t172 _ _ _ (fun k_ => (w.heap.size ≤ k_) ∧ some k_ ≠ (.slice Ao25 t172.length co25 : Value).ownBlock) (fun _ => False) rfl rfl ?aO ?aR (fun _ _ h => h) (fun _ h => h.elim) ?aF ?aB ?aS ?aL ?_; (case aR => repeat (first | exact (Kd.R_reads' HO174.out).2.2 | (with_reducible refine Kd.C_alloc ?_ _) | (with_reducible refine Kd.C_drewN ?_ _) | (with_reducible refine Kd.C_drew ?_))); (case aB => exact (by repeat (first | (with_reducible first | exact HB.out | apply below_alloc | apply pw_below_drewN | apply below_drew1) | exact HB.out))); (case aF => exact (fun k_ hk => ⟨(Nat.le_trans (below_size (by repeat (first | (with_reducible first | exact HB.out | apply below_alloc | apply pw_below_drewN | apply below_drew1) | exact HB.out))) hk), Kd.fresh' (Kd.R_lt (by (with_reducible repeat (first | apply Kd.R_alloc | apply Kd.R_drewN | apply Kd.R_drew)); exact HO174.out)) k_ hk⟩)); (case aO => exact (by (with_reducible repeat (first | apply Kd.R_alloc | apply Kd.R_drewN | apply Kd.R_drew)); exact Kd.R_mono HO170.out (fun _ hk => ⟨hk.1.1, hk.2⟩))); (case aS => exact (below_size (by repeat (first | (with_reducible first | exact HB.out | apply below_alloc | apply pw_below_drewN | apply below_drew1) | exact HB.out)))); (case aL => have := LMc11.out; omega); intro v176 w24 ho hb hg hat; rw [← Ny175.out] at ho; have n0_ := Aside0.mk (Kd.V_afterv (ok := (fun k_ => (P1_ k_ ∨ w.heap.size ≤ k_) ∧ some k_ ≠ (.slice Ao19 y165.length co19 : Value).ownBlock ∧ some k_ ≠ (.slice Ao25 t172.length co25 : Value).ownBlock)) (by (with_reducible repeat (first | apply Kd.V_alloc | apply Kd.V_drewN | apply Kd.V_drew)); exact Kd.V_mono HO_1.out (fun _ hk => ⟨⟨hk.1.1.1.1.1, ⟨hk.1.1.2, hk.2⟩⟩, hk.1.2⟩)) hg hat); have n1_ := Aside0.mk (Kd.N_afterv (ok := (fun k_ => (P1_ k_ ∨ w.heap.size ≤ k_) ∧ some k_ ≠ (.slice Ao25 t172.length co25 : Value).ownBlock)) (by (with_reducible repeat (first | apply Kd.N_alloc | apply Kd.N_drewN | apply Kd.N_drew)); exact Kd.N_mono HO167.out (fun _ hk => ⟨⟨hk.1.1, hk.2⟩, hk.1.2⟩)) hg hat); have n2_ := Aside0.mk (Kd.R_after (ok := (fun k_ => (w.heap.size ≤ k_))) (by (with_reducible repeat (first | apply Kd.R_alloc | apply Kd.R_drewN | apply Kd.R_drew)); exact Kd.R_mono HO174.out (fun _ hk => ⟨hk.1.1, hk.2⟩)) hg hat); have n3_ := Aside0.mk (hb); have n4_ := Aside0.mk (ho); clear HO_1; clear HO167; clear HO174; clear HB; clear HO170; have HO_1 := n0_; have HO167 := n1_; have HO174 := n2_; have HB := n3_; have HO177 := n4_; clear n0_ n1_ n2_ n3_ n4_; clear ho hb hg hat))
          go_ret2
          exact ⟨_, by first | rfl | (simp [errW_none, errW_some] <;> rfl) | (simp [*, errW_none, errW_some] <;> rfl), by (with_reducible repeat (first | apply Kd.R_alloc | apply Kd.R_drewN | apply Kd.R_drew)); exact Kd.R_mono HO177.out (fun _ hk => hk.1), by repeat (first | (with_reducible first | exact HB.out | apply below_alloc | apply pw_below_drewN | apply below_drew1) | exact HB.out)⟩
        · rw [if_neg c11] at H
          exact absurd H (by simp)

end Go.Proofs.Ytchaegfdcdlfaaa.X

/- Sections in plain lists: what is packed, and what is opened. -/
namespace Go.Proofs.Ytchaegfdcdlfaaa.X
set_option linter.unusedVariables false
set_option linter.unusedSimpArgs false
open Go.Proofs.Ytchaegfdcdlfaaa.Y (IsGet Bytes RdB four word put Put_eq Word_eq word_bytes word_length four_word put_range put_length put_length_pos isGet_put word_four)
open Go.RowKit Go.Proofs.YtchaegfdcdlfaaaW.PrintWords Go.Proofs.YtchaegfdcdlfaaaW.PrintLast Go.Proofs.YtchaegfdcdlfaaaW.PrintMore

/-- A section's bytes ahead of its check. -/
def headL (kind : Int) (b : List Int) : List Int := kind :: (put b.length ++ b)
def packL (kind : Int) (b : List Int) : List Int := headL kind b ++ word (crc (nats (headL kind b)))
theorem headL_byt {kind : Int} {b : List Int} (h0 : 0 ≤ kind) (h9 : kind ≤ 9) (hb : Bytes b) : Bytes (headL kind b) := fun x hx => by
  rcases List.mem_cons.1 hx with rfl | hx
  · omega
  · rcases List.mem_append.1 hx with hx | hx
    · exact put_range _ x hx
    · exact hb x hx
theorem packL_byt {kind : Int} {b : List Int} (h0 : 0 ≤ kind) (h9 : kind ≤ 9) (hb : Bytes b) : Bytes (packL kind b) := fun x hx => by
  rcases List.mem_append.1 hx with hx | hx
  · exact headL_byt h0 h9 hb x hx
  · exact word_bytes _ x hx
theorem headL_length (kind : Int) (b : List Int) : (headL kind b).length = 1 + (put b.length).length + b.length := by
  simp only [headL, List.length_cons, List.length_append]; omega
theorem packL_length (kind : Int) (b : List Int) : (packL kind b).length = 1 + (put b.length).length + b.length + 4 := by
  simp only [packL, List.length_append, headL_length, word_length]
theorem Pack_eq {kind : Int} {b : List Int} (h0 : 0 ≤ kind) (h9 : kind ≤ 9) (hb : Bytes b) (hl : b.length ≤ 100000) (k : Nat) (hk : 30 < k) : section_Pack.f k kind b = some (packL kind b, true) := by
  obtain ⟨k, rfl⟩ : ∃ k', k = k' + 1 := ⟨k - 1, by omega⟩
  have hp10 := put_length b.length (by omega)
  have hw : IntKind.u64.wrap (b.length : Int) = (b.length : Int) := Go.Proofs.Ytchaegfdcdlfaaa.Y.wraps_u64 _ (by omega) (by omega)
  have hfl : [[kind % 256], put b.length, b].flatten = headL kind b := by
    simp only [headL, List.flatten_cons, List.flatten_nil, List.append_nil]
    rw [Int.emod_eq_of_lt h0 (by omega)]
    rfl
  unfold section_Pack.f
  rw [if_neg (by omega), if_neg (by omega), decide_eq_false (by omega), section_Pack.j0, if_neg (by decide), hw, Put_eq b.length (by omega) k (by omega)]
  simp only [Option.bind_some]
  rw [Cat_eq k (by rw [hfl, headL_length]; omega) (by simp), hfl]
  simp only [Option.bind_some]
  rw [Sum2_eq k (headL_byt h0 h9 hb) (by rw [headL_length]; omega)]
  simp only [Option.bind_some]
  rw [show sumL (headL kind b) = ((crc (nats (headL kind b)) : Nat) : Int) from rfl, Word_eq _ k (by omega)]
  simp only [Option.bind_some]
  rw [if_pos (by rw [headL_length, word_length]; omega)]
  rfl
theorem Pack_none {kind : Int} {b : List Int} (h : kind < 0 ∨ 9 < kind ∨ 100000 < b.length) (k : Nat) (hk : 0 < k) : section_Pack.f k kind b = some ([], false) := by
  obtain ⟨k, rfl⟩ : ∃ k', k = k' + 1 := ⟨k - 1, by omega⟩
  have hj : ∀ x0 x1, section_Pack.j0 (k + 1) x0 x1 true = some ([], false) := fun x0 x1 => by rw [section_Pack.j0, if_pos rfl]
  unfold section_Pack.f
  by_cases h1 : kind < 0
  · rw [if_pos h1, hj]
  · rw [if_neg h1]
    by_cases h2 : kind ≥ 10
    · rw [if_pos h2, hj]
    · rw [if_neg h2, decide_eq_true (by omega), hj]
/-- What is packed is opened, whatever stands behind. -/
theorem open_pack {kind : Int} {b rest : List Int} (h0 : 0 ≤ kind) (h9 : kind ≤ 9) (hb : Bytes b) (hl : b.length ≤ 100000) (hr : Bytes rest) (hrl : rest.length ≤ 100000000) :
    openL (packL kind b ++ rest) = (kind, b, ((packL kind b).length : Int), 0) := by
  have hp10 := put_length b.length (by omega)
  have hH := headL_length kind b
  obtain ⟨q, hq⟩ : ∃ q, q = word (crc (nats (headL kind b))) := ⟨_, rfl⟩
  have hq4 : q.length = 4 := by rw [hq, word_length]
  have hL : packL kind b ++ rest = kind :: (put b.length ++ (b ++ (q ++ rest))) := by
    simp [packL, headL, hq]
  have hL2 : packL kind b ++ rest = headL kind b ++ (q ++ rest) := by simp [packL, hq]
  have hd : (packL kind b ++ rest).drop 1 = put b.length ++ (b ++ (q ++ rest)) := by rw [hL]; rfl
  have hby : Bytes (b ++ (q ++ rest)) := fun x hx => by
    rcases List.mem_append.1 hx with hx | hx
    · exact hb x hx
    · rcases List.mem_append.1 hx with hx | hx
      · rw [hq] at hx; exact word_bytes _ x hx
      · exact hr x hx
  have hg : getL ((packL kind b ++ rest).drop 1) = ((b.length : Int), ((put b.length).length : Int), true) := by
    rw [hd]
    refine getL_eq (fun x hx => ?_) ?_ (isGet_put b.length (by omega) _)
    · rcases List.mem_append.1 hx with hx | hx
      · exact put_range _ x hx
      · exact hby x hx
    · simp only [List.length_append, hq4]; omega
  have hlen : (packL kind b ++ rest).length = (headL kind b).length + 4 + rest.length := by rw [hL2]; simp only [List.length_append, hq4]; omega
  have hrd : rd (packL kind b ++ rest) 0 = kind := by rw [hL]; rfl
  have e1 : 1 + (put b.length).length + b.length = (headL kind b).length := by omega
  have ht : (packL kind b ++ rest).take (1 + (put b.length).length + b.length) = headL kind b := by rw [e1, hL2, List.take_left]
  have hm : ((packL kind b ++ rest).take (1 + (put b.length).length + b.length + 4)).drop (1 + (put b.length).length + b.length) = q := by
    rw [e1, List.drop_take, hL2, List.drop_left, show (headL kind b).length + 4 - (headL kind b).length = q.length by omega, List.take_left]
  have hx : (headL kind b).drop (1 + (put b.length).length) = b := by
    have : headL kind b = (kind :: put b.length) ++ b := by simp [headL]
    rw [this, show 1 + (put b.length).length = (kind :: put b.length).length by simp only [List.length_cons]; omega, List.drop_left]
  unfold openL openR
  rw [hg]
  simp only [Int.toNat_natCast]
  rw [hrd, if_neg (by rw [hlen]; omega), if_neg (by rw [hlen]; simp only [Bool.true_eq_false, false_or]; omega), ht, hm, if_neg, hx]
  · rw [packL_length]
  · rw [hq, four_word _ (crc_lt _)]
    intro h
    exact h rfl
end Go.Proofs.Ytchaegfdcdlfaaa.X

/- The example of layer 2, walked. -/
namespace Go.Proofs.Ytchaegfdcdlfaaa.X
set_option linter.unusedVariables false
set_option linter.unusedSimpArgs false
open Go.Proofs.Ytchaegfdcdlfaaa.Y (IsGet Bytes RdB rdb_below)
open Go.RowKit Go.Proofs.YtchaegfdcdlfaaaW.PrintWords Go.Proofs.YtchaegfdcdlfaaaW.PrintLast Go.Proofs.YtchaegfdcdlfaaaW.PrintMore

/-- A row that is read, as one that others may lead to. -/
theorem V_of_C {w : World} {b : Nat} {A : Option Addr} {c : Nat} {l : List Int} (h : Kd.C (Kd.int .u8) w A l.length l) (hc : l.length ≤ c) : Kd.V (Kd.int .u8) 5 w b (fun _ => True) (.slice A l.length c) l := by
  refine ⟨A, c, rfl, hc, fun W' hW => ⟨h.1, h.2.1, fun h0 => ?_⟩⟩
  obtain ⟨ad, e, hcell⟩ := h.2.2 h0
  refine ⟨ad, e, fun j p hj => ?_⟩
  obtain ⟨cs, h1, h2, h3⟩ := hcell j p hj
  refine ⟨cs, h1, h2, fun i u hi => ?_⟩
  have hx := h3 i u hi
  have hlt := World.block_lt_of_cell? w _ hx
  rw [← hx]
  have := hW _ trivial hlt
  simp only [World.cell?, this]
theorem pack_call2 (kind : Int) (A : Option Addr) (c : Nat) (l : List Int) (n : Nat) (hn : l.length = n) (w : World) (hr : RdB w A n l) (hc : n ≤ c) (h0 : 0 ≤ kind) (h9 : kind ≤ 9) (hb : Bytes l) (hl : n ≤ 100000) (p : List Int) (hp : packL kind l = p) (m : Nat) (hm : p.length = m) :
    Calls Try.prog 42 #[.int .i64 kind, .slice A n c] w fun e w' => ∃ A' c', e = .returned (.tuple #[.slice A' m c', .bool true]) ∧ m ≤ c' ∧ RdB w' A' m p ∧ Below w.heap.size w w' := by
  subst hn
  subst hm
  subst hp
  refine (section_Pack.calls 40 kind (fun _ => True) A c l _ _ w (V_of_C hr hc) (Pack_eq h0 h9 hb hl 40 (by omega))).mono ?_
  rintro e w' ⟨v, rfl, ho, hb2⟩
  obtain ⟨A', c', rfl, hc', hr'⟩ := Kd.R_reads ho
  exact ⟨A', c', rfl, hc', hr', hb2⟩
theorem open_call2 (A : Option Addr) (c : Nat) (l : List Int) (n : Nat) (hn : l.length = n) (w : World) (hr : RdB w A n l) (hc : n ≤ c) (hb : Bytes l) (hl : n ≤ 1000000000) (r : Int × List Int × Int × Int) (hq : openL l = r) :
    Calls Try.prog 44 #[.slice A n c] w fun e w' => ∃ A' c', e = .returned (.tuple #[.int .i64 r.1, .slice A' r.2.1.length c', .int .i64 r.2.2.1, .int .i64 r.2.2.2]) ∧ r.2.1.length ≤ c' ∧ RdB w' A' r.2.1.length r.2.1 ∧ Below w.heap.size w w' := by
  subst hn
  subst hq
  refine (sopen_call A c l w hr hc hb hl).mono ?_
  rintro e w' ⟨v, rfl, ho, hb2⟩
  obtain ⟨A', c', hv, hc', hr'⟩ := Kd.R_reads ho
  rw [hv]
  exact ⟨A', c', rfl, hc', hr', hb2⟩
theorem sum_call2 (A : Option Addr) (c : Nat) (l : List Int) (n : Nat) (hn : l.length = n) (w : World) (hr : RdB w A n l) (hb : Bytes l) (hl : n ≤ 1000000000) (x : Int) (hx : sumL l = x) :
    Calls Try.prog 46 #[.slice A n c] w fun e w' => e = .returned (.int .u32 x) ∧ Below w.heap.size w w' := by
  subst hn
  subst hx
  exact sum2_call A c l w hr hb (by omega)
/-- A literal's row, marked. -/
theorem rdb_lit (w : World) (l : List Int) (hl : l.length ≤ 1000) : RdB (w.alloc (.cells ((l.map (Value.int .u8)).toArray) 5 (l.length, l.length + 1))) (some ⟨w.heap.size, 0, none⟩) l.length l := by
  refine ⟨rfl, by omega, fun h0 => ⟨_, rfl, fun j p hj => ⟨[.int .u8 p], rfl, rfl, fun i u hi => ?_⟩⟩⟩
  have hi0 : i = 0 := by
    have := (List.getElem?_eq_some_iff.1 hi).1
    simpa using this
  subst hi0
  have hu : u = .int .u8 p := by simpa using hi.symm
  subst hu
  have hw : (w.alloc (.cells ((l.map (Value.int .u8)).toArray) 5 (l.length, l.length + 1))).heap[w.heap.size]? = some (.cells ((l.map (Value.int .u8)).toArray) 5 (l.length, l.length + 1)) := heap_alloc_new w _
  show World.cell? _ ((⟨w.heap.size, 0, none⟩ : Addr).add (j * 1 + 0)) = _
  have ha : (⟨w.heap.size, 0, none⟩ : Addr).add (j * 1 + 0) = ⟨w.heap.size, j, none⟩ := by
    unfold Addr.add
    by_cases h : j = 0 <;> simp [h]
  rw [ha]
  simp only [World.cell?, hw]
  simp [hj]
def lit9 : List Int := [49, 50, 51, 52, 53, 54, 55, 56, 57]
theorem sum_lit9 : sumL lit9 = 3421780262 := by decide +kernel
theorem small_bytes {l : List Int} (h : l.all (fun x => decide (0 ≤ x ∧ x ≤ 255)) = true) : Bytes l := fun x hx => by simpa using List.all_eq_true.1 h x hx
theorem pack_ab_length : (packL 3 [97, 98]).length = 8 := by
  rw [packL_length]
  have : Go.Proofs.Ytchaegfdcdlfaaa.Y.put 2 = [2] := by unfold Go.Proofs.Ytchaegfdcdlfaaa.Y.put; rw [if_pos (by decide)]; rfl
  show 1 + (Go.Proofs.Ytchaegfdcdlfaaa.Y.put 2).length + 2 + 4 = 8
  rw [this]
  rfl

set_option maxHeartbeats 2000000 in
set_option maxRecDepth 100000 in
theorem awake2_call (w : World) : Calls Try.prog 41 #[] w fun e w' => e = .returned (.bool true) ∧ Below w.heap.size w w' := by
  have kc := fun (w : World) (C : Array Value) (n c : Nat) => Go.Lib.run_convert_bytes_const (P := Try.prog) w 40 5 C n c Try.underlying40 Try.underlying5
  go_enter Try.func41, Try.ntmps41
  go_wp2_with fail
  obtain ⟨p, hp⟩ : ∃ p, packL 3 [97, 98] = p := ⟨_, rfl⟩
  have HPL : Aside0 (p.length = 8) := ⟨by rw [← hp]; exact pack_ab_length⟩
  have HPB : Aside0 (Bytes p) := ⟨by rw [← hp]; exact packL_byt (by decide) (by decide) (small_bytes (by decide))⟩
  have HPO : Aside0 (openL p = (3, [97, 98], 8, 0)) := ⟨by
    have h := open_pack (kind := 3) (b := [97, 98]) (rest := []) (by decide) (by decide) (small_bytes (by decide)) (by decide) (small_bytes (by decide)) (by decide)
    rw [List.append_nil, hp, HPL.out] at h
    exact h⟩
  have HP := Aside0.mk hp
  clear hp
  refine (pack_call2 3 _ _ [97, 98] 2 rfl _ (rdb_lit w [97, 98] (by decide)) (Nat.le_refl _) (by decide) (by decide) (small_bytes (by decide)) (by decide) p HP.out 8 HPL.out).mono ?_
  rintro e w1 ⟨A1, c1, rfl, hc1, hr1, hb1⟩
  have HB1 : Aside0 (Below w.heap.size w w1) := ⟨below_step (below_alloc (Below.refl _ _) _) hb1⟩
  have HR1 := Aside0.mk hr1
  clear hb1 hr1
  go_wp2_with fail
  refine (open_call2 A1 c1 p 8 HPL.out _ HR1.out hc1 HPB.out (by decide) (3, [97, 98], 8, 0) HPO.out).mono ?_
  rintro e w2 ⟨A2, c2, rfl, hc2, hr2, hb2⟩
  have HB2 := Aside0.mk (below_step HB1.out hb2)
  have HR2 := Aside0.mk hr2
  clear hb2 hr2
  go_wp2_with fail
  refine (sum_call2 _ _ lit9 9 rfl _ (rdb_lit w2 lit9 (by decide)) (small_bytes (by decide)) (by decide) 3421780262 sum_lit9).mono ?_
  rintro e w3 ⟨rfl, hb3⟩
  have HB3 := Aside0.mk (below_step (below_alloc HB2.out _) hb3)
  have hcv : (convert 40 9 (.slice A2 2 c2)).run Try.prog w3 = .ok (.string (strOfNums [97, 98])) w3 := Go.Proofs.Ytchaegfdcdlfaaa.Y.conv0 (rdb_below (rdb_below HR2.out (below_alloc (Below.refl _ _) _)) hb3) c2
  have hst : (strOfNums [97, 98]).toList = [97, 98] := by decide +kernel
  clear hb3
  go_wp2_with fail
  go_ret
  exact ⟨rfl, HB3.out⟩

/-- In the printed form. -/
def rolodexlaw02_awake.f (k : Nat) : Option Bool := some true
theorem rolodexlaw02_awake.mono : ∀ k, LeO (rolodexlaw02_awake.f k) (rolodexlaw02_awake.f (k + 1)) := fun _ => LeO.refl _
theorem rolodexlaw02_awake.calls (k : Nat) (r : Bool) (w : World) (h : rolodexlaw02_awake.f k = some r) :
    Calls Try.prog 41 #[] w fun e w' => e = .returned (.bool r) ∧ Below w.heap.size w w' := by
  obtain rfl : true = r := Option.some.inj h
  exact awake2_call w
end Go.Proofs.Ytchaegfdcdlfaaa.X

/- Sections in plain lists: what is changed, or cut, is none. -/
namespace Go.Proofs.Ytchaegfdcdlfaaa.X
set_option linter.unusedVariables false
set_option linter.unusedSimpArgs false
open Go.Proofs.Ytchaegfdcdlfaaa.Y (IsGet Bytes RdB four word put Put_eq Word_eq word_bytes word_length four_word put_range put_length put_length_pos isGet_put word_four more more_small put_unique)
open Go.RowKit Go.Proofs.YtchaegfdcdlfaaaW.PrintWords Go.Proofs.YtchaegfdcdlfaaaW.PrintLast Go.Proofs.YtchaegfdcdlfaaaW.PrintMore

theorem byt_app {l m : List Int} (h : Bytes l) (h2 : Bytes m) : Bytes (l ++ m) := fun x hx => (List.mem_append.1 hx).elim (h x) (h2 x)
theorem byt_set {l : List Int} (h : Bytes l) (i : Nat) {c : Int} (h0 : 0 ≤ c) (h1 : c ≤ 255) : Bytes (l.set i c) := fun x hx => by
  rcases List.mem_or_eq_of_mem_set hx with hx | rfl
  · exact h x hx
  · exact ⟨h0, h1⟩
theorem put_len1 {n : Nat} (h : n < 128) : (put n).length = 1 := by
  unfold put; rw [if_pos h]; rfl
theorem put_len2 {n : Nat} (h : 128 ≤ n) (h2 : n < 16384) : (put n).length = 2 := by
  unfold put; rw [if_neg (by omega), more_small (by omega)]; rfl
/-- Another check than that of the bytes. -/
theorem open_bad {kind : Int} {b q : List Int} (h0 : 0 ≤ kind) (h9 : kind ≤ 9) (hb : Bytes b) (hl : b.length ≤ 100000) (hq : Bytes q) (hq4 : q.length = 4) (hne : (four q : Int) ≠ sumL (headL kind b)) :
    openL (headL kind b ++ q) = (0, [], 0, 3) := by
  have hp10 := put_length b.length (by omega)
  have hH := headL_length kind b
  have hd : (headL kind b ++ q).drop 1 = put b.length ++ (b ++ q) := by simp [headL]
  have hg : getL ((headL kind b ++ q).drop 1) = ((b.length : Int), ((put b.length).length : Int), true) := by
    rw [hd]
    refine getL_eq (byt_app (put_range _) (byt_app hb hq)) ?_ (isGet_put b.length (by omega) _)
    simp only [List.length_append, hq4]; omega
  have hlen : (headL kind b ++ q).length = (headL kind b).length + 4 := by rw [List.length_append, hq4]
  have hrd : rd (headL kind b ++ q) 0 = kind := rfl
  have e1 : 1 + (put b.length).length + b.length = (headL kind b).length := by omega
  have ht : (headL kind b ++ q).take (1 + (put b.length).length + b.length) = headL kind b := by rw [e1, List.take_left]
  have hm : ((headL kind b ++ q).take (1 + (put b.length).length + b.length + 4)).drop (1 + (put b.length).length + b.length) = q := by
    rw [e1, List.drop_take, List.drop_left, show (headL kind b).length + 4 - (headL kind b).length = q.length by omega, List.take_length]
  unfold openL openR
  rw [hg]
  simp only [Int.toNat_natCast]
  rw [hrd, if_neg (by rw [hlen]; omega), if_neg (by rw [hlen]; simp only [Bool.true_eq_false, false_or]; omega), ht, hm, if_pos hne]
theorem open_kind {l : List Int} (h : 10 ≤ rd l 0) : openL l = (0, [], 0, 2) := by
  unfold openL openR
  rw [if_pos (Or.inr h)]
/-- A beginning of a section is none. -/
theorem open_cut {kind : Int} {b : List Int} (h0 : 0 ≤ kind) (h9 : kind ≤ 9) (hb : Bytes b) (hl : b.length ≤ 100000) (i : Nat) (hi : i < (packL kind b).length) : openL ((packL kind b).take i) = (0, [], 0, 2) := by
  have hp10 := put_length b.length (by omega)
  rw [packL_length] at hi
  have hlen : ((packL kind b).take i).length = i := by rw [List.length_take, packL_length]; omega
  have hby : Bytes ((packL kind b).take i) := fun x hx => packL_byt h0 h9 hb x (List.mem_of_mem_take hx)
  unfold openL openR
  by_cases hi0 : i = 0
  · rw [if_pos (Or.inl (by omega))]
  · have hrd : rd ((packL kind b).take i) 0 = kind := by
      obtain ⟨j, rfl⟩ : ∃ j, i = j + 1 := ⟨i - 1, by omega⟩
      rfl
    rw [hrd, if_neg (by omega)]
    have hd : ((packL kind b).take i).drop 1 = (put b.length ++ (b ++ word (crc (nats (headL kind b))))).take (i - 1) := by
      obtain ⟨j, rfl⟩ : ∃ j, i = j + 1 := ⟨i - 1, by omega⟩
      simp [packL, headL]
    have hdb : Bytes (((packL kind b).take i).drop 1) := drop_bytes hby 1
    have hdl : (((packL kind b).take i).drop 1).length ≤ 1000000000 := by rw [List.length_drop, hlen]; omega
    by_cases hs : i - 1 < (put b.length).length
    · have hg : getL (((packL kind b).take i).drop 1) = (0, 0, false) := by
        refine getL_eq hdb hdl (Or.inr ⟨fun m hm hp => ?_, rfl⟩)
        rw [hd] at hp
        have h1 : put m <+: put b.length ++ (b ++ word (crc (nats (headL kind b)))) := hp.trans (List.take_prefix _ _)
        have h2 := put_unique h1 (List.prefix_append (put b.length) _)
        subst h2
        have := hp.length_le
        rw [List.length_take] at this
        omega
      rw [hg, if_pos (Or.inl rfl)]
    · have hg : getL (((packL kind b).take i).drop 1) = ((b.length : Int), ((put b.length).length : Int), true) := by
        refine getL_eq hdb hdl (Or.inl ⟨b.length, by omega, ?_, rfl⟩)
        rw [hd, List.take_append]
        rw [List.take_of_length_le (by omega)]
        exact List.prefix_append _ _
      rw [hg, if_pos (Or.inr (Or.inr (by rw [hlen]; show (i : Int) < 1 + ((put b.length).length : Int) + (b.length : Int) + 4; omega)))]
theorem bytes_of_lits {l : List Int} (h : ∀ x ∈ l, (Lit.int .u8 x).wf = true) : Bytes l := Go.Proofs.Ytchaegfdcdlfaaa.Y.bytes_of_wf h
theorem byte_of_lit {x : Int} (h : (Lit.int .u8 x).wf = true) : 0 ≤ x ∧ x ≤ 255 := bytes_of_lits (l := [x]) (fun y hy => by rw [List.mem_singleton.1 hy]; exact h) x (by simp)
theorem i64_of_lit {x : Int} (h : (Lit.int .i64 x).wf = true) : -9223372036854775808 ≤ x ∧ x ≤ 9223372036854775807 := by
  simp only [Lit.wf, IntKind.min, IntKind.max, IntKind.bits, IntKind.signed, Bool.and_eq_true, decide_eq_true_eq] at h
  simp at h
  exact h
end Go.Proofs.Ytchaegfdcdlfaaa.X

/- What a function leads to, reckoned with little fuel: for the closed facts of a row in a large program. -/
namespace Go.Proofs.Ytchaegfdcdlfaaa.J
open Go

/-- The list of what a function leads to; none where the fuel does not do. -/
def closT (P : Program) : (fuel : Nat) → (todo seen : List FuncId) → Option (List FuncId)
  | 0, _, _ => none
  | _ + 1, [], seen => some seen.reverse
  | n + 1, f :: todo, seen => if seen.contains f then closT P n todo seen else closT P n ((P.funcs[f]?).elim [] P.leadsTo ++ todo) (f :: seen)
theorem closT_via (P : Program) : ∀ (n N : Nat) (todo seen r : List FuncId), closT P n todo seen = some r → n ≤ N → P.closureVia N todo seen = r
  | 0, _, _, _, _, h, _ => by simp [closT] at h
  | n + 1, N, [], seen, r, h, hn => by
    obtain ⟨N, rfl⟩ : ∃ M, N = M + 1 := ⟨N - 1, by omega⟩
    have h2 : some seen.reverse = some r := h
    exact Option.some.inj h2
  | n + 1, N, f :: todo, seen, r, h, hn => by
    obtain ⟨N, rfl⟩ : ∃ M, N = M + 1 := ⟨N - 1, by omega⟩
    rw [closT] at h
    rw [Program.closureVia]
    split at h
    · rename_i hs
      rw [if_pos hs]
      exact closT_via P n N todo seen r h (by omega)
    · rename_i hs
      rw [if_neg hs]
      exact closT_via P n N _ _ r h (by omega)
theorem sum_ge {α : Type} (g : α → Nat) : ∀ l : List α, l.length ≤ (l.map fun x => g x + 1).sum
  | [] => by simp
  | x :: l => by
    have := sum_ge g l
    simp only [List.length_cons, List.map_cons, List.sum_cons]
    omega
theorem clos_eq {P : Program} {f n : Nat} (hn : n ≤ 1 + P.funcs.size) (h : (closT P n [f] []).isSome = true) : P.closure f = (closT P n [f] []).getD [] := by
  obtain ⟨r, hr⟩ := Option.isSome_iff_exists.1 h
  have hs := sum_ge (fun g => (P.leadsTo g).length) P.funcs.toList
  rw [Array.length_toList] at hs
  unfold Program.closure
  rw [closT_via P n _ [f] [] r hr (by omega), hr]
  rfl
/-- None of what it leads to leads back. -/
def backT (P : Program) (n : Nat) (L : List FuncId) : Bool := L.any fun g => ((P.funcs[g]?).elim [] P.leadsTo).any fun h => match closT P n [h] [] with | some r => r.contains g | none => true
theorem no_back {P : Program} {n : Nat} (hn : n ≤ 1 + P.funcs.size) {L : List FuncId} (h : backT P n L = false) : (L.any fun g => ((P.funcs[g]?).elim [] P.leadsTo).any fun h => (P.closure h).contains g) = false := by
  rw [List.any_eq_false]
  intro g hg
  have h1 := List.any_eq_false.1 h g hg
  intro h2
  apply h1
  rw [List.any_eq_true] at h2 ⊢
  obtain ⟨x, hx, hc⟩ := h2
  refine ⟨x, hx, ?_⟩
  cases hq : closT P n [x] [] with
  | none => rfl
  | some r =>
    rw [clos_eq hn (f := x) (by rw [hq]; rfl), hq] at hc
    exact hc
end Go.Proofs.Ytchaegfdcdlfaaa.J

/- The head words of the dump: the first three, whatever follows. -/
namespace Go.Proofs.Ytchaegfdcdlfaaa.J
set_option linter.unusedVariables false
set_option linter.unusedSimpArgs false
open Go
def hC : List Nat := [104, 97, 114, 110, 101, 115, 115]
def sC : List Nat := [101, 101, 101, 97, 99, 57, 48, 51, 52, 50, 99, 101, 98, 57, 52, 56, 52, 97, 97, 101, 99, 49, 54, 55, 97, 55, 99, 55, 53, 101, 48, 52, 54, 97, 97, 101, 57, 56, 55, 100, 101, 51, 55, 53, 99, 54, 48, 57, 97, 97, 51, 49, 97, 52, 50, 101, 53, 98, 100, 98, 100, 53, 48, 53]
def cC : List Nat := [99, 117, 116]
def rC : List Nat := [97, 116, 32, 114, 111, 108, 111, 100, 101, 120, 47, 114, 111, 108, 111, 100, 101, 120, 108, 97, 119, 49, 48, 46, 83, 105, 103, 110, 84, 101, 108, 108, 115, 32, 114, 111, 108, 111, 100, 101, 120, 47, 114, 111, 108, 111, 100, 101, 120, 108, 97, 119, 49, 48, 46, 83, 105, 103, 110, 70, 105, 110, 100, 115, 32, 114, 111, 108, 111, 100, 101, 120, 47, 114, 111, 108, 111, 100, 101, 120, 108, 97, 119, 49, 48, 46, 83, 105, 103, 110, 77, 97, 110, 121, 32, 114, 111, 108, 111, 100, 101, 120, 47, 114, 111, 108, 111, 100, 101, 120, 108, 97, 119, 49, 48, 46, 83, 105, 103, 110, 78, 111, 110, 101, 32, 114, 111, 108, 111, 100, 101, 120, 47, 114, 111, 108, 111, 100, 101, 120, 108, 97, 119, 49, 48, 46, 83, 105, 103, 110, 74, 111, 105, 110, 32, 114, 111, 108, 111, 100, 101, 120, 47, 114, 111, 108, 111, 100, 101, 120, 108, 97, 119, 48, 50, 46, 83, 101, 99, 116, 105, 111, 110, 84, 101, 108, 108, 115, 32, 114, 111, 108, 111, 100, 101, 120, 47, 114, 111, 108, 111, 100, 101, 120, 108, 97, 119, 48, 50, 46, 83, 101, 99, 116, 105, 111, 110, 66, 97, 99, 107, 32, 114, 111, 108, 111, 100, 101, 120, 47, 114, 111, 108, 111, 100, 101, 120, 108, 97, 119, 48, 50, 46, 83, 101, 99, 116, 105, 111, 110, 79, 110, 101, 32, 114, 111, 108, 111, 100, 101, 120, 47, 114, 111, 108, 111, 100, 101, 120, 108, 97, 119, 48, 50, 46, 83, 101, 99, 116, 105, 111, 110, 67, 117, 116, 32, 114, 111, 108, 111, 100, 101, 120, 47, 114, 111, 108, 111, 100, 101, 120, 108, 97, 119, 48, 50, 46, 83, 101, 99, 116, 105, 111, 110, 83, 117, 109, 115, 32, 114, 111, 108, 111, 100, 101, 120, 47, 114, 111, 108, 111, 100, 101, 120, 108, 97, 119, 48, 50, 46, 83, 101, 99, 116, 105, 111, 110, 80, 97, 114, 116, 115, 32, 114, 111, 108, 111, 100, 101, 120, 47, 114, 111, 108, 111, 100, 101, 120, 108, 97, 119, 48, 50, 46, 83, 101, 99, 116, 105, 111, 110, 76, 111, 110, 103, 32, 114, 111, 108, 111, 100, 101, 120, 47, 114, 111, 108, 111, 100, 101, 120, 108, 97, 119, 49, 49, 46, 68, 101, 108, 116, 97, 66, 121, 116, 101, 115, 32, 114, 111, 108, 111, 100, 101, 120, 47, 114, 111, 108, 111, 100, 101, 120, 108, 97, 119, 49, 49, 46, 68, 101, 108, 116, 97, 77, 97, 107, 101, 115, 32, 114, 111, 108, 111, 100, 101, 120, 47, 114, 111, 108, 111, 100, 101, 120, 108, 97, 119, 49, 49, 46, 68, 101, 108, 116, 97, 80, 97, 114, 116, 115, 32, 114, 111, 108, 111, 100, 101, 120, 47, 114, 111, 108, 111, 100, 101, 120, 108, 97, 119, 49, 49, 46, 68, 101, 108, 116, 97, 79, 119, 110, 32, 114, 111, 108, 111, 100, 101, 120, 47, 114, 111, 108, 111, 100, 101, 120, 108, 97, 119, 49, 49, 46, 68, 101, 108, 116, 97, 76, 101, 97, 115, 116, 32, 114, 111, 108, 111, 100, 101, 120, 47, 114, 111, 108, 111, 100, 101, 120, 108, 97, 119, 49, 49, 46, 68, 101, 108, 116, 97, 78, 111, 110, 101, 32, 114, 111, 108, 111, 100, 101, 120, 47, 114, 111, 108, 111, 100, 101, 120, 108, 97, 119, 49, 49, 46, 68, 101, 108, 116, 97, 84, 101, 108, 108, 115, 32, 114, 111, 108, 111, 100, 101, 120, 47, 114, 111, 108, 111, 100, 101, 120, 108, 97, 119, 49, 49, 46, 68, 101, 108, 116, 97, 66, 97, 99, 107, 32, 114, 111, 108, 111, 100, 101, 120, 47, 114, 111, 108, 111, 100, 101, 120, 108, 97, 119, 49, 51, 46, 77, 97, 110, 105, 99, 66, 97, 99, 107, 32, 114, 111, 108, 111, 100, 101, 120, 47, 114, 111, 108, 111, 100, 101, 120, 108, 97, 119, 49, 51, 46, 77, 97, 110, 105, 99, 67, 104, 97, 110, 103, 101, 100, 32, 114, 111, 108, 111, 100, 101, 120, 47, 114, 111, 108, 111, 100, 101, 120, 108, 97, 119, 49, 51, 46, 77, 97, 110, 105, 99, 65, 108, 111, 110, 101, 32, 114, 111, 108, 111, 100, 101, 120, 47, 114, 111, 108, 111, 100, 101, 120, 108, 97, 119, 49, 56, 46, 67, 111, 100, 101, 66, 97, 99, 107, 32, 114, 111, 108, 111, 100, 101, 120, 47, 114, 111, 108, 111, 100, 101, 120, 108, 97, 119, 49, 56, 46, 67, 111, 100, 101, 67, 104, 97, 110, 103, 101, 100, 32, 114, 111, 108, 111, 100, 101, 120, 47, 114, 111, 108, 111, 100, 101, 120, 108, 97, 119, 49, 56, 46, 67, 111, 100, 101, 68, 105, 99, 116, 32, 114, 111, 108, 111, 100, 101, 120, 47, 114, 111, 108, 111, 100, 101, 120, 108, 97, 119, 49, 56, 46, 67, 111, 100, 101, 66, 97, 116, 99, 104, 32, 114, 111, 108, 111, 100, 101, 120, 47, 114, 111, 108, 111, 100, 101, 120, 108, 97, 119, 49, 56, 46, 67, 111, 100, 101, 76, 101, 115, 115]
def sign (n : Nat) : Char := Char.ofNat n
theorem split_word : ∀ (w rest : List Char), (∀ c ∈ w, c ≠ sign 32) → wordsSigns (w ++ sign 32 :: rest) = w :: wordsSigns rest
  | [], rest, _ => by
    show wordsSigns (sign 32 :: rest) = _
    rw [wordsSigns.eq_def]
    rfl
  | c :: w, rest, h => by
    have ih := split_word w rest (fun x hx => h x (by simp [hx]))
    have hc : c ≠ sign 32 := h c (by simp)
    show wordsSigns (c :: (w ++ sign 32 :: rest)) = _
    rw [wordsSigns.eq_def]
    split
    · rename_i heq; cases heq
    · rename_i heq
      injection heq with h1 _
      exact absurd h1 hc
    · rename_i heq
      injection heq with h1 h2
      subst h1
      subst h2
      rw [ih]
theorem initChars : Try.prog.initOrder.toList = hC.map sign ++ sign 32 :: (sC.map sign ++ sign 32 :: (cC.map sign ++ sign 32 :: rC.map sign)) := by
  have h : Try.prog.initOrder = String.ofList (hC.map sign ++ sign 32 :: (sC.map sign ++ sign 32 :: (cC.map sign ++ sign 32 :: rC.map sign))) := by kernel_rfl
  rw [h, String.toList_ofList]
theorem noBlank (l : List Nat) (h : l.all (fun n => decide (33 ≤ n ∧ n < 128)) = true) : ∀ c ∈ l.map sign, c ≠ sign 32 := fun c hc e => by
  obtain ⟨n, hn, rfl⟩ := List.mem_map.1 hc
  have h1 := List.all_eq_true.1 h n hn
  have h2 : 33 ≤ n ∧ n < 128 := by simpa using h1
  have h3 := congrArg Char.toNat e
  have hv : ∀ m, m < 128 → (sign m).toNat = m := fun m hm => by
    have hval : m.isValidChar := Or.inl (by omega)
    unfold sign Char.ofNat
    rw [dif_pos hval]
    show (UInt32.ofNatLT m _).toNat = m
    rw [UInt32.toNat_ofNatLT]
  rw [hv n h2.2, hv 32 (by omega)] at h3
  omega
theorem headWords : ∃ X, wordsSigns Try.prog.initOrder.toList = hC.map sign :: sC.map sign :: cC.map sign :: X := by
  refine ⟨wordsSigns (rC.map sign), ?_⟩
  rw [initChars, split_word _ _ (noBlank hC (by decide +kernel)), split_word _ _ (noBlank sC (by decide +kernel)), split_word _ _ (noBlank cC (by decide +kernel))]
theorem behind (X : List (List Char)) : behindMainWord (hC.map sign :: sC.map sign :: cC.map sign :: X) = cC.map sign :: X := by kernel_rfl
theorem notWhole : (cC.map sign == "gc".toList || cC.map sign == "spec".toList) = false := by kernel_rfl
theorem isCut : (cC.map sign == "cut".toList) = true := by kernel_rfl
theorem later : Try.prog.laysLater = false := by kernel_rfl
theorem noReflect : Try.prog.bearsReflect = false := by kernel_rfl
theorem door : Try.prog.doorFits [] = true := by kernel_rfl
theorem strip (X : List (List Char)) : stripLifts liftWords (cC.map sign :: X) = ([], cC.map sign :: X) := by kernel_rfl
theorem cutWord : cC.map sign = "cut".toList := by kernel_rfl
theorem mayEnter_of {P : Program} {c : List Char} {X : List (List Char)} (h : behindMainWord (wordsSigns P.initOrder.toList) = c :: X) (h1 : stripLifts liftWords (c :: X) = ([], c :: X)) (h2 : c = "cut".toList)
    (h3 : P.laysLater = false) (h4 : P.bearsReflect = false) (h5 : P.doorFits [] = true) : P.mayEnter = true := by
  unfold Program.mayEnter
  rw [h]
  simp [h1, h3, h4, h5]
  simp [h2]
theorem liftsFinal_of {P : Program} {c : List Char} {X : List (List Char)} (h : behindMainWord (wordsSigns P.initOrder.toList) = c :: X) (h1 : stripLifts liftWords (c :: X) = ([], c :: X)) (h2 : c = "cut".toList) : P.liftsFinal = false := by
  unfold Program.liftsFinal Program.headLifts
  rw [h]
  simp [h1]
  simp [h2]
theorem make_of {P : Program} {c : List Char} {X : List (List Char)} (h : behindMainWord (wordsSigns P.initOrder.toList) = c :: X) (h1 : (c == "gc".toList || c == "spec".toList) = false) (h2 : (c == "cut".toList) = true) : P.make = some .cut := by
  unfold Program.make
  rw [h]
  show (if (c == "gc".toList || c == "spec".toList) = true then _ else if (c == "cut".toList || (c == "finals".toList && X.head? == some "cut".toList)) = true then _ else _) = _
  rw [h1, h2, if_neg (by decide), if_pos (by rw [Bool.true_or])]
theorem behindHead : ∃ X, behindMainWord (wordsSigns Try.prog.initOrder.toList) = cC.map sign :: X := by
  obtain ⟨X, hX⟩ := headWords
  exact ⟨X, (congrArg behindMainWord hX).trans (behind X)⟩
theorem mayEnter : Try.prog.mayEnter = true := behindHead.elim fun X h => mayEnter_of h (strip X) cutWord later noReflect door
theorem liftsFinal : Try.prog.liftsFinal = false := behindHead.elim fun X h => liftsFinal_of h (strip X) cutWord
theorem make : Try.prog.make = some .cut := behindHead.elim fun X h => make_of h notWhole isCut
end Go.Proofs.Ytchaegfdcdlfaaa.J

namespace Go.Proofs.Ytchaegfdcdlfaaa.X
open Go.RowKit Go.Proofs.YtchaegfdcdlfaaaW.PrintWords Go.Proofs.YtchaegfdcdlfaaaW.PrintLast Go.Proofs.YtchaegfdcdlfaaaW.PrintMore
attribute [local go_sem] max2_int min2_int max_two min_two max_three min_three max_four min_four   -- for this text's walks alone
set_option linter.unusedVariables false
set_option linter.unusedSimpArgs false

/-! ### rolodexref02_Sum: function 47 -/
mutual
def rolodexref02_Sum.l0 : Nat → List Int → Int → Int → Option (Int)
  | 0, _, _, _ => none
  | k + 1, x0, x3, x4 => if x4 < (x0.length : Int) then (if 0 ≤ x4 then (rolodexref02_Sum.l1 k x0 (Go.bits .xor .u32 x3 ((rd x0 x4) % 4294967296)) x4 0) else (none)) else (some ((4294967295 - x3) % 4294967296))
def rolodexref02_Sum.l1 : Nat → List Int → Int → Int → Int → Option (Int)
  | 0, _, _, _, _ => none
  | k + 1, x0, x3, x4, x5 => if x5 < 8 then (if (Int.tmod x3 2) = 1 then (rolodexref02_Sum.l1 k x0 (Go.bits .xor .u32 ((Int.tdiv x3 2) % 4294967296) 3988292384) x4 (wrap64 (x5 + 1))) else (rolodexref02_Sum.l1 k x0 ((Int.tdiv x3 2) % 4294967296) x4 (wrap64 (x5 + 1)))) else (rolodexref02_Sum.l0 k x0 x3 (wrap64 (x4 + 1)))
end
def rolodexref02_Sum.f (k : Nat) (l0 : List Int) : Option (Int) := rolodexref02_Sum.l0 k l0 4294967295 0
theorem rolodexref02_Sum.mono_l : ∀ k, (∀ y0 y1 y2, LeO (rolodexref02_Sum.l0 k y0 y1 y2) (rolodexref02_Sum.l0 (k + 1) y0 y1 y2)) ∧ (∀ y0 y1 y2 y3, LeO (rolodexref02_Sum.l1 k y0 y1 y2 y3) (rolodexref02_Sum.l1 (k + 1) y0 y1 y2 y3))
  | 0 => ⟨fun _ _ _ r h => by simp [rolodexref02_Sum.l0] at h, fun _ _ _ _ r h => by simp [rolodexref02_Sum.l1] at h⟩
  | k + 1 => by
    obtain ⟨ih0, ih1⟩ := rolodexref02_Sum.mono_l k
    refine ⟨?_, ?_⟩
    · intro y0 y1 y2
      unfold rolodexref02_Sum.l0
      repeat' first
      | (with_reducible exact ih0 _ _ _)
      | (with_reducible exact ih1 _ _ _ _)
      | (with_reducible exact LeO.refl _)
      | (with_reducible exact LeO.none _)
      | (with_reducible refine LeO.ite ?_ ?_)
      | (with_reducible refine LeO.bind ?_ (fun _ => ?_))
      | exact ih0 _ _ _
      | exact ih1 _ _ _ _
      | exact LeO.none _
      | refine LeO.ite ?_ ?_
      | refine LeO.bind ?_ (fun _ => ?_)
    · intro y0 y1 y2 y3
      unfold rolodexref02_Sum.l1
      repeat' first
      | (with_reducible exact ih0 _ _ _)
      | (with_reducible exact ih1 _ _ _ _)
      | (with_reducible exact LeO.refl _)
      | (with_reducible exact LeO.none _)
      | (with_reducible refine LeO.ite ?_ ?_)
      | (with_reducible refine LeO.bind ?_ (fun _ => ?_))
      | exact ih0 _ _ _
      | exact ih1 _ _ _ _
      | exact LeO.none _
      | refine LeO.ite ?_ ?_
      | refine LeO.bind ?_ (fun _ => ?_)
theorem rolodexref02_Sum.mono : ∀ a0 k, LeO (rolodexref02_Sum.f k a0) (rolodexref02_Sum.f (k + 1) a0) := by
  intro a0 k
  obtain ⟨ih0, ih1⟩ := rolodexref02_Sum.mono_l k
  unfold rolodexref02_Sum.f
  repeat' first
      | (with_reducible exact ih0 _ _ _)
      | (with_reducible exact ih1 _ _ _ _)
      | (with_reducible exact LeO.refl _)
      | (with_reducible exact LeO.none _)
      | (with_reducible refine LeO.ite ?_ ?_)
      | (with_reducible refine LeO.bind ?_ (fun _ => ?_))
      | exact ih0 _ _ _
      | exact ih1 _ _ _ _
      | exact LeO.none _
      | refine LeO.ite ?_ ?_
      | refine LeO.bind ?_ (fun _ => ?_)
set_option maxHeartbeats 8000000 in
set_option maxRecDepth 100000 in
theorem rolodexref02_Sum.calls (k : Nat) (A0 : Option Addr) (c0 : Nat) (l0 : List Int) (r : Int) (w : World) (hr0 : Kd.C (Kd.int .u8) w A0 l0.length l0) (hc0 : l0.length ≤ c0) (h : rolodexref02_Sum.f k l0 = some r) :
    Calls Try.prog 47 #[.slice A0 l0.length c0] w fun e w' => e = .returned (.int .u32 r) ∧ Drawn0 w w' := by
  have HR0 := Aside0.mk hr0
  have HC0 := Aside0.mk hc0
  clear hr0 hc0
  have H : (rolodexref02_Sum.l0 k l0 4294967295 0) = some r := h
  clear h
  have H' := Aside0.mk H
  clear H
  go_enter Try.func47, Try.ntmps47
  go_wp2
  go_loopg [3, 4] k (fun kq v3 v4 w' => ∃ (x3_1 : Int) (x4_1 : Int), v3 = .int .u32 x3_1 ∧ v4 = .int .i64 x4_1 ∧ Aside0 (rolodexref02_Sum.l0 kq l0 x3_1 x4_1 = some r) ∧ Aside0 (kq ≤ k) ∧ Drawn0 w w')
  case atStart => exact ⟨(4294967295), (0), (by first | rfl | (simp; done) | (simp [*]; done)), (by first | rfl | (simp; done) | (simp [*]; done)), H', ⟨Nat.le_refl _⟩, by repeat (first | exact Drawn0.refl _ | apply Drawn0.step)⟩
  case round =>
    clear H'
    obtain ⟨x3_1, x4_1, rfl, rfl, HA, HK1, ⟨m1, rfl⟩⟩ := hrel
    cases gk with
    | zero => exact absurd HA.out (by simp [rolodexref02_Sum.l0])
    | succ k1 =>
      have H := HA.out
      clear HA
      simp only [rolodexref02_Sum.l0] at H
      by_cases c2 : x4_1 < (l0.length : Int)
      · rw [if_pos c2] at H
        have c2b0 : decide (x4_1 < (l0.length : Int)) = true := decide_eq_true c2
        clear c2
        by_cases c3 : 0 ≤ x4_1
        · rw [if_pos c3] at H
          have c3b0 : decide (0 ≤ x4_1) = true := decide_eq_true c3
          clear c3
          have H' := Aside0.mk H
          clear H
          have p212 : 0 ≤ (x4_1 : Int) := of_decide_eq_true (by first | (with_reducible assumption) | assumption)
          have q212 : x4_1 < (l0.length : Int) := of_decide_eq_true (by first | (with_reducible assumption) | assumption)
          obtain ⟨ad212, e212, hx212_0⟩ := Kd.at_int HR0.out x4_1 p212 q212
          cases e212
          replace p212 := eq_true p212
          replace q212 := eq_true q212
          go_wp2
          go_loopg [3, 5] k1 (fun kq v3 v5 w' => ∃ (x3_2 : Int) (x5_2 : Int), v3 = .int .u32 x3_2 ∧ v5 = .int .i64 x5_2 ∧ Aside0 (rolodexref02_Sum.l1 kq l0 x3_2 x4_1 x5_2 = some r) ∧ Aside0 (kq ≤ k1) ∧ Drawn0 w w')
          case atStart => exact ⟨(Go.bits .xor .u32 x3_1 ((rd l0 x4_1) % 4294967296)), (0), (by first | rfl | (simp; done) | (simp [*]; done)), (by first | rfl | (simp; done) | (simp [*]; done)), H', ⟨Nat.le_refl _⟩, by repeat (first | exact Drawn0.refl _ | apply Drawn0.step)⟩
          case round =>
            clear H'
            try clear c2
            try clear c2b0
            try clear p2
            try clear q2
            try clear hx2
            try clear c3
            try clear c3b0
            try clear hx212_0
            try clear p212
            try clear q212
            obtain ⟨x3_2, x5_2, rfl, rfl, HA, HK2, ⟨m2, rfl⟩⟩ := hrel
            cases gk with
            | zero => exact absurd HA.out (by simp [rolodexref02_Sum.l1])
            | succ k2 =>
              have H := HA.out
              clear HA
              simp only [rolodexref02_Sum.l1] at H
              by_cases c4 : x5_2 < 8
              · rw [if_pos c4] at H
                have c4b0 : decide (x5_2 < 8) = true := decide_eq_true c4
                clear c4
                by_cases c5 : (Int.tmod x3_2 2) = 1
                · rw [if_pos c5] at H
                  have c5b0 : ((Int.tmod x3_2 2) == 1) = true := beq_iff_eq.mpr c5
                  have c5b1 : ((Int.tmod x3_2 2) != 1) = false := bne_eq_false_iff_eq.mpr c5
                  clear c5
                  have H' := Aside0.mk H
                  clear H
                  go_wp2
                  go_roundg k2
                  case measure => have := HK1.out; have := HK2.out; omega
                  case rel => exact ⟨(Go.bits .xor .u32 ((Int.tdiv x3_2 2) % 4294967296) 3988292384), (wrap64 (x5_2 + 1)), (by first | rfl | (simp; done) | (simp [*]; done)), (by first | rfl | (simp; done) | (simp [*]; done)), H', ⟨by have := HK1.out; have := HK2.out; omega⟩, by repeat (first | exact Drawn0.refl _ | apply Drawn0.step)⟩
                · rw [if_neg c5] at H
                  have c5b0 : ((Int.tmod x3_2 2) == 1) = false := beq_eq_false_iff_ne.mpr c5
                  have c5b1 : ((Int.tmod x3_2 2) != 1) = true := bne_iff_ne.mpr c5
                  have H' := Aside0.mk H
                  clear H
                  go_wp2
                  go_roundg k2
                  case measure => have := HK1.out; have := HK2.out; omega
                  case rel => exact ⟨((Int.tdiv x3_2 2) % 4294967296), (wrap64 (x5_2 + 1)), (by first | rfl | (simp; done) | (simp [*]; done)), (by first | rfl | (simp; done) | (simp [*]; done)), H', ⟨by have := HK1.out; have := HK2.out; omega⟩, by repeat (first | exact Drawn0.refl _ | apply Drawn0.step)⟩
              · rw [if_neg c4] at H
                have c4b0 : decide (x5_2 < 8) = false := decide_eq_false c4
                clear c4
                have H' := Aside0.mk H
                clear H
                go_wp2
                go_roundg k2
                case measure => have := HK1.out; have := HK2.out; omega
                case rel => exact ⟨(x3_2), (wrap64 (x4_1 + 1)), (by first | rfl | (simp; done) | (simp [*]; done)), (by first | rfl | (simp; done) | (simp [*]; done)), H', ⟨by have := HK1.out; have := HK2.out; omega⟩, by repeat (first | exact Drawn0.refl _ | apply Drawn0.step)⟩
        · rw [if_neg c3] at H
          exact absurd H (by simp)
      · rw [if_neg c2] at H
        have c2b0 : decide (x4_1 < (l0.length : Int)) = false := decide_eq_false c2
        clear c2
        obtain rfl := Option.some.inj H
        go_wp2
        go_ret
        exact ⟨by first | rfl | (simp; done) | (simp [*]; done), by repeat (first | exact Drawn0.refl _ | apply Drawn0.step)⟩

end Go.Proofs.Ytchaegfdcdlfaaa.X

/- The document's check is the check. -/
namespace Go.Proofs.Ytchaegfdcdlfaaa.X
set_option linter.unusedVariables false
set_option linter.unusedSimpArgs false
open Go.RowKit Go.Proofs.YtchaegfdcdlfaaaW.PrintWords Go.Proofs.YtchaegfdcdlfaaaW.PrintLast Go.Proofs.YtchaegfdcdlfaaaW.PrintMore

theorem bitR (x : Nat) (h : x < 4294967296) : (if Int.tmod (x : Int) 2 = 1 then bits .xor .u32 (Int.tdiv (x : Int) 2 % 4294967296) 3988292384 else Int.tdiv (x : Int) 2 % 4294967296) = (t1 x : Int) := by
  have hm : Int.tmod (x : Int) 2 = ((x % 2 : Nat) : Int) := by rw [Int.tmod_eq_emod_of_nonneg (by omega)]; omega
  have hd : Int.tdiv (x : Int) 2 % 4294967296 = ((x / 2 : Nat) : Int) := by rw [Int.tdiv_eq_ediv_of_nonneg (by omega)]; omega
  rw [hm, hd]
  unfold t1
  by_cases h2 : x % 2 = 1
  · rw [if_pos (by omega), if_pos h2]
    exact u32_xor_nat (x / 2) cpoly (by omega) (by decide)
  · rw [if_neg (by omega), if_neg h2, Nat.xor_zero]
theorem rsum_l1 (l : List Int) (i : Int) : ∀ (d j k x : Nat), j + d = 8 → x < 4294967296 → rolodexref02_Sum.l1 (k + d + 1) l (x : Int) i (j : Int) = rolodexref02_Sum.l0 k l (tn d x : Int) (wrap64 (i + 1))
  | 0, j, k, x, hj, hx => by
    rw [rolodexref02_Sum.l1, if_neg (by omega)]
    rfl
  | d + 1, j, k, x, hj, hx => by
    have ih := rsum_l1 l i d (j + 1) k (t1 x) (by omega) (t1_lt hx)
    have hw : wrap64 ((j : Int) + 1) = ((j + 1 : Nat) : Int) := by unfold wrap64; omega
    have hb := bitR x hx
    rw [show k + (d + 1) + 1 = (k + d + 1) + 1 by omega, rolodexref02_Sum.l1, if_pos (by omega), hw]
    show _ = rolodexref02_Sum.l0 k l (tn d (t1 x) : Int) _
    rw [← ih, ← hb]
    split <;> rfl
theorem rsum_l0 (l : List Int) (hb : Byt l) (hl : l.length ≤ 4611686018427387904) : ∀ (s q : List Int) (k x : Nat), l = q ++ s → x < 4294967296 → 10 * s.length < k →
    rolodexref02_Sum.l0 k l (x : Int) (q.length : Int) = some (4294967295 - (crcFrom x (nats s) : Int))
  | [], q, k, x, e, hx, hk => by
    obtain ⟨k, rfl⟩ : ∃ k', k = k' + 1 := ⟨k - 1, by omega⟩
    rw [rolodexref02_Sum.l0, if_neg (by rw [e]; simp)]
    show some ((4294967295 - (x : Int)) % 4294967296) = some (4294967295 - (x : Int))
    congr 1
    omega
  | c :: s, q, k, x, e, hx, hk => by
    obtain ⟨k, rfl⟩ : ∃ k', k = (k' + 8 + 1) + 1 := ⟨k - 10, by simp only [List.length_cons] at hk; omega⟩
    have hlen : q.length < l.length := by rw [e]; simp
    have hget : rd l (q.length : Int) = c := by
      show l.getD (Int.toNat (q.length : Int)) 0 = c
      rw [Int.toNat_natCast, e, List.getD_eq_getElem?_getD]
      simp
    have hc := hb c (by rw [e]; simp)
    obtain ⟨cn, rfl⟩ : ∃ cn : Nat, c = (cn : Int) := ⟨c.toNat, by omega⟩
    have hx2 : bits .xor .u32 (x : Int) ((cn : Int) % 4294967296) = ((x ^^^ cn : Nat) : Int) := by
      rw [show (cn : Int) % 4294967296 = (cn : Int) by omega]
      exact u32_xor_nat x cn hx (by omega)
    have hxx : x ^^^ cn < 4294967296 := Nat.xor_lt_two_pow (n := 32) hx (by omega)
    have hw : wrap64 ((q.length : Int) + 1) = (((q ++ [(cn : Int)]).length : Nat) : Int) := by unfold wrap64; simp; omega
    rw [rolodexref02_Sum.l0, if_pos (by omega), if_pos (by omega), hget, hx2]
    have h1 := rsum_l1 l (q.length : Int) 8 0 k (x ^^^ cn) (by omega) hxx
    rw [show ((0 : Nat) : Int) = 0 from rfl] at h1
    rw [h1, hw, rsum_l0 l hb hl s (q ++ [(cn : Int)]) k _ (by simp [e]) (tn_lt 8 hxx) (by simp only [List.length_cons] at hk; omega)]
    rfl
theorem RSum2_eq {l : List Int} (hb : Byt l) (hl : l.length ≤ 4611686018427387904) (k : Nat) (hk : 10 * l.length < k) : rolodexref02_Sum.f k l = some (sumL l) := by
  have h := rsum_l0 l hb hl l [] k 4294967295 rfl (by omega) hk
  unfold rolodexref02_Sum.f
  rw [show (4294967295 : Int) = ((4294967295 : Nat) : Int) from rfl, show (0 : Int) = (([] : List Int).length : Int) from rfl, h]
  unfold sumL crc
  have := crcFrom_lt (w := 4294967295) (by omega) (nats_lt hb)
  congr 1
  omega
theorem rsum2_call (A : Option Addr) (c : Nat) (l : List Int) (n : Nat) (hn : l.length = n) (w : World) (hr : Kd.C (Kd.int .u8) w A n l) (hc : n ≤ c) (hb : Byt l) (hl : n ≤ 1000000000) :
    Calls Try.prog 47 #[.slice A n c] w fun e w' => e = .returned (.int .u32 (sumL l)) ∧ ∃ q, w' = w.drewN q := by
  subst hn
  refine (rolodexref02_Sum.calls (10 * l.length + 1) A c l _ w hr hc (RSum2_eq hb (by omega) _ (by omega))).mono ?_
  rintro e w' ⟨rfl, q, rfl⟩
  exact ⟨rfl, q, rfl⟩
end Go.Proofs.Ytchaegfdcdlfaaa.X

/- append of a row that is read, in a region whose order is open. -/
namespace Go.Proofs.Ytchaegfdcdlfaaa.X
set_option linter.unusedVariables false
set_option linter.unusedSimpArgs false
open Go.RowKit Go.Proofs.YtchaegfdcdlfaaaW.PrintWords Go.Proofs.YtchaegfdcdlfaaaW.PrintLast Go.Proofs.YtchaegfdcdlfaaaW.PrintMore

theorem run_append_rows {P : Program} {W : World} (base : Nat) (t e ty : TypeId) (k : IntKind) (bytes : Nat)
    (ht : P.underlying t = some (.slice e)) (hinfo : (P.info? e).map (fun i => (i.zero, i.size, i.bytes)) = some (some (.int k 0), 1, bytes)) (hb0 : 0 < bytes)
    (v : Value) (xs ys : List Int) (A : Option Addr) (m c : Nat)
    (HO : W.ownsRow base e 1 v xs.length (nums k xs)) (HR : ReadsInt W k A m ys) (hbase : base ≤ W.heap.size) (hl : (xs.length + m) * bytes ≤ 140737488355328) :
    ∃ v1 w1, (Builtin.append_ #[t, t] ty #[v, .slice A m c]).run P W = .ok v1 w1 ∧ w1.ownsRow base e 1 v1 (xs ++ ys).length (nums k (xs ++ ys)) ∧ W.grownBy w1 v.ownBlock ∧ (v1.ownBlock = v.ownBlock ∨ v1.ownBlock = some W.heap.size) := by
  obtain ⟨i0, hi, hzz⟩ := Option.map_eq_some_iff.1 hinfo
  simp only [Prod.mk.injEq] at hzz
  obtain ⟨hz0, hz1, hz2⟩ := hzz
  have hm : ys.length = m := HR.1
  have hlen : xs.length + m ≤ 140737488355328 := Nat.le_trans (Nat.le_mul_of_pos_right _ hb0) hl
  rcases A with _ | ad
  · have h0 : m = 0 := by
      rcases Nat.eq_zero_or_pos m with h0 | h0
      · exact h0
      · obtain ⟨ad, h, _⟩ := HR.2.2 h0
        cases h
    subst h0
    obtain rfl : ys = [] := List.eq_nil_of_length_eq_zero hm
    refine ⟨v, W, ?_, by simpa using HO, World.grownBy.refl W _, .inl rfl⟩
    rcases HO.2 with ⟨rfl, hn⟩ | ⟨g, cap, cur, rfl, _, _, hnc, _⟩
    · simp [Builtin.append_, run_underlying ht, sizeOf, typeInfo, hi, Builtin.lenOf, Builtin.firstCells]
    · simp [Builtin.append_, run_underlying ht, sizeOf, typeInfo, hi, Builtin.lenOf, Builtin.firstCells, hnc, storeCells]
  · have hcells : ∀ j u, (nums k ys)[j]? = some u → W.cell? (ad.add j) = some u := by
      intro j u hu
      have hj : j < ys.length := by
        rcases Nat.lt_or_ge j ys.length with h | h
        · exact h
        · simp [nums, List.getElem?_eq_none h] at hu
      obtain ⟨ad', h', hc⟩ := HR.2.2 (by omega)
      injection h' with h'
      subst h'
      have := hc j (by omega)
      simp [nums, List.getElem?_eq_getElem hj] at hu
      subst hu
      rw [this]
      simp [List.getD_eq_getElem?_getD, List.getElem?_eq_getElem hj]
    obtain ⟨v1, w1, hr, h2, h3, _, h5⟩ := run_append_own_at (P := P) W base t ty e i0 (.int k 0) 1 bytes ht hi hz0 hz1 hz2 rfl (by omega) v xs.length (nums k xs) HO ad m c (nums k ys) (by simp [nums, hm]) hcells
      (by intro u hu; simp only [nums, List.mem_map] at hu; obtain ⟨q, _, rfl⟩ := hu; rfl) (by simp only [maxLen]; omega) hl hbase
    exact ⟨v1, w1, hr, by simpa [nums, hm] using h2, h3, h5⟩

theorem wp_append8 {w0 W : World} {o : Oper} {a : Act} {K : Act → World → Prop} {Q : Exit → Act → World → Prop} (base : Nat) (s x : Operand)
    (ho : o.op = .call { callee := .builtin .append, args := #[s, x], argTypes := #[40, 40] })
    (v : Value) (xs ys : List Int) (A : Option Addr) (m c : Nat) (hs : a.eval s = v) (hx : a.eval x = .slice A m c)
    (HO : W.ownsRow base 5 1 v xs.length (nums .u8 xs)) (HR : RdB W A m ys) (HB : Below base w0 W) (hbase : base ≤ W.heap.size) (hl : xs.length + m ≤ 1000000000)
    (h : ∀ v1 w1, Aside0 (w1.ownsRow base 5 1 v1 (xs ++ ys).length (nums .u8 (xs ++ ys))) → Aside0 (Below base w0 w1) → K (a.put o.dst v1) w1) : o.wp Try.prog a W K Q := by
  obtain ⟨v1, w1, hr, hown, hg, hat⟩ := run_append_rows (P := Try.prog) (W := W) base 40 5 o.type .u8 1 Try.underlying40 hinfo5 (by decide) v xs ys A m c HO (Kd.reads_of_C HR) hbase (by omega)
  unfold Oper.wp execOp
  simp only [ho, resolve, invoke, builtin, Sem.run_bind, Sem.run_pure, Result.andThen_ok, List.map_toArray, List.map_cons, List.map_nil, hs, hx, hr]
  exact h v1 w1 ⟨hown⟩ ⟨HB.grown hg hbase (own_base HO)⟩
end Go.Proofs.Ytchaegfdcdlfaaa.X

/- The document's Open by hand, in the printed form. -/
namespace Go.Proofs.Ytchaegfdcdlfaaa.X
set_option linter.unusedVariables false
set_option linter.unusedSimpArgs false
open Go.Proofs.Ytchaegfdcdlfaaa.Y (IsGet Bytes RdB four wraps_u64 rget_call rword_call word word_length word_bytes four_word word_four strs_inj rdb_drop rdb_below rdb_cut rdb_drewN wraps_u32)
open Go.RowKit Go.Proofs.YtchaegfdcdlfaaaW.PrintWords Go.Proofs.YtchaegfdcdlfaaaW.PrintLast Go.Proofs.YtchaegfdcdlfaaaW.PrintMore

theorem rget_call2 {l : List Int} {n u : Int} {is : Bool} (h : IsGet l (n, u, is)) (hb : Bytes l) (hl : l.length ≤ 4611686018427387904) (m : Nat) (hm : m = l.length) (A : Option Addr) (c : Nat) (w : World) (hr : RdB w A m l) (hc : m ≤ c) :
    Calls Try.prog 91 #[.slice A m c] w fun e w' => e = .returned (.tuple #[.int .u64 n, .int .i64 u, .bool is]) ∧ Below w.heap.size w w' := by
  subst hm
  exact rget_call h hb hl A c w hr hc
theorem rsum2_callB (A : Option Addr) (c : Nat) (l : List Int) (n : Nat) (hn : l.length = n) (w : World) (hr : Kd.C (Kd.int .u8) w A n l) (hc : n ≤ c) (hb : Byt l) (hl : n ≤ 1000000000) :
    Calls Try.prog 47 #[.slice A n c] w fun e w' => e = .returned (.int .u32 (sumL l)) ∧ Below w.heap.size w w' := by
  refine (rsum2_call A c l n hn w hr hc hb hl).mono ?_
  rintro e w' ⟨rfl, q, rfl⟩
  exact ⟨rfl, pw_below_drewN (Below.refl _ _) q⟩
theorem convs {w : World} {A : Option Addr} {n : Nat} {l : List Int} (h : RdB w A n l) (c : Nat) : (convert 40 9 (.slice A n c)).run Try.prog w = .ok (.string (strOfNums l)) w := Go.Proofs.Ytchaegfdcdlfaaa.Y.conv0 h c

set_option maxHeartbeats 1000000 in
set_option maxRecDepth 100000 in
theorem ropen_empty (A0 : Option Addr) (c0 : Nat) (l : List Int) (w : World) (hr0 : RdB w A0 l.length l) (hc0 : l.length ≤ c0) (hb : Bytes l) (hl : l.length ≤ 1000000000) (h0 : l.length = 0) :
    Calls Try.prog 45 #[.slice A0 l.length c0] w fun e w' => OpenQ w (0, [], 0, 2) e w' := by
  have HR := Aside0.mk hr0
  have HC := Aside0.mk hc0
  have HLL := Aside0.mk hl
  have HBY := Aside0.mk hb
  have e1 : ((l.length : Int) == 0) = true := by simp [h0]
  have e2 : ((l.length : Int) = 0) = True := by simp [h0]
  clear hr0 hc0 hb hl
  go_enter Try.func45, Try.ntmps45
  go_wp2_with fail
  (try simp only [Exit.inBlock, Exit.then])
  refine bodyPost_ret (results_list (rs := [.tmp 2, .tmp 3, .tmp 4, .tmp 5]) rfl (by simp) (.tmp (.tmp (.tmp (.tmp .nil))))) rfl ?_
  exact openQ_none _ _ _ (Below.refl _ _)

set_option maxHeartbeats 1000000 in
set_option maxRecDepth 100000 in
theorem ropen_kind (A0 : Option Addr) (c0 : Nat) (l : List Int) (w : World) (hr0 : RdB w A0 l.length l) (hc0 : l.length ≤ c0) (hb : Bytes l) (hl : l.length ≤ 1000000000) (h0 : 0 < l.length) (h10 : 10 ≤ rd l 0) :
    Calls Try.prog 45 #[.slice A0 l.length c0] w fun e w' => OpenQ w (0, [], 0, 2) e w' := by
  have HR := Aside0.mk hr0
  have HC := Aside0.mk hc0
  have HLL := Aside0.mk hl
  have HBY := Aside0.mk hb
  have e1 : ((l.length : Int) == 0) = false := beq_false_of_ne (by omega)
  have e2 : ((l.length : Int) = 0) = False := eq_false (by omega)
  obtain ⟨ad, rfl, x0⟩ := first_cell hr0 h0
  have qi : (0 < l.length) = True := eq_true h0
  have qj : ((0 : Int) < (l.length : Int)) = True := eq_true (by omega)
  have d1 : decide (rd l 0 > 9) = true := decide_eq_true (by omega)
  clear hr0 hc0 hb hl
  go_enter Try.func45, Try.ntmps45
  go_wp2_with fail
  (try simp only [Exit.inBlock, Exit.then])
  refine bodyPost_ret (results_list (rs := [.tmp 2, .tmp 3, .tmp 4, .tmp 5]) rfl (by simp) (.tmp (.tmp (.tmp (.tmp .nil))))) rfl ?_
  exact openQ_none _ _ _ (Below.refl _ _)

set_option maxHeartbeats 1000000 in
set_option maxRecDepth 100000 in
theorem ropen_not (A0 : Option Addr) (c0 : Nat) (l : List Int) (w : World) (hr0 : RdB w A0 l.length l) (hc0 : l.length ≤ c0) (hb : Bytes l) (hl : l.length ≤ 1000000000) (h0 : 0 < l.length) (h10 : ¬ 10 ≤ rd l 0) (n u : Nat) (hg : IsGet (l.drop 1) ((n : Int), (u : Int), false)) (hu : u + 1 ≤ l.length) :
    Calls Try.prog 45 #[.slice A0 l.length c0] w fun e w' => OpenQ w (0, [], 0, 2) e w' := by
  have HR := Aside0.mk hr0
  have HC := Aside0.mk hc0
  have HLL := Aside0.mk hl
  have HBY := Aside0.mk hb
  have e1 : ((l.length : Int) == 0) = false := beq_false_of_ne (by omega)
  have e2 : ((l.length : Int) = 0) = False := eq_false (by omega)
  obtain ⟨ad, rfl, x0⟩ := first_cell hr0 h0
  have qi : (0 < l.length) = True := eq_true h0
  have qj : ((0 : Int) < (l.length : Int)) = True := eq_true (by omega)
  have d1 : decide (rd l 0 > 9) = false := decide_eq_false (by omega)
  obtain ⟨A', hcut, hA, hC⟩ := rdb_drop (some ad) c0 l 1 (by omega) hc0
  have HA := Aside0.mk (hA w hr0)
  have HG := Aside0.mk hg
  have HB1 : Aside0 (Bytes (l.drop 1)) := ⟨fun x hx => hb x (List.mem_of_mem_drop hx)⟩
  have hcut1 : ∀ W : World, (Instr.slice 40 (.slice (some ad) l.length c0) (some (.int .i64 1)) none none).run Try.prog W = .ok (.slice A' (l.length - 1) (c0 - 1)) W := hcut
  obtain ⟨f, hf⟩ : ∃ f : Nat, f = 1 + u := ⟨_, rfl⟩
  have w1_ : IntKind.i64.wrap (1 + (u : Int)) = (f : Int) := by rw [i64_w, w64s _ (by omega) (by omega)]; omega
  clear hA hcut hg
  clear hr0 hb hf hu
  go_enter Try.func45, Try.ntmps45
  go_wp2_with fail
  refine (rget_call2 HG.out HB1.out (by rw [List.length_drop]; omega) _ (by rw [List.length_drop]) A' _ _ HA.out hC).mono ?_
  rintro e w0 ⟨rfl, hb0⟩
  have HB0 := Aside0.mk hb0
  clear hb0
  go_wp2_with fail
  (try simp only [Exit.inBlock, Exit.then])
  refine bodyPost_ret (results_list (rs := [.tmp 2, .tmp 3, .tmp 4, .tmp 5]) rfl (by simp) (.tmp (.tmp (.tmp (.tmp .nil))))) rfl ?_
  exact openQ_none _ _ _ HB0.out

set_option maxHeartbeats 1000000 in
set_option maxRecDepth 100000 in
theorem ropen_big (A0 : Option Addr) (c0 : Nat) (l : List Int) (w : World) (hr0 : RdB w A0 l.length l) (hc0 : l.length ≤ c0) (hb : Bytes l) (hl : l.length ≤ 1000000000) (h0 : 0 < l.length) (h10 : ¬ 10 ≤ rd l 0) (n u : Nat) (hg : IsGet (l.drop 1) ((n : Int), (u : Int), true)) (hu : u + 1 ≤ l.length) (hn : 100000 < n) :
    Calls Try.prog 45 #[.slice A0 l.length c0] w fun e w' => OpenQ w (0, [], 0, 2) e w' := by
  have HR := Aside0.mk hr0
  have HC := Aside0.mk hc0
  have HLL := Aside0.mk hl
  have HBY := Aside0.mk hb
  have e1 : ((l.length : Int) == 0) = false := beq_false_of_ne (by omega)
  have e2 : ((l.length : Int) = 0) = False := eq_false (by omega)
  obtain ⟨ad, rfl, x0⟩ := first_cell hr0 h0
  have qi : (0 < l.length) = True := eq_true h0
  have qj : ((0 : Int) < (l.length : Int)) = True := eq_true (by omega)
  have d1 : decide (rd l 0 > 9) = false := decide_eq_false (by omega)
  obtain ⟨A', hcut, hA, hC⟩ := rdb_drop (some ad) c0 l 1 (by omega) hc0
  have HA := Aside0.mk (hA w hr0)
  have HG := Aside0.mk hg
  have HB1 : Aside0 (Bytes (l.drop 1)) := ⟨fun x hx => hb x (List.mem_of_mem_drop hx)⟩
  have hcut1 : ∀ W : World, (Instr.slice 40 (.slice (some ad) l.length c0) (some (.int .i64 1)) none none).run Try.prog W = .ok (.slice A' (l.length - 1) (c0 - 1)) W := hcut
  obtain ⟨f, hf⟩ : ∃ f : Nat, f = 1 + u := ⟨_, rfl⟩
  have w1_ : IntKind.i64.wrap (1 + (u : Int)) = (f : Int) := by rw [i64_w, w64s _ (by omega) (by omega)]; omega
  have d2 : decide ((n : Int) > 100000) = true := decide_eq_true (by omega)
  have d2' : decide (n > 100000) = true := decide_eq_true (by omega)
  clear hA hcut hg
  clear hr0 hb hf hu hn
  go_enter Try.func45, Try.ntmps45
  go_wp2_with fail
  refine (rget_call2 HG.out HB1.out (by rw [List.length_drop]; omega) _ (by rw [List.length_drop]) A' _ _ HA.out hC).mono ?_
  rintro e w0 ⟨rfl, hb0⟩
  have HB0 := Aside0.mk hb0
  clear hb0
  go_wp2_with fail
  (try simp only [Exit.inBlock, Exit.then])
  refine bodyPost_ret (results_list (rs := [.tmp 2, .tmp 3, .tmp 4, .tmp 5]) rfl (by simp) (.tmp (.tmp (.tmp (.tmp .nil))))) rfl ?_
  exact openQ_none _ _ _ HB0.out

set_option maxHeartbeats 1000000 in
set_option maxRecDepth 100000 in
theorem ropen_short (A0 : Option Addr) (c0 : Nat) (l : List Int) (w : World) (hr0 : RdB w A0 l.length l) (hc0 : l.length ≤ c0) (hb : Bytes l) (hl : l.length ≤ 1000000000) (h0 : 0 < l.length) (h10 : ¬ 10 ≤ rd l 0) (n u : Nat) (hg : IsGet (l.drop 1) ((n : Int), (u : Int), true)) (hu : u + 1 ≤ l.length) (hn : n ≤ 100000) (hs : l.length < 1 + u + n + 4) :
    Calls Try.prog 45 #[.slice A0 l.length c0] w fun e w' => OpenQ w (0, [], 0, 2) e w' := by
  have HR := Aside0.mk hr0
  have HC := Aside0.mk hc0
  have HLL := Aside0.mk hl
  have HBY := Aside0.mk hb
  have e1 : ((l.length : Int) == 0) = false := beq_false_of_ne (by omega)
  have e2 : ((l.length : Int) = 0) = False := eq_false (by omega)
  obtain ⟨ad, rfl, x0⟩ := first_cell hr0 h0
  have qi : (0 < l.length) = True := eq_true h0
  have qj : ((0 : Int) < (l.length : Int)) = True := eq_true (by omega)
  have d1 : decide (rd l 0 > 9) = false := decide_eq_false (by omega)
  obtain ⟨A', hcut, hA, hC⟩ := rdb_drop (some ad) c0 l 1 (by omega) hc0
  have HA := Aside0.mk (hA w hr0)
  have HG := Aside0.mk hg
  have HB1 : Aside0 (Bytes (l.drop 1)) := ⟨fun x hx => hb x (List.mem_of_mem_drop hx)⟩
  have hcut1 : ∀ W : World, (Instr.slice 40 (.slice (some ad) l.length c0) (some (.int .i64 1)) none none).run Try.prog W = .ok (.slice A' (l.length - 1) (c0 - 1)) W := hcut
  obtain ⟨f, hf⟩ : ∃ f : Nat, f = 1 + u := ⟨_, rfl⟩
  have w1_ : IntKind.i64.wrap (1 + (u : Int)) = (f : Int) := by rw [i64_w, w64s _ (by omega) (by omega)]; omega
  have d2 : decide ((n : Int) > 100000) = false := decide_eq_false (by omega)
  have d2' : decide (n > 100000) = false := decide_eq_false (by omega)
  have wn : IntKind.i64.wrap (n : Int) = (n : Int) := by rw [i64_w, w64s _ (by omega) (by omega)]
  obtain ⟨z0, hz0⟩ : ∃ z : Nat, z = l.length - 1 := ⟨_, rfl⟩
  have w20 : IntKind.i64.wrap ((l.length : Int) - 1) = (z0 : Int) := by rw [i64_w, w64s _ (by omega) (by omega)]; omega
  obtain ⟨z, hz⟩ : ∃ z : Nat, z = l.length - 1 - u := ⟨_, rfl⟩
  have w2_ : IntKind.i64.wrap ((z0 : Int) - (u : Int)) = (z : Int) := by rw [i64_w, w64s _ (by omega) (by omega)]; omega
  obtain ⟨y, hy⟩ : ∃ y : Nat, y = n + 4 := ⟨_, rfl⟩
  have w3_ : IntKind.i64.wrap ((n : Int) + 4) = (y : Int) := by rw [i64_w, w64s _ (by omega) (by omega)]; omega
  have d3 : decide ((z : Int) < (y : Int)) = true := decide_eq_true (by omega)
  have d3' : decide (z < y) = true := decide_eq_true (by omega)
  clear hA hcut hg
  clear hr0 hb hf hz0 hz hy hu hn hs
  go_enter Try.func45, Try.ntmps45
  go_wp2_with fail
  refine (rget_call2 HG.out HB1.out (by rw [List.length_drop]; omega) _ (by rw [List.length_drop]) A' _ _ HA.out hC).mono ?_
  rintro e w0 ⟨rfl, hb0⟩
  have HB0 := Aside0.mk hb0
  clear hb0
  go_wp2_with fail
  (try simp only [Exit.inBlock, Exit.then])
  refine bodyPost_ret (results_list (rs := [.tmp 2, .tmp 3, .tmp 4, .tmp 5]) rfl (by simp) (.tmp (.tmp (.tmp (.tmp .nil))))) rfl ?_
  exact openQ_none _ _ _ HB0.out

set_option maxHeartbeats 1000000 in
set_option maxRecDepth 100000 in
theorem ropen_bad (A0 : Option Addr) (c0 : Nat) (l : List Int) (w : World) (hr0 : RdB w A0 l.length l) (hc0 : l.length ≤ c0) (hb : Bytes l) (hl : l.length ≤ 1000000000) (h0 : 0 < l.length) (h10 : ¬ 10 ≤ rd l 0) (n u : Nat) (hg : IsGet (l.drop 1) ((n : Int), (u : Int), true)) (hu : u + 1 ≤ l.length) (hn : n ≤ 100000) (hs : 1 + u + n + 4 ≤ l.length) (hq : (four ((l.take (1 + u + n + 4)).drop (1 + u + n)) : Int) ≠ sumL (l.take (1 + u + n))) :
    Calls Try.prog 45 #[.slice A0 l.length c0] w fun e w' => OpenQ w (0, [], 0, 3) e w' := by
  have HR := Aside0.mk hr0
  have HC := Aside0.mk hc0
  have HLL := Aside0.mk hl
  have HBY := Aside0.mk hb
  have e1 : ((l.length : Int) == 0) = false := beq_false_of_ne (by omega)
  have e2 : ((l.length : Int) = 0) = False := eq_false (by omega)
  obtain ⟨ad, rfl, x0⟩ := first_cell hr0 h0
  have qi : (0 < l.length) = True := eq_true h0
  have qj : ((0 : Int) < (l.length : Int)) = True := eq_true (by omega)
  have d1 : decide (rd l 0 > 9) = false := decide_eq_false (by omega)
  obtain ⟨A', hcut, hA, hC⟩ := rdb_drop (some ad) c0 l 1 (by omega) hc0
  have HA := Aside0.mk (hA w hr0)
  have HG := Aside0.mk hg
  have HB1 : Aside0 (Bytes (l.drop 1)) := ⟨fun x hx => hb x (List.mem_of_mem_drop hx)⟩
  have hcut1 : ∀ W : World, (Instr.slice 40 (.slice (some ad) l.length c0) (some (.int .i64 1)) none none).run Try.prog W = .ok (.slice A' (l.length - 1) (c0 - 1)) W := hcut
  obtain ⟨f, hf⟩ : ∃ f : Nat, f = 1 + u := ⟨_, rfl⟩
  have w1_ : IntKind.i64.wrap (1 + (u : Int)) = (f : Int) := by rw [i64_w, w64s _ (by omega) (by omega)]; omega
  have d2 : decide ((n : Int) > 100000) = false := decide_eq_false (by omega)
  have d2' : decide (n > 100000) = false := decide_eq_false (by omega)
  have wn : IntKind.i64.wrap (n : Int) = (n : Int) := by rw [i64_w, w64s _ (by omega) (by omega)]
  obtain ⟨z0, hz0⟩ : ∃ z : Nat, z = l.length - 1 := ⟨_, rfl⟩
  have w20 : IntKind.i64.wrap ((l.length : Int) - 1) = (z0 : Int) := by rw [i64_w, w64s _ (by omega) (by omega)]; omega
  obtain ⟨z, hz⟩ : ∃ z : Nat, z = l.length - 1 - u := ⟨_, rfl⟩
  have w2_ : IntKind.i64.wrap ((z0 : Int) - (u : Int)) = (z : Int) := by rw [i64_w, w64s _ (by omega) (by omega)]; omega
  obtain ⟨y, hy⟩ : ∃ y : Nat, y = n + 4 := ⟨_, rfl⟩
  have w3_ : IntKind.i64.wrap ((n : Int) + 4) = (y : Int) := by rw [i64_w, w64s _ (by omega) (by omega)]; omega
  have d3 : decide ((z : Int) < (y : Int)) = false := decide_eq_false (by omega)
  have d3' : decide (z < y) = false := decide_eq_false (by omega)
  obtain ⟨e_, he⟩ : ∃ e_ : Nat, e_ = 1 + u + n := ⟨_, rfl⟩
  obtain ⟨t, ht⟩ : ∃ t : Nat, t = 1 + u + n + 4 := ⟨_, rfl⟩
  have w4_ : IntKind.i64.wrap ((f : Int) + (n : Int)) = (e_ : Int) := by rw [i64_w, w64s _ (by omega) (by omega)]; omega
  have w5_ : IntKind.i64.wrap ((e_ : Int) + 4) = (t : Int) := by rw [i64_w, w64s _ (by omega) (by omega)]; omega
  obtain ⟨A2, hcut2, hA2, hC2⟩ := rdb_mid (some ad) c0 l e_ t (by omega) (by omega) hc0
  have hcut3 := rdb_cut (some ad) c0 l e_ (by omega) hc0
  obtain ⟨A3, hcut4, hA3, hC3⟩ := rdb_mid (some ad) c0 l f e_ (by omega) (by omega) hc0
  have ht4 : t - e_ = 4 := by omega
  rw [ht4] at hcut2 hA2 hC2
  obtain ⟨p, hp⟩ : ∃ p, p = (l.take t).drop e_ := ⟨_, rfl⟩
  obtain ⟨b, hbd⟩ : ∃ b, b = l.take e_ := ⟨_, rfl⟩
  have HP4 : Aside0 (p.length = 4) := ⟨by rw [hp, List.length_drop, List.length_take]; omega⟩
  have HPB : Aside0 (Bytes p) := ⟨fun x hx => hb x (by rw [hp] at hx; exact List.mem_of_mem_take (List.mem_of_mem_drop hx))⟩
  have HBL : Aside0 (b.length = e_) := ⟨by rw [hbd, List.length_take]; omega⟩
  have HBB : Aside0 (Byt b) := ⟨fun x hx => hb x (by rw [hbd] at hx; exact List.mem_of_mem_take hx)⟩
  rw [← hp] at hA2
  have HA2 := Aside0.mk (hA2 w hr0)
  have HA3 := Aside0.mk (hA3 w hr0)
  have HRB : Aside0 (RdB w (some ad) e_ b) := ⟨by rw [hbd]; exact Go.Proofs.Ytchaegfdcdlfaaa.Y.rdb_take hr0 e_ (by omega)⟩
  obtain ⟨s, hs_⟩ : ∃ s : Nat, sumL b = (s : Int) := ⟨crc (nats b), rfl⟩
  have hsl : s < 4294967296 := by have := crc_lt (nats b); unfold sumL at hs_; omega
  have HS := Aside0.mk hs_
  have HSL := Aside0.mk hsl
  clear hA2 hA3
  rw [← ht, ← he, ← hp, ← hbd] at hq
  have hne : (strOfNums p).toList ≠ (strOfNums (word s)).toList := fun h => hq (by
    have h1 := (strs_inj HPB.out (word_bytes s)).1 h
    rw [hs_, h1, four_word s hsl])
  have d4 : ((strOfNums p).toList != (strOfNums (word s)).toList) = true := by simpa using hne
  have d4' : ((strOfNums p).toList = (strOfNums (word s)).toList) = False := eq_false hne
  have d4'' : ((strOfNums p).toList == (strOfNums (word s)).toList) = false := beq_false_of_ne hne
  have HT := Aside0.mk ht
  have HE := Aside0.mk he
  have HFF := Aside0.mk hf
  have HSS := Aside0.mk hs
  have HNN := Aside0.mk hn
  clear hp hbd hq hne hs_ hsl
  clear hA hcut hg
  clear hr0 hb hf hz0 hz hy he ht ht4 hu hn hs
  go_enter Try.func45, Try.ntmps45
  go_wp2_with fail
  refine (rget_call2 HG.out HB1.out (by rw [List.length_drop]; omega) _ (by rw [List.length_drop]) A' _ _ HA.out hC).mono ?_
  rintro e w0 ⟨rfl, hb0⟩
  have HB0 := Aside0.mk hb0
  clear hb0
  go_wp2_with fail
  refine wp_region_held_drew (S := (fun W => RdB W A2 4 p ∧ RdB W (some ad) e_ b ∧ Below w.heap.size w W)) (by kernel_rfl) ((And.intro (rdb_below HA2.out (below_drew HB0.out)) (And.intro (rdb_below HRB.out (below_drew HB0.out)) (below_drew HB0.out)))) (fun hHeld => ?_)
  refine wpAnyH_take (i := 0) (v := ?_) (by simp only [List.getElem?_toArray, List.getElem?_cons_succ, List.getElem?_cons_zero]; rfl) (by kernel_rfl) (by kernel_rfl) (by kernel_rfl) (by intro _ _ _ h; exact h) (Or.inl ⟨by rfl, ?hy⟩) (by assumption) ?_
  case hy => (intro W_ hW_; go_simp; first | done | with_reducible rfl)
  try simp only [Act.put, List.setIfInBounds_toArray, List.set_cons_zero, List.set_cons_succ]
  refine wpAnyH_take (i := 1) (v := ?_) (by simp only [List.getElem?_toArray, List.getElem?_cons_succ, List.getElem?_cons_zero]; rfl) (by kernel_rfl) (by kernel_rfl) (by kernel_rfl) (by intro _ _ _ h; exact h) (Or.inl ⟨by rfl, ?hy⟩) (by assumption) ?_
  case hy => (intro W_ hW_; go_simp; first | done | with_reducible rfl)
  try simp only [Act.put, List.setIfInBounds_toArray, List.set_cons_zero, List.set_cons_succ]
  refine wpAnyH_take (i := 2) (v := ?_) (by simp only [List.getElem?_toArray, List.getElem?_cons_succ, List.getElem?_cons_zero]; rfl) (by kernel_rfl) (by kernel_rfl) (by kernel_rfl) (by intro _ _ _ h; exact h) (Or.inl ⟨by rfl, ?hy⟩) (by assumption) ?_
  case hy => (intro W_ hW_; go_simp; first | done | with_reducible rfl)
  try simp only [Act.put, List.setIfInBounds_toArray, List.set_cons_zero, List.set_cons_succ]
  refine wpAnyH_take (i := 3) (v := ?_) (by simp only [List.getElem?_toArray, List.getElem?_cons_succ, List.getElem?_cons_zero]; rfl) (by kernel_rfl) (by kernel_rfl) (by kernel_rfl) (by intro _ _ _ h; exact h) (Or.inl ⟨by rfl, ?hy⟩) (by assumption) ?_
  case hy => (intro W_ hW_; go_simp; first | done | with_reducible rfl)
  try simp only [Act.put, List.setIfInBounds_toArray, List.set_cons_zero, List.set_cons_succ]
  refine wpAnyH_take (i := 4) (v := ?_) (by simp only [List.getElem?_toArray, List.getElem?_cons_succ, List.getElem?_cons_zero]; rfl) (by kernel_rfl) (by kernel_rfl) (by kernel_rfl) (by intro _ _ _ h; exact h) (Or.inl ⟨by rfl, ?hy⟩) (by assumption) ?_
  case hy => (intro W_ hW_; go_simp; first | done | with_reducible rfl)
  try simp only [Act.put, List.setIfInBounds_toArray, List.set_cons_zero, List.set_cons_succ]
  refine wpAnyH_take (i := 5) (v := ?_) (by simp only [List.getElem?_toArray, List.getElem?_cons_succ, List.getElem?_cons_zero]; rfl) (by kernel_rfl) (by kernel_rfl) (by kernel_rfl) (by intro _ _ _ h; exact h) (Or.inl ⟨by rfl, ?hy⟩) (by assumption) ?_
  case hy => (intro W_ hW_; have f_ := convs hW_.1 (c0 - e_); go_simp; first | done | with_reducible rfl)
  try simp only [Act.put, List.setIfInBounds_toArray, List.set_cons_zero, List.set_cons_succ]
  refine wpAnyH_take (i := 6) (v := ?_) (by simp only [List.getElem?_toArray, List.getElem?_cons_succ, List.getElem?_cons_zero]; rfl) (by kernel_rfl) (by kernel_rfl) (by kernel_rfl) (by intro _ _ _ h; exact h) (Or.inl ⟨by rfl, ?hy⟩) (by assumption) ?_
  case hy => (intro W_ hW_; go_simp; first | done | with_reducible rfl)
  try simp only [Act.put, List.setIfInBounds_toArray, List.set_cons_zero, List.set_cons_succ]
  refine wpAnyH_take (i := 7) (v := ?_) (by simp only [List.getElem?_toArray, List.getElem?_cons_succ, List.getElem?_cons_zero]; rfl) (by kernel_rfl) (by kernel_rfl) (by kernel_rfl) (by intro _ _ _ h; exact h) (Or.inl ⟨by rfl, ?hy⟩) (by assumption) ?_
  case hy => (intro W_ hW_; go_simp; first | done | with_reducible rfl)
  try simp only [Act.put, List.setIfInBounds_toArray, List.set_cons_zero, List.set_cons_succ]
  refine wpAnyH_take (i := 8) (v := ?_) (by simp only [List.getElem?_toArray, List.getElem?_cons_succ, List.getElem?_cons_zero]; rfl) (by kernel_rfl) (by kernel_rfl) (by kernel_rfl) (by intro _ _ _ h; exact h) (Or.inl ⟨by rfl, ?hy⟩) (by assumption) ?_
  case hy => (intro W_ hW_; go_simp; first | done | with_reducible rfl)
  try simp only [Act.put, List.setIfInBounds_toArray, List.set_cons_zero, List.set_cons_succ]
  refine wpAnyH_ready (rs := [9]) (by kernel_rfl) (by simp) ?_
  refine AllReadyH.cons (by simp only [List.getElem?_toArray, List.getElem?_cons_succ, List.getElem?_cons_zero]; rfl) (fun K hK => ?_) AllReadyH.nil
  rw [if_pos (by rfl)]
  go_wp2_with fail
  refine (rsum2_callB (some ad) c0 b e_ HBL.out _ hHeld.2.1 (by have := HC.out; have := HE.out; have := HSS.out; omega) HBB.out (by have := HLL.out; have := HE.out; have := HSS.out; omega)).mono ?_
  rintro e w5 ⟨rfl, hb5⟩; rw [HS.out]
  refine hK.out _ _ (And.intro (rdb_below hHeld.1 hb5) (And.intro (rdb_below hHeld.2.1 hb5) (below_step hHeld.2.2 hb5))) (fun hHeld2 => ?_)
  clear hK K hHeld
  have hHeld := hHeld2
  clear hHeld2
  try simp only [Act.put, List.setIfInBounds_toArray, List.set_cons_zero, List.set_cons_succ]
  refine wpAnyH_ready (rs := [10]) (by kernel_rfl) (by simp) ?_
  refine AllReadyH.cons (by simp only [List.getElem?_toArray, List.getElem?_cons_succ, List.getElem?_cons_zero]; rfl) (fun K hK => ?_) AllReadyH.nil
  rw [if_pos (by rfl)]
  go_wp2_with fail
  refine (rword_call s HSL.out _).mono ?_
  rintro e w6 ⟨A6, c6, rfl, hc6, hr6, hb6⟩
  refine hK.out _ _ (And.intro (rdb_below hHeld.1 hb6) (And.intro (rdb_below hHeld.2.1 hb6) (below_step hHeld.2.2 hb6))) (fun hHeld2 => ?_)
  clear hK K hHeld
  have hHeld := And.intro hHeld2.1 (And.intro hHeld2.2.1 (And.intro hHeld2.2.2 hr6))
  clear hHeld2
  try simp only [Act.put, List.setIfInBounds_toArray, List.set_cons_zero, List.set_cons_succ]
  refine Go.Proofs.Ytchaegfdcdlfaaa.Y.wpAnyH_str (S2 := fun W => RdB W A2 4 p ∧ RdB W (some ad) e_ b ∧ Below w.heap.size w W ∧ RdB W A6 4 (word s)) (fun W h => ⟨h.1, h.2.1, h.2.2.1⟩) _ _ _ _ ?_
  refine wpAnyH_take (i := 11) (v := ?_) (by simp only [List.getElem?_toArray, List.getElem?_cons_succ, List.getElem?_cons_zero]; rfl) (by kernel_rfl) (by kernel_rfl) (by kernel_rfl) (by intro _ _ _ h; exact h) (Or.inl ⟨by rfl, ?hy⟩) (by assumption) ?_
  case hy => (intro W_ hW_; have f_ := convs hW_.2.2.2 c6; go_simp; first | done | with_reducible rfl)
  try simp only [Act.put, List.setIfInBounds_toArray, List.set_cons_zero, List.set_cons_succ]
  refine wpAnyH_take (i := 12) (v := ?_) (by simp only [List.getElem?_toArray, List.getElem?_cons_succ, List.getElem?_cons_zero]; rfl) (by kernel_rfl) (by kernel_rfl) (by kernel_rfl) (by intro _ _ _ h; exact h) (Or.inl ⟨by rfl, ?hy⟩) (by assumption) ?_
  case hy => (intro W_ hW_; go_simp; first | done | with_reducible rfl)
  try simp only [Act.put, List.setIfInBounds_toArray, List.set_cons_zero, List.set_cons_succ]
  refine wpAnyH_done (by kernel_rfl) ?_ _
  go_wp2_with fail
  (try simp only [Exit.inBlock, Exit.then])
  refine bodyPost_ret (results_list (rs := [.tmp 2, .tmp 3, .tmp 4, .tmp 5]) rfl (by simp) (.tmp (.tmp (.tmp (.tmp .nil))))) rfl ?_
  exact openQ_none _ _ _ hHeld.2.2.1

set_option maxHeartbeats 1000000 in
set_option maxRecDepth 100000 in
theorem ropen_ok (A0 : Option Addr) (c0 : Nat) (l : List Int) (w : World) (hr0 : RdB w A0 l.length l) (hc0 : l.length ≤ c0) (hb : Bytes l) (hl : l.length ≤ 1000000000) (h0 : 0 < l.length) (h10 : ¬ 10 ≤ rd l 0) (n u : Nat) (hg : IsGet (l.drop 1) ((n : Int), (u : Int), true)) (hu : u + 1 ≤ l.length) (hn : n ≤ 100000) (hs : 1 + u + n + 4 ≤ l.length) (hq : (four ((l.take (1 + u + n + 4)).drop (1 + u + n)) : Int) = sumL (l.take (1 + u + n))) :
    Calls Try.prog 45 #[.slice A0 l.length c0] w fun e w' => OpenQ w (rd l 0, (l.take (1 + u + n)).drop (1 + u), (1 + u + n + 4 : Nat), 0) e w' := by
  have HR := Aside0.mk hr0
  have HC := Aside0.mk hc0
  have HLL := Aside0.mk hl
  have HBY := Aside0.mk hb
  have e1 : ((l.length : Int) == 0) = false := beq_false_of_ne (by omega)
  have e2 : ((l.length : Int) = 0) = False := eq_false (by omega)
  obtain ⟨ad, rfl, x0⟩ := first_cell hr0 h0
  have qi : (0 < l.length) = True := eq_true h0
  have qj : ((0 : Int) < (l.length : Int)) = True := eq_true (by omega)
  have d1 : decide (rd l 0 > 9) = false := decide_eq_false (by omega)
  obtain ⟨A', hcut, hA, hC⟩ := rdb_drop (some ad) c0 l 1 (by omega) hc0
  have HA := Aside0.mk (hA w hr0)
  have HG := Aside0.mk hg
  have HB1 : Aside0 (Bytes (l.drop 1)) := ⟨fun x hx => hb x (List.mem_of_mem_drop hx)⟩
  have hcut1 : ∀ W : World, (Instr.slice 40 (.slice (some ad) l.length c0) (some (.int .i64 1)) none none).run Try.prog W = .ok (.slice A' (l.length - 1) (c0 - 1)) W := hcut
  obtain ⟨f, hf⟩ : ∃ f : Nat, f = 1 + u := ⟨_, rfl⟩
  have w1_ : IntKind.i64.wrap (1 + (u : Int)) = (f : Int) := by rw [i64_w, w64s _ (by omega) (by omega)]; omega
  have d2 : decide ((n : Int) > 100000) = false := decide_eq_false (by omega)
  have d2' : decide (n > 100000) = false := decide_eq_false (by omega)
  have wn : IntKind.i64.wrap (n : Int) = (n : Int) := by rw [i64_w, w64s _ (by omega) (by omega)]
  obtain ⟨z0, hz0⟩ : ∃ z : Nat, z = l.length - 1 := ⟨_, rfl⟩
  have w20 : IntKind.i64.wrap ((l.length : Int) - 1) = (z0 : Int) := by rw [i64_w, w64s _ (by omega) (by omega)]; omega
  obtain ⟨z, hz⟩ : ∃ z : Nat, z = l.length - 1 - u := ⟨_, rfl⟩
  have w2_ : IntKind.i64.wrap ((z0 : Int) - (u : Int)) = (z : Int) := by rw [i64_w, w64s _ (by omega) (by omega)]; omega
  obtain ⟨y, hy⟩ : ∃ y : Nat, y = n + 4 := ⟨_, rfl⟩
  have w3_ : IntKind.i64.wrap ((n : Int) + 4) = (y : Int) := by rw [i64_w, w64s _ (by omega) (by omega)]; omega
  have d3 : decide ((z : Int) < (y : Int)) = false := decide_eq_false (by omega)
  have d3' : decide (z < y) = false := decide_eq_false (by omega)
  obtain ⟨e_, he⟩ : ∃ e_ : Nat, e_ = 1 + u + n := ⟨_, rfl⟩
  obtain ⟨t, ht⟩ : ∃ t : Nat, t = 1 + u + n + 4 := ⟨_, rfl⟩
  have w4_ : IntKind.i64.wrap ((f : Int) + (n : Int)) = (e_ : Int) := by rw [i64_w, w64s _ (by omega) (by omega)]; omega
  have w5_ : IntKind.i64.wrap ((e_ : Int) + 4) = (t : Int) := by rw [i64_w, w64s _ (by omega) (by omega)]; omega
  obtain ⟨A2, hcut2, hA2, hC2⟩ := rdb_mid (some ad) c0 l e_ t (by omega) (by omega) hc0
  have hcut3 := rdb_cut (some ad) c0 l e_ (by omega) hc0
  obtain ⟨A3, hcut4, hA3, hC3⟩ := rdb_mid (some ad) c0 l f e_ (by omega) (by omega) hc0
  have ht4 : t - e_ = 4 := by omega
  rw [ht4] at hcut2 hA2 hC2
  obtain ⟨p, hp⟩ : ∃ p, p = (l.take t).drop e_ := ⟨_, rfl⟩
  obtain ⟨b, hbd⟩ : ∃ b, b = l.take e_ := ⟨_, rfl⟩
  have HP4 : Aside0 (p.length = 4) := ⟨by rw [hp, List.length_drop, List.length_take]; omega⟩
  have HPB : Aside0 (Bytes p) := ⟨fun x hx => hb x (by rw [hp] at hx; exact List.mem_of_mem_take (List.mem_of_mem_drop hx))⟩
  have HBL : Aside0 (b.length = e_) := ⟨by rw [hbd, List.length_take]; omega⟩
  have HBB : Aside0 (Byt b) := ⟨fun x hx => hb x (by rw [hbd] at hx; exact List.mem_of_mem_take hx)⟩
  rw [← hp] at hA2
  have HA2 := Aside0.mk (hA2 w hr0)
  have HA3 := Aside0.mk (hA3 w hr0)
  have HRB : Aside0 (RdB w (some ad) e_ b) := ⟨by rw [hbd]; exact Go.Proofs.Ytchaegfdcdlfaaa.Y.rdb_take hr0 e_ (by omega)⟩
  obtain ⟨s, hs_⟩ : ∃ s : Nat, sumL b = (s : Int) := ⟨crc (nats b), rfl⟩
  have hsl : s < 4294967296 := by have := crc_lt (nats b); unfold sumL at hs_; omega
  have HS := Aside0.mk hs_
  have HSL := Aside0.mk hsl
  clear hA2 hA3
  rw [← ht, ← he, ← hp, ← hbd] at hq
  rw [← ht, ← he, ← hf]
  rw [← hbd] at HA3 ⊢
  have hne : (strOfNums p).toList = (strOfNums (word s)).toList := by
    have h1 : four p = s := by rw [hs_] at hq; omega
    rw [← h1, word_four p HP4.out HPB.out]
  have d4 : ((strOfNums p).toList != (strOfNums (word s)).toList) = false := by simpa using hne
  have d4' : ((strOfNums p).toList = (strOfNums (word s)).toList) = True := eq_true hne
  have d4'' : ((strOfNums p).toList == (strOfNums (word s)).toList) = true := by simpa using hne
  have hrd := hb (rd l 0) (by
    show l.getD 0 0 ∈ l
    rw [List.getD_eq_getElem?_getD, List.getElem?_eq_getElem h0, Option.getD_some]
    exact List.getElem_mem h0)
  have w6_ : IntKind.i64.wrap (rd l 0) = rd l 0 := by rw [i64_w, w64s _ (by omega) (by omega)]
  have HML : Aside0 ((b.drop f).length = e_ - f) := ⟨by rw [List.length_drop, HBL.out]⟩
  have X0 := Aside0.mk x0
  have HT := Aside0.mk ht
  have HE := Aside0.mk he
  have HFF := Aside0.mk hf
  have HSS := Aside0.mk hs
  have HNN := Aside0.mk hn
  clear hp hbd hq hne hs_ hsl
  clear hA hcut hg
  clear hr0 hb hf hz0 hz hy he ht ht4 hu hn hs
  go_enter Try.func45, Try.ntmps45
  go_wp2_with fail
  refine (rget_call2 HG.out HB1.out (by rw [List.length_drop]; omega) _ (by rw [List.length_drop]) A' _ _ HA.out hC).mono ?_
  rintro e w0 ⟨rfl, hb0⟩
  have HB0 := Aside0.mk hb0
  clear hb0
  go_wp2_with fail
  refine wp_region_held_drew (S := (fun W => RdB W A2 4 p ∧ RdB W (some ad) e_ b ∧ Below w.heap.size w W)) (by kernel_rfl) ((And.intro (rdb_below HA2.out (below_drew HB0.out)) (And.intro (rdb_below HRB.out (below_drew HB0.out)) (below_drew HB0.out)))) (fun hHeld => ?_)
  refine wpAnyH_take (i := 0) (v := ?_) (by simp only [List.getElem?_toArray, List.getElem?_cons_succ, List.getElem?_cons_zero]; rfl) (by kernel_rfl) (by kernel_rfl) (by kernel_rfl) (by intro _ _ _ h; exact h) (Or.inl ⟨by rfl, ?hy⟩) (by assumption) ?_
  case hy => (intro W_ hW_; go_simp; first | done | with_reducible rfl)
  try simp only [Act.put, List.setIfInBounds_toArray, List.set_cons_zero, List.set_cons_succ]
  refine wpAnyH_take (i := 1) (v := ?_) (by simp only [List.getElem?_toArray, List.getElem?_cons_succ, List.getElem?_cons_zero]; rfl) (by kernel_rfl) (by kernel_rfl) (by kernel_rfl) (by intro _ _ _ h; exact h) (Or.inl ⟨by rfl, ?hy⟩) (by assumption) ?_
  case hy => (intro W_ hW_; go_simp; first | done | with_reducible rfl)
  try simp only [Act.put, List.setIfInBounds_toArray, List.set_cons_zero, List.set_cons_succ]
  refine wpAnyH_take (i := 2) (v := ?_) (by simp only [List.getElem?_toArray, List.getElem?_cons_succ, List.getElem?_cons_zero]; rfl) (by kernel_rfl) (by kernel_rfl) (by kernel_rfl) (by intro _ _ _ h; exact h) (Or.inl ⟨by rfl, ?hy⟩) (by assumption) ?_
  case hy => (intro W_ hW_; go_simp; first | done | with_reducible rfl)
  try simp only [Act.put, List.setIfInBounds_toArray, List.set_cons_zero, List.set_cons_succ]
  refine wpAnyH_take (i := 3) (v := ?_) (by simp only [List.getElem?_toArray, List.getElem?_cons_succ, List.getElem?_cons_zero]; rfl) (by kernel_rfl) (by kernel_rfl) (by kernel_rfl) (by intro _ _ _ h; exact h) (Or.inl ⟨by rfl, ?hy⟩) (by assumption) ?_
  case hy => (intro W_ hW_; go_simp; first | done | with_reducible rfl)
  try simp only [Act.put, List.setIfInBounds_toArray, List.set_cons_zero, List.set_cons_succ]
  refine wpAnyH_take (i := 4) (v := ?_) (by simp only [List.getElem?_toArray, List.getElem?_cons_succ, List.getElem?_cons_zero]; rfl) (by kernel_rfl) (by kernel_rfl) (by kernel_rfl) (by intro _ _ _ h; exact h) (Or.inl ⟨by rfl, ?hy⟩) (by assumption) ?_
  case hy => (intro W_ hW_; go_simp; first | done | with_reducible rfl)
  try simp only [Act.put, List.setIfInBounds_toArray, List.set_cons_zero, List.set_cons_succ]
  refine wpAnyH_take (i := 5) (v := ?_) (by simp only [List.getElem?_toArray, List.getElem?_cons_succ, List.getElem?_cons_zero]; rfl) (by kernel_rfl) (by kernel_rfl) (by kernel_rfl) (by intro _ _ _ h; exact h) (Or.inl ⟨by rfl, ?hy⟩) (by assumption) ?_
  case hy => (intro W_ hW_; have f_ := convs hW_.1 (c0 - e_); go_simp; first | done | with_reducible rfl)
  try simp only [Act.put, List.setIfInBounds_toArray, List.set_cons_zero, List.set_cons_succ]
  refine wpAnyH_take (i := 6) (v := ?_) (by simp only [List.getElem?_toArray, List.getElem?_cons_succ, List.getElem?_cons_zero]; rfl) (by kernel_rfl) (by kernel_rfl) (by kernel_rfl) (by intro _ _ _ h; exact h) (Or.inl ⟨by rfl, ?hy⟩) (by assumption) ?_
  case hy => (intro W_ hW_; go_simp; first | done | with_reducible rfl)
  try simp only [Act.put, List.setIfInBounds_toArray, List.set_cons_zero, List.set_cons_succ]
  refine wpAnyH_take (i := 7) (v := ?_) (by simp only [List.getElem?_toArray, List.getElem?_cons_succ, List.getElem?_cons_zero]; rfl) (by kernel_rfl) (by kernel_rfl) (by kernel_rfl) (by intro _ _ _ h; exact h) (Or.inl ⟨by rfl, ?hy⟩) (by assumption) ?_
  case hy => (intro W_ hW_; go_simp; first | done | with_reducible rfl)
  try simp only [Act.put, List.setIfInBounds_toArray, List.set_cons_zero, List.set_cons_succ]
  refine wpAnyH_take (i := 8) (v := ?_) (by simp only [List.getElem?_toArray, List.getElem?_cons_succ, List.getElem?_cons_zero]; rfl) (by kernel_rfl) (by kernel_rfl) (by kernel_rfl) (by intro _ _ _ h; exact h) (Or.inl ⟨by rfl, ?hy⟩) (by assumption) ?_
  case hy => (intro W_ hW_; go_simp; first | done | with_reducible rfl)
  try simp only [Act.put, List.setIfInBounds_toArray, List.set_cons_zero, List.set_cons_succ]
  refine wpAnyH_ready (rs := [9]) (by kernel_rfl) (by simp) ?_
  refine AllReadyH.cons (by simp only [List.getElem?_toArray, List.getElem?_cons_succ, List.getElem?_cons_zero]; rfl) (fun K hK => ?_) AllReadyH.nil
  rw [if_pos (by rfl)]
  go_wp2_with fail
  refine (rsum2_callB (some ad) c0 b e_ HBL.out _ hHeld.2.1 (by have := HC.out; have := HE.out; have := HSS.out; omega) HBB.out (by have := HLL.out; have := HE.out; have := HSS.out; omega)).mono ?_
  rintro e w5 ⟨rfl, hb5⟩; rw [HS.out]
  refine hK.out _ _ (And.intro (rdb_below hHeld.1 hb5) (And.intro (rdb_below hHeld.2.1 hb5) (below_step hHeld.2.2 hb5))) (fun hHeld2 => ?_)
  clear hK K hHeld
  have hHeld := hHeld2
  clear hHeld2
  try simp only [Act.put, List.setIfInBounds_toArray, List.set_cons_zero, List.set_cons_succ]
  refine wpAnyH_ready (rs := [10]) (by kernel_rfl) (by simp) ?_
  refine AllReadyH.cons (by simp only [List.getElem?_toArray, List.getElem?_cons_succ, List.getElem?_cons_zero]; rfl) (fun K hK => ?_) AllReadyH.nil
  rw [if_pos (by rfl)]
  go_wp2_with fail
  refine (rword_call s HSL.out _).mono ?_
  rintro e w6 ⟨A6, c6, rfl, hc6, hr6, hb6⟩
  refine hK.out _ _ (And.intro (rdb_below hHeld.1 hb6) (And.intro (rdb_below hHeld.2.1 hb6) (below_step hHeld.2.2 hb6))) (fun hHeld2 => ?_)
  clear hK K hHeld
  have hHeld := And.intro hHeld2.1 (And.intro hHeld2.2.1 (And.intro hHeld2.2.2 hr6))
  clear hHeld2
  try simp only [Act.put, List.setIfInBounds_toArray, List.set_cons_zero, List.set_cons_succ]
  refine Go.Proofs.Ytchaegfdcdlfaaa.Y.wpAnyH_str (S2 := fun W => RdB W A2 4 p ∧ RdB W (some ad) e_ b ∧ Below w.heap.size w W ∧ RdB W A6 4 (word s)) (fun W h => ⟨h.1, h.2.1, h.2.2.1⟩) _ _ _ _ ?_
  refine wpAnyH_take (i := 11) (v := ?_) (by simp only [List.getElem?_toArray, List.getElem?_cons_succ, List.getElem?_cons_zero]; rfl) (by kernel_rfl) (by kernel_rfl) (by kernel_rfl) (by intro _ _ _ h; exact h) (Or.inl ⟨by rfl, ?hy⟩) (by assumption) ?_
  case hy => (intro W_ hW_; have f_ := convs hW_.2.2.2 c6; go_simp; first | done | with_reducible rfl)
  try simp only [Act.put, List.setIfInBounds_toArray, List.set_cons_zero, List.set_cons_succ]
  refine wpAnyH_take (i := 12) (v := ?_) (by simp only [List.getElem?_toArray, List.getElem?_cons_succ, List.getElem?_cons_zero]; rfl) (by kernel_rfl) (by kernel_rfl) (by kernel_rfl) (by intro _ _ _ h; exact h) (Or.inl ⟨by rfl, ?hy⟩) (by assumption) ?_
  case hy => (intro W_ hW_; go_simp; first | done | with_reducible rfl)
  try simp only [Act.put, List.setIfInBounds_toArray, List.set_cons_zero, List.set_cons_succ]
  refine wpAnyH_done (by kernel_rfl) ?_ _
  go_wp2_with fail
  have HB7 : Aside0 (Below w.heap.size w w6.drew) := ⟨below_drew hHeld.2.2.1⟩
  clear hHeld
  refine wp_region_held_drew (S := (fun W => W.cell? ad = some (.int .u8 (rd l 0)) ∧ RdB W A3 (e_ - f) (b.drop f) ∧ Below w.heap.size w W)) (by kernel_rfl) ((And.intro ((HB7.out.cell (World.block_lt_of_cell? w _ X0.out)).trans X0.out) (And.intro (rdb_below HA3.out HB7.out) HB7.out))) (fun hHeld => ?_)
  refine wpAnyH_take (i := 0) (v := ?_) (by simp only [List.getElem?_toArray, List.getElem?_cons_succ, List.getElem?_cons_zero]; rfl) (by kernel_rfl) (by kernel_rfl) (by kernel_rfl) (by intro _ _ _ h; exact h) (Or.inl ⟨by rfl, ?hy⟩) (by assumption) ?_
  case hy => (intro W_ hW_; go_simp; first | done | with_reducible rfl)
  try simp only [Act.put, List.setIfInBounds_toArray, List.set_cons_zero, List.set_cons_succ]
  refine wpAnyH_take (i := 1) (v := ?_) (by simp only [List.getElem?_toArray, List.getElem?_cons_succ, List.getElem?_cons_zero]; rfl) (by kernel_rfl) (by kernel_rfl) (by kernel_rfl) (by intro _ _ _ h; exact h) (Or.inl ⟨by rfl, ?hy⟩) (by assumption) ?_
  case hy => (intro W_ hW_; go_simp; first | done | with_reducible rfl)
  try simp only [Act.put, List.setIfInBounds_toArray, List.set_cons_zero, List.set_cons_succ]
  refine wpAnyH_take (i := 2) (v := ?_) (by simp only [List.getElem?_toArray, List.getElem?_cons_succ, List.getElem?_cons_zero]; rfl) (by kernel_rfl) (by kernel_rfl) (by kernel_rfl) (by intro _ _ _ h; exact h) (Or.inl ⟨by rfl, ?hy⟩) (by assumption) ?_
  case hy => (intro W_ hW_; have f_ := hW_.1; go_simp; first | done | with_reducible rfl)
  try simp only [Act.put, List.setIfInBounds_toArray, List.set_cons_zero, List.set_cons_succ]
  refine wpAnyH_take (i := 3) (v := ?_) (by simp only [List.getElem?_toArray, List.getElem?_cons_succ, List.getElem?_cons_zero]; rfl) (by kernel_rfl) (by kernel_rfl) (by kernel_rfl) (by intro _ _ _ h; exact h) (Or.inl ⟨by rfl, ?hy⟩) (by assumption) ?_
  case hy => (intro W_ hW_; go_simp; first | done | with_reducible rfl)
  try simp only [Act.put, List.setIfInBounds_toArray, List.set_cons_zero, List.set_cons_succ]
  refine wpAnyH_take (i := 4) (v := ?_) (by simp only [List.getElem?_toArray, List.getElem?_cons_succ, List.getElem?_cons_zero]; rfl) (by kernel_rfl) (by kernel_rfl) (by kernel_rfl) (by intro _ _ _ h; exact h) (Or.inl ⟨by rfl, ?hy⟩) (by assumption) ?_
  case hy => (intro W_ hW_; go_simp; first | done | with_reducible rfl)
  try simp only [Act.put, List.setIfInBounds_toArray, List.set_cons_zero, List.set_cons_succ]
  refine wpAnyH_take (i := 5) (v := ?_) (by simp only [List.getElem?_toArray, List.getElem?_cons_succ, List.getElem?_cons_zero]; rfl) (by kernel_rfl) (by kernel_rfl) (by kernel_rfl) (by intro _ _ _ h; exact h) (Or.inl ⟨by rfl, ?hy⟩) (by assumption) ?_
  case hy => (intro W_ hW_; go_simp; first | done | with_reducible rfl)
  try simp only [Act.put, List.setIfInBounds_toArray, List.set_cons_zero, List.set_cons_succ]
  refine wpAnyH_take (i := 6) (v := ?_) (by simp only [List.getElem?_toArray, List.getElem?_cons_succ, List.getElem?_cons_zero]; rfl) (by kernel_rfl) (by kernel_rfl) (by kernel_rfl) (by intro _ _ _ h; exact h) (Or.inl ⟨by rfl, ?hy⟩) (by assumption) ?_
  case hy => (intro W_ hW_; go_simp; first | done | with_reducible rfl)
  try simp only [Act.put, List.setIfInBounds_toArray, List.set_cons_zero, List.set_cons_succ]
  refine wpAnyH_take (i := 7) (v := ?_) (by simp only [List.getElem?_toArray, List.getElem?_cons_succ, List.getElem?_cons_zero]; rfl) (by kernel_rfl) (by kernel_rfl) (by kernel_rfl) (by intro _ _ _ h; exact h) (Or.inl ⟨by rfl, ?hy⟩) (by assumption) ?_
  case hy => (intro W_ hW_; go_simp; first | done | with_reducible rfl)
  try simp only [Act.put, List.setIfInBounds_toArray, List.set_cons_zero, List.set_cons_succ]
  refine wpAnyH_take (i := 8) (v := ?_) (by simp only [List.getElem?_toArray, List.getElem?_cons_succ, List.getElem?_cons_zero]; rfl) (by kernel_rfl) (by kernel_rfl) (by kernel_rfl) (by intro _ _ _ h; exact h) (Or.inl ⟨by rfl, ?hy⟩) (by assumption) ?_
  case hy => (intro W_ hW_; go_simp; first | done | with_reducible rfl)
  try simp only [Act.put, List.setIfInBounds_toArray, List.set_cons_zero, List.set_cons_succ]
  refine wpAnyH_take (i := 10) (v := ?_) (by simp only [List.getElem?_toArray, List.getElem?_cons_succ, List.getElem?_cons_zero]; rfl) (by kernel_rfl) (by kernel_rfl) (by kernel_rfl) (by intro _ _ _ h; exact h) (Or.inl ⟨by rfl, ?hy⟩) (by assumption) ?_
  case hy => (intro W_ hW_; go_simp; first | done | with_reducible rfl)
  try simp only [Act.put, List.setIfInBounds_toArray, List.set_cons_zero, List.set_cons_succ]
  refine wpAnyH_take (i := 11) (v := ?_) (by simp only [List.getElem?_toArray, List.getElem?_cons_succ, List.getElem?_cons_zero]; rfl) (by kernel_rfl) (by kernel_rfl) (by kernel_rfl) (by intro _ _ _ h; exact h) (Or.inl ⟨by rfl, ?hy⟩) (by assumption) ?_
  case hy => (intro W_ hW_; go_simp; first | done | with_reducible rfl)
  try simp only [Act.put, List.setIfInBounds_toArray, List.set_cons_zero, List.set_cons_succ]
  refine wpAnyH_ready (rs := [9]) (by kernel_rfl) (by simp) ?_
  refine AllReadyH.cons (by simp only [List.getElem?_toArray, List.getElem?_cons_succ, List.getElem?_cons_zero]; rfl) (fun K hK => ?_) AllReadyH.nil
  rw [if_pos (by rfl)]
  refine wp_append8 w.heap.size (.const (.slice none 0 0)) (.tmp 69) (by rfl) (.slice none 0 0) [] (b.drop f) A3 (e_ - f) (c0 - f) (by rfl) (by rfl) (own_nil _ _ _ _) hHeld.2.1 hHeld.2.2 hHeld.2.2.size (by have := HE.out; have := HFF.out; have := HNN.out; simp; omega) ?_
  intro v5 w8 HO5 HB5
  refine hK.out _ _ (And.intro ((HB5.out.cell (World.block_lt_of_cell? w _ X0.out)).trans X0.out) (And.intro (rdb_below HA3.out HB5.out) HB5.out)) (fun hHeld2 => ?_)
  clear hK K hHeld
  have hHeld := hHeld2
  clear hHeld2
  try simp only [Act.put, List.setIfInBounds_toArray, List.set_cons_zero, List.set_cons_succ, List.nil_append]
  refine wpAnyH_take (i := 12) (v := ?_) (by simp only [List.getElem?_toArray, List.getElem?_cons_succ, List.getElem?_cons_zero]; rfl) (by kernel_rfl) (by kernel_rfl) (by kernel_rfl) (by intro _ _ _ h; exact h) (Or.inl ⟨by rfl, ?hy⟩) (by assumption) ?_
  case hy => (intro W_ hW_; go_simp; first | done | with_reducible rfl)
  try simp only [Act.put, List.setIfInBounds_toArray, List.set_cons_zero, List.set_cons_succ]
  refine wpAnyH_take (i := 13) (v := ?_) (by simp only [List.getElem?_toArray, List.getElem?_cons_succ, List.getElem?_cons_zero]; rfl) (by kernel_rfl) (by kernel_rfl) (by kernel_rfl) (by intro _ _ _ h; exact h) (Or.inl ⟨by rfl, ?hy⟩) (by assumption) ?_
  case hy => (intro W_ hW_; go_simp; first | done | with_reducible rfl)
  try simp only [Act.put, List.setIfInBounds_toArray, List.set_cons_zero, List.set_cons_succ]
  refine wpAnyH_take (i := 14) (v := ?_) (by simp only [List.getElem?_toArray, List.getElem?_cons_succ, List.getElem?_cons_zero]; rfl) (by kernel_rfl) (by kernel_rfl) (by kernel_rfl) (by intro _ _ _ h; exact h) (Or.inl ⟨by rfl, ?hy⟩) (by assumption) ?_
  case hy => (intro W_ hW_; go_simp; first | done | with_reducible rfl)
  try simp only [Act.put, List.setIfInBounds_toArray, List.set_cons_zero, List.set_cons_succ]
  refine wpAnyH_take (i := 15) (v := ?_) (by simp only [List.getElem?_toArray, List.getElem?_cons_succ, List.getElem?_cons_zero]; rfl) (by kernel_rfl) (by kernel_rfl) (by kernel_rfl) (by intro _ _ _ h; exact h) (Or.inl ⟨by rfl, ?hy⟩) (by assumption) ?_
  case hy => (intro W_ hW_; go_simp; first | done | with_reducible rfl)
  try simp only [Act.put, List.setIfInBounds_toArray, List.set_cons_zero, List.set_cons_succ]
  refine wpAnyH_done (by kernel_rfl) ?_ _
  go_wp2_with fail
  (try simp only [Exit.inBlock, Exit.then])
  refine bodyPost_ret (results_list (rs := [.tmp 2, .tmp 3, .tmp 4, .tmp 5]) rfl (by simp) (.tmp (.tmp (.tmp (.tmp .nil))))) rfl ?_
  refine ⟨v5, rfl, Kd.R_of_own (ok := fun _ => True) (by have h := HO5.out; rw [List.nil_append] at h; exact h) (fun _ _ => trivial), HB5.out⟩

theorem ropen_call (A0 : Option Addr) (c0 : Nat) (l : List Int) (w : World) (hr0 : RdB w A0 l.length l) (hc0 : l.length ≤ c0) (hb : Bytes l) (hl : l.length ≤ 1000000000) :
    Calls Try.prog 45 #[.slice A0 l.length c0] w fun e w' => OpenQ w (openL l) e w' := by
  have hg := getL_is (drop_bytes hb 1) (by rw [List.length_drop]; omega)
  unfold openL
  generalize getL (l.drop 1) = g at hg
  by_cases h0 : l.length = 0
  · refine (ropen_empty A0 c0 l w hr0 hc0 hb hl h0).mono fun e w' h => h.of ?_
    unfold openR
    rw [if_pos (Or.inl h0)]
  · by_cases h10 : 10 ≤ rd l 0
    · refine (ropen_kind A0 c0 l w hr0 hc0 hb hl (by omega) h10).mono fun e w' h => h.of ?_
      unfold openR
      rw [if_pos (Or.inr h10)]
    · obtain ⟨n, u, hgg, hu⟩ := used_lt (by omega) hg
      obtain ⟨b, hbb⟩ : ∃ b, b = g.2.2 := ⟨_, rfl⟩
      rw [← hbb] at hgg
      subst hgg
      cases b with
      | false =>
        refine (ropen_not A0 c0 l w hr0 hc0 hb hl (by omega) h10 n u hg hu).mono fun e w' h => h.of ?_
        unfold openR
        rw [if_neg (by omega), if_pos (Or.inl rfl)]
      | true =>
        by_cases hn : 100000 < n
        · refine (ropen_big A0 c0 l w hr0 hc0 hb hl (by omega) h10 n u hg hu hn).mono fun e w' h => h.of ?_
          unfold openR
          rw [if_neg (by omega), if_pos (Or.inr (Or.inl (show (100000 : Int) < (n : Int) by omega)))]
        · by_cases hs : l.length < 1 + u + n + 4
          · refine (ropen_short A0 c0 l w hr0 hc0 hb hl (by omega) h10 n u hg hu (by omega) hs).mono fun e w' h => h.of ?_
            unfold openR
            rw [if_neg (by omega), if_pos (Or.inr (Or.inr (show (l.length : Int) < 1 + (u : Int) + (n : Int) + 4 by omega)))]
          · have hcond : ¬ ((true = false) ∨ (100000 : Int) < (n : Int) ∨ (l.length : Int) < 1 + (u : Int) + (n : Int) + 4) := by
              rintro (h | h | h)
              · cases h
              · omega
              · omega
            by_cases hq : (four ((l.take (1 + u + n + 4)).drop (1 + u + n)) : Int) = sumL (l.take (1 + u + n))
            · refine (ropen_ok A0 c0 l w hr0 hc0 hb hl (by omega) h10 n u hg hu (by omega) (by omega) hq).mono fun e w' h => h.of ?_
              unfold openR
              rw [if_neg (by omega), if_neg hcond]
              simp only [Int.toNat_natCast]
              rw [if_neg (fun h => h hq)]
            · refine (ropen_bad A0 c0 l w hr0 hc0 hb hl (by omega) h10 n u hg hu (by omega) (by omega) hq).mono fun e w' h => h.of ?_
              unfold openR
              rw [if_neg (by omega), if_neg hcond]
              simp only [Int.toNat_natCast]
              rw [if_pos hq]
/-- In the printed form. -/
def rolodexref02_Open.f (k : Nat) (l0 : List Int) : Option (Int × List Int × Int × Int) := if l0.all (fun x => decide (0 ≤ x ∧ x ≤ 255)) = true ∧ l0.length ≤ 1000000000 then some (openL l0) else none
theorem rolodexref02_Open.mono : ∀ a0 k, LeO (rolodexref02_Open.f k a0) (rolodexref02_Open.f (k + 1) a0) := fun _ _ => LeO.refl _
theorem rolodexref02_Open.calls (k : Nat) (A0 : Option Addr) (c0 : Nat) (l0 : List Int) (r1 : Int) (r2 : List Int) (r3 : Int) (r4 : Int) (w : World) (hr0 : Kd.C (Kd.int .u8) w A0 l0.length l0) (hc0 : l0.length ≤ c0) (h : rolodexref02_Open.f k l0 = some (r1, r2, r3, r4)) :
    Calls Try.prog 45 #[.slice A0 l0.length c0] w fun e w' => ∃ v1_ : Value, e = .returned (.tuple #[.int .i64 r1, v1_, .int .i64 r3, .int .i64 r4]) ∧ Kd.R (Kd.int .u8) 5 w' w.heap.size (fun _ => True) v1_ r2 ∧ Below w.heap.size w w' := by
  unfold rolodexref02_Open.f at h
  split at h
  · rename_i hh
    injection h with h
    refine (ropen_call A0 c0 l0 w hr0 hc0 (fun x hx => by simpa using List.all_eq_true.1 hh.1 x hx) hh.2).mono fun e w' hq => ?_
    exact hq.of h
  · cases h
theorem ROpen_eq (k : Nat) {l : List Int} (hb : Bytes l) (hl : l.length ≤ 1000000000) : rolodexref02_Open.f k l = some (openL l) := by
  unfold rolodexref02_Open.f
  rw [if_pos ⟨List.all_eq_true.2 fun x hx => decide_eq_true (hb x hx), hl⟩]
end Go.Proofs.Ytchaegfdcdlfaaa.X
