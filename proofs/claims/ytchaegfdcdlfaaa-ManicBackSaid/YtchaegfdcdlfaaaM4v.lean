/- Texts of this claim, what it reaches. -/
import Derived.Test.YtchaegfdcdlfaaaM3v
import Derived.Laws.BitsAllLaws
import Derived.Test.YtchaegfdcdlfaaaM1v
import Derived.Test.YtchaegfdcdlfaaaM2v
import Derived.Lib.AppendZeros
import Derived.Lib.SlBytesConst
import Derived.WalkLawsBesides

namespace Go.Proofs.Ytchaegfdcdlfaaa.Y
set_option linter.unusedVariables false
set_option linter.unusedSimpArgs false
open Go.Proofs.Ytchaegfdcdlfaaa.X Go.RowKit Go.Proofs.YtchaegfdcdlfaaaW.PrintWords Go.Proofs.YtchaegfdcdlfaaaW.PrintLast Go.Proofs.YtchaegfdcdlfaaaW.PrintMore

def ahead (n : Nat) : List Int := if n < 128 then [] else more (n / 128)
end Go.Proofs.Ytchaegfdcdlfaaa.Y

namespace Go.Proofs.Ytchaegfdcdlfaaa.Y
set_option linter.unusedVariables false
set_option linter.unusedSimpArgs false
open Go.Proofs.Ytchaegfdcdlfaaa.X Go.RowKit Go.Proofs.YtchaegfdcdlfaaaW.PrintWords Go.Proofs.YtchaegfdcdlfaaaW.PrintLast Go.Proofs.YtchaegfdcdlfaaaW.PrintMore

end Go.Proofs.Ytchaegfdcdlfaaa.Y

namespace Go.Proofs.Ytchaegfdcdlfaaa.X
set_option linter.unusedVariables false
set_option linter.unusedSimpArgs false

def cpoly : Nat := 3988292384
def t1 (w : Nat) : Nat := w / 2 ^^^ (if w % 2 = 1 then cpoly else 0)
def tn : Nat → Nat → Nat
  | 0, w => w
  | n + 1, w => tn n (t1 w)
theorem tn_succ : ∀ (n w : Nat), tn (n + 1) w = t1 (tn n w)
  | 0, w => rfl
  | n + 1, w => tn_succ n (t1 w)
def crcStep (w c : Nat) : Nat := tn 8 (w ^^^ c)
def crcFrom (w : Nat) (l : List Nat) : Nat := l.foldl crcStep w
def crc (l : List Nat) : Nat := 4294967295 - crcFrom 4294967295 l

theorem xor_lc (a b c : Nat) : a ^^^ (b ^^^ c) = b ^^^ (a ^^^ c) := by rw [← Nat.xor_assoc, Nat.xor_comm a b, Nat.xor_assoc]
theorem t1_xor (a b : Nat) : t1 (a ^^^ b) = t1 a ^^^ t1 b := by
  have h2 : (a ^^^ b) / 2 = a / 2 ^^^ b / 2 := by
    have := Nat.shiftRight_xor_distrib (a := a) (b := b) (i := 1)
    simpa [Nat.shiftRight_eq_div_pow] using this
  have hm : (a ^^^ b) % 2 = (a + b) % 2 := by
    have h1 : ((a ^^^ b) % 2 = 1) ↔ ¬ ((a % 2 = 1) ↔ (b % 2 = 1)) := Nat.xor_mod_two_eq_one
    by_cases h2 : (a ^^^ b) % 2 = 1
    · have := h1.1 h2; omega
    · have := mt h1.2 h2; omega
  unfold t1
  rw [h2, hm]
  generalize a / 2 = x
  generalize b / 2 = y
  rcases Nat.mod_two_eq_zero_or_one a with ha | ha <;> rcases Nat.mod_two_eq_zero_or_one b with hb | hb
  · rw [if_neg (by omega), if_neg (by omega), if_neg (by omega)]; simp
  · rw [if_pos (by omega), if_neg (by omega), if_pos (by omega)]; simp [Nat.xor_assoc]
  · rw [if_pos (by omega), if_pos (by omega), if_neg (by omega)]; rw [Nat.xor_zero, Nat.xor_assoc, Nat.xor_assoc, Nat.xor_comm y cpoly]
  · rw [if_neg (by omega), if_pos (by omega), if_pos (by omega)]
    rw [Nat.xor_zero, Nat.xor_assoc, xor_lc cpoly y cpoly, Nat.xor_self, Nat.xor_zero]
theorem t1_lt {w : Nat} (h : w < 4294967296) : t1 w < 4294967296 := by
  unfold t1
  refine Nat.xor_lt_two_pow (n := 32) (by omega) ?_
  split <;> decide
theorem t1_zero {w : Nat} (h : w < 4294967296) (hz : t1 w = 0) : w = 0 := by
  unfold t1 at hz
  split at hz
  · have : w / 2 = cpoly := by
      have := congrArg (· ^^^ cpoly) hz
      simpa [Nat.xor_assoc] using this
    unfold cpoly at this
    omega
  · simp at hz
    omega
theorem tn_xor : ∀ (n a b : Nat), tn n (a ^^^ b) = tn n a ^^^ tn n b
  | 0, a, b => rfl
  | n + 1, a, b => by simp only [tn]; rw [t1_xor, tn_xor n]
theorem tn_lt : ∀ (n : Nat) {w : Nat}, w < 4294967296 → tn n w < 4294967296
  | 0, _, h => h
  | n + 1, _, h => tn_lt n (t1_lt h)
theorem tn_zero : ∀ (n : Nat) {w : Nat}, w < 4294967296 → tn n w = 0 → w = 0
  | 0, _, _, h => h
  | n + 1, _, h, hz => t1_zero h (tn_zero n (t1_lt h) hz)
theorem xor_eq_zero {a b : Nat} (h : a ^^^ b = 0) : a = b := by
  have := congrArg (· ^^^ b) h
  simpa [Nat.xor_assoc] using this
theorem tn_inj (n : Nat) {a b : Nat} (ha : a < 4294967296) (hb : b < 4294967296) (h : tn n a = tn n b) : a = b := by
  have hx : tn n (a ^^^ b) = 0 := by rw [tn_xor, h, Nat.xor_self]
  exact xor_eq_zero (tn_zero n (Nat.xor_lt_two_pow (n := 32) ha hb) hx)
theorem crcStep_lt {w c : Nat} (hw : w < 4294967296) (hc : c < 256) : crcStep w c < 4294967296 := tn_lt 8 (Nat.xor_lt_two_pow (n := 32) hw (by omega))
theorem crcFrom_lt : ∀ {l : List Nat} {w : Nat}, w < 4294967296 → (∀ c ∈ l, c < 256) → crcFrom w l < 4294967296
  | [], _, h, _ => h
  | c :: l, w, h, hl => crcFrom_lt (l := l) (crcStep_lt h (hl c (by simp))) (fun x hx => hl x (by simp [hx]))
theorem crcStep_inj {w v c : Nat} (hw : w < 4294967296) (hv : v < 4294967296) (hc : c < 256) (h : crcStep w c = crcStep v c) : w = v := by
  have := tn_inj 8 (Nat.xor_lt_two_pow (n := 32) hw (by omega)) (Nat.xor_lt_two_pow (n := 32) hv (by omega)) h
  have := congrArg (· ^^^ c) this
  simpa [Nat.xor_assoc] using this
theorem crcStep_inj_c {w c d : Nat} (hw : w < 4294967296) (hc : c < 256) (hd : d < 256) (h : crcStep w c = crcStep w d) : c = d := by
  have := tn_inj 8 (Nat.xor_lt_two_pow (n := 32) hw (by omega)) (Nat.xor_lt_two_pow (n := 32) hw (by omega)) h
  have := congrArg (w ^^^ ·) this
  simpa [← Nat.xor_assoc] using this
theorem crcFrom_inj : ∀ {l : List Nat} {w v : Nat}, w < 4294967296 → v < 4294967296 → (∀ c ∈ l, c < 256) → crcFrom w l = crcFrom v l → w = v
  | [], _, _, _, _, _, h => h
  | c :: l, w, v, hw, hv, hl, h => crcStep_inj hw hv (hl c (by simp)) (crcFrom_inj (l := l) (crcStep_lt hw (hl c (by simp))) (crcStep_lt hv (hl c (by simp))) (fun x hx => hl x (by simp [hx])) h)
theorem crcFrom_append (w : Nat) (l m : List Nat) : crcFrom w (l ++ m) = crcFrom (crcFrom w l) m := by simp [crcFrom]
theorem crcFrom_set {l : List Nat} {i c : Nat} (hl : ∀ c ∈ l, c < 256) (hi : i < l.length) (hc : c < 256) {w : Nat} (hw : w < 4294967296) (h : crcFrom w (l.set i c) = crcFrom w l) : l.getD i 0 = c := by
  have h1 : l = l.take i ++ l.getD i 0 :: l.drop (i + 1) := by
    have := List.drop_eq_getElem_cons hi
    rw [List.getD_eq_getElem?_getD, List.getElem?_eq_getElem hi, Option.getD_some, ← this, List.take_append_drop]
  have h2 : l.set i c = l.take i ++ c :: l.drop (i + 1) := by rw [List.set_eq_take_append_cons_drop, if_pos hi]
  have hg : l.getD i 0 < 256 := by
    rw [List.getD_eq_getElem?_getD, List.getElem?_eq_getElem hi, Option.getD_some]
    exact hl _ (List.getElem_mem hi)
  rw [h2] at h
  conv at h => rhs; rw [h1]
  rw [crcFrom_append, crcFrom_append] at h
  have ht : crcFrom w (l.take i) < 4294967296 := crcFrom_lt hw (fun x hx => hl x (List.mem_of_mem_take hx))
  have hd : ∀ c ∈ l.drop (i + 1), c < 256 := fun x hx => hl x (List.mem_of_mem_drop hx)
  exact (crcStep_inj_c ht hc hg (crcFrom_inj (crcStep_lt ht hc) (crcStep_lt ht hg) hd h)).symm
theorem crc_set {l : List Nat} {i c : Nat} (hl : ∀ c ∈ l, c < 256) (hi : i < l.length) (hc : c < 256) (h : crc (l.set i c) = crc l) : l.getD i 0 = c := by
  refine crcFrom_set hl hi hc (w := 4294967295) (by omega) ?_
  have h1 : crcFrom 4294967295 l < 4294967296 := crcFrom_lt (by omega) hl
  have h2 : crcFrom 4294967295 (l.set i c) < 4294967296 := crcFrom_lt (by omega) (fun x hx => by
    rcases List.mem_or_eq_of_mem_set hx with hx | rfl
    · exact hl x hx
    · exact hc)
  unfold crc at h
  omega
theorem crc_lt (l : List Nat) : crc l < 4294967296 := by unfold crc; omega

theorem not_xor {x : Nat} (h : x < 4294967296) : 4294967295 - x = x ^^^ 4294967295 := by
  apply Nat.eq_of_testBit_eq
  intro i
  have h1 := Nat.testBit_two_pow_sub_succ (x := x) (n := 32) h i
  rw [show 2 ^ 32 - (x + 1) = 4294967295 - x by omega] at h1
  have h2 := Nat.testBit_two_pow_sub_one 32 i
  rw [show 2 ^ 32 - 1 = 4294967295 by decide] at h2
  rw [h1, Nat.testBit_xor, h2]
  by_cases hi : i < 32
  · simp [hi]
  · have : x.testBit i = false := Nat.testBit_lt_two_pow (Nat.lt_of_lt_of_le h (Nat.pow_le_pow_right (n := 2) (i := 32) (by omega) (by omega)))
    simp [hi, this]
theorem t1_even {w : Nat} (h : w % 2 = 0) : t1 w = w / 2 := by
  unfold t1
  rw [if_neg (by omega), Nat.xor_zero]
theorem tn_even : ∀ (n w : Nat), w % 2 ^ n = 0 → tn n w = w / 2 ^ n
  | 0, w, _ => by simp [tn]
  | n + 1, w, h => by
    have hp : 2 ^ (n + 1) = 2 * 2 ^ n := by rw [Nat.pow_succ, Nat.mul_comm]
    have h2 : w % 2 = 0 := by
      rw [hp] at h
      have := Nat.mod_mul_right_mod w 2 (2 ^ n)
      rw [h] at this
      omega
    have h3 : w / 2 % 2 ^ n = 0 := by
      have := Nat.mod_mul (x := w) (a := 2) (b := 2 ^ n)
      rw [← hp, h] at this
      omega
    rw [tn, t1_even h2, tn_even n (w / 2) h3, hp, Nat.div_div_eq_div_mul]
theorem split8 (x : Nat) : x = (x % 256) ^^^ (x / 256 * 256) := by
  apply Nat.eq_of_testBit_eq
  intro i
  have e1 : (x % 256).testBit i = (decide (i < 8) && x.testBit i) := Nat.testBit_mod_two_pow x 8 i
  have e2 : (x / 256 * 256).testBit i = (decide (8 ≤ i) && x.testBit i) := by
    have h1 : x / 256 * 256 = (x >>> 8) <<< 8 := by rw [Nat.shiftRight_eq_div_pow, Nat.shiftLeft_eq]
    rw [h1, Nat.testBit_shiftLeft, Nat.testBit_shiftRight]
    by_cases h : 8 ≤ i
    · simp [h]
    · simp [h]
  rw [Nat.testBit_xor, e1, e2]
  by_cases h : i < 8
  · simp [h, Nat.not_le.2 h]
  · simp [h, Nat.not_lt.1 h]
theorem step_table (w c : Nat) (hc : c < 256) : tn 8 ((w % 256) ^^^ c) ^^^ (w / 256) = crcStep w c := by
  have hx : (w ^^^ c) % 256 = (w % 256) ^^^ c := by
    have := Nat.xor_mod_two_pow (a := w) (b := c) (n := 8)
    rw [show (2 : Nat) ^ 8 = 256 by decide] at this
    rw [this, Nat.mod_eq_of_lt hc]
  have hd : (w ^^^ c) / 256 = w / 256 := by
    have := Nat.shiftRight_xor_distrib (a := w) (b := c) (i := 8)
    simp only [Nat.shiftRight_eq_div_pow] at this
    rw [show (2 : Nat) ^ 8 = 256 by decide] at this
    rw [this, Nat.div_eq_of_lt hc, Nat.xor_zero]
  unfold crcStep
  conv => rhs; rw [split8 (w ^^^ c), tn_xor, hx, hd]
  rw [tn_even 8 (w / 256 * 256) (by omega)]
  congr 1
  omega
theorem xor_byte_lt {w c : Nat} (hc : c < 256) : (w % 256) ^^^ c < 256 := Nat.xor_lt_two_pow (n := 8) (by omega) hc
end Go.Proofs.Ytchaegfdcdlfaaa.X

namespace Go.Proofs.Ytchaegfdcdlfaaa.X
set_option linter.unusedVariables false
set_option linter.unusedSimpArgs false
open Go.RowKit Go.Proofs.YtchaegfdcdlfaaaW.PrintWords Go.Proofs.YtchaegfdcdlfaaaW.PrintLast Go.Proofs.YtchaegfdcdlfaaaW.PrintMore

def Flg (w : World) (g : Nat) (b : Bool) : Prop := w.heap[g]? = some (.cells #[.bool b] 4 (0, 0))
theorem Flg.cell {w : World} {g : Nat} {b : Bool} (h : Flg w g b) : w.cell? ⟨g, 0, none⟩ = some (.bool b) := cell_of_one h
theorem Flg.free {w : World} {g : Nat} {b : Bool} (h : Flg w g b) : w.frozen? ⟨g, 0, none⟩ = false := free_of_one h
def tabAt : Nat → List Int
  | 0 => List.replicate 256 0
  | i + 1 => (tabAt i).set i (tn 8 i : Int)
theorem tabAt_length : ∀ i, (tabAt i).length = 256
  | 0 => List.length_replicate
  | i + 1 => by rw [tabAt, List.length_set]; exact tabAt_length i
theorem tabAt_get : ∀ (i j : Nat), j < i → i ≤ 256 → (tabAt i).getD j 0 = (tn 8 j : Int)
  | i + 1, j, hj, hi => by
    rw [tabAt, List.getD_eq_getElem?_getD, List.getElem?_set, tabAt_length]
    by_cases h : i = j
    · subst h
      rw [if_pos rfl, if_pos (show i < 256 by omega)]
      rfl
    · rw [if_neg h]
      have := tabAt_get i j (by omega) (by omega)
      rwa [List.getD_eq_getElem?_getD] at this
theorem bit_eq (x : Nat) (h : x < 4294967296) : bits .xor .u32 ((x : Int) / 2) (bits .and .u32 3988292384 ((-(bits .and .u32 (x : Int) 1)) % 4294967296)) = (t1 x : Int) := by
  have h1 : bits .and .u32 (x : Int) 1 = ((x % 2 : Nat) : Int) := by
    have := u32_and_nat x 1 h (by decide)
    rw [Nat.and_one_is_mod] at this
    exact this
  rw [h1]
  have h3 : bits .and .u32 3988292384 ((-((x % 2 : Nat) : Int)) % 4294967296) = ((if x % 2 = 1 then cpoly else 0 : Nat) : Int) := by
    rcases Nat.mod_two_eq_zero_or_one x with hx | hx <;> rw [hx] <;> decide
  rw [h3]
  have h4 : (x : Int) / 2 = ((x / 2 : Nat) : Int) := by omega
  rw [h4]
  have := u32_xor_nat (x / 2) (if x % 2 = 1 then cpoly else 0) (by omega) (by split <;> decide)
  rw [this]
  rfl

set_option maxHeartbeats 1000000 in
set_option maxRecDepth 100000 in
theorem step_full (F T c : Nat) (hc : c < 256) (w0 w : World) (hF : w0.heap.size ≤ F) (hf : Flg w F true) (ht : Blk w T 195 (tabAt 256)) (hFT : F ≠ T) (hb : Below w0.heap.size w0 w) :
    Calls Try.prog 142 #[.int .u8 c, .pointer (some ⟨F, 0, none⟩), .pointer (some ⟨T, 0, none⟩)] w fun e w' => e = .returned (.int .u32 (tn 8 c : Int)) ∧ Flg w' F true ∧ Blk w' T 195 (tabAt 256) ∧ Below w0.heap.size w0 w' := by
  have y1 := hf.cell
  have y2 := hf.free
  have y3 := ht.cell (i := c) (by rw [tabAt_length]; omega)
  rw [tabAt_get 256 c hc (Nat.le_refl _)] at y3
  have HF := Aside0.mk hf
  have HT := Aside0.mk ht
  have HB := Aside0.mk hb
  have pc : ((c : Int) < 256) = True := eq_true (by omega)
  have qc : (0 ≤ (c : Int)) = True := eq_true (by omega)
  clear hf ht hb
  go_enter Try.func142, Try.ntmps142
  go_wp2_with fail
  go_loopg [5] 1 (fun k v5 w' => v5 = .int .i64 0 ∧ Aside0 (k = 1) ∧ w' = w)
  case atStart => exact ⟨rfl, ⟨rfl⟩, rfl⟩
  case round =>
    obtain ⟨rfl, HK, rfl⟩ := hrel
    go_wp2_with fail
    have z1 : (wr.setCell ⟨F, 0, none⟩ (.bool true)).cell? ⟨T, c, none⟩ = _ := (World.cell?_setCell_other wr ⟨F, 0, none⟩ ⟨T, c, none⟩ _ (by simp [hFT])).trans y3
    go_wp2_with fail
    go_ret
    refine ⟨rfl, one_setCell HF.out, ?_, below_set HB.out hF⟩
    unfold Blk
    rw [heap_setCell_other _ _ _ _ (by simp; omega)]
    exact HT.out

set_option maxHeartbeats 1000000 in
set_option maxRecDepth 100000 in
theorem step_first (F T c : Nat) (hc : c < 256) (w0 w : World) (hF : w0.heap.size ≤ F) (hT : w0.heap.size ≤ T) (hf : Flg w F false) (ht : Blk w T 195 (tabAt 0)) (hFT : F ≠ T) (hb : Below w0.heap.size w0 w) :
    Calls Try.prog 142 #[.int .u8 c, .pointer (some ⟨F, 0, none⟩), .pointer (some ⟨T, 0, none⟩)] w fun e w' => e = .returned (.int .u32 (tn 8 c : Int)) ∧ Flg w' F true ∧ Blk w' T 195 (tabAt 256) ∧ Below w0.heap.size w0 w' := by
  have HF := Aside0.mk hf
  have HT := Aside0.mk ht
  have HB := Aside0.mk hb
  have pc : ((c : Int) < 256) = True := eq_true (by omega)
  have qc : (0 ≤ (c : Int)) = True := eq_true (by omega)
  clear hf ht hb
  go_enter Try.func142, Try.ntmps142
  go_wp2_with fail
  go_loopg [5] 256 (fun k v5 w' => ∃ i : Nat, v5 = .int .i64 i ∧ Aside0 (k = 256 - i ∧ i ≤ 256) ∧ Aside0 (Flg w' F false) ∧ Aside0 (Blk w' T 195 (tabAt i)) ∧ Aside0 (Below w0.heap.size w0 w'))
  case atStart => exact ⟨0, rfl, ⟨by omega, by omega⟩, HF, HT, HB⟩
  case round =>
    clear HF HT HB
    obtain ⟨i, rfl, HI, HF, HT, HB⟩ := hrel
    have y1 := HF.out.cell
    by_cases hi : i < 256
    · have d1 : decide (i < 256) = true := decide_eq_true hi
      have d2 : decide ((i : Int) < 256) = true := decide_eq_true (by omega)
      have pi : ((i : Int) < 256) = True := eq_true (by omega)
      have qi : (0 ≤ (i : Int)) = True := eq_true (by omega)
      have ui : (i : Int) % 4294967296 = (i : Int) := by omega
      have hwr : IntKind.i64.wrap ((i : Int) + 1) = ((i + 1 : Nat) : Int) := by rw [i64_w]; unfold wrap64; omega
      have HII := Aside0.mk hi
      go_wp2_with fail
      go_loopg [6, 17] 8 (fun k v6 v17 w' => ∃ j : Nat, v6 = .int .u32 (tn j i : Int) ∧ v17 = .int .i64 j ∧ Aside0 (k = 8 - j ∧ j ≤ 8) ∧ Aside0 (Flg w' F false) ∧ Aside0 (Blk w' T 195 (tabAt i)) ∧ Aside0 (Below w0.heap.size w0 w'))
      case atStart => exact ⟨0, rfl, rfl, ⟨by omega, by omega⟩, HF, HT, HB⟩
      case round =>
        clear HF HT HB y1
        obtain ⟨j, rfl, rfl, HJ, HF, HT, HB⟩ := hrel
        obtain ⟨x, hx⟩ : ∃ x, x = tn j i := ⟨_, rfl⟩
        have hxl : x < 4294967296 := by rw [hx]; exact tn_lt j (by have := HII.out; omega)
        have HX : Aside0 (t1 x = tn (j + 1) i) := ⟨by rw [hx, tn_succ]⟩
        have hbit := bit_eq x hxl
        rw [← hx]
        have HXX := Aside0.mk hx
        clear hx
        by_cases hj : j < 8
        · have d3 : decide (j < 8) = true := decide_eq_true hj
          have d4 : decide ((j : Int) < 8) = true := decide_eq_true (by omega)
          have hwj : IntKind.i64.wrap ((j : Int) + 1) = ((j + 1 : Nat) : Int) := by rw [i64_w]; unfold wrap64; omega
          go_wp2_with fail
          go_roundg (8 - (j + 1))
          case measure => have := HJ.out; omega
          case rel =>
            refine ⟨j + 1, ?_, ?_, ⟨rfl, by omega⟩, HF, HT, HB⟩
            · rw [← HX.out, ← hbit]
            · simp
        · have d3 : decide (j < 8) = false := decide_eq_false hj
          have d4 : decide ((j : Int) < 8) = false := decide_eq_false (by omega)
          obtain rfl : j = 8 := by have := HJ.out; omega
          have y1 := HT.out.cell (i := i) (by rw [tabAt_length]; have := HII.out; omega)
          have y2 := HT.out.free i
          clear hbit HX
          go_wp2_with fail
          go_roundg (256 - (i + 1))
          case measure => have := HI.out; have := HII.out; omega
          case rel =>
            refine ⟨i + 1, by simp, ⟨rfl, by have := HII.out; omega⟩, ⟨?_⟩, ⟨?_⟩, ⟨below_set HB.out hT⟩⟩
            · unfold Flg
              rw [heap_setCell_other _ _ _ _ (by simp; omega)]
              exact HF.out
            · rw [HXX.out]
              exact HT.out.set i _
    · have d1 : decide (i < 256) = false := decide_eq_false hi
      have d2 : decide ((i : Int) < 256) = false := decide_eq_false (by omega)
      obtain rfl : i = 256 := by have := HI.out; omega
      have y2 := HF.out.free
      have y3 := HT.out.cell (i := c) (by rw [tabAt_length]; omega)
      rw [tabAt_get 256 c hc (Nat.le_refl _)] at y3
      go_wp2_with fail
      have z1 : (wr.setCell ⟨F, 0, none⟩ (.bool true)).cell? ⟨T, c, none⟩ = _ := (World.cell?_setCell_other wr ⟨F, 0, none⟩ ⟨T, c, none⟩ _ (by simp [hFT])).trans y3
      go_wp2_with fail
      go_ret
      refine ⟨rfl, one_setCell HF.out, ?_, below_set HB.out hF⟩
      unfold Blk
      rw [heap_setCell_other _ _ _ _ (by simp; omega)]
      exact HT.out

theorem step_any (b : Bool) (n F T c : Nat) (hn : n = if b = true then 256 else 0) (hc : c < 256) (w0 w : World) (hF : w0.heap.size ≤ F) (hT : w0.heap.size ≤ T) (hf : Flg w F b) (ht : Blk w T 195 (tabAt n)) (hFT : F ≠ T) (hb : Below w0.heap.size w0 w) :
    Calls Try.prog 142 #[.int .u8 c, .pointer (some ⟨F, 0, none⟩), .pointer (some ⟨T, 0, none⟩)] w fun e w' => e = .returned (.int .u32 (tn 8 c : Int)) ∧ Flg w' F true ∧ Blk w' T 195 (tabAt 256) ∧ Below w0.heap.size w0 w' := by
  cases b with
  | false =>
    rw [if_neg (by decide)] at hn
    subst hn
    exact step_first F T c hc w0 w hF hT hf ht hFT hb
  | true =>
    rw [if_pos rfl] at hn
    subst hn
    exact step_full F T c hc w0 w hF hf ht hFT hb
theorem neg_eq (x : Nat) (h : x < 4294967296) : bits .xor .u32 IntKind.u32.max (x : Int) = 4294967295 - (x : Int) := by
  have h1 := u32_xor_nat 4294967295 x (by decide) h
  rw [Nat.xor_comm, ← not_xor h] at h1
  rw [show IntKind.u32.max = ((4294967295 : Nat) : Int) by decide, h1]
  omega

set_option maxHeartbeats 1000000 in
set_option maxRecDepth 100000 in
theorem steps_call (w : World) : Calls Try.prog 92 #[] w fun e w' => e = .returned (.func (.func 142) #[] #[.pointer (some ⟨w.heap.size + 1, 0, none⟩), .pointer (some ⟨w.heap.size, 0, none⟩)]) ∧ Flg w' (w.heap.size + 1) false ∧ Blk w' w.heap.size 195 (tabAt 0) ∧ Below w.heap.size w w' := by
  have hmf : ∀ (fn : Fn) (first cap : Array Value) (w : World), (Instr.makeFunc fn first cap).run Try.prog w = .ok (.func fn first cap) w := fun _ _ _ _ => rfl
  go_enter Try.func92, Try.ntmps92
  go_wp2_with fail
  go_ret
  refine ⟨rfl, heap_alloc2_new w _ _, ?_, below_alloc (below_alloc (Below.refl _ _) _) _⟩
  have hz : Try.zeroCells195 = ((tabAt 0).map (Value.int .u32)).toArray := by kernel_rfl
  unfold Blk
  rw [← hz]
  exact heap_alloc2_old w _ _

def nats (l : List Int) : List Nat := l.map Int.toNat
def Byt (l : List Int) : Prop := ∀ x ∈ l, 0 ≤ x ∧ x ≤ 255
theorem nats_lt {l : List Int} (h : Byt l) : ∀ c ∈ nats l, c < 256 := fun c hc => by
  obtain ⟨x, hx, rfl⟩ := List.mem_map.1 hc
  have := h x hx
  omega
def crcA (l : List Int) (i : Nat) : Nat := crcFrom 4294967295 (nats (l.take i))
theorem crcA_lt {l : List Int} (h : Byt l) (i : Nat) : crcA l i < 4294967296 := crcFrom_lt (by omega) (nats_lt (fun x hx => h x (List.mem_of_mem_take hx)))
theorem crcA_succ {l : List Int} {i : Nat} (hi : i < l.length) : crcA l (i + 1) = crcStep (crcA l i) (l.getD i 0).toNat := by
  have : l.take (i + 1) = l.take i ++ [l.getD i 0] := by
    rw [List.getD_eq_getElem?_getD, List.getElem?_eq_getElem hi, Option.getD_some, List.take_succ_eq_append_getElem hi]
  unfold crcA nats
  rw [this, List.map_append, crcFrom_append]
  rfl
def sumL (l : List Int) : Int := (crc (nats l) : Int)

set_option maxHeartbeats 1000000 in
set_option maxRecDepth 100000 in
theorem sum2_call (A : Option Addr) (c : Nat) (l : List Int) (w : World) (hr : Kd.C (Kd.int .u8) w A l.length l) (hb : Byt l) (hl : l.length ≤ 4611686018427387904) :
    Calls Try.prog 46 #[.slice A l.length c] w fun e w' => e = .returned (.int .u32 (sumL l)) ∧ Below w.heap.size w w' := by
  have HR := Aside0.mk hr
  have HBY := Aside0.mk hb
  have HL := Aside0.mk hl
  clear hr hb hl
  go_enter Try.func46, Try.ntmps46
  go_wp2_with fail
  refine (steps_call _).mono ?_
  rintro e w1 ⟨rfl, hf1, ht1, hb1⟩
  have HF := Aside0.mk hf1
  have HT := Aside0.mk ht1
  have HB := Aside0.mk hb1
  clear hf1 ht1 hb1
  go_wp2_with fail
  go_loopg [4, 10] l.length (fun k v4 v10 w' => ∃ i : Nat, v4 = .int .u32 (crcA l i : Int) ∧ v10 = .int .i64 i ∧ Aside0 (k = l.length - i ∧ i ≤ l.length) ∧ Aside0 (Flg w' (w.heap.size + 1) (decide (0 < i))) ∧ Aside0 (Blk w' w.heap.size 195 (tabAt (if 0 < i then 256 else 0))) ∧ Aside0 (Below w.heap.size w w'))
  case atStart => exact ⟨0, by simp [crcA, crcFrom, nats], rfl, ⟨by omega, by omega⟩, HF, HT, HB⟩
  case round =>
    clear HF HT HB
    obtain ⟨i, rfl, rfl, HI, HF, HT, HB⟩ := hrel
    obtain ⟨x, hx⟩ : ∃ x, x = crcA l i := ⟨_, rfl⟩
    have hxl : x < 4294967296 := by rw [hx]; exact crcA_lt HBY.out i
    rw [← hx]
    by_cases hi : i < l.length
    · have d1 : decide (i < l.length) = true := decide_eq_true hi
      have d2 : decide ((i : Int) < (l.length : Int)) = true := decide_eq_true (by omega)
      have pi : ((i : Int) < (l.length : Int)) = True := eq_true (by omega)
      have qi : (0 ≤ (i : Int)) = True := eq_true (by omega)
      obtain ⟨ad0, e0, x0⟩ := Kd.at_int (Kd.C_below HR.out HB.out) (i : Int) (by omega) (by omega)
      subst e0
      simp only [Int.toNat_natCast] at x0
      have hby := HBY.out (rd l i) (by
        unfold rd
        simp only [Int.toNat_natCast]
        rw [List.getD_eq_getElem?_getD, List.getElem?_eq_getElem hi, Option.getD_some]
        exact List.getElem_mem hi)
      obtain ⟨cn, hcn⟩ : ∃ cn : Nat, rd l i = (cn : Int) := ⟨(rd l i).toNat, by omega⟩
      rw [hcn] at x0 hby
      have hc2 : cn < 256 := by omega
      have HS : Aside0 (crcA l (i + 1) = crcStep x cn) := ⟨by
        rw [crcA_succ hi, hx]
        congr 1
        have h1 : rd l i = l.getD i 0 := by unfold rd; simp
        rw [← h1, hcn]
        rfl⟩
      obtain ⟨b8, hb8⟩ : ∃ b8, b8 = (x % 256) ^^^ cn := ⟨_, rfl⟩
      have hb8l : b8 < 256 := by rw [hb8]; exact xor_byte_lt hc2
      have hx8 : bits .xor .u8 ((x : Int) % 256) (cn : Int) = (b8 : Int) := by
        have := u8_xor_nat (x % 256) cn (by omega) hc2
        rw [hb8, ← this]
        rfl
      obtain ⟨y, hy⟩ : ∃ y, y = tn 8 b8 := ⟨_, rfl⟩
      have hx32 : bits .xor .u32 (y : Int) ((x : Int) / 256) = (crcStep x cn : Int) := by
        have hyl : y < 4294967296 := by rw [hy]; exact tn_lt 8 (by omega)
        have := u32_xor_nat y (x / 256) hyl (by omega)
        rw [show (x : Int) / 256 = ((x / 256 : Nat) : Int) by omega, this, hy, hb8, step_table x cn hc2]
      have HX32 := Aside0.mk hx32
      have HY := Aside0.mk hy
      clear hx hb8 hx32 hy hby hcn
      have hwi : IntKind.i64.wrap ((i : Int) + 1) = ((i + 1 : Nat) : Int) := by rw [i64_w]; unfold wrap64; have := HL.out; omega
      go_wp2_with fail
      refine (step_any (decide (0 < i)) _ _ _ _ (by by_cases h0 : 0 < i <;> simp [h0]) hb8l w _ (by omega) (Nat.le_refl _) HF.out HT.out (by omega) HB.out).mono ?_
      rintro e w2 ⟨rfl, hf2, ht2, hb2⟩
      have HF2 := Aside0.mk hf2
      have HT2 := Aside0.mk ht2
      have HB2 := Aside0.mk hb2
      rw [← HY.out]
      have hx32 := HX32.out
      clear hf2 ht2 hb2
      go_wp2_with fail
      go_roundg (l.length - (i + 1))
      case measure => have := HI.out; omega
      case rel =>
        refine ⟨i + 1, ?_, by simp, ⟨rfl, by omega⟩, ?_, ?_, HB2⟩
        · rw [HS.out]
        · rw [decide_eq_true (show 0 < i + 1 by omega)]; exact HF2
        · rw [if_pos (show 0 < i + 1 by omega)]; exact HT2
    · have d1 : decide (i < l.length) = false := decide_eq_false hi
      have d2 : decide ((i : Int) < (l.length : Int)) = false := decide_eq_false (by omega)
      have hil : i = l.length := by have := HI.out; omega
      have HE : Aside0 (sumL l = 4294967295 - (x : Int)) := ⟨by
        rw [hx, hil]
        unfold sumL crc crcA
        rw [List.take_length]
        have := crcFrom_lt (w := 4294967295) (by omega) (nats_lt HBY.out)
        omega⟩
      clear hx
      go_wp2_with fail
      go_ret
      refine ⟨?_, HB.out⟩
      rw [HE.out, neg_eq x hxl]
      rfl

def section_Sum.f (k : Nat) (l : List Int) : Option Int := if l.all (fun x => decide (0 ≤ x ∧ x ≤ 255)) = true ∧ l.length ≤ 4611686018427387904 then some (sumL l) else none
theorem section_Sum.mono : ∀ a0 k, LeO (section_Sum.f k a0) (section_Sum.f (k + 1) a0) := fun _ _ => LeO.refl _
theorem section_Sum.calls (k : Nat) (A0 : Option Addr) (c0 : Nat) (l0 : List Int) (r : Int) (w : World) (hr0 : Kd.C (Kd.int .u8) w A0 l0.length l0) (hc0 : l0.length ≤ c0) (h : section_Sum.f k l0 = some r) :
    Calls Try.prog 46 #[.slice A0 l0.length c0] w fun e w' => e = .returned (.int .u32 r) ∧ Below w.heap.size w w' := by
  unfold section_Sum.f at h
  split at h
  · rename_i hh
    injection h with h
    subst h
    exact sum2_call A0 c0 l0 w hr0 (fun x hx => by simpa using List.all_eq_true.1 hh.1 x hx) hh.2
  · cases h
theorem Sum2_eq (k : Nat) {l : List Int} (hb : Byt l) (hl : l.length ≤ 4611686018427387904) : section_Sum.f k l = some (sumL l) := by
  unfold section_Sum.f
  rw [if_pos ⟨List.all_eq_true.2 fun x hx => decide_eq_true (hb x hx), hl⟩]
end Go.Proofs.Ytchaegfdcdlfaaa.X

namespace Go.Proofs.Ytchaegfdcdlfaaa.X
set_option linter.unusedVariables false
set_option linter.unusedSimpArgs false
open Go.RowKit Go.Proofs.YtchaegfdcdlfaaaW.PrintWords Go.Proofs.YtchaegfdcdlfaaaW.PrintLast Go.Proofs.YtchaegfdcdlfaaaW.PrintMore

def bytes_Clone.f (l0 : List Int) : Option (List Int) := if l0.length ≤ 1000000000 then some l0 else none
theorem bytes_Clone.calls (A0 : Option Addr) (c0 : Nat) (l0 : List Int) (r : List Int) (w : World) (hr0 : Kd.C (Kd.int .u8) w A0 l0.length l0) (hc0 : l0.length ≤ c0) (h : bytes_Clone.f l0 = some r) :
    Calls Try.prog 90 #[.slice A0 l0.length c0] w fun e w' => ∃ v0_ : Value, e = .returned (v0_) ∧ Kd.R (Kd.int .u8) 5 w' w.heap.size (fun _ => True) v0_ r ∧ Below w.heap.size w w' := by
  unfold bytes_Clone.f at h
  split at h
  · rename_i hl
    injection h with h
    subst h
    refine (clone_call A0 c0 l0 w hr0 hc0 hl).mono ?_
    rintro e w' ⟨v, rfl, ho, hb⟩
    exact ⟨v, rfl, Kd.R_of_own (ok := fun _ => True) ho.out (fun _ _ => trivial), hb.out⟩
  · cases h
theorem Clone_eq {l : List Int} (h : l.length ≤ 1000000000) : bytes_Clone.f l = some l := by
  unfold bytes_Clone.f
  rw [if_pos h]
end Go.Proofs.Ytchaegfdcdlfaaa.X

namespace Go.Proofs.Ytchaegfdcdlfaaa.X
set_option linter.unusedVariables false
set_option linter.unusedSimpArgs false
open Go.Proofs.Ytchaegfdcdlfaaa.Y (IsGet Bytes RdB four wraps_u64 four_call get_call' rdb_drop rdb_below rdb_cut rdb_drewN wraps_u32)
open Go.RowKit Go.Proofs.YtchaegfdcdlfaaaW.PrintWords Go.Proofs.YtchaegfdcdlfaaaW.PrintLast Go.Proofs.YtchaegfdcdlfaaaW.PrintMore

theorem w64s (n : Int) (h0 : -9223372036854775808 ≤ n) (h1 : n ≤ 9223372036854775807) : wrap64 n = n := by unfold wrap64; omega
theorem rdb_midC (A : Option Addr) (c : Nat) (l : List Int) (a b : Nat) (hab : a ≤ b) (hb : b ≤ l.length) (hc : l.length ≤ c) :
    ∃ A' : Option Addr, (∀ W : World, (Instr.slice 40 (.slice A l.length c) (some (.int .i64 (a : Int))) (some (.int .i64 (b : Int))) none).run Try.prog W = .ok (.slice A' (b - a) (c - a)) W) ∧ (∀ w : World, RdB w A l.length l → RdB w A' (b - a) ((l.take b).drop a)) ∧ b - a ≤ c - a := by
  obtain ⟨i0, hi0, _, hsz0, _⟩ := info_parts info5
  obtain ⟨A', hcut, hA, hC⟩ := print_mid_of (P := Try.prog) (Value.int .u8) 0 40 5 .i64 .i64 Try.underlying40 hi0 hsz0 A c l (a : Int) (b : Int) (by omega) (by omega) (by omega) hc
  have hlen : ((l.take b).drop a).length = b - a := by rw [List.length_drop, List.length_take]; omega
  simp only [Int.toNat_natCast] at hcut hA hC
  rw [hlen] at hcut hA hC
  exact ⟨A', hcut, fun w h => Kd.C_of_reads (h1 := fun _ => rfl) (hA w (Kd.reads_of_C h)), hC⟩
def openR (l : List Int) (g : Int × Int × Bool) : Int × List Int × Int × Int :=
  if l.length = 0 ∨ 10 ≤ rd l 0 then (0, [], 0, 2)
  else if g.2.2 = false ∨ 100000 < g.1 ∨ (l.length : Int) < 1 + g.2.1 + g.1 + 4 then (0, [], 0, 2)
  else if (four ((l.take (1 + g.2.1.toNat + g.1.toNat + 4)).drop (1 + g.2.1.toNat + g.1.toNat)) : Int) ≠ sumL (l.take (1 + g.2.1.toNat + g.1.toNat)) then (0, [], 0, 3)
  else (rd l 0, (l.take (1 + g.2.1.toNat + g.1.toNat)).drop (1 + g.2.1.toNat), (1 + g.2.1.toNat + g.1.toNat + 4 : Nat), 0)
theorem clone_call2 (A : Option Addr) (c : Nat) (l : List Int) (n : Nat) (hn : l.length = n) (w : World) (hr : RdB w A n l) (hc : n ≤ c) (hl : n ≤ 1000000000) :
    Calls Try.prog 90 #[.slice A n c] w fun e w' => ∃ v0_ : Value, e = .returned (v0_) ∧ Kd.R (Kd.int .u8) 5 w' w.heap.size (fun _ => True) v0_ l ∧ Below w.heap.size w w' := by
  subst hn
  exact bytes_Clone.calls A c l l w hr hc (Clone_eq hl)
abbrev OpenQ (w : World) (r : Int × List Int × Int × Int) (e : Ending) (w' : World) : Prop := ∃ v1_ : Value, e = .returned (.tuple #[.int .i64 r.1, v1_, .int .i64 r.2.2.1, .int .i64 r.2.2.2]) ∧ Kd.R (Kd.int .u8) 5 w' w.heap.size (fun _ => True) v1_ r.2.1 ∧ Below w.heap.size w w'
theorem openQ_none (w w' : World) (k : Int) (hb : Below w.heap.size w w') : OpenQ w (0, [], 0, k) (.returned (.tuple #[.int .i64 0, .slice none 0 0, .int .i64 0, .int .i64 k])) w' := ⟨_, rfl, Kd.R_nil _ _ _ _ _, hb⟩
theorem first_cell {w : World} {A : Option Addr} {l : List Int} (h : RdB w A l.length l) (h0 : 0 < l.length) : ∃ ad, A = some ad ∧ w.cell? ad = some (.int .u8 (rd l 0)) := by
  obtain ⟨ad, e, x⟩ := Kd.at_int h 0 (by omega) (by omega)
  exact ⟨ad, e, by simpa [Addr.add] using x⟩

set_option maxHeartbeats 1000000 in
set_option maxRecDepth 100000 in
theorem sopen_empty (A0 : Option Addr) (c0 : Nat) (l : List Int) (w : World) (hr0 : RdB w A0 l.length l) (hc0 : l.length ≤ c0) (hb : Bytes l) (hl : l.length ≤ 1000000000) (h0 : l.length = 0) :
    Calls Try.prog 44 #[.slice A0 l.length c0] w fun e w' => OpenQ w (0, [], 0, 2) e w' := by
  have HR := Aside0.mk hr0
  have HC := Aside0.mk hc0
  have HLL := Aside0.mk hl
  have HBY := Aside0.mk hb
  have e1 : ((l.length : Int) == 0) = true := by simp [h0]
  have e2 : ((l.length : Int) = 0) = True := by simp [h0]
  clear hr0 hc0 hb hl
  go_enter Try.func44, Try.ntmps44
  go_wp2_with fail
  (try simp only [Exit.inBlock, Exit.then])
  refine bodyPost_ret (results_list (rs := [.tmp 2, .tmp 3, .tmp 4, .tmp 5]) rfl (by simp) (.tmp (.tmp (.tmp (.tmp .nil))))) rfl ?_
  exact openQ_none _ _ _ (Below.refl _ _)

set_option maxHeartbeats 1000000 in
set_option maxRecDepth 100000 in
theorem sopen_kind (A0 : Option Addr) (c0 : Nat) (l : List Int) (w : World) (hr0 : RdB w A0 l.length l) (hc0 : l.length ≤ c0) (hb : Bytes l) (hl : l.length ≤ 1000000000) (h0 : 0 < l.length) (h10 : 10 ≤ rd l 0) :
    Calls Try.prog 44 #[.slice A0 l.length c0] w fun e w' => OpenQ w (0, [], 0, 2) e w' := by
  have HR := Aside0.mk hr0
  have HC := Aside0.mk hc0
  have HLL := Aside0.mk hl
  have HBY := Aside0.mk hb
  have e1 : ((l.length : Int) == 0) = false := beq_false_of_ne (by omega)
  have e2 : ((l.length : Int) = 0) = False := eq_false (by omega)
  obtain ⟨ad, rfl, x0⟩ := first_cell hr0 h0
  have qi : (0 < l.length) = True := eq_true h0
  have qj : ((0 : Int) < (l.length : Int)) = True := eq_true (by omega)
  have d1 : decide (rd l 0 ≥ 10) = true := decide_eq_true h10
  clear hr0 hc0 hb hl
  go_enter Try.func44, Try.ntmps44
  go_wp2_with fail
  (try simp only [Exit.inBlock, Exit.then])
  refine bodyPost_ret (results_list (rs := [.tmp 2, .tmp 3, .tmp 4, .tmp 5]) rfl (by simp) (.tmp (.tmp (.tmp (.tmp .nil))))) rfl ?_
  exact openQ_none _ _ _ (Below.refl _ _)

set_option maxHeartbeats 1000000 in
set_option maxRecDepth 100000 in
theorem sopen_not (A0 : Option Addr) (c0 : Nat) (l : List Int) (w : World) (hr0 : RdB w A0 l.length l) (hc0 : l.length ≤ c0) (hb : Bytes l) (hl : l.length ≤ 1000000000) (h0 : 0 < l.length) (h10 : ¬ 10 ≤ rd l 0) (n u : Nat) (hg : IsGet (l.drop 1) ((n : Int), (u : Int), false)) (hu : u + 1 ≤ l.length) :
    Calls Try.prog 44 #[.slice A0 l.length c0] w fun e w' => OpenQ w (0, [], 0, 2) e w' := by
  have HR := Aside0.mk hr0
  have HC := Aside0.mk hc0
  have HLL := Aside0.mk hl
  have HBY := Aside0.mk hb
  have e1 : ((l.length : Int) == 0) = false := beq_false_of_ne (by omega)
  have e2 : ((l.length : Int) = 0) = False := eq_false (by omega)
  obtain ⟨ad, rfl, x0⟩ := first_cell hr0 h0
  have qi : (0 < l.length) = True := eq_true h0
  have qj : ((0 : Int) < (l.length : Int)) = True := eq_true (by omega)
  have d1 : decide (rd l 0 ≥ 10) = false := decide_eq_false (by omega)
  obtain ⟨A', hcut, hA, hC⟩ := rdb_drop (some ad) c0 l 1 (by omega) hc0
  have HA := Aside0.mk (hA w hr0)
  have HG := Aside0.mk hg
  have HB1 : Aside0 (Bytes (l.drop 1)) := ⟨fun x hx => hb x (List.mem_of_mem_drop hx)⟩
  have hcut1 : ∀ W : World, (Instr.slice 40 (.slice (some ad) l.length c0) (some (.int .i64 1)) none none).run Try.prog W = .ok (.slice A' (l.length - 1) (c0 - 1)) W := hcut
  obtain ⟨f, hf⟩ : ∃ f : Nat, f = 1 + u := ⟨_, rfl⟩
  have w1_ : IntKind.i64.wrap (1 + (u : Int)) = (f : Int) := by rw [i64_w, w64s _ (by omega) (by omega)]; omega
  clear hA hcut hg
  clear hr0 hb hf hu
  go_enter Try.func44, Try.ntmps44
  go_wp2_with fail
  refine (get_call' HG.out HB1.out (by rw [List.length_drop]; omega) _ (by rw [List.length_drop]) A' _ _ HA.out hC).mono ?_
  rintro e w1 ⟨rfl, q, rfl⟩
  go_wp2_with fail
  (try simp only [Exit.inBlock, Exit.then])
  refine bodyPost_ret (results_list (rs := [.tmp 2, .tmp 3, .tmp 4, .tmp 5]) rfl (by simp) (.tmp (.tmp (.tmp (.tmp .nil))))) rfl ?_
  exact openQ_none _ _ _ (pw_below_drewN (Below.refl _ _) _)

set_option maxHeartbeats 1000000 in
set_option maxRecDepth 100000 in
theorem sopen_big (A0 : Option Addr) (c0 : Nat) (l : List Int) (w : World) (hr0 : RdB w A0 l.length l) (hc0 : l.length ≤ c0) (hb : Bytes l) (hl : l.length ≤ 1000000000) (h0 : 0 < l.length) (h10 : ¬ 10 ≤ rd l 0) (n u : Nat) (hg : IsGet (l.drop 1) ((n : Int), (u : Int), true)) (hu : u + 1 ≤ l.length) (hn : 100000 < n) :
    Calls Try.prog 44 #[.slice A0 l.length c0] w fun e w' => OpenQ w (0, [], 0, 2) e w' := by
  have HR := Aside0.mk hr0
  have HC := Aside0.mk hc0
  have HLL := Aside0.mk hl
  have HBY := Aside0.mk hb
  have e1 : ((l.length : Int) == 0) = false := beq_false_of_ne (by omega)
  have e2 : ((l.length : Int) = 0) = False := eq_false (by omega)
  obtain ⟨ad, rfl, x0⟩ := first_cell hr0 h0
  have qi : (0 < l.length) = True := eq_true h0
  have qj : ((0 : Int) < (l.length : Int)) = True := eq_true (by omega)
  have d1 : decide (rd l 0 ≥ 10) = false := decide_eq_false (by omega)
  obtain ⟨A', hcut, hA, hC⟩ := rdb_drop (some ad) c0 l 1 (by omega) hc0
  have HA := Aside0.mk (hA w hr0)
  have HG := Aside0.mk hg
  have HB1 : Aside0 (Bytes (l.drop 1)) := ⟨fun x hx => hb x (List.mem_of_mem_drop hx)⟩
  have hcut1 : ∀ W : World, (Instr.slice 40 (.slice (some ad) l.length c0) (some (.int .i64 1)) none none).run Try.prog W = .ok (.slice A' (l.length - 1) (c0 - 1)) W := hcut
  obtain ⟨f, hf⟩ : ∃ f : Nat, f = 1 + u := ⟨_, rfl⟩
  have w1_ : IntKind.i64.wrap (1 + (u : Int)) = (f : Int) := by rw [i64_w, w64s _ (by omega) (by omega)]; omega
  have d2 : decide ((n : Int) > 100000) = true := decide_eq_true (by omega)
  have d2' : decide (n > 100000) = true := decide_eq_true (by omega)
  clear hA hcut hg
  clear hr0 hb hf hu hn
  go_enter Try.func44, Try.ntmps44
  go_wp2_with fail
  refine (get_call' HG.out HB1.out (by rw [List.length_drop]; omega) _ (by rw [List.length_drop]) A' _ _ HA.out hC).mono ?_
  rintro e w1 ⟨rfl, q, rfl⟩
  go_wp2_with fail
  (try simp only [Exit.inBlock, Exit.then])
  refine bodyPost_ret (results_list (rs := [.tmp 2, .tmp 3, .tmp 4, .tmp 5]) rfl (by simp) (.tmp (.tmp (.tmp (.tmp .nil))))) rfl ?_
  exact openQ_none _ _ _ (pw_below_drewN (Below.refl _ _) _)

set_option maxHeartbeats 1000000 in
set_option maxRecDepth 100000 in
theorem sopen_short (A0 : Option Addr) (c0 : Nat) (l : List Int) (w : World) (hr0 : RdB w A0 l.length l) (hc0 : l.length ≤ c0) (hb : Bytes l) (hl : l.length ≤ 1000000000) (h0 : 0 < l.length) (h10 : ¬ 10 ≤ rd l 0) (n u : Nat) (hg : IsGet (l.drop 1) ((n : Int), (u : Int), true)) (hu : u + 1 ≤ l.length) (hn : n ≤ 100000) (hs : l.length < 1 + u + n + 4) :
    Calls Try.prog 44 #[.slice A0 l.length c0] w fun e w' => OpenQ w (0, [], 0, 2) e w' := by
  have HR := Aside0.mk hr0
  have HC := Aside0.mk hc0
  have HLL := Aside0.mk hl
  have HBY := Aside0.mk hb
  have e1 : ((l.length : Int) == 0) = false := beq_false_of_ne (by omega)
  have e2 : ((l.length : Int) = 0) = False := eq_false (by omega)
  obtain ⟨ad, rfl, x0⟩ := first_cell hr0 h0
  have qi : (0 < l.length) = True := eq_true h0
  have qj : ((0 : Int) < (l.length : Int)) = True := eq_true (by omega)
  have d1 : decide (rd l 0 ≥ 10) = false := decide_eq_false (by omega)
  obtain ⟨A', hcut, hA, hC⟩ := rdb_drop (some ad) c0 l 1 (by omega) hc0
  have HA := Aside0.mk (hA w hr0)
  have HG := Aside0.mk hg
  have HB1 : Aside0 (Bytes (l.drop 1)) := ⟨fun x hx => hb x (List.mem_of_mem_drop hx)⟩
  have hcut1 : ∀ W : World, (Instr.slice 40 (.slice (some ad) l.length c0) (some (.int .i64 1)) none none).run Try.prog W = .ok (.slice A' (l.length - 1) (c0 - 1)) W := hcut
  obtain ⟨f, hf⟩ : ∃ f : Nat, f = 1 + u := ⟨_, rfl⟩
  have w1_ : IntKind.i64.wrap (1 + (u : Int)) = (f : Int) := by rw [i64_w, w64s _ (by omega) (by omega)]; omega
  have d2 : decide ((n : Int) > 100000) = false := decide_eq_false (by omega)
  have d2' : decide (n > 100000) = false := decide_eq_false (by omega)
  have wn : IntKind.i64.wrap (n : Int) = (n : Int) := by rw [i64_w, w64s _ (by omega) (by omega)]
  obtain ⟨z, hz⟩ : ∃ z : Nat, z = l.length - f := ⟨_, rfl⟩
  have w2_ : IntKind.i64.wrap ((l.length : Int) - (f : Int)) = (z : Int) := by rw [i64_w, w64s _ (by omega) (by omega)]; omega
  obtain ⟨y, hy⟩ : ∃ y : Int, y = (z : Int) - 4 := ⟨_, rfl⟩
  have w3_ : IntKind.i64.wrap ((z : Int) - 4) = y := by rw [i64_w, w64s _ (by omega) (by omega)]; omega
  have d3 : decide ((n : Int) > y) = true := decide_eq_true (by omega)
  have d3' : decide (y < (n : Int)) = true := decide_eq_true (by omega)
  clear hA hcut hg
  clear hr0 hb hf hz hy hu hn hs
  go_enter Try.func44, Try.ntmps44
  go_wp2_with fail
  refine (get_call' HG.out HB1.out (by rw [List.length_drop]; omega) _ (by rw [List.length_drop]) A' _ _ HA.out hC).mono ?_
  rintro e w1 ⟨rfl, q, rfl⟩
  go_wp2_with fail
  (try simp only [Exit.inBlock, Exit.then])
  refine bodyPost_ret (results_list (rs := [.tmp 2, .tmp 3, .tmp 4, .tmp 5]) rfl (by simp) (.tmp (.tmp (.tmp (.tmp .nil))))) rfl ?_
  exact openQ_none _ _ _ (pw_below_drewN (Below.refl _ _) _)

set_option maxHeartbeats 1000000 in
set_option maxRecDepth 100000 in
theorem sopen_bad (A0 : Option Addr) (c0 : Nat) (l : List Int) (w : World) (hr0 : RdB w A0 l.length l) (hc0 : l.length ≤ c0) (hb : Bytes l) (hl : l.length ≤ 1000000000) (h0 : 0 < l.length) (h10 : ¬ 10 ≤ rd l 0) (n u : Nat) (hg : IsGet (l.drop 1) ((n : Int), (u : Int), true)) (hu : u + 1 ≤ l.length) (hn : n ≤ 100000) (hs : 1 + u + n + 4 ≤ l.length) (hq : (four ((l.take (1 + u + n + 4)).drop (1 + u + n)) : Int) ≠ sumL (l.take (1 + u + n))) :
    Calls Try.prog 44 #[.slice A0 l.length c0] w fun e w' => OpenQ w (0, [], 0, 3) e w' := by
  have HR := Aside0.mk hr0
  have HC := Aside0.mk hc0
  have HLL := Aside0.mk hl
  have HBY := Aside0.mk hb
  have e1 : ((l.length : Int) == 0) = false := beq_false_of_ne (by omega)
  have e2 : ((l.length : Int) = 0) = False := eq_false (by omega)
  obtain ⟨ad, rfl, x0⟩ := first_cell hr0 h0
  have qi : (0 < l.length) = True := eq_true h0
  have qj : ((0 : Int) < (l.length : Int)) = True := eq_true (by omega)
  have d1 : decide (rd l 0 ≥ 10) = false := decide_eq_false (by omega)
  obtain ⟨A', hcut, hA, hC⟩ := rdb_drop (some ad) c0 l 1 (by omega) hc0
  have HA := Aside0.mk (hA w hr0)
  have HG := Aside0.mk hg
  have HB1 : Aside0 (Bytes (l.drop 1)) := ⟨fun x hx => hb x (List.mem_of_mem_drop hx)⟩
  have hcut1 : ∀ W : World, (Instr.slice 40 (.slice (some ad) l.length c0) (some (.int .i64 1)) none none).run Try.prog W = .ok (.slice A' (l.length - 1) (c0 - 1)) W := hcut
  obtain ⟨f, hf⟩ : ∃ f : Nat, f = 1 + u := ⟨_, rfl⟩
  have w1_ : IntKind.i64.wrap (1 + (u : Int)) = (f : Int) := by rw [i64_w, w64s _ (by omega) (by omega)]; omega
  have d2 : decide ((n : Int) > 100000) = false := decide_eq_false (by omega)
  have d2' : decide (n > 100000) = false := decide_eq_false (by omega)
  have wn : IntKind.i64.wrap (n : Int) = (n : Int) := by rw [i64_w, w64s _ (by omega) (by omega)]
  obtain ⟨z, hz⟩ : ∃ z : Nat, z = l.length - f := ⟨_, rfl⟩
  have w2_ : IntKind.i64.wrap ((l.length : Int) - (f : Int)) = (z : Int) := by rw [i64_w, w64s _ (by omega) (by omega)]; omega
  obtain ⟨y, hy⟩ : ∃ y : Int, y = (z : Int) - 4 := ⟨_, rfl⟩
  have w3_ : IntKind.i64.wrap ((z : Int) - 4) = y := by rw [i64_w, w64s _ (by omega) (by omega)]; omega
  have d3 : decide ((n : Int) > y) = false := decide_eq_false (by omega)
  have d3' : decide (y < (n : Int)) = false := decide_eq_false (by omega)
  obtain ⟨e_, he⟩ : ∃ e_ : Nat, e_ = 1 + u + n := ⟨_, rfl⟩
  obtain ⟨t, ht⟩ : ∃ t : Nat, t = 1 + u + n + 4 := ⟨_, rfl⟩
  have w4_ : IntKind.i64.wrap ((f : Int) + (n : Int)) = (e_ : Int) := by rw [i64_w, w64s _ (by omega) (by omega)]; omega
  have w5_ : IntKind.i64.wrap ((e_ : Int) + 4) = (t : Int) := by rw [i64_w, w64s _ (by omega) (by omega)]; omega
  obtain ⟨A2, hcut2, hA2, hC2⟩ := rdb_midC (some ad) c0 l e_ t (by omega) (by omega) hc0
  have hcut3 := rdb_cut (some ad) c0 l e_ (by omega) hc0
  obtain ⟨A3, hcut4, hA3, hC3⟩ := rdb_midC (some ad) c0 l f e_ (by omega) (by omega) hc0
  have ht4 : t - e_ = 4 := by omega
  rw [ht4] at hcut2 hA2 hC2
  obtain ⟨p, hp⟩ : ∃ p, p = (l.take t).drop e_ := ⟨_, rfl⟩
  obtain ⟨b, hbd⟩ : ∃ b, b = l.take e_ := ⟨_, rfl⟩
  have HP4 : Aside0 (p.length = 4) := ⟨by rw [hp, List.length_drop, List.length_take]; omega⟩
  have HPB : Aside0 (Bytes p) := ⟨fun x hx => hb x (by rw [hp] at hx; exact List.mem_of_mem_take (List.mem_of_mem_drop hx))⟩
  have HBL : Aside0 (b.length = e_) := ⟨by rw [hbd, List.length_take]; omega⟩
  have HBB : Aside0 (Byt b) := ⟨fun x hx => hb x (by rw [hbd] at hx; exact List.mem_of_mem_take hx)⟩
  rw [← hp] at hA2
  have HA2 := Aside0.mk (hA2 w hr0)
  have HA3 := Aside0.mk (hA3 w hr0)
  have HRB : Aside0 (RdB w (some ad) e_ b) := ⟨by rw [hbd]; exact Go.Proofs.Ytchaegfdcdlfaaa.Y.rdb_take hr0 e_ (by omega)⟩
  clear hA2 hA3
  rw [← ht, ← he, ← hp, ← hbd] at hq
  have d4 : ((four p : Int) != sumL b) = true := by simp [hq]
  have d4' : ((four p : Int) = sumL b) = False := eq_false hq
  have HT := Aside0.mk ht
  have HE := Aside0.mk he
  have HFF := Aside0.mk hf
  have HSS := Aside0.mk hs
  have HNN := Aside0.mk hn
  clear hp hbd hq
  clear hA hcut hg
  clear hr0 hb hf hz hy he ht ht4 hu hn hs
  go_enter Try.func44, Try.ntmps44
  go_wp2_with fail
  refine (get_call' HG.out HB1.out (by rw [List.length_drop]; omega) _ (by rw [List.length_drop]) A' _ _ HA.out hC).mono ?_
  rintro e w1 ⟨rfl, q, rfl⟩
  go_wp2_with fail
  refine (four_call p HP4.out HPB.out A2 _ _ (rdb_drewN HA2.out q) hC2).mono ?_
  rintro e w1 ⟨rfl, q2, rfl⟩
  go_wp2_with fail
  have hsum := sum2_call (some ad) c0 b (w.drewN (q + q2)) (by rw [HBL.out]; exact rdb_drewN HRB.out _) HBB.out (by rw [HBL.out]; have := HLL.out; have := HE.out; have := HSS.out; have := HT.out; omega)
  rw [HBL.out] at hsum
  refine hsum.mono ?_
  rintro e w1 ⟨rfl, hb1⟩
  have HB := Aside0.mk (below_step (pw_below_drewN (Below.refl _ _) (q + q2)) hb1)
  clear hb1 hsum
  go_wp2_with fail
  (try simp only [Exit.inBlock, Exit.then])
  refine bodyPost_ret (results_list (rs := [.tmp 2, .tmp 3, .tmp 4, .tmp 5]) rfl (by simp) (.tmp (.tmp (.tmp (.tmp .nil))))) rfl ?_
  exact openQ_none _ _ _ HB.out

set_option maxHeartbeats 1000000 in
set_option maxRecDepth 100000 in
theorem sopen_ok (A0 : Option Addr) (c0 : Nat) (l : List Int) (w : World) (hr0 : RdB w A0 l.length l) (hc0 : l.length ≤ c0) (hb : Bytes l) (hl : l.length ≤ 1000000000) (h0 : 0 < l.length) (h10 : ¬ 10 ≤ rd l 0) (n u : Nat) (hg : IsGet (l.drop 1) ((n : Int), (u : Int), true)) (hu : u + 1 ≤ l.length) (hn : n ≤ 100000) (hs : 1 + u + n + 4 ≤ l.length) (hq : (four ((l.take (1 + u + n + 4)).drop (1 + u + n)) : Int) = sumL (l.take (1 + u + n))) :
    Calls Try.prog 44 #[.slice A0 l.length c0] w fun e w' => OpenQ w (rd l 0, (l.take (1 + u + n)).drop (1 + u), (1 + u + n + 4 : Nat), 0) e w' := by
  have HR := Aside0.mk hr0
  have HC := Aside0.mk hc0
  have HLL := Aside0.mk hl
  have HBY := Aside0.mk hb
  have e1 : ((l.length : Int) == 0) = false := beq_false_of_ne (by omega)
  have e2 : ((l.length : Int) = 0) = False := eq_false (by omega)
  obtain ⟨ad, rfl, x0⟩ := first_cell hr0 h0
  have qi : (0 < l.length) = True := eq_true h0
  have qj : ((0 : Int) < (l.length : Int)) = True := eq_true (by omega)
  have d1 : decide (rd l 0 ≥ 10) = false := decide_eq_false (by omega)
  obtain ⟨A', hcut, hA, hC⟩ := rdb_drop (some ad) c0 l 1 (by omega) hc0
  have HA := Aside0.mk (hA w hr0)
  have HG := Aside0.mk hg
  have HB1 : Aside0 (Bytes (l.drop 1)) := ⟨fun x hx => hb x (List.mem_of_mem_drop hx)⟩
  have hcut1 : ∀ W : World, (Instr.slice 40 (.slice (some ad) l.length c0) (some (.int .i64 1)) none none).run Try.prog W = .ok (.slice A' (l.length - 1) (c0 - 1)) W := hcut
  obtain ⟨f, hf⟩ : ∃ f : Nat, f = 1 + u := ⟨_, rfl⟩
  have w1_ : IntKind.i64.wrap (1 + (u : Int)) = (f : Int) := by rw [i64_w, w64s _ (by omega) (by omega)]; omega
  have d2 : decide ((n : Int) > 100000) = false := decide_eq_false (by omega)
  have d2' : decide (n > 100000) = false := decide_eq_false (by omega)
  have wn : IntKind.i64.wrap (n : Int) = (n : Int) := by rw [i64_w, w64s _ (by omega) (by omega)]
  obtain ⟨z, hz⟩ : ∃ z : Nat, z = l.length - f := ⟨_, rfl⟩
  have w2_ : IntKind.i64.wrap ((l.length : Int) - (f : Int)) = (z : Int) := by rw [i64_w, w64s _ (by omega) (by omega)]; omega
  obtain ⟨y, hy⟩ : ∃ y : Int, y = (z : Int) - 4 := ⟨_, rfl⟩
  have w3_ : IntKind.i64.wrap ((z : Int) - 4) = y := by rw [i64_w, w64s _ (by omega) (by omega)]; omega
  have d3 : decide ((n : Int) > y) = false := decide_eq_false (by omega)
  have d3' : decide (y < (n : Int)) = false := decide_eq_false (by omega)
  obtain ⟨e_, he⟩ : ∃ e_ : Nat, e_ = 1 + u + n := ⟨_, rfl⟩
  obtain ⟨t, ht⟩ : ∃ t : Nat, t = 1 + u + n + 4 := ⟨_, rfl⟩
  have w4_ : IntKind.i64.wrap ((f : Int) + (n : Int)) = (e_ : Int) := by rw [i64_w, w64s _ (by omega) (by omega)]; omega
  have w5_ : IntKind.i64.wrap ((e_ : Int) + 4) = (t : Int) := by rw [i64_w, w64s _ (by omega) (by omega)]; omega
  obtain ⟨A2, hcut2, hA2, hC2⟩ := rdb_midC (some ad) c0 l e_ t (by omega) (by omega) hc0
  have hcut3 := rdb_cut (some ad) c0 l e_ (by omega) hc0
  obtain ⟨A3, hcut4, hA3, hC3⟩ := rdb_midC (some ad) c0 l f e_ (by omega) (by omega) hc0
  have ht4 : t - e_ = 4 := by omega
  rw [ht4] at hcut2 hA2 hC2
  obtain ⟨p, hp⟩ : ∃ p, p = (l.take t).drop e_ := ⟨_, rfl⟩
  obtain ⟨b, hbd⟩ : ∃ b, b = l.take e_ := ⟨_, rfl⟩
  have HP4 : Aside0 (p.length = 4) := ⟨by rw [hp, List.length_drop, List.length_take]; omega⟩
  have HPB : Aside0 (Bytes p) := ⟨fun x hx => hb x (by rw [hp] at hx; exact List.mem_of_mem_take (List.mem_of_mem_drop hx))⟩
  have HBL : Aside0 (b.length = e_) := ⟨by rw [hbd, List.length_take]; omega⟩
  have HBB : Aside0 (Byt b) := ⟨fun x hx => hb x (by rw [hbd] at hx; exact List.mem_of_mem_take hx)⟩
  rw [← hp] at hA2
  have HA2 := Aside0.mk (hA2 w hr0)
  have HA3 := Aside0.mk (hA3 w hr0)
  have HRB : Aside0 (RdB w (some ad) e_ b) := ⟨by rw [hbd]; exact Go.Proofs.Ytchaegfdcdlfaaa.Y.rdb_take hr0 e_ (by omega)⟩
  clear hA2 hA3
  rw [← ht, ← he, ← hp, ← hbd] at hq
  rw [← ht, ← he, ← hf]
  rw [← hbd] at HA3 ⊢
  have d4 : ((four p : Int) != sumL b) = false := by simp [hq]
  have d4' : ((four p : Int) = sumL b) = True := eq_true hq
  have hrd := hb (rd l 0) (by
    show l.getD 0 0 ∈ l
    rw [List.getD_eq_getElem?_getD, List.getElem?_eq_getElem h0, Option.getD_some]
    exact List.getElem_mem h0)
  have w6_ : IntKind.i64.wrap (rd l 0) = rd l 0 := by rw [i64_w, w64s _ (by omega) (by omega)]
  have HML : Aside0 ((b.drop f).length = e_ - f) := ⟨by rw [List.length_drop, HBL.out]⟩
  have X0 := Aside0.mk x0
  have HT := Aside0.mk ht
  have HE := Aside0.mk he
  have HFF := Aside0.mk hf
  have HSS := Aside0.mk hs
  have HNN := Aside0.mk hn
  clear hp hbd hq
  clear hA hcut hg
  clear hr0 hb hf hz hy he ht ht4 hu hn hs
  go_enter Try.func44, Try.ntmps44
  go_wp2_with fail
  refine (get_call' HG.out HB1.out (by rw [List.length_drop]; omega) _ (by rw [List.length_drop]) A' _ _ HA.out hC).mono ?_
  rintro e w1 ⟨rfl, q, rfl⟩
  go_wp2_with fail
  refine (four_call p HP4.out HPB.out A2 _ _ (rdb_drewN HA2.out q) hC2).mono ?_
  rintro e w1 ⟨rfl, q2, rfl⟩
  go_wp2_with fail
  have hsum := sum2_call (some ad) c0 b (w.drewN (q + q2)) (by rw [HBL.out]; exact rdb_drewN HRB.out _) HBB.out (by rw [HBL.out]; have := HLL.out; have := HE.out; have := HSS.out; have := HT.out; omega)
  rw [HBL.out] at hsum
  refine hsum.mono ?_
  rintro e w1 ⟨rfl, hb1⟩
  have HB := Aside0.mk (below_step (pw_below_drewN (Below.refl _ _) (q + q2)) hb1)
  clear hb1 hsum
  go_wp2_with fail
  have HB2 : Aside0 (Below w.heap.size w w1.drew) := ⟨below_drew HB.out⟩
  refine wp_region_held_drew (S := (fun W => W.cell? ad = some (.int .u8 (rd l 0)) ∧ RdB W A3 (e_ - f) (b.drop f))) (by kernel_rfl) ((And.intro ((HB2.out.cell (World.block_lt_of_cell? w _ X0.out)).trans X0.out) (rdb_below HA3.out HB2.out))) (fun hHeld => ?_)
  refine wpAnyH_take (i := 0) (v := ?_) (by simp only [List.getElem?_toArray, List.getElem?_cons_succ, List.getElem?_cons_zero]; rfl) (by kernel_rfl) (by kernel_rfl) (by kernel_rfl) (by intro _ _ _ h; exact h) (Or.inl ⟨by rfl, ?hy⟩) (by assumption) ?_
  case hy => (intro W_ hW_; go_simp; first | done | with_reducible rfl)
  try simp only [Act.put, List.setIfInBounds_toArray, List.set_cons_zero, List.set_cons_succ]
  refine wpAnyH_take (i := 1) (v := ?_) (by simp only [List.getElem?_toArray, List.getElem?_cons_succ, List.getElem?_cons_zero]; rfl) (by kernel_rfl) (by kernel_rfl) (by kernel_rfl) (by intro _ _ _ h; exact h) (Or.inl ⟨by rfl, ?hy⟩) (by assumption) ?_
  case hy => (intro W_ hW_; go_simp; first | done | with_reducible rfl)
  try simp only [Act.put, List.setIfInBounds_toArray, List.set_cons_zero, List.set_cons_succ]
  refine wpAnyH_take (i := 2) (v := ?_) (by simp only [List.getElem?_toArray, List.getElem?_cons_succ, List.getElem?_cons_zero]; rfl) (by kernel_rfl) (by kernel_rfl) (by kernel_rfl) (by intro _ _ _ h; exact h) (Or.inl ⟨by rfl, ?hy⟩) (by assumption) ?_
  case hy => (intro W_ hW_; have f_ := hW_.1; go_simp; first | done | with_reducible rfl)
  try simp only [Act.put, List.setIfInBounds_toArray, List.set_cons_zero, List.set_cons_succ]
  refine wpAnyH_take (i := 3) (v := ?_) (by simp only [List.getElem?_toArray, List.getElem?_cons_succ, List.getElem?_cons_zero]; rfl) (by kernel_rfl) (by kernel_rfl) (by kernel_rfl) (by intro _ _ _ h; exact h) (Or.inl ⟨by rfl, ?hy⟩) (by assumption) ?_
  case hy => (intro W_ hW_; go_simp; first | done | with_reducible rfl)
  try simp only [Act.put, List.setIfInBounds_toArray, List.set_cons_zero, List.set_cons_succ]
  refine wpAnyH_take (i := 4) (v := ?_) (by simp only [List.getElem?_toArray, List.getElem?_cons_succ, List.getElem?_cons_zero]; rfl) (by kernel_rfl) (by kernel_rfl) (by kernel_rfl) (by intro _ _ _ h; exact h) (Or.inl ⟨by rfl, ?hy⟩) (by assumption) ?_
  case hy => (intro W_ hW_; go_simp; first | done | with_reducible rfl)
  try simp only [Act.put, List.setIfInBounds_toArray, List.set_cons_zero, List.set_cons_succ]
  refine wpAnyH_take (i := 5) (v := ?_) (by simp only [List.getElem?_toArray, List.getElem?_cons_succ, List.getElem?_cons_zero]; rfl) (by kernel_rfl) (by kernel_rfl) (by kernel_rfl) (by intro _ _ _ h; exact h) (Or.inl ⟨by rfl, ?hy⟩) (by assumption) ?_
  case hy => (intro W_ hW_; go_simp; first | done | with_reducible rfl)
  try simp only [Act.put, List.setIfInBounds_toArray, List.set_cons_zero, List.set_cons_succ]
  refine wpAnyH_take (i := 6) (v := ?_) (by simp only [List.getElem?_toArray, List.getElem?_cons_succ, List.getElem?_cons_zero]; rfl) (by kernel_rfl) (by kernel_rfl) (by kernel_rfl) (by intro _ _ _ h; exact h) (Or.inl ⟨by rfl, ?hy⟩) (by assumption) ?_
  case hy => (intro W_ hW_; go_simp; first | done | with_reducible rfl)
  try simp only [Act.put, List.setIfInBounds_toArray, List.set_cons_zero, List.set_cons_succ]
  refine wpAnyH_take (i := 7) (v := ?_) (by simp only [List.getElem?_toArray, List.getElem?_cons_succ, List.getElem?_cons_zero]; rfl) (by kernel_rfl) (by kernel_rfl) (by kernel_rfl) (by intro _ _ _ h; exact h) (Or.inl ⟨by rfl, ?hy⟩) (by assumption) ?_
  case hy => (intro W_ hW_; go_simp; first | done | with_reducible rfl)
  try simp only [Act.put, List.setIfInBounds_toArray, List.set_cons_zero, List.set_cons_succ]
  refine wpAnyH_take (i := 9) (v := ?_) (by simp only [List.getElem?_toArray, List.getElem?_cons_succ, List.getElem?_cons_zero]; rfl) (by kernel_rfl) (by kernel_rfl) (by kernel_rfl) (by intro _ _ _ h; exact h) (Or.inl ⟨by rfl, ?hy⟩) (by assumption) ?_
  case hy => (intro W_ hW_; go_simp; first | done | with_reducible rfl)
  try simp only [Act.put, List.setIfInBounds_toArray, List.set_cons_zero, List.set_cons_succ]
  refine wpAnyH_take (i := 10) (v := ?_) (by simp only [List.getElem?_toArray, List.getElem?_cons_succ, List.getElem?_cons_zero]; rfl) (by kernel_rfl) (by kernel_rfl) (by kernel_rfl) (by intro _ _ _ h; exact h) (Or.inl ⟨by rfl, ?hy⟩) (by assumption) ?_
  case hy => (intro W_ hW_; go_simp; first | done | with_reducible rfl)
  try simp only [Act.put, List.setIfInBounds_toArray, List.set_cons_zero, List.set_cons_succ]
  refine wpAnyH_ready (rs := [8]) (by kernel_rfl) (by simp) ?_
  refine AllReadyH.cons (by simp only [List.getElem?_toArray, List.getElem?_cons_succ, List.getElem?_cons_zero]; rfl) (fun K hK => ?_) AllReadyH.nil
  rw [if_pos (by rfl)]
  go_wp2_with fail
  refine (clone_call2 A3 (c0 - f) (b.drop f) _ HML.out _ hHeld.2 hC3 (by have := HE.out; have := HFF.out; have := HNN.out; omega)).mono ?_
  rintro e w4 ⟨v4, rfl, hR4, hb4⟩
  refine hK.out _ _ (And.intro ((hb4.cell (World.block_lt_of_cell? _ _ hHeld.1)).trans hHeld.1) (rdb_below hHeld.2 hb4)) (fun hHeld2 => ?_)
  clear hK K hHeld
  have hHeld := hHeld2
  clear hHeld2
  try simp only [Act.put, List.setIfInBounds_toArray, List.set_cons_zero, List.set_cons_succ]
  refine wpAnyH_take (i := 11) (v := ?_) (by simp only [List.getElem?_toArray, List.getElem?_cons_succ, List.getElem?_cons_zero]; rfl) (by kernel_rfl) (by kernel_rfl) (by kernel_rfl) (by intro _ _ _ h; exact h) (Or.inl ⟨by rfl, ?hy⟩) (by assumption) ?_
  case hy => (intro W_ hW_; go_simp; first | done | with_reducible rfl)
  try simp only [Act.put, List.setIfInBounds_toArray, List.set_cons_zero, List.set_cons_succ]
  refine wpAnyH_take (i := 12) (v := ?_) (by simp only [List.getElem?_toArray, List.getElem?_cons_succ, List.getElem?_cons_zero]; rfl) (by kernel_rfl) (by kernel_rfl) (by kernel_rfl) (by intro _ _ _ h; exact h) (Or.inl ⟨by rfl, ?hy⟩) (by assumption) ?_
  case hy => (intro W_ hW_; go_simp; first | done | with_reducible rfl)
  try simp only [Act.put, List.setIfInBounds_toArray, List.set_cons_zero, List.set_cons_succ]
  refine wpAnyH_take (i := 13) (v := ?_) (by simp only [List.getElem?_toArray, List.getElem?_cons_succ, List.getElem?_cons_zero]; rfl) (by kernel_rfl) (by kernel_rfl) (by kernel_rfl) (by intro _ _ _ h; exact h) (Or.inl ⟨by rfl, ?hy⟩) (by assumption) ?_
  case hy => (intro W_ hW_; go_simp; first | done | with_reducible rfl)
  try simp only [Act.put, List.setIfInBounds_toArray, List.set_cons_zero, List.set_cons_succ]
  refine wpAnyH_take (i := 14) (v := ?_) (by simp only [List.getElem?_toArray, List.getElem?_cons_succ, List.getElem?_cons_zero]; rfl) (by kernel_rfl) (by kernel_rfl) (by kernel_rfl) (by intro _ _ _ h; exact h) (Or.inl ⟨by rfl, ?hy⟩) (by assumption) ?_
  case hy => (intro W_ hW_; go_simp; first | done | with_reducible rfl)
  try simp only [Act.put, List.setIfInBounds_toArray, List.set_cons_zero, List.set_cons_succ]
  refine wpAnyH_done (by kernel_rfl) ?_ _
  go_wp2_with fail
  (try simp only [Exit.inBlock, Exit.then])
  refine bodyPost_ret (results_list (rs := [.tmp 2, .tmp 3, .tmp 4, .tmp 5]) rfl (by simp) (.tmp (.tmp (.tmp (.tmp .nil))))) rfl ?_
  exact ⟨v4, rfl, Kd.R_lower hR4 HB2.out.size, below_step HB2.out hb4⟩

def getL (l : List Int) : Int × Int × Bool := (wire_Get.f (2 * l.length + 3) l).getD (0, 0, false)
theorem getL_is {l : List Int} (hb : Bytes l) (hl : l.length ≤ 1000000000) : IsGet l (getL l) := by
  obtain ⟨r, h, hr⟩ := Go.Proofs.Ytchaegfdcdlfaaa.Y.Get_is l hb (by omega) (2 * l.length + 3) (by omega)
  unfold getL
  rw [h]
  exact hr
theorem getL_eq {l : List Int} (hb : Bytes l) (hl : l.length ≤ 1000000000) {r : Int × Int × Bool} (h : IsGet l r) : getL l = r := (getL_is hb hl).unique h
def openL (l : List Int) : Int × List Int × Int × Int := openR l (getL (l.drop 1))
theorem drop_bytes {l : List Int} (hb : Bytes l) (k : Nat) : Bytes (l.drop k) := fun x hx => hb x (List.mem_of_mem_drop hx)
theorem used_lt {l : List Int} {r : Int × Int × Bool} (h0 : 0 < l.length) (h : IsGet (l.drop 1) r) : ∃ n u : Nat, r = ((n : Int), (u : Int), r.2.2) ∧ u + 1 ≤ l.length := by
  have hu := Go.Proofs.Ytchaegfdcdlfaaa.Y.IsGet.used h
  rw [List.length_drop] at hu
  refine ⟨r.1.toNat, r.2.1.toNat, ?_, by omega⟩
  obtain ⟨a, b, c⟩ := r
  simp only at hu ⊢
  rw [Int.toNat_of_nonneg hu.2.2.1, Int.toNat_of_nonneg hu.1]
theorem OpenQ.of {w w' : World} {e : Ending} {r r' : Int × List Int × Int × Int} (h : OpenQ w r e w') (he : r = r') : OpenQ w r' e w' := he ▸ h
theorem sopen_call (A0 : Option Addr) (c0 : Nat) (l : List Int) (w : World) (hr0 : RdB w A0 l.length l) (hc0 : l.length ≤ c0) (hb : Bytes l) (hl : l.length ≤ 1000000000) :
    Calls Try.prog 44 #[.slice A0 l.length c0] w fun e w' => OpenQ w (openL l) e w' := by
  have hg := getL_is (drop_bytes hb 1) (by rw [List.length_drop]; omega)
  unfold openL
  generalize getL (l.drop 1) = g at hg
  by_cases h0 : l.length = 0
  · refine (sopen_empty A0 c0 l w hr0 hc0 hb hl h0).mono fun e w' h => h.of ?_
    unfold openR
    rw [if_pos (Or.inl h0)]
  · by_cases h10 : 10 ≤ rd l 0
    · refine (sopen_kind A0 c0 l w hr0 hc0 hb hl (by omega) h10).mono fun e w' h => h.of ?_
      unfold openR
      rw [if_pos (Or.inr h10)]
    · obtain ⟨n, u, hgg, hu⟩ := used_lt (by omega) hg
      obtain ⟨b, hbb⟩ : ∃ b, b = g.2.2 := ⟨_, rfl⟩
      rw [← hbb] at hgg
      subst hgg
      cases b with
      | false =>
        refine (sopen_not A0 c0 l w hr0 hc0 hb hl (by omega) h10 n u hg hu).mono fun e w' h => h.of ?_
        unfold openR
        rw [if_neg (by omega), if_pos (Or.inl rfl)]
      | true =>
        by_cases hn : 100000 < n
        · refine (sopen_big A0 c0 l w hr0 hc0 hb hl (by omega) h10 n u hg hu hn).mono fun e w' h => h.of ?_
          unfold openR
          rw [if_neg (by omega), if_pos (Or.inr (Or.inl (show (100000 : Int) < (n : Int) by omega)))]
        · by_cases hs : l.length < 1 + u + n + 4
          · refine (sopen_short A0 c0 l w hr0 hc0 hb hl (by omega) h10 n u hg hu (by omega) hs).mono fun e w' h => h.of ?_
            unfold openR
            rw [if_neg (by omega), if_pos (Or.inr (Or.inr (show (l.length : Int) < 1 + (u : Int) + (n : Int) + 4 by omega)))]
          · have hcond : ¬ ((true = false) ∨ (100000 : Int) < (n : Int) ∨ (l.length : Int) < 1 + (u : Int) + (n : Int) + 4) := by
              rintro (h | h | h)
              · cases h
              · omega
              · omega
            by_cases hq : (four ((l.take (1 + u + n + 4)).drop (1 + u + n)) : Int) = sumL (l.take (1 + u + n))
            · refine (sopen_ok A0 c0 l w hr0 hc0 hb hl (by omega) h10 n u hg hu (by omega) (by omega) hq).mono fun e w' h => h.of ?_
              unfold openR
              rw [if_neg (by omega), if_neg hcond]
              simp only [Int.toNat_natCast]
              rw [if_neg (fun h => h hq)]
            · refine (sopen_bad A0 c0 l w hr0 hc0 hb hl (by omega) h10 n u hg hu (by omega) (by omega) hq).mono fun e w' h => h.of ?_
              unfold openR
              rw [if_neg (by omega), if_neg hcond]
              simp only [Int.toNat_natCast]
              rw [if_pos hq]
def section_Open.f (k : Nat) (l0 : List Int) : Option (Int × List Int × Int × Int) := if l0.all (fun x => decide (0 ≤ x ∧ x ≤ 255)) = true ∧ l0.length ≤ 1000000000 then some (openL l0) else none
theorem section_Open.mono : ∀ a0 k, LeO (section_Open.f k a0) (section_Open.f (k + 1) a0) := fun _ _ => LeO.refl _
theorem section_Open.calls (k : Nat) (A0 : Option Addr) (c0 : Nat) (l0 : List Int) (r1 : Int) (r2 : List Int) (r3 : Int) (r4 : Int) (w : World) (hr0 : Kd.C (Kd.int .u8) w A0 l0.length l0) (hc0 : l0.length ≤ c0) (h : section_Open.f k l0 = some (r1, r2, r3, r4)) :
    Calls Try.prog 44 #[.slice A0 l0.length c0] w fun e w' => ∃ v1_ : Value, e = .returned (.tuple #[.int .i64 r1, v1_, .int .i64 r3, .int .i64 r4]) ∧ Kd.R (Kd.int .u8) 5 w' w.heap.size (fun _ => True) v1_ r2 ∧ Below w.heap.size w w' := by
  unfold section_Open.f at h
  split at h
  · rename_i hh
    injection h with h
    refine (sopen_call A0 c0 l0 w hr0 hc0 (fun x hx => by simpa using List.all_eq_true.1 hh.1 x hx) hh.2).mono fun e w' hq => ?_
    exact hq.of h
  · cases h
end Go.Proofs.Ytchaegfdcdlfaaa.X

namespace Go.Proofs.Ytchaegfdcdlfaaa.X
set_option linter.unusedVariables false
set_option linter.unusedSimpArgs false
open Go.RowKit Go.Proofs.YtchaegfdcdlfaaaW.PrintWords Go.Proofs.YtchaegfdcdlfaaaW.PrintLast Go.Proofs.YtchaegfdcdlfaaaW.PrintMore

set_option maxHeartbeats 1000000 in
set_option maxRecDepth 100000 in
theorem grow_call (n : Nat) (hn : n ≤ 1000000000) (w : World) :
    Calls Try.prog 140 #[.slice none 0 0, .int .i64 n] w fun e w' => ∃ v, e = .returned v ∧ Kd.R (Kd.int .u8) 5 w' w.heap.size (fun _ => True) v [] ∧ Below w.heap.size w w' := by
  have e1 : decide ((n : Int) < 0) = false := decide_eq_false (by omega)
  by_cases h0 : 0 < n
  · obtain ⟨i0, hi0, hz0, hs0, hb0⟩ := info_parts info5
    have e2 : decide ((n : Int) > 0) = true := decide_eq_true (by omega)
    have e3 : IntKind.i64.wrap ((n : Int) - 0) = (n : Int) := by rw [i64_w]; unfold wrap64; omega
    have hrun := Go.Lib.run_append_nil_zeros (P := Try.prog) w 40 3 40 5 i0 _ .i64 .i64 Try.underlying40 Try.underlying3 hi0 hz0 n h0 (by omega) (by omega) (by rw [hb0]; omega)
    obtain ⟨cp, hcp⟩ : ∃ cp, cp = grownCap w n 0 5 := ⟨_, rfl⟩
    rw [← hcp] at hrun
    go_enter Try.func140, Try.ntmps140
    go_wp2_with (first
      | ((with_reducible refine gate_builtin (b := .append) (xs := #[.tmp 20, .tmp 21]) rfl ?_); at_builtin; refine Go.Lib.wpList_append_run _ rfl _ _ _ _ rfl _ _ rfl rfl _ _ hrun ?_)
      | fail)
    go_ret
    refine ⟨_, rfl, Kd.R_of_own (ok := fun _ => True) ⟨rfl, .inr ⟨w.heap.size, grownCap w n 0 5, _, rfl, Nat.le_refl _, heap_alloc_new _ _, Nat.zero_le _, grownCap_le_maxLen w n 0 5 (by unfold maxLen; omega), ?_, by simp [encs]⟩⟩ (fun _ _ => trivial), below_drew (below_alloc (Below.refl _ _) _)⟩
    have := grownCap_ge w n 0 5
    simp [size_zeroCells]
    omega
  · obtain rfl : n = 0 := by omega
    have e2 : decide (((0 : Nat) : Int) > 0) = false := by decide
    have e3 : IntKind.i64.wrap ((0 : Int) - 0) = 0 := by decide
    go_enter Try.func140, Try.ntmps140
    go_wp2_with fail
    go_ret
    exact ⟨_, rfl, Kd.R_nil _ _ _ _ _, Below.refl _ _⟩

def lens (l : List (List Int)) (i : Nat) : Nat := (l.take i).flatten.length
theorem lens_succ {l : List (List Int)} {i : Nat} (hi : i < l.length) : (l.take (i + 1)).flatten = (l.take i).flatten ++ rd_L2 l i := by
  have : l.take (i + 1) = l.take i ++ [rd_L2 l i] := by
    unfold rd_L2
    rw [Int.toNat_natCast, List.getD_eq_getElem?_getD, List.getElem?_eq_getElem hi, Option.getD_some, List.take_succ_eq_append_getElem hi]
  rw [this, List.flatten_append]
  simp
theorem lens_le (l : List (List Int)) (i : Nat) : lens l i ≤ l.flatten.length := by
  have : l.flatten = (l.take i).flatten ++ (l.drop i).flatten := by rw [← List.flatten_append, List.take_append_drop]
  unfold lens
  rw [this, List.length_append]
  omega

set_option maxHeartbeats 1000000 in
set_option maxRecDepth 100000 in
theorem cat_call (A : Option Addr) (c : Nat) (l : List (List Int)) (w : World) (hr : Kd.C (Kd.slice 5 (Kd.int .u8)) w A l.length l) (hl : l.flatten.length ≤ 1000000000) (hn : l.length ≤ 1000000000) :
    Calls Try.prog 83 #[.slice A l.length c] w fun e w' => ∃ v, e = .returned v ∧ Kd.R (Kd.int .u8) 5 w' w.heap.size (fun _ => True) v l.flatten ∧ Below w.heap.size w w' := by
  have HR := Aside0.mk hr
  have HL := Aside0.mk hl
  have HN := Aside0.mk hn
  clear hr hl
  go_enter Try.func83, Try.ntmps83
  go_wp2_with fail
  go_loopg [3, 11] l.length (fun k v3 v11 w' => ∃ i : Nat, v3 = .int .i64 (lens l i : Int) ∧ v11 = .int .i64 i ∧ Aside0 (k = l.length - i ∧ i ≤ l.length) ∧ Aside0 (Below w.heap.size w w'))
  case atStart => exact ⟨0, by simp [lens], rfl, ⟨by omega, by omega⟩, ⟨Below.refl _ _⟩⟩
  case round =>
    obtain ⟨i, rfl, rfl, HI, HB⟩ := hrel
    by_cases hi : i < l.length
    · have d1 : decide (i < l.length) = true := decide_eq_true hi
      have d2 : decide ((i : Int) < (l.length : Int)) = true := decide_eq_true (by omega)
      have pi : ((i : Int) < (l.length : Int)) = True := eq_true (by omega)
      have qi : (0 ≤ (i : Int)) = True := eq_true (by omega)
      have hwi : IntKind.i64.wrap ((i : Int) + 1) = ((i + 1 : Nat) : Int) := by rw [i64_w]; unfold wrap64; omega
      obtain ⟨ad0, A0, c0, e0, x0, hc0, _⟩ := at_L2 (Kd.C_below HR.out HB.out) (i : Int) (by omega) (by omega)
      subst e0
      simp only [Int.toNat_natCast] at x0
      have HE := lens_succ hi
      have hs : lens l (i + 1) = lens l i + (rd_L2 l i).length := by unfold lens; rw [HE, List.length_append]
      have hle := lens_le l (i + 1)
      have hll := HL.out
      have hw2 : IntKind.i64.wrap ((lens l i : Int) + ((rd_L2 l i).length : Int)) = (lens l (i + 1) : Int) := by rw [i64_w]; unfold wrap64; omega
      have d3 : decide ((lens l (i + 1) : Int) < 0) = false := decide_eq_false (by omega)
      clear HE hs hle hll
      go_wp2_with fail
      go_roundg (l.length - (i + 1))
      case measure => have := HI.out; omega
      case rel => exact ⟨i + 1, rfl, by simp, ⟨rfl, by omega⟩, HB⟩
    · have d1 : decide (i < l.length) = false := decide_eq_false hi
      have d2 : decide ((i : Int) < (l.length : Int)) = false := decide_eq_false (by omega)
      obtain rfl : i = l.length := by have := HI.out; omega
      have hle := lens_le l l.length
      have hll := HL.out
      clear hi
      go_wp2_with fail
      refine (grow_call (lens l l.length) (by omega) _).mono ?_
      rintro e w1 ⟨v, rfl, ho1, hb1⟩
      have HO := Aside0.mk (Kd.R_lower ho1 HB.out.size)
      have HB1 := Aside0.mk (below_step HB.out hb1)
      clear ho1 hb1 hle hll HB
      go_wp2_with fail
      go_loopg [6, 27] l.length (fun k v6 v27 w' => ∃ i : Nat, v27 = .int .i64 i ∧ Aside0 (k = l.length - i ∧ i ≤ l.length) ∧ Aside0 (Kd.R (Kd.int .u8) 5 w' w.heap.size (fun _ => True) v6 (l.take i).flatten) ∧ Aside0 (Below w.heap.size w w'))
      case atStart => exact ⟨0, rfl, ⟨by omega, by omega⟩, ⟨by simpa using HO.out⟩, HB1⟩
      case round =>
        clear HO HB1 HI
        obtain ⟨i, rfl, HI, HO, HB⟩ := hrel
        by_cases hi : i < l.length
        · have d1 : decide (i < l.length) = true := decide_eq_true hi
          have d2 : decide ((i : Int) < (l.length : Int)) = true := decide_eq_true (by omega)
          have pi : ((i : Int) < (l.length : Int)) = True := eq_true (by omega)
          have qi : (0 ≤ (i : Int)) = True := eq_true (by omega)
          have hwi : IntKind.i64.wrap ((i : Int) + 1) = ((i + 1 : Nat) : Int) := by rw [i64_w]; unfold wrap64; omega
          obtain ⟨ad0, A0, c0, e0, x0, hc0, hi0⟩ := at_L2 (Kd.C_below HR.out HB.out) (i : Int) (by omega) (by omega)
          subst e0
          simp only [Int.toNat_natCast] at x0
          have HI0 := Aside0.mk hi0
          have HE := Aside0.mk (lens_succ hi)
          have hs : lens l (i + 1) = lens l i + (rd_L2 l i).length := by unfold lens; rw [HE.out, List.length_append]
          have hle := lens_le l (i + 1)
          have HLE : Aside0 (((l.take i).flatten.length + (rd_L2 l i).length) * 1 ≤ 140737488355328) := ⟨by have := HL.out; have := hs; unfold lens at this hle; omega⟩
          clear hi0 hs hle
          go_wp2_with (first | ((with_reducible refine gate_builtin (b := .append) (xs := #[.tmp 31, .tmp 32]) rfl ?_); at_builtin; refine Kd.R_append_rows (Kd.int .u8) (w0 := w) w.heap.size rfl (.tmp 31) (.tmp 32) 40 5 (.int .u8 0) 1 rfl Try.underlying40 info5 rfl (by decide) (by omega) u6 (l.take i).flatten (rd_L2 l i) _ _ _ (fun _ => True) (fun _ => False) rfl rfl HO.out HI0.out (fun _ _ h => h) (fun _ h => h.elim) (fun _ _ => trivial) HB.out HB.out.size (by have := HLE.out; omega) ?_; intro v1 w1 ho hb hg hat; have HO1 := Aside0.mk ho; have HB1 := Aside0.mk hb; clear ho hb hg hat) | fail)
          go_roundg (l.length - (i + 1))
          case measure => have := HI.out; omega
          case rel => exact ⟨i + 1, by simp, ⟨rfl, by omega⟩, ⟨by rw [HE.out]; exact HO1.out⟩, HB1⟩
        · have d1 : decide (i < l.length) = false := decide_eq_false hi
          have d2 : decide ((i : Int) < (l.length : Int)) = false := decide_eq_false (by omega)
          have hil : i = l.length := by have := HI.out; omega
          have HX : Aside0 ((l.take i).flatten = l.flatten) := ⟨by rw [hil, List.take_length]⟩
          clear hi hil
          go_wp2_with fail
          go_ret
          exact ⟨_, rfl, by rw [← HX.out]; exact HO.out, HB.out⟩

def slices_Concat_byte_byte.f (k : Nat) (l0 : List (List Int)) : Option (List Int) := if l0.flatten.length ≤ 1000000000 ∧ l0.length ≤ 1000000000 then some l0.flatten else none
theorem slices_Concat_byte_byte.mono : ∀ a0 k, LeO (slices_Concat_byte_byte.f k a0) (slices_Concat_byte_byte.f (k + 1) a0) := fun _ _ => LeO.refl _
theorem slices_Concat_byte_byte.calls (k : Nat) (A0 : Option Addr) (c0 : Nat) (l0 : List (List Int)) (r : List Int) (w : World) (hr0 : Kd.C (Kd.slice 5 (Kd.int .u8)) w A0 l0.length l0) (hc0 : l0.length ≤ c0) (h : slices_Concat_byte_byte.f k l0 = some r) :
    Calls Try.prog 83 #[.slice A0 l0.length c0] w fun e w' => ∃ v0_ : Value, e = .returned (v0_) ∧ Kd.R (Kd.int .u8) 5 w' w.heap.size (fun _ => True) v0_ r ∧ Below w.heap.size w w' := by
  unfold slices_Concat_byte_byte.f at h
  split at h
  · rename_i hh
    injection h with h
    subst h
    exact cat_call A0 c0 l0 w hr0 hh.1 hh.2
  · cases h
theorem Cat_eq (k : Nat) {l0 : List (List Int)} (h1 : l0.flatten.length ≤ 1000000000) (h2 : l0.length ≤ 1000000000) : slices_Concat_byte_byte.f k l0 = some l0.flatten := by
  unfold slices_Concat_byte_byte.f
  rw [if_pos ⟨h1, h2⟩]
end Go.Proofs.Ytchaegfdcdlfaaa.X

namespace Go.Proofs.Ytchaegfdcdlfaaa.X
open Go.RowKit Go.Proofs.YtchaegfdcdlfaaaW.PrintWords Go.Proofs.YtchaegfdcdlfaaaW.PrintLast Go.Proofs.YtchaegfdcdlfaaaW.PrintMore
attribute [local go_sem] max2_int min2_int max_two min_two max_three min_three max_four min_four   -- for this text's walks alone
set_option linter.unusedVariables false
set_option linter.unusedSimpArgs false

def section_Pack.j0 : Nat → Int → List Int → Bool → Option (List Int × Bool)
  | 0, _, _, _ => none
  | k + 1, x0, x1, x17 => if x17 = true then (some (([] : List Int), false)) else ((wire_Put.f k (IntKind.u64.wrap ((x1.length : Int)))).bind fun t162 => ((slices_Concat_byte_byte.f k (([(([(x0) % 256] : List Int)), t162, x1] : List (List Int)))).bind fun t168 => ((section_Sum.f k t168).bind fun t171 => ((wire_Word.f k t171).bind fun t172 => (if t168.length + t172.length < 140737488355328 then (some ((t168 ++ t172), true)) else (none))))))
def section_Pack.f (k : Nat) (a0 : Int) (l1 : List Int) : Option (List Int × Bool) := if a0 < 0 then (section_Pack.j0 k a0 l1 true) else (if a0 ≥ 10 then (section_Pack.j0 k a0 l1 true) else (section_Pack.j0 k a0 l1 (decide ((l1.length : Int) > 100000))))
theorem section_Pack.mono_l : ∀ k, (∀ y0 y1 y2, LeO (section_Pack.j0 k y0 y1 y2) (section_Pack.j0 (k + 1) y0 y1 y2))
  | 0 => fun _ _ _ r h => by simp [section_Pack.j0] at h
  | k + 1 => by
    have ih0 := section_Pack.mono_l k
    · intro y0 y1 y2
      unfold section_Pack.j0
      repeat' first
      | (with_reducible exact ih0 _ _ _)
      | (with_reducible exact section_Sum.mono _ _)
      | (with_reducible exact slices_Concat_byte_byte.mono _ _)
      | (with_reducible exact wire_Put.mono _ _)
      | (with_reducible exact wire_Word.mono _ _)
      | (with_reducible exact LeO.refl _)
      | (with_reducible exact LeO.none _)
      | (with_reducible refine LeO.ite ?_ ?_)
      | (with_reducible refine LeO.bind ?_ (fun _ => ?_))
      | exact ih0 _ _ _
      | exact section_Sum.mono _ _
      | exact slices_Concat_byte_byte.mono _ _
      | exact wire_Put.mono _ _
      | exact wire_Word.mono _ _
      | exact LeO.none _
      | refine LeO.ite ?_ ?_
      | refine LeO.bind ?_ (fun _ => ?_)
theorem section_Pack.mono : ∀ a0 a1 k, LeO (section_Pack.f k a0 a1) (section_Pack.f (k + 1) a0 a1) := by
  intro a0 a1 k
  have ih0 := section_Pack.mono_l k
  unfold section_Pack.f
  repeat' first
      | (with_reducible exact ih0 _ _ _)
      | (with_reducible exact section_Sum.mono _ _)
      | (with_reducible exact slices_Concat_byte_byte.mono _ _)
      | (with_reducible exact wire_Put.mono _ _)
      | (with_reducible exact wire_Word.mono _ _)
      | (with_reducible exact LeO.refl _)
      | (with_reducible exact LeO.none _)
      | (with_reducible refine LeO.ite ?_ ?_)
      | (with_reducible refine LeO.bind ?_ (fun _ => ?_))
      | exact ih0 _ _ _
      | exact section_Sum.mono _ _
      | exact slices_Concat_byte_byte.mono _ _
      | exact wire_Put.mono _ _
      | exact wire_Word.mono _ _
      | exact LeO.none _
      | refine LeO.ite ?_ ?_
      | refine LeO.bind ?_ (fun _ => ?_)
set_option maxHeartbeats 8000000 in
set_option maxRecDepth 100000 in
theorem section_Pack.calls (k : Nat) (a0 : Int) (P1_ : Nat → Prop) (A1 : Option Addr) (c1 : Nat) (l1 : List Int) (r1 : List Int) (r2 : Bool) (w : World) (hs1 : Kd.V (Kd.int .u8) 5 w w.heap.size (fun k_ => P1_ k_) (.slice A1 l1.length c1) l1) (h : section_Pack.f k a0 l1 = some (r1, r2)) :
    Calls Try.prog 42 #[.int .i64 a0, .slice A1 l1.length c1] w fun e w' => ∃ v0_ : Value, e = .returned (.tuple #[v0_, .bool r2]) ∧ Kd.R (Kd.int .u8) 5 w' w.heap.size (fun k_ => (w.heap.size ≤ k_)) v0_ r1 ∧ Below w.heap.size w w' := by
  have HO1 := Aside0.mk (show Kd.V (Kd.int .u8) 5 w w.heap.size (fun k_ => (P1_ k_ ∨ w.heap.size ≤ k_)) (.slice A1 l1.length c1) l1 from Kd.V_mono hs1 (fun k_ hk => .inl hk))
  have HB := Aside0.mk (Below.refl w.heap.size w)
  have H : (if a0 < 0 then (section_Pack.j0 k a0 l1 true) else (if a0 ≥ 10 then (section_Pack.j0 k a0 l1 true) else (section_Pack.j0 k a0 l1 (decide ((l1.length : Int) > 100000))))) = some (r1, r2) := h
  clear h
  have HC3 := Aside0.mk H
  clear H
  go_enter Try.func42, Try.ntmps42
  go_upto_region 1 with (fail)
  go_cut [17] (fun v17 wc => ∃ (kq : Nat) (x17_2 : Bool), v17 = .bool x17_2 ∧ Aside0 (section_Pack.j0 kq a0 l1 x17_2 = some (r1, r2)) ∧ Aside0 (kq ≤ k) ∧ Aside0 (Kd.V (Kd.int .u8) 5 wc w.heap.size (fun k_ => (P1_ k_ ∨ w.heap.size ≤ k_)) (.slice A1 l1.length c1) l1) ∧ Aside0 (Below w.heap.size w wc))
  case first =>
    have H := HC3.out
    clear HC3
    by_cases c4 : a0 < 0
    · rw [if_pos c4] at H
      have c4b0 : decide (a0 < 0) = true := decide_eq_true c4
      clear c4
      (first | rw [c4b0] | (simp only [i64_w, i32_w]; rw [c4b0]) | skip)
      have H' := Aside0.mk H
      clear H
      go_wp2
      go_meet
      case rel => exact ⟨_, (true), (by first | rfl | (simp; done) | (simp [*]; done)), H', ⟨by first | omega | exact Nat.le_refl _⟩, ⟨by (with_reducible repeat (first | apply Kd.V_alloc | apply Kd.V_drewN | apply Kd.V_drew)); exact HO1.out⟩, ⟨by repeat (first | (with_reducible first | exact HB.out | apply below_alloc | apply pw_below_drewN | apply below_drew1) | exact HB.out)⟩⟩
    · rw [if_neg c4] at H
      have c4b0 : decide (a0 < 0) = false := decide_eq_false c4
      clear c4
      (first | rw [c4b0] | (simp only [i64_w, i32_w]; rw [c4b0]) | skip)
      by_cases c5 : a0 ≥ 10
      · rw [if_pos c5] at H
        have c5b0 : decide (10 ≤ a0) = true := decide_eq_true c5
        clear c5
        have H' := Aside0.mk H
        clear H
        go_wp2
        go_meet
        case rel => exact ⟨_, (true), (by first | rfl | (simp; done) | (simp [*]; done)), H', ⟨by first | omega | exact Nat.le_refl _⟩, ⟨by (with_reducible repeat (first | apply Kd.V_alloc | apply Kd.V_drewN | apply Kd.V_drew)); exact HO1.out⟩, ⟨by repeat (first | (with_reducible first | exact HB.out | apply below_alloc | apply pw_below_drewN | apply below_drew1) | exact HB.out)⟩⟩
      · rw [if_neg c5] at H
        have c5b0 : decide (10 ≤ a0) = false := decide_eq_false c5
        clear c5
        have H' := Aside0.mk H
        clear H
        go_wp2
        go_meet
        case rel => exact ⟨_, (decide ((l1.length : Int) > 100000)), (by first | rfl | (simp; done) | (simp [*]; done)), H', ⟨by first | omega | exact Nat.le_refl _⟩, ⟨by (with_reducible repeat (first | apply Kd.V_alloc | apply Kd.V_drewN | apply Kd.V_drew)); exact HO1.out⟩, ⟨by repeat (first | (with_reducible first | exact HB.out | apply below_alloc | apply pw_below_drewN | apply below_drew1) | exact HB.out)⟩⟩
  case rest =>
    clear HC3
    try clear c1
    try clear p2
    try clear c4
    try clear c4b0
    try clear c5
    try clear c5b0
    obtain ⟨kq, x17_2, rfl, HA, HJ2, HO_1, HB⟩ := hcut
    cases kq with
    | zero => exact absurd HA.out (by simp [section_Pack.j0])
    | succ kj2 =>
      have H := HA.out
      clear HA
      simp only [section_Pack.j0] at H
      by_cases c6 : x17_2 = true
      · subst c6
        have H1 : (some (([] : List Int), false)) = some (r1, r2) := by rw [if_pos rfl] at H; exact H
        clear H
        have H := H1
        clear H1
        simp only [Option.some.injEq, Prod.mk.injEq] at H
        obtain ⟨rfl, rfl⟩ := H
        go_wp2
        go_ret2
        exact ⟨_, by first | rfl | (simp [errW_none, errW_some] <;> rfl) | (simp [*, errW_none, errW_some] <;> rfl), by first | exact Kd.R_nil _ _ _ _ _ | exact Kd.N_nil _ _ _ _ _ | exact Kd.V_nil _ _ _ _ _ | exact Kd.Q_nil _ _ _ _ _ | exact Kd.S_nil _ _ _ _ _, by repeat (first | (with_reducible first | exact HB.out | apply below_alloc | apply pw_below_drewN | apply below_drew1) | exact HB.out)⟩
      · replace c6 := Bool.eq_false_iff.mpr c6
        subst c6
        have H1 : ((wire_Put.f kj2 (IntKind.u64.wrap ((l1.length : Int)))).bind fun t162 => ((slices_Concat_byte_byte.f kj2 (([(([(a0) % 256] : List Int)), t162, l1] : List (List Int)))).bind fun t168 => ((section_Sum.f kj2 t168).bind fun t171 => ((wire_Word.f kj2 t171).bind fun t172 => (if t168.length + t172.length < 140737488355328 then (some ((t168 ++ t172), true)) else (none)))))) = some (r1, r2) := by rw [if_neg (show ¬ (false = true) by decide)] at H; exact H
        clear H
        have H := H1
        clear H1
        obtain ⟨y159, hy159⟩ : ∃ y_ : List Int, y_ = (([(a0) % 256] : List Int)) := ⟨_, rfl⟩
        replace H : ((wire_Put.f kj2 (IntKind.u64.wrap ((l1.length : Int)))).bind fun t162 => ((slices_Concat_byte_byte.f kj2 (([y159, t162, l1] : List (List Int)))).bind fun t168 => ((section_Sum.f kj2 t168).bind fun t171 => ((wire_Word.f kj2 t171).bind fun t172 => (if t168.length + t172.length < 140737488355328 then (some ((t168 ++ t172), true)) else (none)))))) = some (r1, r2) := by first | (rw [hy159]; with_reducible exact H) | (have H2_ := (Option.bind_some _ _).symm.trans H; rw [hy159]; with_reducible exact H2_) | (have H2_ := (Option.bind_some _ _).symm.trans H; with_reducible exact H2_) | with_reducible exact H | (rw [hy159]; exact H) | exact H
        have Ny159 := Aside0.mk hy159
        clear hy159
        replace H := Option.bind_eq_some_iff.mp H
        obtain ⟨t162, A70, H⟩ := H
        replace H : ((slices_Concat_byte_byte.f kj2 (([y159, t162, l1] : List (List Int)))).bind fun t168 => ((section_Sum.f kj2 t168).bind fun t171 => ((wire_Word.f kj2 t171).bind fun t172 => (if t168.length + t172.length < 140737488355328 then (some ((t168 ++ t172), true)) else (none))))) = some (r1, r2) := H
        have A7 := Aside0.mk A70
        clear A70
        obtain ⟨y165, hy165⟩ : ∃ y_ : List (List Int), y_ = (([y159, t162, l1] : List (List Int))) := ⟨_, rfl⟩
        replace H : ((slices_Concat_byte_byte.f kj2 y165).bind fun t168 => ((section_Sum.f kj2 t168).bind fun t171 => ((wire_Word.f kj2 t171).bind fun t172 => (if t168.length + t172.length < 140737488355328 then (some ((t168 ++ t172), true)) else (none))))) = some (r1, r2) := by first | (rw [hy165]; with_reducible exact H) | (have H2_ := (Option.bind_some _ _).symm.trans H; rw [hy165]; with_reducible exact H2_) | (have H2_ := (Option.bind_some _ _).symm.trans H; with_reducible exact H2_) | with_reducible exact H | (rw [hy165]; exact H) | exact H
        have Ny165 := Aside0.mk hy165
        clear hy165
        replace H := Option.bind_eq_some_iff.mp H
        obtain ⟨t168, A80, H⟩ := H
        replace H : ((section_Sum.f kj2 t168).bind fun t171 => ((wire_Word.f kj2 t171).bind fun t172 => (if t168.length + t172.length < 140737488355328 then (some ((t168 ++ t172), true)) else (none)))) = some (r1, r2) := H
        have A8 := Aside0.mk A80
        clear A80
        replace H := Option.bind_eq_some_iff.mp H
        obtain ⟨t171, A90, H⟩ := H
        replace H : ((wire_Word.f kj2 t171).bind fun t172 => (if t168.length + t172.length < 140737488355328 then (some ((t168 ++ t172), true)) else (none))) = some (r1, r2) := H
        have A9 := Aside0.mk A90
        clear A90
        replace H := Option.bind_eq_some_iff.mp H
        obtain ⟨t172, A100, H⟩ := H
        replace H : (if t168.length + t172.length < 140737488355328 then (some ((t168 ++ t172), true)) else (none)) = some (r1, r2) := H
        have A10 := Aside0.mk A100
        clear A100
        by_cases c11 : t168.length + t172.length < 140737488355328
        · rw [if_pos c11] at H
          have LMc11 := Aside0.mk c11
          clear c11
          obtain ⟨y175, hy175⟩ : ∃ y_ : List Int, y_ = (t168 ++ t172) := ⟨_, rfl⟩
          replace H : (some (y175, true)) = some (r1, r2) := by first | (rw [hy175]; with_reducible exact H) | (have H2_ := (Option.bind_some _ _).symm.trans H; rw [hy175]; with_reducible exact H2_) | (have H2_ := (Option.bind_some _ _).symm.trans H; with_reducible exact H2_) | with_reducible exact H | (rw [hy175]; exact H) | exact H
          have Ny175 := Aside0.mk hy175
          clear hy175
          simp only [Option.some.injEq, Prod.mk.injEq] at H
          obtain ⟨rfl, rfl⟩ := H
          go_wp2_with (first | ((with_reducible refine gate_dst (N := 20) rfl ?_); (try (refine gate_guard (by rfl) ?_; dsimp only)); refine Kd.R_lit (Kd.int .u8) _ 5 ?hg (N := 20) ?hd (xs := ([(a0) % 256] : List Int)) (inner := [.int .u8 ((a0) % 256)]) (ok := fun _ => True) (okp := fun _ => True) ?hr ?hp (fun _ hk => hk) trivial (Below.refl _ _) (Nat.le_refl _) (by simp) ?_; (case hd => rfl); (case hg => rfl); (case hr => first | (go_simp; done) | (go_simp; rfl)); (case hp => exact (Reps.one (show Kd.M (Kd.int .u8) _ _ _ ((a0) % 256) [.int .u8 ((a0) % 256)] from rfl) (Reps.none _ _))); intro v160 w12 ho13 hb hg_ hnew_; clear hg_ hnew_; (first | rw [← Ny159.out] at ho13 | (simp only [Int.reduceToNat] at ho13; rw [← Ny159.out] at ho13)); have n0_ := Aside0.mk (Kd.V_elder' (by (with_reducible repeat (first | apply Kd.V_alloc | apply Kd.V_drewN | apply Kd.V_drew)); exact HO_1.out) (Kd.R_base ho13) hb); have n1_ := Aside0.mk (Kd.R_lower (Kd.R_newM (M := fun k_ => (w.heap.size ≤ k_)) ho13 (below_size (by repeat (first | (with_reducible first | exact HB.out | apply below_alloc | apply pw_below_drewN | apply below_drew1) | exact HB.out))) (fun k_ h_ => h_)) (below_size (by repeat (first | (with_reducible first | exact HB.out | apply below_alloc | apply pw_below_drewN | apply below_drew1) | exact HB.out)))); have n2_ := Aside0.mk (below_step (by repeat (first | (with_reducible first | exact HB.out | apply below_alloc | apply pw_below_drewN | apply below_drew1) | exact HB.out)) hb); clear HO_1; clear HB; have HO_1 := n0_; have HO161 := n1_; have HB := n2_; clear n0_ n1_ n2_; clear hb ho13) | ((with_reducible refine gate_callee (f := 84) rfl ?_); refine goesL_ (some 24) rfl rfl Try.func84 (by kernel_rfl) rfl #[.int .u64 (IntKind.u64.wrap ((l1.length : Int)))] rfl (by (try simp only [List.map_toArray, List.map_cons, List.map_nil]); first | done | rfl | (simp only [List.length_drop, List.length_take]; rfl)) ?_; (with_reducible refine (wire_Put.calls kj2 (IntKind.u64.wrap ((l1.length : Int))) t162 _ A7.out).mono ?_); rintro e w14 ⟨v163, rfl, ho0, hb⟩; refine ⟨_, rfl, ?_⟩; have n0_ := Aside0.mk (Kd.V_elder' (by (with_reducible repeat (first | apply Kd.V_alloc | apply Kd.V_drewN | apply Kd.V_drew)); exact HO_1.out) (Kd.R_base ho0) hb); have n1_ := Aside0.mk (Kd.R_elder' (by (with_reducible repeat (first | apply Kd.R_alloc | apply Kd.R_drewN | apply Kd.R_drew)); exact HO161.out) (Kd.R_base ho0) hb); have n2_ := Aside0.mk (Kd.R_lower (Kd.R_new' (Kd.R_newM (M := fun k_ => (w.heap.size ≤ k_)) ho0 (below_size (by repeat (first | (with_reducible first | exact HB.out | apply below_alloc | apply pw_below_drewN | apply below_drew1) | exact HB.out))) (fun k_ h_ => h_)) (Kd.R_lt (by (with_reducible repeat (first | apply Kd.R_alloc | apply Kd.R_drewN | apply Kd.R_drew)); exact HO161.out))) (below_size (by repeat (first | (with_reducible first | exact HB.out | apply below_alloc | apply pw_below_drewN | apply below_drew1) | exact HB.out)))); have n3_ := Aside0.mk (below_step (by repeat (first | (with_reducible first | exact HB.out | apply below_alloc | apply pw_below_drewN | apply below_drew1) | exact HB.out)) hb); clear HO_1; clear HO161; clear HB; have HO_1 := n0_; have HO161 := n1_; have HO164 := n2_; have HB := n3_; clear n0_ n1_ n2_ n3_; (try clear hb); (try clear hb2); (try clear hk); (try clear hi); (try clear ho0); obtain ⟨Ao15, co15, eo15⟩ := Kd.R_slice HO161.out; subst eo15; obtain ⟨Ao16, co16, eo16⟩ := Kd.R_slice HO164.out; subst eo16) | ((with_reducible refine gate_dst (N := 26) rfl ?_); (try (refine gate_guard (by rfl) ?_; dsimp only)); refine Kd.N_lit (Kd.slice 5 (Kd.int .u8)) _ 40 ?hg (N' := 26) ?hd (xs := ([y159, t162, l1] : List (List Int))) (inner := [.slice Ao15 y159.length co15, .slice Ao16 t162.length co16, .slice A1 l1.length c1]) (ok := (fun k_ => (P1_ k_ ∨ w.heap.size ≤ k_))) (okp := (fun k_ => (P1_ k_ ∨ w.heap.size ≤ k_))) ?hr ?hp (fun _ hk => hk) ((show ∀ k_, w14.heap.size ≤ k_ → (fun k_ => (P1_ k_ ∨ w.heap.size ≤ k_)) k_ from fun k_ hk => (.inr (Nat.le_trans (below_size (by repeat (first | (with_reducible first | exact HB.out | apply below_alloc | apply pw_below_drewN | apply below_drew1) | exact HB.out))) hk))) _ (Nat.le_refl _)) (Below.refl _ _) (Nat.le_refl _) (by simp) ?_; (case hd => rfl); (case hg => rfl); (case hr => first | (go_simp; done) | (go_simp; rfl)); (case hp => exact (Reps.one (show Kd.FK (Kd.slice 5 (Kd.int .u8)) _ _ y159 [.slice Ao15 y159.length co15] from (Kd.FK_slice_mk (Kd.R_reads' (Kd.R_mono (ok' := (fun k_ => (P1_ k_ ∨ w.heap.size ≤ k_))) (HO161.out) (fun k_ hk => (.inr (hk.1.1))))).2.1 (Kd.R_F (Kd.R_mono (ok' := (fun k_ => (P1_ k_ ∨ w.heap.size ≤ k_))) (HO161.out) (fun k_ hk => (.inr (hk.1.1))))))) (Reps.one (show Kd.FK (Kd.slice 5 (Kd.int .u8)) _ _ t162 [.slice Ao16 t162.length co16] from (Kd.FK_slice_mk (Kd.R_reads' (Kd.R_mono (ok' := (fun k_ => (P1_ k_ ∨ w.heap.size ≤ k_))) (HO164.out) (fun k_ hk => (.inr (hk.1.1))))).2.1 (Kd.R_F (Kd.R_mono (ok' := (fun k_ => (P1_ k_ ∨ w.heap.size ≤ k_))) (HO164.out) (fun k_ hk => (.inr (hk.1.1))))))) (Reps.one (show Kd.FK (Kd.slice 5 (Kd.int .u8)) _ _ l1 [.slice A1 l1.length c1] from (Kd.FK_slice_mk (Kd.V_reads' (Kd.V_mono (ok' := (fun k_ => (P1_ k_ ∨ w.heap.size ≤ k_))) (HO_1.out) (fun k_ hk => hk.1.1))).2.1 (Kd.V_F (Kd.V_mono (ok' := (fun k_ => (P1_ k_ ∨ w.heap.size ≤ k_))) (HO_1.out) (fun k_ hk => hk.1.1))))) (Reps.none _ _))))); intro v166 w17 ho18 hb hg_ hnew_; clear hg_ hnew_; (first | rw [← Ny165.out] at ho18 | (simp only [Int.reduceToNat] at ho18; rw [← Ny165.out] at ho18)); have n0_ := Aside0.mk (Kd.V_elder' (by (with_reducible repeat (first | apply Kd.V_alloc | apply Kd.V_drewN | apply Kd.V_drew)); exact HO_1.out) (Kd.N_base ho18) hb); have n1_ := Aside0.mk (Kd.N_lower ho18 (below_size (by repeat (first | (with_reducible first | exact HB.out | apply below_alloc | apply pw_below_drewN | apply below_drew1) | exact HB.out)))); have n2_ := Aside0.mk (below_step (by repeat (first | (with_reducible first | exact HB.out | apply below_alloc | apply pw_below_drewN | apply below_drew1) | exact HB.out)) hb); clear HO_1; clear HB; clear HO161; clear HO164; have HO_1 := n0_; have HO167 := n1_; have HB := n2_; clear n0_ n1_ n2_; clear hb ho18; obtain ⟨Ao19, co19, eo19⟩ := Kd.N_slice HO167.out; subst eo19) | ((with_reducible refine gate_callee (f := 83) rfl ?_); refine goesL_ (some 27) rfl rfl Try.func83 (by kernel_rfl) rfl #[.slice Ao19 y165.length co19] rfl (by (try simp only [List.map_toArray, List.map_cons, List.map_nil]); first | done | rfl | (simp only [List.length_drop, List.length_take]; rfl)) ?_; (with_reducible refine (slices_Concat_byte_byte.calls kj2 _ _ y165 t168 _ ?side1 ?side2 A8.out).mono ?_); (case side1 => repeat (first | exact (Kd.N_reads' HO167.out).2.2 | (with_reducible refine Kd.C_alloc ?_ _) | (with_reducible refine Kd.C_drewN ?_ _) | (with_reducible refine Kd.C_drew ?_))); (case side2 => exact (Kd.N_reads' HO167.out).2.1); rintro e w20 ⟨v169, rfl, ho0, hb⟩; refine ⟨_, rfl, ?_⟩; have n0_ := Aside0.mk (Kd.V_elder' (by (with_reducible repeat (first | apply Kd.V_alloc | apply Kd.V_drewN | apply Kd.V_drew)); exact HO_1.out) (Kd.R_base ho0) hb); have n1_ := Aside0.mk (Kd.N_elder' (by (with_reducible repeat (first | apply Kd.N_alloc | apply Kd.N_drewN | apply Kd.N_drew)); exact HO167.out) (Kd.R_base ho0) hb); have n2_ := Aside0.mk (Kd.R_lower (Kd.R_newM (M := fun k_ => (w.heap.size ≤ k_)) ho0 (below_size (by repeat (first | (with_reducible first | exact HB.out | apply below_alloc | apply pw_below_drewN | apply below_drew1) | exact HB.out))) (fun k_ h_ => h_)) (below_size (by repeat (first | (with_reducible first | exact HB.out | apply below_alloc | apply pw_below_drewN | apply below_drew1) | exact HB.out)))); have n3_ := Aside0.mk (below_step (by repeat (first | (with_reducible first | exact HB.out | apply below_alloc | apply pw_below_drewN | apply below_drew1) | exact HB.out)) hb); clear HO_1; clear HO167; clear HB; have HO_1 := n0_; have HO167 := n1_; have HO170 := n2_; have HB := n3_; clear n0_ n1_ n2_ n3_; (try clear hb); (try clear hb2); (try clear hk); (try clear hi); (try clear ho0); obtain ⟨Ao21, co21, eo21⟩ := Kd.R_slice HO170.out; subst eo21) | ((with_reducible refine gate_callee (f := 46) rfl ?_); refine goesL_ (some 30) rfl rfl Try.func46 (by kernel_rfl) rfl #[.slice Ao21 t168.length co21] rfl (by (try simp only [List.map_toArray, List.map_cons, List.map_nil]); first | done | rfl | (simp only [List.length_drop, List.length_take]; rfl)) ?_; (with_reducible refine (section_Sum.calls kj2 _ _ t168 t171 _ ?side1 ?side2 A9.out).mono ?_); (case side1 => repeat (first | exact (Kd.R_reads' HO170.out).2.2 | (with_reducible refine Kd.C_alloc ?_ _) | (with_reducible refine Kd.C_drewN ?_ _) | (with_reducible refine Kd.C_drew ?_))); (case side2 => exact (Kd.R_reads' HO170.out).2.1); rintro e w22 ⟨rfl, hb⟩; refine ⟨_, rfl, ?_⟩; have n0_ := Aside0.mk (Kd.V_below (by (with_reducible repeat (first | apply Kd.V_alloc | apply Kd.V_drewN | apply Kd.V_drew)); exact HO_1.out) hb); have n1_ := Aside0.mk (Kd.N_below (by (with_reducible repeat (first | apply Kd.N_alloc | apply Kd.N_drewN | apply Kd.N_drew)); exact HO167.out) hb); have n2_ := Aside0.mk (Kd.R_below (by (with_reducible repeat (first | apply Kd.R_alloc | apply Kd.R_drewN | apply Kd.R_drew)); exact HO170.out) hb); have n3_ := Aside0.mk (below_step (by repeat (first | (with_reducible first | exact HB.out | apply below_alloc | apply pw_below_drewN | apply below_drew1) | exact HB.out)) hb); clear HO_1; clear HO167; clear HO170; clear HB; have HO_1 := n0_; have HO167 := n1_; have HO170 := n2_; have HB := n3_; clear n0_ n1_ n2_ n3_; (try clear hb); (try clear hb2); (try clear hk); (try clear hi)) | ((with_reducible refine gate_callee (f := 85) rfl ?_); refine goesL_ (some 31) rfl rfl Try.func85 (by kernel_rfl) rfl #[.int .u32 t171] rfl (by (try simp only [List.map_toArray, List.map_cons, List.map_nil]); first | done | rfl | (simp only [List.length_drop, List.length_take]; rfl)) ?_; (with_reducible refine (wire_Word.calls kj2 t171 t172 _ A10.out).mono ?_); rintro e w23 ⟨v173, rfl, ho0, hb⟩; refine ⟨_, rfl, ?_⟩; have n0_ := Aside0.mk (Kd.V_elder' (by (with_reducible repeat (first | apply Kd.V_alloc | apply Kd.V_drewN | apply Kd.V_drew)); exact HO_1.out) (Kd.R_base ho0) hb); have n1_ := Aside0.mk (Kd.N_elder' (by (with_reducible repeat (first | apply Kd.N_alloc | apply Kd.N_drewN | apply Kd.N_drew)); exact HO167.out) (Kd.R_base ho0) hb); have n2_ := Aside0.mk (Kd.R_elder' (by (with_reducible repeat (first | apply Kd.R_alloc | apply Kd.R_drewN | apply Kd.R_drew)); exact HO170.out) (Kd.R_base ho0) hb); have n3_ := Aside0.mk (Kd.R_lower (Kd.R_new' (Kd.R_newM (M := fun k_ => (w.heap.size ≤ k_)) ho0 (below_size (by repeat (first | (with_reducible first | exact HB.out | apply below_alloc | apply pw_below_drewN | apply below_drew1) | exact HB.out))) (fun k_ h_ => h_)) (Kd.R_lt (by (with_reducible repeat (first | apply Kd.R_alloc | apply Kd.R_drewN | apply Kd.R_drew)); exact HO170.out))) (below_size (by repeat (first | (with_reducible first | exact HB.out | apply below_alloc | apply pw_below_drewN | apply below_drew1) | exact HB.out)))); have n4_ := Aside0.mk (below_step (by repeat (first | (with_reducible first | exact HB.out | apply below_alloc | apply pw_below_drewN | apply below_drew1) | exact HB.out)) hb); clear HO_1; clear HO167; clear HO170; clear HB; have HO_1 := n0_; have HO167 := n1_; have HO170 := n2_; have HO174 := n3_; have HB := n4_; clear n0_ n1_ n2_ n3_ n4_; (try clear hb); (try clear hb2); (try clear hk); (try clear hi); (try clear ho0); obtain ⟨Ao25, co25, eo25⟩ := Kd.R_slice HO174.out; subst eo25) | ((with_reducible refine gate_builtin (b := .append) (xs := #[.tmp 28, .tmp 31]) rfl ?_); (try (refine gate_guard (by rfl) ?_; dsimp only)); at_builtin; refine Kd.R_append_rows (Kd.int .u8) (w0 := w) w.heap.size rfl (.tmp 28) (.tmp 31) 40 5 (.int .u8 0) 1 rfl Try.underlying40 info5 rfl (by decide) (by omega) (.slice Ao21 t168.length co21) t168 t172 _ _ _ (fun k_ => (w.heap.size ≤ k_) ∧ some k_ ≠ (.slice Ao25 t172.length co25 : Value).ownBlock) (fun _ => False) rfl rfl ?aO ?aR (fun _ _ h => h) (fun _ h => h.elim) ?aF ?aB ?aS ?aL ?_; (case aR => repeat (first | exact (Kd.R_reads' HO174.out).2.2 | (with_reducible refine Kd.C_alloc ?_ _) | (with_reducible refine Kd.C_drewN ?_ _) | (with_reducible refine Kd.C_drew ?_))); (case aB => exact (by repeat (first | (with_reducible first | exact HB.out | apply below_alloc | apply pw_below_drewN | apply below_drew1) | exact HB.out))); (case aF => exact (fun k_ hk => ⟨(Nat.le_trans (below_size (by repeat (first | (with_reducible first | exact HB.out | apply below_alloc | apply pw_below_drewN | apply below_drew1) | exact HB.out))) hk), Kd.fresh' (Kd.R_lt (by (with_reducible repeat (first | apply Kd.R_alloc | apply Kd.R_drewN | apply Kd.R_drew)); exact HO174.out)) k_ hk⟩)); (case aO => exact (by (with_reducible repeat (first | apply Kd.R_alloc | apply Kd.R_drewN | apply Kd.R_drew)); exact Kd.R_mono HO170.out (fun _ hk => ⟨hk.1.1, hk.2⟩))); (case aS => exact (below_size (by repeat (first | (with_reducible first | exact HB.out | apply below_alloc | apply pw_below_drewN | apply below_drew1) | exact HB.out)))); (case aL => have := LMc11.out; omega); intro v176 w24 ho hb hg hat; rw [← Ny175.out] at ho; have n0_ := Aside0.mk (Kd.V_afterv (ok := (fun k_ => (P1_ k_ ∨ w.heap.size ≤ k_) ∧ some k_ ≠ (.slice Ao19 y165.length co19 : Value).ownBlock ∧ some k_ ≠ (.slice Ao25 t172.length co25 : Value).ownBlock)) (by (with_reducible repeat (first | apply Kd.V_alloc | apply Kd.V_drewN | apply Kd.V_drew)); exact Kd.V_mono HO_1.out (fun _ hk => ⟨⟨hk.1.1.1.1.1, ⟨hk.1.1.2, hk.2⟩⟩, hk.1.2⟩)) hg hat); have n1_ := Aside0.mk (Kd.N_afterv (ok := (fun k_ => (P1_ k_ ∨ w.heap.size ≤ k_) ∧ some k_ ≠ (.slice Ao25 t172.length co25 : Value).ownBlock)) (by (with_reducible repeat (first | apply Kd.N_alloc | apply Kd.N_drewN | apply Kd.N_drew)); exact Kd.N_mono HO167.out (fun _ hk => ⟨⟨hk.1.1, hk.2⟩, hk.1.2⟩)) hg hat); have n2_ := Aside0.mk (Kd.R_after (ok := (fun k_ => (w.heap.size ≤ k_))) (by (with_reducible repeat (first | apply Kd.R_alloc | apply Kd.R_drewN | apply Kd.R_drew)); exact Kd.R_mono HO174.out (fun _ hk => ⟨hk.1.1, hk.2⟩)) hg hat); have n3_ := Aside0.mk (hb); have n4_ := Aside0.mk (ho); clear HO_1; clear HO167; clear HO174; clear HB; clear HO170; have HO_1 := n0_; have HO167 := n1_; have HO174 := n2_; have HB := n3_; have HO177 := n4_; clear n0_ n1_ n2_ n3_ n4_; clear ho hb hg hat))
          go_ret2
          exact ⟨_, by first | rfl | (simp [errW_none, errW_some] <;> rfl) | (simp [*, errW_none, errW_some] <;> rfl), by (with_reducible repeat (first | apply Kd.R_alloc | apply Kd.R_drewN | apply Kd.R_drew)); exact Kd.R_mono HO177.out (fun _ hk => hk.1), by repeat (first | (with_reducible first | exact HB.out | apply below_alloc | apply pw_below_drewN | apply below_drew1) | exact HB.out)⟩
        · rw [if_neg c11] at H
          exact absurd H (by simp)

end Go.Proofs.Ytchaegfdcdlfaaa.X

namespace Go.Proofs.Ytchaegfdcdlfaaa.X
set_option linter.unusedVariables false
set_option linter.unusedSimpArgs false
open Go.Proofs.Ytchaegfdcdlfaaa.Y (IsGet Bytes RdB four word put Put_eq Word_eq word_bytes word_length four_word put_range put_length put_length_pos isGet_put word_four)
open Go.RowKit Go.Proofs.YtchaegfdcdlfaaaW.PrintWords Go.Proofs.YtchaegfdcdlfaaaW.PrintLast Go.Proofs.YtchaegfdcdlfaaaW.PrintMore

def headL (kind : Int) (b : List Int) : List Int := kind :: (put b.length ++ b)
def packL (kind : Int) (b : List Int) : List Int := headL kind b ++ word (crc (nats (headL kind b)))
theorem headL_byt {kind : Int} {b : List Int} (h0 : 0 ≤ kind) (h9 : kind ≤ 9) (hb : Bytes b) : Bytes (headL kind b) := fun x hx => by
  rcases List.mem_cons.1 hx with rfl | hx
  · omega
  · rcases List.mem_append.1 hx with hx | hx
    · exact put_range _ x hx
    · exact hb x hx
theorem packL_byt {kind : Int} {b : List Int} (h0 : 0 ≤ kind) (h9 : kind ≤ 9) (hb : Bytes b) : Bytes (packL kind b) := fun x hx => by
  rcases List.mem_append.1 hx with hx | hx
  · exact headL_byt h0 h9 hb x hx
  · exact word_bytes _ x hx
theorem headL_length (kind : Int) (b : List Int) : (headL kind b).length = 1 + (put b.length).length + b.length := by
  simp only [headL, List.length_cons, List.length_append]; omega
theorem packL_length (kind : Int) (b : List Int) : (packL kind b).length = 1 + (put b.length).length + b.length + 4 := by
  simp only [packL, List.length_append, headL_length, word_length]
theorem Pack_eq {kind : Int} {b : List Int} (h0 : 0 ≤ kind) (h9 : kind ≤ 9) (hb : Bytes b) (hl : b.length ≤ 100000) (k : Nat) (hk : 30 < k) : section_Pack.f k kind b = some (packL kind b, true) := by
  obtain ⟨k, rfl⟩ : ∃ k', k = k' + 1 := ⟨k - 1, by omega⟩
  have hp10 := put_length b.length (by omega)
  have hw : IntKind.u64.wrap (b.length : Int) = (b.length : Int) := Go.Proofs.Ytchaegfdcdlfaaa.Y.wraps_u64 _ (by omega) (by omega)
  have hfl : [[kind % 256], put b.length, b].flatten = headL kind b := by
    simp only [headL, List.flatten_cons, List.flatten_nil, List.append_nil]
    rw [Int.emod_eq_of_lt h0 (by omega)]
    rfl
  unfold section_Pack.f
  rw [if_neg (by omega), if_neg (by omega), decide_eq_false (by omega), section_Pack.j0, if_neg (by decide), hw, Put_eq b.length (by omega) k (by omega)]
  simp only [Option.bind_some]
  rw [Cat_eq k (by rw [hfl, headL_length]; omega) (by simp), hfl]
  simp only [Option.bind_some]
  rw [Sum2_eq k (headL_byt h0 h9 hb) (by rw [headL_length]; omega)]
  simp only [Option.bind_some]
  rw [show sumL (headL kind b) = ((crc (nats (headL kind b)) : Nat) : Int) from rfl, Word_eq _ k (by omega)]
  simp only [Option.bind_some]
  rw [if_pos (by rw [headL_length, word_length]; omega)]
  rfl
theorem open_pack {kind : Int} {b rest : List Int} (h0 : 0 ≤ kind) (h9 : kind ≤ 9) (hb : Bytes b) (hl : b.length ≤ 100000) (hr : Bytes rest) (hrl : rest.length ≤ 100000000) :
    openL (packL kind b ++ rest) = (kind, b, ((packL kind b).length : Int), 0) := by
  have hp10 := put_length b.length (by omega)
  have hH := headL_length kind b
  obtain ⟨q, hq⟩ : ∃ q, q = word (crc (nats (headL kind b))) := ⟨_, rfl⟩
  have hq4 : q.length = 4 := by rw [hq, word_length]
  have hL : packL kind b ++ rest = kind :: (put b.length ++ (b ++ (q ++ rest))) := by
    simp [packL, headL, hq]
  have hL2 : packL kind b ++ rest = headL kind b ++ (q ++ rest) := by simp [packL, hq]
  have hd : (packL kind b ++ rest).drop 1 = put b.length ++ (b ++ (q ++ rest)) := by rw [hL]; rfl
  have hby : Bytes (b ++ (q ++ rest)) := fun x hx => by
    rcases List.mem_append.1 hx with hx | hx
    · exact hb x hx
    · rcases List.mem_append.1 hx with hx | hx
      · rw [hq] at hx; exact word_bytes _ x hx
      · exact hr x hx
  have hg : getL ((packL kind b ++ rest).drop 1) = ((b.length : Int), ((put b.length).length : Int), true) := by
    rw [hd]
    refine getL_eq (fun x hx => ?_) ?_ (isGet_put b.length (by omega) _)
    · rcases List.mem_append.1 hx with hx | hx
      · exact put_range _ x hx
      · exact hby x hx
    · simp only [List.length_append, hq4]; omega
  have hlen : (packL kind b ++ rest).length = (headL kind b).length + 4 + rest.length := by rw [hL2]; simp only [List.length_append, hq4]; omega
  have hrd : rd (packL kind b ++ rest) 0 = kind := by rw [hL]; rfl
  have e1 : 1 + (put b.length).length + b.length = (headL kind b).length := by omega
  have ht : (packL kind b ++ rest).take (1 + (put b.length).length + b.length) = headL kind b := by rw [e1, hL2, List.take_left]
  have hm : ((packL kind b ++ rest).take (1 + (put b.length).length + b.length + 4)).drop (1 + (put b.length).length + b.length) = q := by
    rw [e1, List.drop_take, hL2, List.drop_left, show (headL kind b).length + 4 - (headL kind b).length = q.length by omega, List.take_left]
  have hx : (headL kind b).drop (1 + (put b.length).length) = b := by
    have : headL kind b = (kind :: put b.length) ++ b := by simp [headL]
    rw [this, show 1 + (put b.length).length = (kind :: put b.length).length by simp only [List.length_cons]; omega, List.drop_left]
  unfold openL openR
  rw [hg]
  simp only [Int.toNat_natCast]
  rw [hrd, if_neg (by rw [hlen]; omega), if_neg (by rw [hlen]; simp only [Bool.true_eq_false, false_or]; omega), ht, hm, if_neg, hx]
  · rw [packL_length]
  · rw [hq, four_word _ (crc_lt _)]
    intro h
    exact h rfl
end Go.Proofs.Ytchaegfdcdlfaaa.X

namespace Go.Proofs.Ytchaegfdcdlfaaa.X
set_option linter.unusedVariables false
set_option linter.unusedSimpArgs false
open Go.Proofs.Ytchaegfdcdlfaaa.Y (IsGet Bytes four word put put_range put_length put_length_pos isGet_put word_four four_word four_lt word_length word_bytes put_unique)

structure Rd where
  b : List Int
  bad : Bool
theorem by_app {l m : List Int} (h : Bytes l) (h2 : Bytes m) : Bytes (l ++ m) := fun x hx => (List.mem_append.1 hx).elim (h x) (h2 x)
theorem by_drop {l : List Int} (h : Bytes l) (k : Nat) : Bytes (l.drop k) := fun x hx => h x (List.mem_of_mem_drop hx)
theorem by_take {l : List Int} (h : Bytes l) (k : Nat) : Bytes (l.take k) := fun x hx => h x (List.mem_of_mem_take hx)
def skipR (s : Rd) (n : Nat) (is : Bool) : List Int × Rd :=
  if s.bad = true ∨ is = false ∨ s.b.length < n then (List.replicate n 0, ⟨s.b, true⟩) else (s.b.take n, ⟨s.b.drop n, false⟩)
theorem skipR_bad {s : Rd} {n : Nat} {is : Bool} (h : s.bad = true ∨ is = false ∨ s.b.length < n) : skipR s n is = (List.replicate n 0, ⟨s.b, true⟩) := if_pos h
theorem skipR_ok {s : Rd} {n : Nat} {is : Bool} (h0 : s.bad = false) (h1 : is = true) (h2 : n ≤ s.b.length) : skipR s n is = (s.b.take n, ⟨s.b.drop n, false⟩) :=
  if_neg (by
    rintro (h | h | h)
    · rw [h0] at h; cases h
    · rw [h1] at h; cases h
    · omega)
theorem skipR_len (s : Rd) (n : Nat) (is : Bool) : (skipR s n is).1.length = n := by
  unfold skipR
  split
  · exact List.length_replicate
  · rename_i h
    show (s.b.take n).length = n
    rw [List.length_take]
    have : ¬ s.b.length < n := fun h2 => h (.inr (.inr h2))
    omega
theorem skipR_suf (s : Rd) (n : Nat) (is : Bool) : ∃ k, (skipR s n is).2.b = s.b.drop k := by
  unfold skipR
  split
  · exact ⟨0, rfl⟩
  · exact ⟨n, rfl⟩
theorem skipR_got {s : Rd} {n : Nat} {is : Bool} (h : (skipR s n is).2.bad = false) : s.bad = false ∧ is = true ∧ n ≤ s.b.length ∧ skipR s n is = (s.b.take n, ⟨s.b.drop n, false⟩) := by
  by_cases hc : s.bad = true ∨ is = false ∨ s.b.length < n
  · rw [skipR_bad hc] at h; cases h
  · have h1 : s.bad = false := by
      cases hb : s.bad
      · rfl
      · exact absurd (.inl hb) hc
    have h2 : is = true := by
      cases hi : is
      · exact absurd (.inr (.inl hi)) hc
      · rfl
    have h3 : n ≤ s.b.length := by
      have : ¬ s.b.length < n := fun h2 => hc (.inr (.inr h2))
      omega
    exact ⟨h1, h2, h3, skipR_ok h1 h2 h3⟩
structure Good {α : Type} (f : Rd → α × Rd) (B : α → List Int) (P : α → Prop) : Prop where
  byt : ∀ x, P x → Bytes (B x)
  put : ∀ x rest, P x → Bytes rest → (B x ++ rest).length ≤ 1000000 → f ⟨B x ++ rest, false⟩ = (x, ⟨rest, false⟩)
  suf : ∀ s, ∃ k, (f s).2.b = s.b.drop k
  got : ∀ s, Bytes s.b → s.b.length ≤ 1000000 → (f s).2.bad = false → s.bad = false ∧ P (f s).1 ∧ s.b = B (f s).1 ++ (f s).2.b
theorem Good.rest {α : Type} {f : Rd → α × Rd} {B : α → List Int} {P : α → Prop} (h : Good f B P) {s : Rd} (hb : Bytes s.b) (hl : s.b.length ≤ 1000000) : Bytes (f s).2.b ∧ (f s).2.b.length ≤ 1000000 := by
  obtain ⟨k, hk⟩ := h.suf s
  rw [hk]
  exact ⟨by_drop hb k, by rw [List.length_drop]; omega⟩
def seqR {α β : Type} (f : Rd → α × Rd) (g : α → Rd → β × Rd) (s : Rd) : (α × β) × Rd := (((f s).1, (g (f s).1 (f s).2).1), (g (f s).1 (f s).2).2)
theorem Good.seq {α β : Type} {f : Rd → α × Rd} {g : α → Rd → β × Rd} {B : α → List Int} {C : α → β → List Int} {P : α → Prop} {Q : α → β → Prop} (hf : Good f B P) (hg : ∀ x, P x → Good (g x) (C x) (Q x)) (hs : ∀ x s, ∃ k, (g x s).2.b = s.b.drop k) (ht : ∀ x s, (g x s).2.bad = false → s.bad = false) :
    Good (seqR f g) (fun p => B p.1 ++ C p.1 p.2) (fun p => P p.1 ∧ Q p.1 p.2) where
  byt := fun p h => by_app (hf.byt p.1 h.1) ((hg p.1 h.1).byt p.2 h.2)
  put := fun p rest h hb hl => by
    have e : (B p.1 ++ C p.1 p.2) ++ rest = B p.1 ++ (C p.1 p.2 ++ rest) := List.append_assoc ..
    rw [e] at hl
    rw [e]
    have h1 := hf.put p.1 _ h.1 (by_app ((hg p.1 h.1).byt p.2 h.2) hb) hl
    unfold seqR
    rw [h1]
    have h2 := (hg p.1 h.1).put p.2 rest h.2 hb (by rw [List.length_append] at hl; omega)
    rw [h2]
  suf := fun s => by
    obtain ⟨k, hk⟩ := hf.suf s
    obtain ⟨m, hm⟩ := hs (f s).1 (f s).2
    exact ⟨k + m, by show (g (f s).1 (f s).2).2.b = _; rw [hm, hk, List.drop_drop]⟩
  got := fun s hb hl h => by
    have h1 : (f s).2.bad = false := ht _ _ h
    obtain ⟨h2, h3, h4⟩ := hf.got s hb hl h1
    have hr := hf.rest hb hl
    obtain ⟨h5, h6, h7⟩ := (hg _ h3).got (f s).2 hr.1 hr.2 h
    refine ⟨h2, ⟨h3, h6⟩, ?_⟩
    show s.b = (B (f s).1 ++ C (f s).1 (g (f s).1 (f s).2).1) ++ (g (f s).1 (f s).2).2.b
    rw [List.append_assoc, ← h7, ← h4]
theorem Good.iso {α β : Type} {f : Rd → α × Rd} {B : α → List Int} {P : α → Prop} (h : Good f B P) (u : α → β) (v : β → α) (hv : ∀ x, v (u x) = x) (huv : ∀ y, u (v y) = y) :
    Good (fun s => (u (f s).1, (f s).2)) (fun y => B (v y)) (fun y => P (v y)) where
  byt := fun y hy => h.byt _ hy
  put := fun y rest hy hb hl => by show (u (f ⟨B (v y) ++ rest, false⟩).1, _) = _; rw [h.put _ rest hy hb hl, huv]
  suf := fun s => h.suf s
  got := fun s hb hl hs => by
    obtain ⟨h1, h2, h3⟩ := h.got s hb hl hs
    exact ⟨h1, by show P (v (u _)); rwa [hv], by show s.b = B (v (u _)) ++ _; rwa [hv]⟩
def itR {α : Type} (f : Rd → α × Rd) : Nat → Rd → List α × Rd
  | 0, s => ([], s)
  | k + 1, s => ((itR f k s).1 ++ [(f (itR f k s).2).1], (f (itR f k s).2).2)
def allB {α : Type} (B : α → List Int) : List α → List Int
  | [] => []
  | x :: l => B x ++ allB B l
theorem allB_snoc {α : Type} (B : α → List Int) : ∀ (l : List α) (x : α), allB B (l ++ [x]) = allB B l ++ B x
  | [], x => by show B x ++ [] = [] ++ B x; rw [List.append_nil, List.nil_append]
  | a :: l, x => by show B a ++ allB B (l ++ [x]) = B a ++ allB B l ++ B x; rw [allB_snoc B l x, List.append_assoc]
theorem allB_byt {α : Type} {B : α → List Int} : ∀ {l : List α}, (∀ x ∈ l, Bytes (B x)) → Bytes (allB B l)
  | [], _ => fun x hx => by cases hx
  | a :: l, h => by_app (h a (by simp)) (allB_byt (fun x hx => h x (by simp [hx])))
theorem itR_len {α : Type} (f : Rd → α × Rd) : ∀ (k : Nat) (s : Rd), (itR f k s).1.length = k
  | 0, s => rfl
  | k + 1, s => by show ((itR f k s).1 ++ [_]).length = _; rw [List.length_append, itR_len f k s]; rfl
theorem itR_suf {α : Type} {f : Rd → α × Rd} (hs : ∀ s, ∃ k, (f s).2.b = s.b.drop k) : ∀ (k : Nat) (s : Rd), ∃ m, (itR f k s).2.b = s.b.drop m
  | 0, s => ⟨0, rfl⟩
  | k + 1, s => by
    obtain ⟨m, hm⟩ := itR_suf hs k s
    obtain ⟨n, hn⟩ := hs (itR f k s).2
    exact ⟨m + n, by show (f (itR f k s).2).2.b = _; rw [hn, hm, List.drop_drop]⟩
theorem itR_bad {α : Type} {f : Rd → α × Rd} (ht : ∀ s, (f s).2.bad = false → s.bad = false) : ∀ (k : Nat) (s : Rd), (itR f k s).2.bad = false → s.bad = false
  | 0, s, h => h
  | k + 1, s, h => itR_bad ht k s (ht _ h)
theorem itR_put {α : Type} {f : Rd → α × Rd} {B : α → List Int} {P : α → Prop} (h : Good f B P) (l : List α) (rest : List Int) (hP : ∀ x ∈ l, P x) (hb : Bytes rest) (hl : (allB B l ++ rest).length ≤ 1000000) :
    ∀ k, k ≤ l.length → itR f k ⟨allB B l ++ rest, false⟩ = (l.take k, ⟨allB B (l.drop k) ++ rest, false⟩)
  | 0, _ => rfl
  | k + 1, hk => by
    have ih := itR_put h l rest hP hb hl k (by omega)
    obtain ⟨x, m, hx⟩ : ∃ x m, l.drop k = x :: m := by
      cases hd : l.drop k with
      | nil => exact absurd (congrArg List.length hd) (by rw [List.length_drop, List.length_nil]; omega)
      | cons x m => exact ⟨x, m, rfl⟩
    have hd : l.drop (k + 1) = m := by rw [← List.drop_drop, hx]; rfl
    have ht : l.take (k + 1) = l.take k ++ [x] := by
      have := List.take_append_drop k l
      rw [List.take_add, hx]
      rfl
    have hmem : ∀ y ∈ x :: m, y ∈ l := fun y hy => by rw [← hx] at hy; exact List.mem_of_mem_drop hy
    have hlen : (allB B (l.drop k)).length ≤ (allB B l).length := by
      have : ∀ (k : Nat) (l : List α), (allB B (l.drop k)).length ≤ (allB B l).length := by
        intro k
        induction k with
        | zero => intro l; exact Nat.le_refl _
        | succ k ih =>
          intro l
          cases l with
          | nil => exact Nat.le_refl _
          | cons a l =>
            show (allB B (l.drop k)).length ≤ (B a ++ allB B l).length
            rw [List.length_append]
            exact Nat.le_trans (ih l) (Nat.le_add_left _ _)
      exact this k l
    show ((itR f k _).1 ++ [(f (itR f k _).2).1], (f (itR f k _).2).2) = _
    rw [ih, hx, hd, ht]
    have e : allB B (x :: m) ++ rest = B x ++ (allB B m ++ rest) := List.append_assoc ..
    rw [hx] at hlen
    have hb2 : Bytes (allB B m ++ rest) := by_app (allB_byt fun y hy => h.byt y (hP y (hmem y (by simp [hy])))) hb
    rw [e, h.put x _ (hP x (hmem x (by simp))) hb2 (by rw [← e]; rw [List.length_append] at hl ⊢; omega)]
theorem itR_got {α : Type} {f : Rd → α × Rd} {B : α → List Int} {P : α → Prop} (h : Good f B P) : ∀ (k : Nat) (s : Rd), Bytes s.b → s.b.length ≤ 1000000 → (itR f k s).2.bad = false →
    s.bad = false ∧ (∀ x ∈ (itR f k s).1, P x) ∧ s.b = allB B (itR f k s).1 ++ (itR f k s).2.b
  | 0, s, _, _, hs => ⟨hs, (fun x hx => by cases hx), rfl⟩
  | k + 1, s, hb, hl, hs => by
    obtain ⟨m, hm⟩ := itR_suf h.suf k s
    have hb2 : Bytes (itR f k s).2.b := by rw [hm]; exact by_drop hb m
    have hl2 : (itR f k s).2.b.length ≤ 1000000 := by rw [hm, List.length_drop]; omega
    obtain ⟨h1, h2, h3⟩ := h.got _ hb2 hl2 hs
    obtain ⟨h4, h5, h6⟩ := itR_got h k s hb hl h1
    refine ⟨h4, fun x hx => ?_, ?_⟩
    · rcases List.mem_append.1 hx with hx | hx
      · exact h5 x hx
      · rw [List.mem_singleton.1 hx]; exact h2
    · show s.b = allB B ((itR f k s).1 ++ [_]) ++ (f (itR f k s).2).2.b
      rw [allB_snoc, List.append_assoc, ← h3, ← h6]
theorem Good.it {α : Type} {f : Rd → α × Rd} {B : α → List Int} {P : α → Prop} (h : Good f B P) (k : Nat) : Good (itR f k) (allB B) (fun l => l.length = k ∧ ∀ x ∈ l, P x) where
  byt := fun l hl => allB_byt fun x hx => h.byt x (hl.2 x hx)
  put := fun l rest hP hb hl => by
    rw [itR_put h l rest hP.2 hb hl k (by omega), List.take_of_length_le (by omega), List.drop_of_length_le (by omega)]
    rfl
  suf := fun s => itR_suf h.suf k s
  got := fun s hb hl hs => by
    obtain ⟨h1, h2, h3⟩ := itR_got h k s hb hl hs
    exact ⟨h1, ⟨itR_len f k s, h2⟩, h3⟩
def takeR (n : Nat) (s : Rd) : List Int × Rd := skipR s n true
theorem takeR_good (n : Nat) : Good (takeR n) (fun l => l) (fun l => l.length = n ∧ Bytes l) where
  byt := fun l h => h.2
  put := fun l rest h hb hl => by
    unfold takeR
    rw [skipR_ok rfl rfl (by show n ≤ (l ++ rest).length; rw [List.length_append]; omega)]
    show ((l ++ rest).take n, (⟨(l ++ rest).drop n, false⟩ : Rd)) = _
    rw [← h.1, List.take_left, List.drop_left]
  suf := fun s => skipR_suf s n true
  got := fun s hb hl h => by
    obtain ⟨h1, _, h2, h3⟩ := skipR_got h
    refine ⟨h1, ⟨skipR_len s n true, ?_⟩, ?_⟩
    · show Bytes (skipR s n true).1
      rw [h3]
      exact by_take hb n
    · show s.b = (skipR s n true).1 ++ (skipR s n true).2.b
      rw [h3]
      exact (List.take_append_drop n s.b).symm
theorem skip_bad_of (s : Rd) (n : Nat) (is : Bool) (h : (skipR s n is).2.bad = false) : s.bad = false := (skipR_got h).1
def byteR (s : Rd) : Int × Rd := ((skipR s 1 true).1.getD 0 0, (skipR s 1 true).2)
theorem one_list {l : List Int} (h : l.length = 1) : l = [l.getD 0 0] := by
  match l, h with
  | [x], _ => rfl
theorem byteR_good : Good byteR (fun x => [x]) (fun x => 0 ≤ x ∧ x ≤ 255) where
  byt := fun x h y hy => by rw [List.mem_singleton.1 hy]; exact h
  put := fun x rest h hb hl => by
    unfold byteR
    rw [skipR_ok rfl rfl (by show 1 ≤ ([x] ++ rest).length; simp)]
    rfl
  suf := fun s => skipR_suf s 1 true
  got := fun s hb hl h => by
    obtain ⟨h1, ⟨h2, h3⟩, h4⟩ := (takeR_good 1).got s hb hl h
    have e := one_list h2
    refine ⟨h1, ?_, ?_⟩
    · exact h3 _ (by rw [e]; simp [byteR, takeR])
    · show s.b = [(takeR 1 s).1.getD 0 0] ++ (takeR 1 s).2.b
      rw [← e]
      exact h4
def numR (most : Int) (s : Rd) : Int × Rd :=
  let t := (skipR s (getL s.b).2.1.toNat ((getL s.b).2.2 && decide ((getL s.b).1 ≤ most))).2
  (if t.bad = true then 0 else (getL s.b).1, t)
theorem numR_good (most : Int) (h1 : most ≤ 1000) : Good (numR most) (fun n => put n.toNat) (fun n => 0 ≤ n ∧ n ≤ most) where
  byt := fun x h => put_range _
  put := fun x rest h hb hl => by
    have hg : getL (put x.toNat ++ rest) = ((x.toNat : Int), ((put x.toNat).length : Int), true) := getL_eq (by_app (put_range _) hb) (by omega) (isGet_put x.toNat (by omega) rest)
    unfold numR
    dsimp only
    rw [hg]
    dsimp only
    rw [skipR_ok rfl (by simp; omega) (by show ((put x.toNat).length : Int).toNat ≤ (put x.toNat ++ rest).length; rw [List.length_append]; omega)]
    show (_, (⟨(put x.toNat ++ rest).drop ((put x.toNat).length : Int).toNat, false⟩ : Rd)) = _
    rw [Int.toNat_natCast, List.drop_left, if_neg (by simp)]
    congr 1
    omega
  suf := fun s => skipR_suf s _ _
  got := fun s hb hl h => by
    obtain ⟨g1, g2, g3, g4⟩ := skipR_got h
    have hi := getL_is hb (by omega)
    rw [Bool.and_eq_true, decide_eq_true_eq] at g2
    rcases hi with ⟨m, hm, ⟨r, hr⟩, hg⟩ | ⟨_, hg⟩
    · have e : numR most s = ((m : Int), ⟨r, false⟩) := by
        unfold numR
        dsimp only
        rw [g4, hg]
        dsimp only
        rw [if_neg (by simp), Int.toNat_natCast, ← hr, List.drop_left]
      rw [hg] at g2
      rw [e]
      refine ⟨g1, ⟨by omega, g2.2⟩, ?_⟩
      show s.b = put (m : Int).toNat ++ r
      rw [Int.toNat_natCast, hr]
    · rw [hg] at g2
      exact absurd g2.1 (by simp)
theorem numR_range (most : Int) (hm : 0 ≤ most) (s : Rd) (hb : Bytes s.b) (hl : s.b.length ≤ 1000000) : 0 ≤ (numR most s).1 ∧ (numR most s).1 ≤ most := by
  by_cases h : (numR most s).2.bad = true
  · have e : (numR most s).1 = 0 := by
      show (if (numR most s).2.bad = true then (0 : Int) else _) = 0
      exact if_pos h
    omega
  · have h' : (numR most s).2.bad = false := by cases hq : (numR most s).2.bad <;> simp_all
    obtain ⟨g1, g2, g3, g4⟩ := skipR_got h'
    rw [Bool.and_eq_true, decide_eq_true_eq] at g2
    have e : (numR most s).1 = (getL s.b).1 := by
      show (if (numR most s).2.bad = true then (0 : Int) else _) = _
      exact if_neg h
    rw [e]
    rcases getL_is hb (by omega) with ⟨m, hm2, _, hg⟩ | ⟨_, hg⟩
    · rw [hg] at g2 ⊢
      exact ⟨by show (0 : Int) ≤ m; omega, g2.2⟩
    · rw [hg] at g2
      exact absurd g2.1 (by simp)
def stR (s : Rd) : (Int × Int) × Rd := ((stGetP (getL s.b)).1, (skipR s (stGetP (getL s.b)).2.1.toNat (stGetP (getL s.b)).2.2).2)
theorem stMay_range {n r : Int} (h : stMay n r = true) : 0 ≤ n ∧ n ≤ 1099511627776 ∧ 0 ≤ r ∧ r < 8 := by
  unfold stMay at h
  simp at h
  omega
theorem stR_good : Good stR (fun p => put (stNum p.1 p.2)) (fun p => stMay p.1 p.2 = true) where
  byt := fun x h => put_range _
  put := fun x rest h hb hl => by
    obtain ⟨n, r⟩ := x
    have hr := stMay_range h
    dsimp only at h hl ⊢
    have hlt : stNum n r < 18446744073709551616 := by unfold stNum; omega
    have hg := getL_eq (by_app (put_range (stNum n r)) hb) (by omega) (isGet_put (stNum n r) hlt rest)
    have e1 : ((stNum n r : Nat) : Int) / 8 = n := by unfold stNum; omega
    have e2 : ((stNum n r : Nat) : Int) % 8 = r := by unfold stNum; omega
    have hs : stGetP (getL (put (stNum n r) ++ rest)) = ((n, r), ((put (stNum n r)).length : Int), true) := by
      rw [hg]
      unfold stGetP
      dsimp only
      rw [e1, e2, if_pos ⟨rfl, h⟩]
    unfold stR
    dsimp only
    rw [hs]
    dsimp only
    rw [skipR_ok rfl rfl (by show ((put (stNum n r)).length : Int).toNat ≤ (put (stNum n r) ++ rest).length; rw [List.length_append]; omega)]
    show (_, (⟨(put (stNum n r) ++ rest).drop ((put (stNum n r)).length : Int).toNat, false⟩ : Rd)) = _
    rw [Int.toNat_natCast, List.drop_left]
  suf := fun s => skipR_suf s _ _
  got := fun s hb hl h => by
    obtain ⟨g1, g2, g3, g4⟩ := skipR_got h
    have hi := getL_is hb (by omega)
    have hc : (getL s.b).2.2 = true ∧ stMay ((getL s.b).1 / 8) ((getL s.b).1 % 8) = true := by
      by_cases hc : (getL s.b).2.2 = true ∧ stMay ((getL s.b).1 / 8) ((getL s.b).1 % 8) = true
      · exact hc
      · unfold stGetP at g2
        rw [if_neg hc] at g2
        cases g2
    have hs : stGetP (getL s.b) = (((getL s.b).1 / 8, (getL s.b).1 % 8), (getL s.b).2.1, true) := if_pos hc
    rcases hi with ⟨m, hm, ⟨r, hr⟩, hg⟩ | ⟨_, hg⟩
    · rw [hg] at hs hc
      dsimp only at hs hc
      have e : stR s = (((m : Int) / 8, (m : Int) % 8), ⟨r, false⟩) := by
        unfold stR
        rw [hg, hs]
        dsimp only
        rw [hg, hs] at g4
        dsimp only at g4
        rw [g4]
        dsimp only
        rw [Int.toNat_natCast, ← hr, List.drop_left]
      rw [e]
      refine ⟨g1, hc.2, ?_⟩
      show s.b = put (stNum ((m : Int) / 8) ((m : Int) % 8)) ++ r
      have : stNum ((m : Int) / 8) ((m : Int) % 8) = m := by unfold stNum; omega
      rw [this, hr]
    · rw [hg] at hc
      exact absurd hc.1 (by simp)
end Go.Proofs.Ytchaegfdcdlfaaa.X

namespace Go.Proofs.Ytchaegfdcdlfaaa.X
set_option linter.unusedVariables false
set_option linter.unusedSimpArgs false
open Go.Proofs.Ytchaegfdcdlfaaa.Y (IsGet Bytes RdB rdb_below)
open Go.RowKit Go.Proofs.YtchaegfdcdlfaaaW.PrintWords Go.Proofs.YtchaegfdcdlfaaaW.PrintLast Go.Proofs.YtchaegfdcdlfaaaW.PrintMore

theorem V_of_C {w : World} {b : Nat} {A : Option Addr} {c : Nat} {l : List Int} (h : Kd.C (Kd.int .u8) w A l.length l) (hc : l.length ≤ c) : Kd.V (Kd.int .u8) 5 w b (fun _ => True) (.slice A l.length c) l := by
  refine ⟨A, c, rfl, hc, fun W' hW => ⟨h.1, h.2.1, fun h0 => ?_⟩⟩
  obtain ⟨ad, e, hcell⟩ := h.2.2 h0
  refine ⟨ad, e, fun j p hj => ?_⟩
  obtain ⟨cs, h1, h2, h3⟩ := hcell j p hj
  refine ⟨cs, h1, h2, fun i u hi => ?_⟩
  have hx := h3 i u hi
  have hlt := World.block_lt_of_cell? w _ hx
  rw [← hx]
  have := hW _ trivial hlt
  simp only [World.cell?, this]
theorem pack_call2 (kind : Int) (A : Option Addr) (c : Nat) (l : List Int) (n : Nat) (hn : l.length = n) (w : World) (hr : RdB w A n l) (hc : n ≤ c) (h0 : 0 ≤ kind) (h9 : kind ≤ 9) (hb : Bytes l) (hl : n ≤ 100000) (p : List Int) (hp : packL kind l = p) (m : Nat) (hm : p.length = m) :
    Calls Try.prog 42 #[.int .i64 kind, .slice A n c] w fun e w' => ∃ A' c', e = .returned (.tuple #[.slice A' m c', .bool true]) ∧ m ≤ c' ∧ RdB w' A' m p ∧ Below w.heap.size w w' := by
  subst hn
  subst hm
  subst hp
  refine (section_Pack.calls 40 kind (fun _ => True) A c l _ _ w (V_of_C hr hc) (Pack_eq h0 h9 hb hl 40 (by omega))).mono ?_
  rintro e w' ⟨v, rfl, ho, hb2⟩
  obtain ⟨A', c', rfl, hc', hr'⟩ := Kd.R_reads ho
  exact ⟨A', c', rfl, hc', hr', hb2⟩
theorem open_call2 (A : Option Addr) (c : Nat) (l : List Int) (n : Nat) (hn : l.length = n) (w : World) (hr : RdB w A n l) (hc : n ≤ c) (hb : Bytes l) (hl : n ≤ 1000000000) (r : Int × List Int × Int × Int) (hq : openL l = r) :
    Calls Try.prog 44 #[.slice A n c] w fun e w' => ∃ A' c', e = .returned (.tuple #[.int .i64 r.1, .slice A' r.2.1.length c', .int .i64 r.2.2.1, .int .i64 r.2.2.2]) ∧ r.2.1.length ≤ c' ∧ RdB w' A' r.2.1.length r.2.1 ∧ Below w.heap.size w w' := by
  subst hn
  subst hq
  refine (sopen_call A c l w hr hc hb hl).mono ?_
  rintro e w' ⟨v, rfl, ho, hb2⟩
  obtain ⟨A', c', hv, hc', hr'⟩ := Kd.R_reads ho
  rw [hv]
  exact ⟨A', c', rfl, hc', hr', hb2⟩
theorem sum_call2 (A : Option Addr) (c : Nat) (l : List Int) (n : Nat) (hn : l.length = n) (w : World) (hr : RdB w A n l) (hb : Bytes l) (hl : n ≤ 1000000000) (x : Int) (hx : sumL l = x) :
    Calls Try.prog 46 #[.slice A n c] w fun e w' => e = .returned (.int .u32 x) ∧ Below w.heap.size w w' := by
  subst hn
  subst hx
  exact sum2_call A c l w hr hb (by omega)
theorem rdb_lit (w : World) (l : List Int) (hl : l.length ≤ 1000) : RdB (w.alloc (.cells ((l.map (Value.int .u8)).toArray) 5 (l.length, l.length + 1))) (some ⟨w.heap.size, 0, none⟩) l.length l := by
  refine ⟨rfl, by omega, fun h0 => ⟨_, rfl, fun j p hj => ⟨[.int .u8 p], rfl, rfl, fun i u hi => ?_⟩⟩⟩
  have hi0 : i = 0 := by
    have := (List.getElem?_eq_some_iff.1 hi).1
    simpa using this
  subst hi0
  have hu : u = .int .u8 p := by simpa using hi.symm
  subst hu
  have hw : (w.alloc (.cells ((l.map (Value.int .u8)).toArray) 5 (l.length, l.length + 1))).heap[w.heap.size]? = some (.cells ((l.map (Value.int .u8)).toArray) 5 (l.length, l.length + 1)) := heap_alloc_new w _
  show World.cell? _ ((⟨w.heap.size, 0, none⟩ : Addr).add (j * 1 + 0)) = _
  have ha : (⟨w.heap.size, 0, none⟩ : Addr).add (j * 1 + 0) = ⟨w.heap.size, j, none⟩ := by
    unfold Addr.add
    by_cases h : j = 0 <;> simp [h]
  rw [ha]
  simp only [World.cell?, hw]
  simp [hj]
def lit9 : List Int := [49, 50, 51, 52, 53, 54, 55, 56, 57]
theorem sum_lit9 : sumL lit9 = 3421780262 := by decide +kernel
theorem small_bytes {l : List Int} (h : l.all (fun x => decide (0 ≤ x ∧ x ≤ 255)) = true) : Bytes l := fun x hx => by simpa using List.all_eq_true.1 h x hx
theorem pack_ab_length : (packL 3 [97, 98]).length = 8 := by
  rw [packL_length]
  have : Go.Proofs.Ytchaegfdcdlfaaa.Y.put 2 = [2] := by unfold Go.Proofs.Ytchaegfdcdlfaaa.Y.put; rw [if_pos (by decide)]; rfl
  show 1 + (Go.Proofs.Ytchaegfdcdlfaaa.Y.put 2).length + 2 + 4 = 8
  rw [this]
  rfl

set_option maxHeartbeats 2000000 in
set_option maxRecDepth 100000 in
theorem awake2_call (w : World) : Calls Try.prog 41 #[] w fun e w' => e = .returned (.bool true) ∧ Below w.heap.size w w' := by
  have kc := fun (w : World) (C : Array Value) (n c : Nat) => Go.Lib.run_convert_bytes_const (P := Try.prog) w 40 5 C n c Try.underlying40 Try.underlying5
  go_enter Try.func41, Try.ntmps41
  go_wp2_with fail
  obtain ⟨p, hp⟩ : ∃ p, packL 3 [97, 98] = p := ⟨_, rfl⟩
  have HPL : Aside0 (p.length = 8) := ⟨by rw [← hp]; exact pack_ab_length⟩
  have HPB : Aside0 (Bytes p) := ⟨by rw [← hp]; exact packL_byt (by decide) (by decide) (small_bytes (by decide))⟩
  have HPO : Aside0 (openL p = (3, [97, 98], 8, 0)) := ⟨by
    have h := open_pack (kind := 3) (b := [97, 98]) (rest := []) (by decide) (by decide) (small_bytes (by decide)) (by decide) (small_bytes (by decide)) (by decide)
    rw [List.append_nil, hp, HPL.out] at h
    exact h⟩
  have HP := Aside0.mk hp
  clear hp
  refine (pack_call2 3 _ _ [97, 98] 2 rfl _ (rdb_lit w [97, 98] (by decide)) (Nat.le_refl _) (by decide) (by decide) (small_bytes (by decide)) (by decide) p HP.out 8 HPL.out).mono ?_
  rintro e w1 ⟨A1, c1, rfl, hc1, hr1, hb1⟩
  have HB1 : Aside0 (Below w.heap.size w w1) := ⟨below_step (below_alloc (Below.refl _ _) _) hb1⟩
  have HR1 := Aside0.mk hr1
  clear hb1 hr1
  go_wp2_with fail
  refine (open_call2 A1 c1 p 8 HPL.out _ HR1.out hc1 HPB.out (by decide) (3, [97, 98], 8, 0) HPO.out).mono ?_
  rintro e w2 ⟨A2, c2, rfl, hc2, hr2, hb2⟩
  have HB2 := Aside0.mk (below_step HB1.out hb2)
  have HR2 := Aside0.mk hr2
  clear hb2 hr2
  go_wp2_with fail
  refine (sum_call2 _ _ lit9 9 rfl _ (rdb_lit w2 lit9 (by decide)) (small_bytes (by decide)) (by decide) 3421780262 sum_lit9).mono ?_
  rintro e w3 ⟨rfl, hb3⟩
  have HB3 := Aside0.mk (below_step (below_alloc HB2.out _) hb3)
  have hcv : (convert 40 9 (.slice A2 2 c2)).run Try.prog w3 = .ok (.string (strOfNums [97, 98])) w3 := Go.Proofs.Ytchaegfdcdlfaaa.Y.conv0 (rdb_below (rdb_below HR2.out (below_alloc (Below.refl _ _) _)) hb3) c2
  have hst : (strOfNums [97, 98]).toList = [97, 98] := by decide +kernel
  clear hb3
  go_wp2_with fail
  go_ret
  exact ⟨rfl, HB3.out⟩

def rolodexlaw02_awake.f (k : Nat) : Option Bool := some true
theorem rolodexlaw02_awake.mono : ∀ k, LeO (rolodexlaw02_awake.f k) (rolodexlaw02_awake.f (k + 1)) := fun _ => LeO.refl _
theorem rolodexlaw02_awake.calls (k : Nat) (r : Bool) (w : World) (h : rolodexlaw02_awake.f k = some r) :
    Calls Try.prog 41 #[] w fun e w' => e = .returned (.bool r) ∧ Below w.heap.size w w' := by
  obtain rfl : true = r := Option.some.inj h
  exact awake2_call w
end Go.Proofs.Ytchaegfdcdlfaaa.X

namespace Go.Proofs.Ytchaegfdcdlfaaa.X
set_option linter.unusedVariables false
set_option linter.unusedSimpArgs false
open Go.Proofs.Ytchaegfdcdlfaaa.Y (IsGet Bytes RdB four word put Put_eq Word_eq word_bytes word_length four_word put_range put_length put_length_pos isGet_put word_four more more_small put_unique)
open Go.RowKit Go.Proofs.YtchaegfdcdlfaaaW.PrintWords Go.Proofs.YtchaegfdcdlfaaaW.PrintLast Go.Proofs.YtchaegfdcdlfaaaW.PrintMore

theorem byt_app {l m : List Int} (h : Bytes l) (h2 : Bytes m) : Bytes (l ++ m) := fun x hx => (List.mem_append.1 hx).elim (h x) (h2 x)
theorem byt_set {l : List Int} (h : Bytes l) (i : Nat) {c : Int} (h0 : 0 ≤ c) (h1 : c ≤ 255) : Bytes (l.set i c) := fun x hx => by
  rcases List.mem_or_eq_of_mem_set hx with hx | rfl
  · exact h x hx
  · exact ⟨h0, h1⟩
theorem open_bad {kind : Int} {b q : List Int} (h0 : 0 ≤ kind) (h9 : kind ≤ 9) (hb : Bytes b) (hl : b.length ≤ 100000) (hq : Bytes q) (hq4 : q.length = 4) (hne : (four q : Int) ≠ sumL (headL kind b)) :
    openL (headL kind b ++ q) = (0, [], 0, 3) := by
  have hp10 := put_length b.length (by omega)
  have hH := headL_length kind b
  have hd : (headL kind b ++ q).drop 1 = put b.length ++ (b ++ q) := by simp [headL]
  have hg : getL ((headL kind b ++ q).drop 1) = ((b.length : Int), ((put b.length).length : Int), true) := by
    rw [hd]
    refine getL_eq (byt_app (put_range _) (byt_app hb hq)) ?_ (isGet_put b.length (by omega) _)
    simp only [List.length_append, hq4]; omega
  have hlen : (headL kind b ++ q).length = (headL kind b).length + 4 := by rw [List.length_append, hq4]
  have hrd : rd (headL kind b ++ q) 0 = kind := rfl
  have e1 : 1 + (put b.length).length + b.length = (headL kind b).length := by omega
  have ht : (headL kind b ++ q).take (1 + (put b.length).length + b.length) = headL kind b := by rw [e1, List.take_left]
  have hm : ((headL kind b ++ q).take (1 + (put b.length).length + b.length + 4)).drop (1 + (put b.length).length + b.length) = q := by
    rw [e1, List.drop_take, List.drop_left, show (headL kind b).length + 4 - (headL kind b).length = q.length by omega, List.take_length]
  unfold openL openR
  rw [hg]
  simp only [Int.toNat_natCast]
  rw [hrd, if_neg (by rw [hlen]; omega), if_neg (by rw [hlen]; simp only [Bool.true_eq_false, false_or]; omega), ht, hm, if_pos hne]
theorem open_kind {l : List Int} (h : 10 ≤ rd l 0) : openL l = (0, [], 0, 2) := by
  unfold openL openR
  rw [if_pos (Or.inr h)]
theorem open_cut {kind : Int} {b : List Int} (h0 : 0 ≤ kind) (h9 : kind ≤ 9) (hb : Bytes b) (hl : b.length ≤ 100000) (i : Nat) (hi : i < (packL kind b).length) : openL ((packL kind b).take i) = (0, [], 0, 2) := by
  have hp10 := put_length b.length (by omega)
  rw [packL_length] at hi
  have hlen : ((packL kind b).take i).length = i := by rw [List.length_take, packL_length]; omega
  have hby : Bytes ((packL kind b).take i) := fun x hx => packL_byt h0 h9 hb x (List.mem_of_mem_take hx)
  unfold openL openR
  by_cases hi0 : i = 0
  · rw [if_pos (Or.inl (by omega))]
  · have hrd : rd ((packL kind b).take i) 0 = kind := by
      obtain ⟨j, rfl⟩ : ∃ j, i = j + 1 := ⟨i - 1, by omega⟩
      rfl
    rw [hrd, if_neg (by omega)]
    have hd : ((packL kind b).take i).drop 1 = (put b.length ++ (b ++ word (crc (nats (headL kind b))))).take (i - 1) := by
      obtain ⟨j, rfl⟩ : ∃ j, i = j + 1 := ⟨i - 1, by omega⟩
      simp [packL, headL]
    have hdb : Bytes (((packL kind b).take i).drop 1) := drop_bytes hby 1
    have hdl : (((packL kind b).take i).drop 1).length ≤ 1000000000 := by rw [List.length_drop, hlen]; omega
    by_cases hs : i - 1 < (put b.length).length
    · have hg : getL (((packL kind b).take i).drop 1) = (0, 0, false) := by
        refine getL_eq hdb hdl (Or.inr ⟨fun m hm hp => ?_, rfl⟩)
        rw [hd] at hp
        have h1 : put m <+: put b.length ++ (b ++ word (crc (nats (headL kind b)))) := hp.trans (List.take_prefix _ _)
        have h2 := put_unique h1 (List.prefix_append (put b.length) _)
        subst h2
        have := hp.length_le
        rw [List.length_take] at this
        omega
      rw [hg, if_pos (Or.inl rfl)]
    · have hg : getL (((packL kind b).take i).drop 1) = ((b.length : Int), ((put b.length).length : Int), true) := by
        refine getL_eq hdb hdl (Or.inl ⟨b.length, by omega, ?_, rfl⟩)
        rw [hd, List.take_append]
        rw [List.take_of_length_le (by omega)]
        exact List.prefix_append _ _
      rw [hg, if_pos (Or.inr (Or.inr (by rw [hlen]; show (i : Int) < 1 + ((put b.length).length : Int) + (b.length : Int) + 4; omega)))]
end Go.Proofs.Ytchaegfdcdlfaaa.X

namespace Go.Proofs.Ytchaegfdcdlfaaa.X
set_option linter.unusedVariables false
set_option linter.unusedSimpArgs false
open Go.Proofs.Ytchaegfdcdlfaaa.Y (IsGet Bytes RdB four word put put_range put_length put_length_pos isGet_put word_four word_length)
open Go.RowKit Go.Proofs.YtchaegfdcdlfaaaW.PrintWords Go.Proofs.YtchaegfdcdlfaaaW.PrintLast Go.Proofs.YtchaegfdcdlfaaaW.PrintMore

theorem open_back {l : List Int} (hb : Bytes l) (hl : l.length ≤ 100000000) : (∃ k, k ≠ 0 ∧ openL l = (0, [], 0, k)) ∨
    ∃ a b rest, 0 ≤ a ∧ a ≤ 9 ∧ Bytes b ∧ b.length ≤ 100000 ∧ l = packL a b ++ rest ∧ openL l = (a, b, ((packL a b).length : Int), 0) := by
  have hg := getL_is (drop_bytes hb 1) (by rw [List.length_drop]; omega)
  by_cases h0 : l.length = 0
  · exact Or.inl ⟨2, by decide, by unfold openL openR; rw [if_pos (Or.inl h0)]⟩
  · by_cases h10 : 10 ≤ rd l 0
    · exact Or.inl ⟨2, by decide, open_kind h10⟩
    · by_cases hc : (getL (l.drop 1)).2.2 = false ∨ 100000 < (getL (l.drop 1)).1 ∨ (l.length : Int) < 1 + (getL (l.drop 1)).2.1 + (getL (l.drop 1)).1 + 4
      · exact Or.inl ⟨2, by decide, by unfold openL openR; rw [if_neg (by omega), if_pos hc]⟩
      · rcases hg with ⟨m, hm, ⟨r, hr⟩, hge⟩ | ⟨_, hge⟩
        · obtain ⟨a, t, rfl⟩ : ∃ a t, l = a :: t := by
            cases l with
            | nil => exact absurd rfl h0
            | cons a t => exact ⟨a, t, rfl⟩
          have ha : rd (a :: t) 0 = a := rfl
          rw [ha] at h10
          have hab := hb a (by simp)
          have hr' : put m ++ r = t := hr
          subst hr'
          have hgo : getL ((a :: (put m ++ r)).drop 1) = ((m : Int), ((put m).length : Int), true) := hge
          rw [hgo] at hc
          have hc2 : m ≤ 100000 ∧ m + 4 ≤ r.length := by
            constructor
            · have := fun h => hc (Or.inr (Or.inl h))
              simp only at this
              omega
            · have := fun h => hc (Or.inr (Or.inr h))
              have hz : ((a :: (put m ++ r)).length : Int) = 1 + ((put m).length : Int) + (r.length : Int) := by
                simp only [List.length_cons, List.length_append]; omega
              rw [hz] at this
              have h2 : ¬ (1 + ((put m).length : Int) + (r.length : Int) < 1 + ((put m).length : Int) + (m : Int) + 4) := this
              omega
          have hrb : Bytes r := fun x hx => hb x (by simp [hx])
          obtain ⟨b, hbd⟩ : ∃ b, b = r.take m := ⟨_, rfl⟩
          obtain ⟨q, hq⟩ : ∃ q, q = (r.drop m).take 4 := ⟨_, rfl⟩
          obtain ⟨z, hz⟩ : ∃ z, z = (r.drop m).drop 4 := ⟨_, rfl⟩
          have hbl : b.length = m := by rw [hbd, List.length_take]; omega
          have hq4 : q.length = 4 := by rw [hq, List.length_take, List.length_drop]; omega
          have hbb : Bytes b := fun x hx => hrb x (by rw [hbd] at hx; exact List.mem_of_mem_take hx)
          have hqb : Bytes q := fun x hx => hrb x (by rw [hq] at hx; exact List.mem_of_mem_drop (List.mem_of_mem_take hx))
          have hrs : r = b ++ (q ++ z) := by rw [hbd, hq, hz, List.take_append_drop, List.take_append_drop]
          have hL : a :: (put m ++ r) = headL a b ++ (q ++ z) := by
            rw [hrs]
            unfold headL
            rw [hbl]
            simp
          have hH := headL_length a b
          rw [hbl] at hH
          by_cases he : (four q : Int) = sumL (headL a b)
          · have hw : q = word (crc (nats (headL a b))) := by
              have h1 := word_four q hq4 hqb
              unfold sumL at he
              rw [show four q = crc (nats (headL a b)) by omega] at h1
              exact h1.symm
            have hP : a :: (put m ++ r) = packL a b ++ z := by
              rw [hL]
              unfold packL
              rw [hw, List.append_assoc]
            refine Or.inr ⟨a, b, z, hab.1, by omega, hbb, by omega, hP, ?_⟩
            rw [hP]
            refine open_pack hab.1 (by omega) hbb (by omega) (fun x hx => hrb x (by rw [hrs]; simp [hx])) ?_
            have := congrArg List.length hrs
            simp only [List.length_append] at this
            simp only [List.length_cons, List.length_append] at hl
            omega
          · refine Or.inl ⟨3, by decide, ?_⟩
            have e1 : 1 + (put m).length + m = (headL a b).length := by omega
            have ht : (a :: (put m ++ r)).take (1 + (put m).length + m) = headL a b := by rw [hL, e1, List.take_left]
            have hm2 : ((a :: (put m ++ r)).take (1 + (put m).length + m + 4)).drop (1 + (put m).length + m) = q := by
              rw [hL, e1, List.drop_take, List.drop_left, show (headL a b).length + 4 - (headL a b).length = q.length by omega, List.take_left]
            unfold openL openR
            rw [if_neg (by rw [ha]; simp only [List.length_cons]; omega), hgo, if_neg hc]
            simp only [Int.toNat_natCast]
            rw [ht, hm2, if_pos he]
        · exact absurd (Or.inl (by rw [hge])) hc
end Go.Proofs.Ytchaegfdcdlfaaa.X

namespace Go.Proofs.Ytchaegfdcdlfaaa.X
set_option linter.unusedVariables false
set_option linter.unusedSimpArgs false
open Go.RowKit Go.Proofs.YtchaegfdcdlfaaaW.PrintWords Go.Proofs.YtchaegfdcdlfaaaW.PrintLast
open Go.Proofs.Ytchaegfdcdlfaaa.Y (Bytes put put_range put_length word word_four word_bytes word_length four four_word)

theorem nats_set (l : List Int) (i : Nat) (c : Int) : nats (l.set i c) = (nats l).set i c.toNat := by unfold nats; rw [List.map_set]
theorem nats_get (l : List Int) (i : Nat) : (nats l).getD i 0 = (l.getD i 0).toNat := by
  unfold nats
  simp only [List.getD_eq_getElem?_getD, List.getElem?_map]
  cases l[i]? <;> rfl
theorem getD_byte {l : List Int} (h : Bytes l) (i : Nat) : 0 ≤ l.getD i 0 ∧ l.getD i 0 ≤ 255 := by
  rw [List.getD_eq_getElem?_getD]
  cases hq : l[i]? with
  | none => simp
  | some x => exact h x (List.mem_of_getElem? hq)
theorem sum_set_ne {l : List Int} (h : Bytes l) {i : Nat} (hi : i < l.length) {c : Int} (h0 : 0 ≤ c) (h1 : c ≤ 255) (hne : l.getD i 0 ≠ c) : sumL (l.set i c) ≠ sumL l := fun e => by
  unfold sumL at e
  rw [nats_set] at e
  have e2 : crc ((nats l).set i c.toNat) = crc (nats l) := by omega
  have := crc_set (nats_lt h) (by unfold nats; rw [List.length_map]; exact hi) (by omega) e2
  rw [nats_get] at this
  have := getD_byte h i
  omega
theorem headL_set {a : Int} {l : List Int} {j : Nat} (c : Int) : headL a (l.set j c) = (headL a l).set (1 + (put l.length).length + j) c := by
  unfold headL
  rw [List.length_set, show 1 + (put l.length).length + j = ((put l.length).length + j) + 1 by omega, List.set_cons_succ, List.set_append_right _ _ (by omega)]
  congr 3
  omega
theorem one_changed {a : Int} {l : List Int} (h0 : 0 ≤ a) (h9 : a ≤ 9) (hb : Bytes l) (hl : l.length ≤ 100000) {i : Nat} (hi : i < (packL a l).length) (hp : i = 0 ∨ 1 + (put l.length).length ≤ i) {c : Int} (c0 : 0 ≤ c) (c1 : c ≤ 255) (hne : (packL a l).getD i 0 ≠ c) :
    openL ((packL a l).set i c) = (0, [], 0, 3) ∨ openL ((packL a l).set i c) = (0, [], 0, 2) ∧ i = 0 := by
  have hH := headL_length a l
  have hHB := headL_byt h0 h9 hb
  obtain ⟨q, hq⟩ : ∃ q, q = word (crc (nats (headL a l))) := ⟨_, rfl⟩
  have hqb : Bytes q := by rw [hq]; exact word_bytes _
  have hq4 : q.length = 4 := by rw [hq, word_length]
  have hqf : (four q : Int) = sumL (headL a l) := by rw [hq, four_word _ (crc_lt _)]; rfl
  have hP : packL a l = headL a l ++ q := by rw [hq]; rfl
  rw [packL_length] at hi
  rw [hP] at hne ⊢
  rcases hp with rfl | hp
  · have hs : (headL a l ++ q).set 0 c = headL c l ++ q := rfl
    rw [hs]
    have hca : a ≠ c := hne
    by_cases hc : 10 ≤ c
    · exact Or.inr ⟨open_kind hc, rfl⟩
    · refine Or.inl (open_bad c0 (by omega) hb hl hqb hq4 ?_)
      rw [hqf]
      exact fun e => sum_set_ne hHB (i := 0) (by omega) c0 c1 hne e.symm
  · by_cases hd : i < (headL a l).length
    · obtain ⟨j, rfl⟩ : ∃ j, i = 1 + (put l.length).length + j := ⟨i - (1 + (put l.length).length), by omega⟩
      have hg : (headL a l).getD (1 + (put l.length).length + j) 0 ≠ c := by
        rw [List.getD_eq_getElem?_getD, List.getElem?_append_left hd, ← List.getD_eq_getElem?_getD] at hne
        exact hne
      rw [List.set_append_left _ _ hd, ← headL_set]
      refine Or.inl (open_bad h0 h9 (byt_set hb j c0 c1) (by rw [List.length_set]; exact hl) hqb hq4 ?_)
      rw [hqf, headL_set]
      exact fun e => sum_set_ne hHB hd c0 c1 hg e.symm
    · rw [List.set_append_right _ _ (by omega)]
      refine Or.inl (open_bad h0 h9 hb hl (byt_set hqb _ c0 c1) (by rw [List.length_set]; exact hq4) ?_)
      intro e
      have hw := word_four (q.set (i - (headL a l).length) c) (by rw [List.length_set]; exact hq4) (byt_set hqb _ c0 c1)
      have e2 : four (q.set (i - (headL a l).length) c) = crc (nats (headL a l)) := by unfold sumL at e; omega
      rw [e2, ← hq] at hw
      have hx : (headL a l ++ q).getD i 0 = c := by
        rw [List.getD_eq_getElem?_getD, List.getElem?_append_right (by omega)]
        conv => lhs; rw [hw]
        rw [List.getElem?_set_self (by omega)]
        rfl
      exact hne hx

end Go.Proofs.Ytchaegfdcdlfaaa.X

namespace Go.Proofs.Ytchaegfdcdlfaaa.X
set_option linter.unusedVariables false
set_option linter.unusedSimpArgs false
open Go.Proofs.Ytchaegfdcdlfaaa.Y (IsGet Bytes four word put put_range put_length put_length_pos isGet_put word_four four_word four_lt word_length word_bytes put_unique)

structure Tame {α : Type} (f : Rd → α × Rd) : Prop where
  suf : ∀ s, ∃ k, (f s).2.b = s.b.drop k
  bad : ∀ s, (f s).2.bad = false → s.bad = false
theorem Tame.seq {α β : Type} {f : Rd → α × Rd} {g : α → Rd → β × Rd} (hf : Tame f) (hg : ∀ x, Tame (g x)) : Tame (seqR f g) where
  suf := fun s => by
    obtain ⟨k, hk⟩ := hf.suf s
    obtain ⟨m, hm⟩ := (hg (f s).1).suf (f s).2
    exact ⟨k + m, by show (g (f s).1 (f s).2).2.b = _; rw [hm, hk, List.drop_drop]⟩
  bad := fun s h => hf.bad s ((hg _).bad _ h)
theorem Tame.it {α : Type} {f : Rd → α × Rd} (hf : Tame f) (k : Nat) : Tame (itR f k) := ⟨itR_suf hf.suf k, itR_bad hf.bad k⟩
theorem Tame.iso {α β : Type} {f : Rd → α × Rd} (hf : Tame f) (u : α → β) : Tame (fun s => (u (f s).1, (f s).2)) := ⟨hf.suf, hf.bad⟩
theorem take_tame (n : Nat) : Tame (takeR n) := ⟨fun s => skipR_suf s n true, fun s h => skip_bad_of _ _ _ h⟩
theorem byte_tame : Tame byteR := ⟨fun s => skipR_suf s 1 true, fun s h => skip_bad_of _ _ _ h⟩
theorem num_tame (m : Int) : Tame (numR m) := ⟨fun s => skipR_suf s _ _, fun s h => skip_bad_of _ _ _ h⟩
theorem st_tame : Tame stR := ⟨fun s => skipR_suf s _ _, fun s h => skip_bad_of _ _ _ h⟩
theorem Good.seq' {α β : Type} {f : Rd → α × Rd} {g : α → Rd → β × Rd} {B : α → List Int} {C : α → β → List Int} {P : α → Prop} {Q : α → β → Prop} (hf : Good f B P) (hg : ∀ x, P x → Good (g x) (C x) (Q x)) (ht : ∀ x, Tame (g x)) :
    Good (seqR f g) (fun p => B p.1 ++ C p.1 p.2) (fun p => P p.1 ∧ Q p.1 p.2) := hf.seq hg (fun x s => (ht x).suf s) (fun x s h => (ht x).bad s h)
theorem Good.iso' {α β : Type} {f : Rd → α × Rd} {B : α → List Int} {P : α → Prop} (h : Good f B P) (u : α → β) (v : β → α) (hv : ∀ x, P x → v (u x) = x) (huv : ∀ y, u (v y) = y) :
    Good (fun s => (u (f s).1, (f s).2)) (fun y => B (v y)) (fun y => P (v y)) where
  byt := fun y hy => h.byt _ hy
  put := fun y rest hy hb hl => by show (u (f ⟨B (v y) ++ rest, false⟩).1, _) = _; rw [h.put _ rest hy hb hl, huv]
  suf := fun s => h.suf s
  got := fun s hb hl hs => by
    obtain ⟨h1, h2, h3⟩ := h.got s hb hl hs
    exact ⟨h1, by show P (v (u _)); rwa [hv _ h2], by show s.b = B (v (u _)) ++ _; rwa [hv _ h2]⟩
def wordR (s : Rd) : Int × Rd := ((four (skipR s 4 true).1 : Int), (skipR s 4 true).2)
theorem word_tame : Tame wordR := ⟨fun s => skipR_suf s 4 true, fun s h => skip_bad_of _ _ _ h⟩
theorem wordR_good : Good wordR (fun n => word n.toNat) (fun n => 0 ≤ n ∧ n < 4294967296) where
  byt := fun x h => word_bytes _
  put := fun x rest h hb hl => by
    have := (takeR_good 4).put (word x.toNat) rest ⟨word_length _, word_bytes _⟩ hb hl
    unfold takeR at this
    unfold wordR
    rw [this]
    dsimp only
    rw [four_word _ (by omega)]
    congr 1
    omega
  suf := fun s => skipR_suf s 4 true
  got := fun s hb hl h => by
    obtain ⟨h1, ⟨h2, h3⟩, h4⟩ := (takeR_good 4).got s hb hl h
    have hlt := four_lt _ h2 h3
    refine ⟨h1, ⟨by show (0 : Int) ≤ (four _ : Int); omega, by show (four (skipR s 4 true).1 : Int) < 4294967296; have : four (skipR s 4 true).1 < 4294967296 := hlt; omega⟩, ?_⟩
    show s.b = word ((four (skipR s 4 true).1 : Int)).toNat ++ _
    rw [Int.toNat_natCast]
    have : word (four (skipR s 4 true).1) = (skipR s 4 true).1 := word_four _ h2 h3
    rw [this]
    exact h4
def blockR (s : Rd) : Sg × Rd := (((wordR s).1, (takeR 32 (wordR s).2).1), (takeR 32 (wordR s).2).2)
def sgB (s : Sg) : List Int := word s.1.toNat ++ s.2
def ShS (s : Sg) : Prop := (0 ≤ s.1 ∧ s.1 < 4294967296) ∧ s.2.length = 32 ∧ Bytes s.2
theorem block_tame : Tame blockR := Tame.seq word_tame (fun _ => take_tame 32)
theorem blockR_good : Good blockR sgB ShS := Good.seq' wordR_good (fun _ _ => takeR_good 32) (fun _ => take_tame 32)
def entryR (s : Rd) : Ent × Rd :=
  (⟨(byteR s).1, (stR (byteR s).2).1.1, (stR (byteR s).2).1.2, (numR 200 (stR (byteR s).2).2).1, (takeR 32 (numR 200 (stR (byteR s).2).2).2).1, (itR blockR (blkM (numR 200 (stR (byteR s).2).2).1).toNat (takeR 32 (numR 200 (stR (byteR s).2).2).2).2).1⟩,
    (itR blockR (blkM (numR 200 (stR (byteR s).2).2).1).toNat (takeR 32 (numR 200 (stR (byteR s).2).2).2).2).2)
def entB (e : Ent) : List Int := [e.no] ++ (put (stNum e.n e.rep) ++ (put e.len.toNat ++ (e.d ++ allB sgB e.b)))
def ShE (e : Ent) : Prop := (0 ≤ e.no ∧ e.no ≤ 255) ∧ stMay e.n e.rep = true ∧ (0 ≤ e.len ∧ e.len ≤ 200) ∧ (e.d.length = 32 ∧ Bytes e.d) ∧ (e.b.length = (blkM e.len).toNat ∧ ∀ x ∈ e.b, ShS x)
abbrev EntT := Int × (Int × Int) × Int × List Int × List Sg
def entU (x : EntT) : Ent := ⟨x.1, x.2.1.1, x.2.1.2, x.2.2.1, x.2.2.2.1, x.2.2.2.2⟩
def entV (e : Ent) : EntT := (e.no, (e.n, e.rep), e.len, e.d, e.b)
def entryT : Rd → EntT × Rd := seqR byteR fun _ => seqR stR fun _ => seqR (numR 200) fun n => seqR (takeR 32) fun _ => itR blockR (blkM n).toNat
theorem entry_tame : Tame entryR := (Tame.seq byte_tame fun _ => Tame.seq st_tame fun _ => Tame.seq (num_tame 200) fun n => Tame.seq (take_tame 32) fun _ => Tame.it block_tame (blkM n).toNat).iso entU
theorem entryR_good : Good entryR entB ShE :=
  (Good.seq' byteR_good (fun _ _ => Good.seq' stR_good (fun _ _ => Good.seq' (numR_good 200 (by decide)) (fun n _ => Good.seq' (takeR_good 32) (fun _ _ => blockR_good.it (blkM n).toNat) (fun _ => Tame.it block_tame _)) (fun n => Tame.seq (take_tame 32) fun _ => Tame.it block_tame _)) (fun _ => Tame.seq (num_tame 200) fun n => Tame.seq (take_tame 32) fun _ => Tame.it block_tame _))
    (fun _ => Tame.seq st_tame fun _ => Tame.seq (num_tame 200) fun n => Tame.seq (take_tame 32) fun _ => Tame.it block_tame _)).iso' entU entV (fun _ _ => rfl) (fun _ => rfl)
def lineR (s : Rd) : Lin × Rd :=
  (⟨(takeR 16 s).1, (stR (takeR 16 s).2).1.1, (stR (takeR 16 s).2).1.2, (itR entryR (numR 8 (stR (takeR 16 s).2).2).1.toNat (numR 8 (stR (takeR 16 s).2).2).2).1⟩, (itR entryR (numR 8 (stR (takeR 16 s).2).2).1.toNat (numR 8 (stR (takeR 16 s).2).2).2).2)
def linB (x : Lin) : List Int := x.id ++ (put (stNum x.n x.rep) ++ (put ((x.f.length : Int)).toNat ++ allB entB x.f))
def ShL (x : Lin) : Prop := (x.id.length = 16 ∧ Bytes x.id) ∧ stMay x.n x.rep = true ∧ (0 ≤ (x.f.length : Int) ∧ (x.f.length : Int) ≤ 8) ∧ (x.f.length = ((x.f.length : Int)).toNat ∧ ∀ e ∈ x.f, ShE e)
abbrev LinT := List Int × (Int × Int) × Int × List Ent
def linU (x : LinT) : Lin := ⟨x.1, x.2.1.1, x.2.1.2, x.2.2.2⟩
def linV (x : Lin) : LinT := (x.id, (x.n, x.rep), (x.f.length : Int), x.f)
theorem line_tame : Tame lineR := (Tame.seq (take_tame 16) fun _ => Tame.seq st_tame fun _ => Tame.seq (num_tame 8) fun n => Tame.it entry_tame n.toNat).iso linU
theorem lineR_good : Good lineR linB ShL :=
  (Good.seq' (takeR_good 16) (fun _ _ => Good.seq' stR_good (fun _ _ => Good.seq' (numR_good 8 (by decide)) (fun n _ => entryR_good.it n.toNat) (fun n => Tame.it entry_tame n.toNat)) (fun _ => Tame.seq (num_tame 8) fun n => Tame.it entry_tame n.toNat))
    (fun _ => Tame.seq st_tame fun _ => Tame.seq (num_tame 8) fun n => Tame.it entry_tame n.toNat)).iso' linU linV (fun x hx => by
      obtain ⟨a, b, n, l⟩ := x
      obtain ⟨_, _, ⟨h1, h2⟩, h3, _⟩ := hx
      show (a, (b.1, b.2), (l.length : Int), l) = (a, b, n, l)
      have : (l.length : Int) = n := by
        have h3' : l.length = n.toNat := h3
        have h1' : 0 ≤ n := h1
        omega
      rw [this]) (fun _ => rfl)
def manR (s : Rd) : Man × Rd := (⟨(takeR 32 s).1, (itR lineR (numR 10 (takeR 32 s).2).1.toNat (numR 10 (takeR 32 s).2).2).1⟩, (itR lineR (numR 10 (takeR 32 s).2).1.toNat (numR 10 (takeR 32 s).2).2).2)
def manB (m : Man) : List Int := m.base ++ (put ((m.l.length : Int)).toNat ++ allB linB m.l)
def ShM (m : Man) : Prop := (m.base.length = 32 ∧ Bytes m.base) ∧ (0 ≤ (m.l.length : Int) ∧ (m.l.length : Int) ≤ 10) ∧ (m.l.length = ((m.l.length : Int)).toNat ∧ ∀ x ∈ m.l, ShL x)
abbrev ManT := List Int × Int × List Lin
def manU (x : ManT) : Man := ⟨x.1, x.2.2⟩
def manV (m : Man) : ManT := (m.base, (m.l.length : Int), m.l)
theorem man_tame : Tame manR := (Tame.seq (take_tame 32) fun _ => Tame.seq (num_tame 10) fun n => Tame.it line_tame n.toNat).iso manU
theorem manR_good : Good manR manB ShM :=
  (Good.seq' (takeR_good 32) (fun _ _ => Good.seq' (numR_good 10 (by decide)) (fun n _ => lineR_good.it n.toNat) (fun n => Tame.it line_tame n.toNat)) (fun _ => Tame.seq (num_tame 10) fun n => Tame.it line_tame n.toNat)).iso' manU manV (fun x hx => by
      obtain ⟨a, n, l⟩ := x
      obtain ⟨_, ⟨h1, h2⟩, h3, _⟩ := hx
      show (a, (l.length : Int), l) = (a, n, l)
      have : (l.length : Int) = n := by
        have h3' : l.length = n.toNat := h3
        have h1' : 0 ≤ n := h1
        omega
      rw [this]) (fun _ => rfl)
def linsM (maxNo maxVal : Int) : Option (List Int) → List Lin → Bool
  | _, [] => true
  | p, x :: l => linM maxNo maxVal x && ((match p with | none => true | some q => lessL q x.id) && linsM maxNo maxVal (some x.id) l)
def mayM (m : Man) : Bool := linsM 8 200 none m.l && decide ((m.l.length : Int) ≤ 10)
structure SgByt (s : Sg) : Prop where
  w : 0 ≤ s.1 ∧ s.1 < 4294967296
  d : s.2.length = 32 ∧ Bytes s.2
structure EntByt (e : Ent) : Prop where
  d : e.d.length = 32 ∧ Bytes e.d
  b : ∀ s ∈ e.b, ShS s
structure LinByt (x : Lin) : Prop where
  id : x.id.length = 16 ∧ Bytes x.id
  f : ∀ e ∈ x.f, EntByt e
structure ManByt (m : Man) : Prop where
  base : m.base.length = 32 ∧ Bytes m.base
  l : ∀ x ∈ m.l, LinByt x
theorem blkM_range {n : Int} (h : 0 ≤ n) (h2 : n ≤ 200) : 0 ≤ blkM n ∧ blkM n ≤ 25 := by
  unfold blkM
  split <;> omega
theorem entM_may {e : Ent} {dn dr : Int} (h : entM 8 200 e dn dr = true) : 0 ≤ e.no ∧ e.no < 8 ∧ 0 ≤ e.len ∧ e.len ≤ 200 ∧ (e.b.length : Int) = blkM e.len ∧ stMay e.n e.rep = true := by
  unfold entM at h
  simp only [Bool.and_eq_true, decide_eq_true_eq] at h
  exact ⟨h.1, h.2.1, h.2.2.1, h.2.2.2.1, h.2.2.2.2.1, h.2.2.2.2.2.1⟩
theorem entM_sh {e : Ent} {dn dr : Int} (h : entM 8 200 e dn dr = true) (hb : EntByt e) : ShE e := by
  obtain ⟨h1, h2, h3, h4, h5, h6⟩ := entM_may h
  exact ⟨⟨h1, by omega⟩, h6, ⟨h3, h4⟩, hb.d, by omega, hb.b⟩
theorem entsM_all : ∀ (l : List Ent) (p : Option Int) (dn dr : Int), entsM 8 200 dn dr p l = true → (∀ e ∈ l, entM 8 200 e dn dr = true) ∧ ((l.length : Int) ≤ 8 - (match p with | none => 0 | some q => q + 1) ∨ l = [])
  | [], p, dn, dr, _ => ⟨(fun e he => by cases he), .inr rfl⟩
  | e :: l, p, dn, dr, h => by
    rw [entsM_cons] at h
    simp only [Bool.and_eq_true] at h
    obtain ⟨h1, h2, h3⟩ := h
    obtain ⟨h4, h5⟩ := entsM_all l (some e.no) dn dr h3
    have hm := entM_may h1
    refine ⟨fun x hx => ?_, .inl ?_⟩
    · rcases List.mem_cons.1 hx with rfl | hx
      · exact h1
      · exact h4 x hx
    · have h5' : (l.length : Int) ≤ 8 - (e.no + 1) ∨ l = [] := h5
      have h6 : (l.length : Int) ≤ 8 - (e.no + 1) := by
        rcases h5' with h5' | rfl
        · exact h5'
        · show (0 : Int) ≤ _; omega
      cases p with
      | none => show ((e :: l).length : Int) ≤ 8 - 0; simp only [List.length_cons]; omega
      | some q =>
        have : q < e.no := by simpa using h2
        show ((e :: l).length : Int) ≤ 8 - (q + 1)
        simp only [List.length_cons]; omega
theorem linM_sh {x : Lin} (h : linM 8 200 x = true) (hb : LinByt x) : ShL x := by
  unfold linM at h
  simp only [Bool.and_eq_true] at h
  obtain ⟨h1, h2, _⟩ := h
  obtain ⟨h3, h4⟩ := entsM_all x.f none x.n x.rep h1
  refine ⟨hb.id, h2, ⟨by omega, ?_⟩, by omega, fun e he => entM_sh (h3 e he) (hb.f e he)⟩
  rcases h4 with h4 | h4
  · have : (x.f.length : Int) ≤ 8 - 0 := h4
    omega
  · rw [h4]; show (0 : Int) ≤ 8; omega
theorem linsM_cons (a b : Int) (p : Option (List Int)) (x : Lin) (l : List Lin) : linsM a b p (x :: l) = (linM a b x && ((match p with | none => true | some q => lessL q x.id) && linsM a b (some x.id) l)) := rfl
theorem linsM_all : ∀ (l : List Lin) (p : Option (List Int)), linsM 8 200 p l = true → ∀ x ∈ l, linM 8 200 x = true
  | [], p, _ => fun e he => by cases he
  | x :: l, p, h => by
    rw [linsM_cons] at h
    simp only [Bool.and_eq_true] at h
    obtain ⟨h1, h2, h3⟩ := h
    intro y hy
    rcases List.mem_cons.1 hy with rfl | hy
    · exact h1
    · exact linsM_all l (some x.id) h3 y hy
theorem mayM_sh {m : Man} (h : mayM m = true) (hb : ManByt m) : ShM m := by
  unfold mayM at h
  simp only [Bool.and_eq_true, decide_eq_true_eq] at h
  exact ⟨hb.base, ⟨by omega, h.2⟩, by omega, fun x hx => linM_sh (linsM_all m.l none h.1 x hx) (hb.l x hx)⟩
theorem sgB_len {s : Sg} (h : ShS s) : (sgB s).length = 36 := by
  unfold sgB
  rw [List.length_append, word_length, h.2.1]
theorem allB_le {α : Type} {B : α → List Int} {c : Nat} : ∀ {l : List α}, (∀ x ∈ l, (B x).length ≤ c) → (allB B l).length ≤ c * l.length
  | [], _ => Nat.le_refl _
  | a :: l, h => by
    show (B a ++ allB B l).length ≤ c * (l.length + 1)
    have h1 := h a (by simp)
    have h2 := allB_le (B := B) (c := c) (l := l) (fun x hx => h x (by simp [hx]))
    rw [List.length_append, Nat.mul_add]
    omega
theorem entB_len {e : Ent} (h : ShE e) : (entB e).length ≤ 953 := by
  obtain ⟨_, h2, h3, h4, h5, h6⟩ := h
  have hr := stMay_range h2
  have p1 := put_length (stNum e.n e.rep) (by unfold stNum; omega)
  have p2 := put_length e.len.toNat (by omega)
  have hb := allB_le (B := sgB) (c := 36) (l := e.b) (fun x hx => by rw [sgB_len (h6 x hx)]; exact Nat.le_refl _)
  have hk := blkM_range h3.1 h3.2
  unfold entB
  simp only [List.length_append, List.length_cons, List.length_nil]
  omega
theorem linB_len {x : Lin} (h : ShL x) : (linB x).length ≤ 7660 := by
  obtain ⟨h1, h2, h3, h4, h5⟩ := h
  have hr := stMay_range h2
  have p1 := put_length (stNum x.n x.rep) (by unfold stNum; omega)
  have p2 := put_length ((x.f.length : Int)).toNat (by omega)
  have hb := allB_le (B := entB) (c := 953) (l := x.f) (fun e he => entB_len (h5 e he))
  unfold linB
  simp only [List.length_append]
  omega
theorem manB_len {m : Man} (h : ShM m) : (manB m).length ≤ 76642 := by
  obtain ⟨h1, h2, h3, h4⟩ := h
  have p2 := put_length ((m.l.length : Int)).toNat (by omega)
  have hb := allB_le (B := linB) (c := 7660) (l := m.l) (fun e he => linB_len (h4 e he))
  unfold manB
  simp only [List.length_append]
  omega
def putM (m : Man) : List Int × Bool := if mayM m = true then (packL 1 (manB m), true) else ([], false)
def zMan : Man := ⟨List.replicate 32 0, []⟩
def getM (b : List Int) : Man × Int :=
  if (openL b).2.2.2 = 0 then
    if (manR ⟨(openL b).2.1, !((openL b).1 == 1) || !((openL b).2.2.1 == (b.length : Int))⟩).2.bad = true ∨ 0 < (manR ⟨(openL b).2.1, !((openL b).1 == 1) || !((openL b).2.2.1 == (b.length : Int))⟩).2.b.length then (zMan, 2)
    else if mayM (manR ⟨(openL b).2.1, !((openL b).1 == 1) || !((openL b).2.2.1 == (b.length : Int))⟩).1 = true then ((manR ⟨(openL b).2.1, !((openL b).1 == 1) || !((openL b).2.2.1 == (b.length : Int))⟩).1, 0)
    else (zMan, 1)
  else (zMan, (openL b).2.2.2)
theorem getM_err {b : List Int} (h : (openL b).2.2.2 ≠ 0) : getM b = (zMan, (openL b).2.2.2) := if_neg h
theorem getM_put {m : Man} (h : mayM m = true) (hb : ManByt m) : getM (packL 1 (manB m)) = (m, 0) := by
  have hs := mayM_sh h hb
  have hl := manB_len hs
  have hy := manR_good.byt m hs
  have ho := open_pack (kind := 1) (b := manB m) (rest := []) (by decide) (by decide) hy (by omega) (fun x hx => by cases hx) (by simp)
  rw [List.append_nil] at ho
  unfold getM
  rw [ho]
  dsimp only
  have e : (!((1 : Int) == 1) || !(((packL 1 (manB m)).length : Int) == ((packL 1 (manB m)).length : Int))) = false := by simp
  rw [if_pos rfl, e]
  have hp := manR_good.put m [] hs (fun x hx => by cases hx) (by rw [List.append_nil]; omega)
  rw [List.append_nil] at hp
  rw [hp]
  dsimp only
  rw [if_neg (by simp), if_pos h]
theorem packL_bound {k : Int} {b : List Int} (h : b.length ≤ 100000) : (packL k b).length ≤ 100015 := by
  have := put_length b.length (by omega)
  unfold packL headL
  rw [List.length_append, List.length_cons, List.length_append, word_length]
  omega
theorem getM_got {b : List Int} (hb : Bytes b) (hl : b.length ≤ 100000000) (h : (getM b).2 = 0) : mayM (getM b).1 = true ∧ ShM (getM b).1 ∧ packL 1 (manB (getM b).1) = b := by
  rcases open_back hb hl with ⟨k, hk, ho⟩ | ⟨a, body, rest, h0, h9, hbb, hbl, he, ho⟩
  · rw [getM_err (by rw [ho]; exact hk), ho] at h
    exact absurd h hk
  · by_cases hc : (manR ⟨(openL b).2.1, !((openL b).1 == 1) || !((openL b).2.2.1 == (b.length : Int))⟩).2.bad = true ∨ 0 < (manR ⟨(openL b).2.1, !((openL b).1 == 1) || !((openL b).2.2.1 == (b.length : Int))⟩).2.b.length
    · have : getM b = (zMan, 2) := by
        unfold getM
        rw [if_pos (by rw [ho]), if_pos hc]
      rw [this] at h
      exact absurd h (by decide)
    · by_cases hm : mayM (manR ⟨(openL b).2.1, !((openL b).1 == 1) || !((openL b).2.2.1 == (b.length : Int))⟩).1 = true
      · have hg : getM b = ((manR ⟨(openL b).2.1, !((openL b).1 == 1) || !((openL b).2.2.1 == (b.length : Int))⟩).1, 0) := by
          unfold getM
          rw [if_pos (by rw [ho]), if_neg hc, if_pos hm]
        rw [hg]
        dsimp only
        rw [ho] at hc hm ⊢
        dsimp only at hc hm ⊢
        generalize hst : (!(a == 1) || !(((packL a body).length : Int) == (b.length : Int))) = st at hc hm ⊢
        have hbad : (manR ⟨body, st⟩).2.bad = false := by
          cases hq : (manR ⟨body, st⟩).2.bad
          · rfl
          · exact absurd (.inl hq) hc
        have hend : (manR ⟨body, st⟩).2.b = [] := by
          have : ¬ 0 < (manR ⟨body, st⟩).2.b.length := fun h => hc (.inr h)
          exact List.length_eq_zero_iff.1 (by omega)
        obtain ⟨g1, g2, g3⟩ := manR_good.got ⟨body, st⟩ hbb (by show body.length ≤ 1000000; omega) hbad
        have g1' : st = false := g1
        have g3' : body = manB (manR ⟨body, st⟩).1 ++ (manR ⟨body, st⟩).2.b := g3
        rw [hend, List.append_nil] at g3'
        refine ⟨hm, g2, ?_⟩
        rw [← g3']
        rw [g1'] at hst
        simp only [Bool.or_eq_false_iff, Bool.not_eq_false', beq_iff_eq] at hst
        obtain ⟨rfl, hlen⟩ := hst
        have hr : rest = [] := by
          have := congrArg List.length he
          rw [List.length_append] at this
          exact List.length_eq_zero_iff.1 (by omega)
        rw [he, hr, List.append_nil]
      · have : getM b = (zMan, 1) := by
          unfold getM
          rw [if_pos (by rw [ho]), if_neg hc, if_neg hm]
        rw [this] at h
        exact absurd h (by decide)
theorem getM_zero {b : List Int} (h : (getM b).2 ≠ 0) : (getM b).1 = zMan := by
  unfold getM at h ⊢
  split
  · rename_i h1
    rw [if_pos h1] at h
    split
    · rfl
    · rename_i h2
      rw [if_neg h2] at h
      split
      · rename_i h3
        rw [if_pos h3] at h
        exact absurd rfl h
      · rfl
  · rfl
theorem putM_inj {m n : Man} (h : mayM m = true) (hb : ManByt m) (h2 : mayM n = true) (hb2 : ManByt n) (he : packL 1 (manB m) = packL 1 (manB n)) : m = n := by
  have h3 := getM_put h hb
  rw [he, getM_put h2 hb2] at h3
  exact (congrArg Prod.fst h3).symm
theorem manB_len1 {m : Man} (h : ShM m) : 33 ≤ (manB m).length := by
  have p2 := put_length_pos ((m.l.length : Int)).toNat
  unfold manB
  simp only [List.length_append]
  have := h.1.1
  omega
theorem packM_len {m : Man} (h : mayM m = true) (hb : ManByt m) : 39 ≤ (packL 1 (manB m)).length ∧ (packL 1 (manB m)).length ≤ 100015 := by
  have hs := mayM_sh h hb
  have hl := manB_len hs
  refine ⟨?_, packL_bound (by omega)⟩
  have h1 := manB_len1 hs
  have := put_length_pos (manB m).length
  unfold packL headL
  rw [List.length_append, List.length_cons, List.length_append, word_length]
  omega
theorem put_len3 {n : Nat} (h : n < 2097152) : (put n).length ≤ 3 := by
  by_cases h1 : n < 128
  · unfold put; rw [if_pos h1]; simp
  · unfold put
    rw [if_neg h1]
    unfold Go.Proofs.Ytchaegfdcdlfaaa.Y.more
    split
    · simp
    · unfold Go.Proofs.Ytchaegfdcdlfaaa.Y.more
      rw [if_pos (by omega)]
      simp
theorem chg_more {m : Man} (h : mayM m = true) (hb : ManByt m) {c : Int} (h0 : 0 ≤ c) (h1 : c ≤ 255) : getM (packL 1 (manB m) ++ [c]) = (zMan, 2) := by
  have hs := mayM_sh h hb
  have hl := manB_len hs
  have hy := manR_good.byt m hs
  have ho := open_pack (kind := 1) (b := manB m) (rest := [c]) (by decide) (by decide) hy (by omega) (fun x hx => by rw [List.mem_singleton.1 hx]; exact ⟨h0, h1⟩) (by simp)
  unfold getM
  rw [ho]
  dsimp only
  have e : (!((1 : Int) == 1) || !(((packL 1 (manB m)).length : Int) == ((packL 1 (manB m) ++ [c]).length : Int))) = true := by
    rw [List.length_append]
    simp
    omega
  rw [if_pos rfl, e]
  have hbad : (manR ⟨manB m, true⟩).2.bad = true := by
    cases hq : (manR ⟨manB m, true⟩).2.bad
    · exact absurd (man_tame.bad _ hq) (by simp)
    · rfl
  rw [if_pos (.inl hbad)]
theorem chg_less {m : Man} (h : mayM m = true) (hb : ManByt m) {i : Nat} (hi : i < (packL 1 (manB m)).length) : getM ((packL 1 (manB m)).take i) = (zMan, 2) := by
  have hs := mayM_sh h hb
  have hl := manB_len hs
  have ho := open_cut (kind := 1) (b := manB m) (by decide) (by decide) (manR_good.byt m hs) (by omega) i hi
  rw [getM_err (by rw [ho]; decide), ho]
theorem chg_set {m : Man} (h : mayM m = true) (hb : ManByt m) {i : Nat} (hi : i < (packL 1 (manB m)).length) (hp : i = 0 ∨ 4 ≤ i) {c : Int} (c0 : 0 ≤ c) (c1 : c ≤ 255) (hne : (packL 1 (manB m)).getD i 0 ≠ c) :
    getM ((packL 1 (manB m)).set i c) = (zMan, 3) ∨ getM ((packL 1 (manB m)).set i c) = (zMan, 2) ∧ i = 0 := by
  have hs := mayM_sh h hb
  have hl := manB_len hs
  have h3 := put_len3 (n := (manB m).length) (by omega)
  rcases one_changed (a := 1) (l := manB m) (by decide) (by decide) (manR_good.byt m hs) (by omega) hi (by omega) c0 c1 hne with ho | ⟨ho, hz⟩
  · left; rw [getM_err (by rw [ho]; decide), ho]
  · right; exact ⟨by rw [getM_err (by rw [ho]; decide), ho], hz⟩
end Go.Proofs.Ytchaegfdcdlfaaa.X

namespace Go.Proofs.Ytchaegfdcdlfaaa.X
set_option linter.unusedVariables false
set_option linter.unusedSimpArgs false
open Go.RowKit Go.Proofs.YtchaegfdcdlfaaaW.PrintWords Go.Proofs.YtchaegfdcdlfaaaW.PrintLast Go.Proofs.YtchaegfdcdlfaaaW.PrintMore
attribute [local go_sem] max2_int min2_int max_two min_two max_three min_three max_four min_four
def prevId (l : List Lin) (i : Nat) : Option (List Int) := if i = 0 then none else some (l.getD (i - 1) zLin).id
theorem lins_step (l : List Lin) (i : Nat) (hi : i < l.length) : linsM 8 200 (prevId l i) (l.drop i) = (linM 8 200 (l.getD i zLin) && ((match prevId l i with | none => true | some q => lessL q (l.getD i zLin).id) && linsM 8 200 (prevId l (i + 1)) (l.drop (i + 1)))) := by
  have e : l.drop i = l.getD i zLin :: l.drop (i + 1) := by
    rw [List.drop_eq_getElem_cons hi, List.getD_eq_getElem?_getD, List.getElem?_eq_getElem hi, Option.getD_some]
  rw [e, linsM_cons]
  congr 3
abbrev MyS (w0 : World) (bt : Nat) (cs ms : Array Value) (pa : Addr) (pid : List Int) (W : World) : Prop :=
  W.heap[bt]? = some (.cells cs 147 (0, 0)) ∧ W.heap[w0.heap.size]? = some (.cells ms 71 (0, 0)) ∧ At W pa (cells8 pid) ∧ Below w0.heap.size w0 W
theorem MyS.step {w0 : World} {bt : Nat} {cs ms : Array Value} {pa : Addr} {pid : List Int} {W W1 : World} (h : MyS w0 bt cs ms pa pid W) (hb : Below W.heap.size W W1) : MyS w0 bt cs ms pa pid W1 :=
  ⟨blk_below h.1 hb, blk_below h.2.1 hb, h.2.2.1.below hb, below_step h.2.2.2 hb⟩
theorem idInfo {l : List Int} (h : l.length = 16) : (Try.prog.info? 94).map (·.size) = some (cells8 l).size := by rw [cells8_size, h]; exact infoId16
theorem At.drew {W : World} {a : Addr} {cs : Array Value} (h : At W a cs) : At W.drew a cs := h
theorem At.alloc {W : World} {a : Addr} {cs : Array Value} (h : At W a cs) (o : Obj) : At (W.alloc o) a cs := h.below (below_alloc (Below.refl _ _) o)
theorem lin_id {W : World} {a : Addr} {x : Lin} {A : Option Addr} {c : Nat} (h : ∀ j v, (linC x A c)[j]? = some v → W.cell? (a.add j) = some v) : At W a (cells8 x.id) := At.head (m := nums .u8 x.id) (r := .int .i64 x.n :: .int .i64 x.rep :: [.slice A x.f.length c]) (fun j v hv => h j v (by simpa [linC] using hv))
set_option maxHeartbeats 4000000 in
set_option maxRecDepth 100000 in
theorem may_call (m : Man) (A : Option Addr) (c : Nat) (w : World) (hm : m.base.length = 32) (hc : m.l.length ≤ c) (hC : Kd.C linK w A m.l.length m.l) :
    Calls Try.prog 65 #[.agg (manC m A c).toArray] w fun e w' => e = .returned (.bool (mayM m)) ∧ Below w.heap.size w w' := by
  have HC := Aside0.mk hC
  have HLEN := Aside0.mk hC.2.1
  have HCC := Aside0.mk hc
  have k32 := manC_32 hm A c
  obtain ⟨ms, hms⟩ : ∃ ms, (manC m A c).toArray = ms := ⟨_, rfl⟩
  rw [hms] at k32 ⊢
  have HBK := Aside0.mk (blk_new w (.cells ms 71))
  have K32 := Aside0.mk k32
  have g32 := (blk_cell HBK.out 32).trans k32
  clear hm hc hC hms k32
  go_enter Try.func65, Try.ntmps65
  go_wp2_with fail
  clear g32
  go_loopg [8] m.l.length (fun kq v8 W => ∃ i : Nat, v8 = .int .i64 i ∧ Aside0 (kq + i = m.l.length) ∧ Aside0 (linsM 8 200 (prevId m.l i) (m.l.drop i) = linsM 8 200 none m.l) ∧ Aside0 (W.heap[w.heap.size]? = some (.cells ms 71 (0, 0))) ∧ Aside0 (Below w.heap.size w W))
  case atStart => exact ⟨0, rfl, ⟨rfl⟩, ⟨rfl⟩, HBK, ⟨below_alloc (Below.refl _ _) _⟩⟩
  case round =>
    obtain ⟨i, rfl, HK, HE, HBW, HB⟩ := hrel
    by_cases hi : i < m.l.length
    · obtain ⟨e, he⟩ : ∃ e, e = m.l.getD i zLin := ⟨_, rfl⟩
      obtain ⟨ad, B, cb, hA, hd, hbc, hCb, hcell0⟩ := lin_at HC.out hi e he.symm
      have hcell : ∀ j v, (linC e B cb)[j]? = some v → wr.cell? ((ad.add (i * 19)).add j) = some v := fun j v hv => (HB.out.cell (World.block_lt_of_cell? w _ (hcell0 j v hv))).trans (hcell0 j v hv)
      have HSTEP := Aside0.mk (lins_step m.l i hi)
      rw [← he] at HSTEP
      subst hA
      have e1 : decide ((i : Int) < (m.l.length : Int)) = true := by simpa using hi
      have e2 : ((i : Int) < (m.l.length : Int)) = True := by simpa using hi
      have e3 : (0 ≤ (i : Int)) = True := by simp
      have e4 : IntKind.i64.wrap ((i : Int) + 1) = ((i + 1 : Nat) : Int) := by have := HLEN.out; simp [IntKind.wrap, IntKind.bits, IntKind.signed]; omega
      have HI := Aside0.mk hi
      obtain ⟨cs, hcs⟩ : ∃ cs, (linC e B cb).toArray = cs := ⟨_, rfl⟩
      have hsz : cs.size = 19 := by rw [← hcs, List.size_toArray, linC_len hd]
      have hone : cs.all (·.oneCell') = true := by rw [← hcs]; exact linC_one e B cb
      have HCELL : Aside0 (∀ j v, cs[j]? = some v → wr.cell? ((ad.add (i * 19)).add j) = some v) := ⟨fun j v h => hcell j v (by rw [← hcs] at h; simpa using h)⟩
      have HINFO : Aside0 ((Try.prog.info? 147).map (·.size) = some cs.size) := ⟨by rw [hsz]; exact infoLin⟩
      have HCALL : Aside0 (∀ W : World, Below w.heap.size w W → Calls Try.prog 106 #[.agg cs] W fun e' w' => e' = .returned (.bool (linM 8 200 e)) ∧ Below W.heap.size W w') := ⟨fun W hW => by rw [← hcs]; exact line_call e B cb W hd hbc (Kd.C_below hCb hW)⟩
      have HID : Aside0 (∀ W : World, W.heap[wr.heap.size]? = some (.cells cs 147 (0, 0)) → At W ⟨wr.heap.size, 0, none⟩ (cells8 e.id)) := ⟨fun W h => At.head (m := nums .u8 e.id) (r := .int .i64 e.n :: .int .i64 e.rep :: [.slice B e.f.length cb]) (by have := At.blk h; rw [← hcs] at this; exact this)⟩
      have HD16 := Aside0.mk hd
      have hst := store_new wr #[.int .u8 0, .int .u8 0, .int .u8 0, .int .u8 0, .int .u8 0, .int .u8 0, .int .u8 0, .int .u8 0, .int .u8 0, .int .u8 0, .int .u8 0, .int .u8 0, .int .u8 0, .int .u8 0, .int .u8 0, .int .u8 0, .int .i64 0, .int .i64 0, .slice none 0 0] cs 147 (by rw [hsz]; rfl) hone
      have HNEW := Aside0.mk (blk_new wr (.cells cs 147))
      have HOLD := Aside0.mk (blk_alloc HBW.out (.cells cs 147))
      have HBN := Aside0.mk (below_alloc HB.out (.cells cs 147))
      have hl32 : ∀ W : World, W.heap[w.heap.size]? = some (.cells ms 71 (0, 0)) → W.cell? ⟨w.heap.size, 32, none⟩ = some (.slice (some ad) m.l.length c) := fun W h => (blk_cell h 32).trans K32.out
      clear hi hcs hd hbc hCb hcell hcell0 he hone
      cases hline : linM 8 200 e
      · have HRES : Aside0 (mayM m = false) := ⟨by
          unfold mayM
          rw [← HE.out, HSTEP.out, hline]; rfl⟩
        have HLINE := Aside0.mk hline
        clear hline
        go_wp2_with (first
          | ((with_reducible refine gate_dst (N := 12) rfl ?_); refine wpList_load_cells rfl 147 (.tmp 11) rfl (ad.add (i * 19)) rfl cs _ HCELL.out Try.underlying147 rfl HINFO.out ?_)
          | fail)
        refine wp_region_held_drew (S := (fun W => MyS w wr.heap.size cs ms ⟨wr.heap.size, 0, none⟩ e.id W)) (by kernel_rfl) (⟨HNEW.out, HOLD.out, (HID.out _ HNEW.out).drew, below_drew HBN.out⟩) (fun hHeld => ?_)
        refine tq (i := 0) (v := ?_) ?hy ?_
        case hy => (intro W_ hW_; refine Eq.trans (exec_load_row 147 (.tmp 4) ?_ wr.heap.size ?_ 147 cs (0, 0) _ hW_.1 Try.underlying147 rfl HINFO.out) ?_ <;> (first | with_reducible rfl | rfl))
        try simp only [Act.put, List.setIfInBounds_toArray, List.set_cons_zero, List.set_cons_succ]
        refine wpAnyH_ready (rs := [1]) (by kernel_rfl) (by simp) ?_
        refine AllReadyH.cons (by simp only [List.getElem?_toArray, List.getElem?_cons_succ, List.getElem?_cons_zero]; rfl) (fun K hK => ?_) AllReadyH.nil
        rw [if_pos (by rfl)]
        go_wp2_with fail
        refine (HCALL.out _ hHeld.2.2.2).mono ?_
        rintro e_ w1 ⟨rfl, hb1⟩; rw [HLINE.out]
        refine hK.out _ _ (MyS.step hHeld hb1) (fun hHeld2 => ?_)
        clear hK K hHeld
        have hHeld := hHeld2
        clear hHeld2
        try simp only [Act.put, List.setIfInBounds_toArray, List.set_cons_zero, List.set_cons_succ]
        refine tq (i := 2) (v := ?_) ?hy ?_
        case hy => (intro W_ hW_; go_simp; first | done | with_reducible rfl)
        try simp only [Act.put, List.setIfInBounds_toArray, List.set_cons_zero, List.set_cons_succ]
        refine tq (i := 3) (v := ?_) ?hy ?_
        case hy => (intro W_ hW_; go_simp; first | done | with_reducible rfl)
        try simp only [Act.put, List.setIfInBounds_toArray, List.set_cons_zero, List.set_cons_succ]
        refine tg (i := 4) ?_
        try simp only [Act.put, List.setIfInBounds_toArray, List.set_cons_zero, List.set_cons_succ]
        refine tg (i := 5) ?_
        try simp only [Act.put, List.setIfInBounds_toArray, List.set_cons_zero, List.set_cons_succ]
        refine tg (i := 6) ?_
        try simp only [Act.put, List.setIfInBounds_toArray, List.set_cons_zero, List.set_cons_succ]
        refine tg (i := 7) ?_
        try simp only [Act.put, List.setIfInBounds_toArray, List.set_cons_zero, List.set_cons_succ]
        refine tg (i := 8) ?_
        try simp only [Act.put, List.setIfInBounds_toArray, List.set_cons_zero, List.set_cons_succ]
        refine tg (i := 9) ?_
        try simp only [Act.put, List.setIfInBounds_toArray, List.set_cons_zero, List.set_cons_succ]
        refine tg (i := 10) ?_
        try simp only [Act.put, List.setIfInBounds_toArray, List.set_cons_zero, List.set_cons_succ]
        refine tg (i := 11) ?_
        try simp only [Act.put, List.setIfInBounds_toArray, List.set_cons_zero, List.set_cons_succ]
        refine tg (i := 12) ?_
        try simp only [Act.put, List.setIfInBounds_toArray, List.set_cons_zero, List.set_cons_succ]
        refine tg (i := 13) ?_
        try simp only [Act.put, List.setIfInBounds_toArray, List.set_cons_zero, List.set_cons_succ]
        refine tg (i := 14) ?_
        try simp only [Act.put, List.setIfInBounds_toArray, List.set_cons_zero, List.set_cons_succ]
        refine tg (i := 15) ?_
        try simp only [Act.put, List.setIfInBounds_toArray, List.set_cons_zero, List.set_cons_succ]
        refine tg (i := 16) ?_
        try simp only [Act.put, List.setIfInBounds_toArray, List.set_cons_zero, List.set_cons_succ]
        refine tg (i := 17) ?_
        try simp only [Act.put, List.setIfInBounds_toArray, List.set_cons_zero, List.set_cons_succ]
        refine tg (i := 18) ?_
        try simp only [Act.put, List.setIfInBounds_toArray, List.set_cons_zero, List.set_cons_succ]
        refine tq (i := 19) (v := ?_) ?hy ?_
        case hy => (intro W_ hW_; go_simp; first | done | with_reducible rfl)
        try simp only [Act.put, List.setIfInBounds_toArray, List.set_cons_zero, List.set_cons_succ]
        refine wpAnyH_done (by kernel_rfl) ?_ _
        have HH := Aside0.mk hHeld
        clear hHeld
        go_wp2_with fail
        go_ret
        exact ⟨by rw [HRES.out]; rfl, HH.out.2.2.2⟩
      · have HLINE := Aside0.mk hline
        clear hline
        by_cases hi0 : i = 0
        · have HNEXT : Aside0 (linsM 8 200 (prevId m.l (i + 1)) (m.l.drop (i + 1)) = linsM 8 200 none m.l) := ⟨by
            rw [← HE.out, HSTEP.out, HLINE.out, show prevId m.l i = none from if_pos hi0]; rfl⟩
          have c0 : decide ((i : Int) > 0) = false := by simp; omega
          have c1 : decide (i > 0) = false := by simp; omega
          have c2 : decide (0 < i) = false := by simp; omega
          clear hi0
          go_wp2_with (first
            | ((with_reducible refine gate_dst (N := 12) rfl ?_); refine wpList_load_cells rfl 147 (.tmp 11) rfl (ad.add (i * 19)) rfl cs _ HCELL.out Try.underlying147 rfl HINFO.out ?_)
            | fail)
          refine wp_region_held_drew (S := (fun W => MyS w wr.heap.size cs ms ⟨wr.heap.size, 0, none⟩ e.id W)) (by kernel_rfl) (⟨HNEW.out, HOLD.out, (HID.out _ HNEW.out).drew, below_drew HBN.out⟩) (fun hHeld => ?_)
          refine tq (i := 0) (v := ?_) ?hy ?_
          case hy => (intro W_ hW_; refine Eq.trans (exec_load_row 147 (.tmp 4) ?_ wr.heap.size ?_ 147 cs (0, 0) _ hW_.1 Try.underlying147 rfl HINFO.out) ?_ <;> (first | with_reducible rfl | rfl))
          try simp only [Act.put, List.setIfInBounds_toArray, List.set_cons_zero, List.set_cons_succ]
          refine wpAnyH_ready (rs := [1]) (by kernel_rfl) (by simp) ?_
          refine AllReadyH.cons (by simp only [List.getElem?_toArray, List.getElem?_cons_succ, List.getElem?_cons_zero]; rfl) (fun K hK => ?_) AllReadyH.nil
          rw [if_pos (by rfl)]
          go_wp2_with fail
          refine (HCALL.out _ hHeld.2.2.2).mono ?_
          rintro e_ w1 ⟨rfl, hb1⟩; rw [HLINE.out]
          refine hK.out _ _ (MyS.step hHeld hb1) (fun hHeld2 => ?_)
          clear hK K hHeld
          have hHeld := hHeld2
          clear hHeld2
          try simp only [Act.put, List.setIfInBounds_toArray, List.set_cons_zero, List.set_cons_succ]
          refine tq (i := 2) (v := ?_) ?hy ?_
          case hy => (intro W_ hW_; go_simp; first | done | with_reducible rfl)
          try simp only [Act.put, List.setIfInBounds_toArray, List.set_cons_zero, List.set_cons_succ]
          refine tq (i := 3) (v := ?_) ?hy ?_
          case hy => (intro W_ hW_; go_simp; first | done | with_reducible rfl)
          try simp only [Act.put, List.setIfInBounds_toArray, List.set_cons_zero, List.set_cons_succ]
          refine tq (i := 4) (v := ?_) ?hy ?_
          case hy => (intro W_ hW_; go_simp; first | done | with_reducible rfl)
          try simp only [Act.put, List.setIfInBounds_toArray, List.set_cons_zero, List.set_cons_succ]
          refine tq (i := 5) (v := ?_) ?hy ?_
          case hy => (intro W_ hW_; go_simp; first | done | with_reducible rfl)
          try simp only [Act.put, List.setIfInBounds_toArray, List.set_cons_zero, List.set_cons_succ]
          refine tq (i := 6) (v := ?_) ?hy ?_
          case hy => (intro W_ hW_; go_simp; first | done | with_reducible rfl)
          try simp only [Act.put, List.setIfInBounds_toArray, List.set_cons_zero, List.set_cons_succ]
          refine tg (i := 7) ?_
          try simp only [Act.put, List.setIfInBounds_toArray, List.set_cons_zero, List.set_cons_succ]
          refine tg (i := 8) ?_
          try simp only [Act.put, List.setIfInBounds_toArray, List.set_cons_zero, List.set_cons_succ]
          refine tg (i := 9) ?_
          try simp only [Act.put, List.setIfInBounds_toArray, List.set_cons_zero, List.set_cons_succ]
          refine tg (i := 10) ?_
          try simp only [Act.put, List.setIfInBounds_toArray, List.set_cons_zero, List.set_cons_succ]
          refine tg (i := 11) ?_
          try simp only [Act.put, List.setIfInBounds_toArray, List.set_cons_zero, List.set_cons_succ]
          refine tg (i := 12) ?_
          try simp only [Act.put, List.setIfInBounds_toArray, List.set_cons_zero, List.set_cons_succ]
          refine tg (i := 13) ?_
          try simp only [Act.put, List.setIfInBounds_toArray, List.set_cons_zero, List.set_cons_succ]
          refine tg (i := 14) ?_
          try simp only [Act.put, List.setIfInBounds_toArray, List.set_cons_zero, List.set_cons_succ]
          refine tg (i := 15) ?_
          try simp only [Act.put, List.setIfInBounds_toArray, List.set_cons_zero, List.set_cons_succ]
          refine tg (i := 16) ?_
          try simp only [Act.put, List.setIfInBounds_toArray, List.set_cons_zero, List.set_cons_succ]
          refine tg (i := 17) ?_
          try simp only [Act.put, List.setIfInBounds_toArray, List.set_cons_zero, List.set_cons_succ]
          refine tq (i := 18) (v := ?_) ?hy ?_
          case hy => (intro W_ hW_; go_simp; first | done | with_reducible rfl)
          try simp only [Act.put, List.setIfInBounds_toArray, List.set_cons_zero, List.set_cons_succ]
          refine tq (i := 19) (v := ?_) ?hy ?_
          case hy => (intro W_ hW_; go_simp; first | done | with_reducible rfl)
          try simp only [Act.put, List.setIfInBounds_toArray, List.set_cons_zero, List.set_cons_succ]
          refine wpAnyH_done (by kernel_rfl) ?_ _
          have HH := Aside0.mk hHeld
          clear hHeld
          go_wp2_with fail
          go_roundg (m.l.length - (i + 1))
          case measure => have := HK.out; have := HI.out; omega
          case rel => exact ⟨i + 1, by first | rfl | (simp [e4]; done), ⟨by have := HI.out; omega⟩, HNEXT, ⟨HH.out.2.1⟩, ⟨HH.out.2.2.2⟩⟩
        · have c0 : decide ((i : Int) > 0) = true := by simp; omega
          have c1 : decide (i > 0) = true := by simp; omega
          have c2 : decide (0 < i) = true := by simp; omega
          obtain ⟨q, hq⟩ : ∃ q, q = i - 1 := ⟨_, rfl⟩
          have e5 : IntKind.i64.wrap ((i : Int) - 1) = (q : Int) := by have := HLEN.out; have := HI.out; simp [IntKind.wrap, IntKind.bits, IntKind.signed]; omega
          obtain ⟨p, hp⟩ : ∃ p, p = m.l.getD q zLin := ⟨_, rfl⟩
          have hmi : q < m.l.length := by have := HI.out; omega
          have HPREV : Aside0 (prevId m.l i = some p.id) := ⟨by unfold prevId; rw [if_neg hi0, hp, hq]⟩
          obtain ⟨ad2, B2, cb2, hA2, hp16, _, _, hcell2⟩ := lin_at HC.out hmi p hp.symm
          injection hA2 with hA2
          subst hA2
          have HP16 := Aside0.mk hp16
          have HPC : Aside0 (At (wr.alloc (.cells cs 147)).drew (ad.add (q * 19)) (cells8 p.id)) := ⟨((lin_id hcell2).below HB.out).alloc _⟩
          have e6 : decide ((q : Int) < (m.l.length : Int)) = true := by simpa using hmi
          have e7 : ((q : Int) < (m.l.length : Int)) = True := by simpa using hmi
          have e8 : (0 ≤ (q : Int)) = True := by simp
          have e9 : (q < m.l.length) = True := by simpa using hmi
          clear hcell2 hq hp hi0 hmi hp16
          cases hls : lessL p.id e.id
          · have HRES : Aside0 (mayM m = false) := ⟨by
              unfold mayM
              rw [← HE.out, HSTEP.out, HLINE.out, HPREV.out]
              simp only [Bool.true_and]
              rw [hls]; rfl⟩
            have HLS := Aside0.mk hls
            clear hls
            go_wp2_with (first
              | ((with_reducible refine gate_dst (N := 12) rfl ?_); refine wpList_load_cells rfl 147 (.tmp 11) rfl (ad.add (i * 19)) rfl cs _ HCELL.out Try.underlying147 rfl HINFO.out ?_)
              | fail)
            refine wp_region_held_drew (S := (fun W => MyS w wr.heap.size cs ms (ad.add (q * 19)) p.id W)) (by kernel_rfl) (⟨HNEW.out, HOLD.out, HPC.out, below_drew HBN.out⟩) (fun hHeld => ?_)
            refine tq (i := 0) (v := ?_) ?hy ?_
            case hy => (intro W_ hW_; refine Eq.trans (exec_load_row 147 (.tmp 4) ?_ wr.heap.size ?_ 147 cs (0, 0) _ hW_.1 Try.underlying147 rfl HINFO.out) ?_ <;> (first | with_reducible rfl | rfl))
            try simp only [Act.put, List.setIfInBounds_toArray, List.set_cons_zero, List.set_cons_succ]
            refine wpAnyH_ready (rs := [1]) (by kernel_rfl) (by simp) ?_
            refine AllReadyH.cons (by simp only [List.getElem?_toArray, List.getElem?_cons_succ, List.getElem?_cons_zero]; rfl) (fun K hK => ?_) AllReadyH.nil
            rw [if_pos (by rfl)]
            go_wp2_with fail
            refine (HCALL.out _ hHeld.2.2.2).mono ?_
            rintro e_ w1 ⟨rfl, hb1⟩; rw [HLINE.out]
            refine hK.out _ _ (MyS.step hHeld hb1) (fun hHeld2 => ?_)
            clear hK K hHeld
            have hHeld := hHeld2
            clear hHeld2
            try simp only [Act.put, List.setIfInBounds_toArray, List.set_cons_zero, List.set_cons_succ]
            refine tq (i := 2) (v := ?_) ?hy ?_
            case hy => (intro W_ hW_; go_simp; first | done | with_reducible rfl)
            try simp only [Act.put, List.setIfInBounds_toArray, List.set_cons_zero, List.set_cons_succ]
            refine tq (i := 3) (v := ?_) ?hy ?_
            case hy => (intro W_ hW_; go_simp; first | done | with_reducible rfl)
            try simp only [Act.put, List.setIfInBounds_toArray, List.set_cons_zero, List.set_cons_succ]
            refine tq (i := 4) (v := ?_) ?hy ?_
            case hy => (intro W_ hW_; go_simp; first | done | with_reducible rfl)
            try simp only [Act.put, List.setIfInBounds_toArray, List.set_cons_zero, List.set_cons_succ]
            refine tq (i := 5) (v := ?_) ?hy ?_
            case hy => (intro W_ hW_; go_simp; first | done | with_reducible rfl)
            try simp only [Act.put, List.setIfInBounds_toArray, List.set_cons_zero, List.set_cons_succ]
            refine tq (i := 6) (v := ?_) ?hy ?_
            case hy => (intro W_ hW_; go_simp; first | done | with_reducible rfl)
            try simp only [Act.put, List.setIfInBounds_toArray, List.set_cons_zero, List.set_cons_succ]
            refine tq (i := 7) (v := ?_) ?hy ?_
            case hy => (intro W_ hW_; go_simp; first | done | with_reducible rfl)
            try simp only [Act.put, List.setIfInBounds_toArray, List.set_cons_zero, List.set_cons_succ]
            refine tq (i := 8) (v := ?_) ?hy ?_
            case hy => (intro W_ hW_; have f32 := hl32 W_ hW_.2.1; go_simp; first | done | with_reducible rfl)
            try simp only [Act.put, List.setIfInBounds_toArray, List.set_cons_zero, List.set_cons_succ]
            refine tq (i := 9) (v := ?_) ?hy ?_
            case hy => (intro W_ hW_; go_simp; first | done | with_reducible rfl)
            try simp only [Act.put, List.setIfInBounds_toArray, List.set_cons_zero, List.set_cons_succ]
            refine tq (i := 10) (v := ?_) ?hy ?_
            case hy => (intro W_ hW_; go_simp; first | done | with_reducible rfl)
            try simp only [Act.put, List.setIfInBounds_toArray, List.set_cons_zero, List.set_cons_succ]
            refine tq (i := 11) (v := ?_) ?hy ?_
            case hy => (intro W_ hW_; go_simp; first | done | with_reducible rfl)
            try simp only [Act.put, List.setIfInBounds_toArray, List.set_cons_zero, List.set_cons_succ]
            refine tq (i := 12) (v := ?_) ?hy ?_
            case hy => (intro W_ hW_; go_simp; first | done | with_reducible rfl)
            try simp only [Act.put, List.setIfInBounds_toArray, List.set_cons_zero, List.set_cons_succ]
            refine tq (i := 13) (v := ?_) ?hy ?_
            case hy => (intro W_ hW_; refine Eq.trans (exec_load_cells 94 (.tmp 25) ?_ (ad.add (q * 19)) ?_ (cells8 p.id) _ hW_.2.2.1 Try.underlying94 rfl (idInfo HP16.out)) ?_ <;> (first | with_reducible rfl | rfl))
            try simp only [Act.put, List.setIfInBounds_toArray, List.set_cons_zero, List.set_cons_succ]
            refine tq (i := 14) (v := ?_) ?hy ?_
            case hy => (intro W_ hW_; go_simp; first | done | with_reducible rfl)
            try simp only [Act.put, List.setIfInBounds_toArray, List.set_cons_zero, List.set_cons_succ]
            refine tq (i := 15) (v := ?_) ?hy ?_
            case hy => (intro W_ hW_; refine Eq.trans (exec_load_cells 94 (.tmp 27) ?_ ⟨wr.heap.size, 0, none⟩ ?_ (cells8 e.id) _ (HID.out W_ hW_.1) Try.underlying94 rfl (idInfo HD16.out)) ?_ <;> (first | with_reducible rfl | rfl))
            try simp only [Act.put, List.setIfInBounds_toArray, List.set_cons_zero, List.set_cons_succ]
            refine wpAnyH_ready (rs := [16]) (by kernel_rfl) (by simp) ?_
            refine AllReadyH.cons (by simp only [List.getElem?_toArray, List.getElem?_cons_succ, List.getElem?_cons_zero]; rfl) (fun K hK => ?_) AllReadyH.nil
            rw [if_pos (by rfl)]
            go_wp2_with fail
            refine (less_call p.id e.id _ HP16.out HD16.out).mono ?_
            rintro e_ w1 ⟨rfl, hb1⟩; rw [HLS.out]
            refine hK.out _ _ (MyS.step hHeld hb1) (fun hHeld2 => ?_)
            clear hK K hHeld
            have hHeld := hHeld2
            clear hHeld2
            try simp only [Act.put, List.setIfInBounds_toArray, List.set_cons_zero, List.set_cons_succ]
            refine tq (i := 17) (v := ?_) ?hy ?_
            case hy => (intro W_ hW_; go_simp; first | done | with_reducible rfl)
            try simp only [Act.put, List.setIfInBounds_toArray, List.set_cons_zero, List.set_cons_succ]
            refine tq (i := 18) (v := ?_) ?hy ?_
            case hy => (intro W_ hW_; go_simp; first | done | with_reducible rfl)
            try simp only [Act.put, List.setIfInBounds_toArray, List.set_cons_zero, List.set_cons_succ]
            refine tq (i := 19) (v := ?_) ?hy ?_
            case hy => (intro W_ hW_; go_simp; first | done | with_reducible rfl)
            try simp only [Act.put, List.setIfInBounds_toArray, List.set_cons_zero, List.set_cons_succ]
            refine wpAnyH_done (by kernel_rfl) ?_ _
            have HH := Aside0.mk hHeld
            clear hHeld
            go_wp2_with fail
            go_ret
            exact ⟨by rw [HRES.out]; rfl, HH.out.2.2.2⟩
          · have HNEXT : Aside0 (linsM 8 200 (prevId m.l (i + 1)) (m.l.drop (i + 1)) = linsM 8 200 none m.l) := ⟨by
              rw [← HE.out, HSTEP.out, HLINE.out, HPREV.out]
              simp only [Bool.true_and]
              rw [hls]; rfl⟩
            have HLS := Aside0.mk hls
            clear hls
            go_wp2_with (first
              | ((with_reducible refine gate_dst (N := 12) rfl ?_); refine wpList_load_cells rfl 147 (.tmp 11) rfl (ad.add (i * 19)) rfl cs _ HCELL.out Try.underlying147 rfl HINFO.out ?_)
              | fail)
            refine wp_region_held_drew (S := (fun W => MyS w wr.heap.size cs ms (ad.add (q * 19)) p.id W)) (by kernel_rfl) (⟨HNEW.out, HOLD.out, HPC.out, below_drew HBN.out⟩) (fun hHeld => ?_)
            refine tq (i := 0) (v := ?_) ?hy ?_
            case hy => (intro W_ hW_; refine Eq.trans (exec_load_row 147 (.tmp 4) ?_ wr.heap.size ?_ 147 cs (0, 0) _ hW_.1 Try.underlying147 rfl HINFO.out) ?_ <;> (first | with_reducible rfl | rfl))
            try simp only [Act.put, List.setIfInBounds_toArray, List.set_cons_zero, List.set_cons_succ]
            refine wpAnyH_ready (rs := [1]) (by kernel_rfl) (by simp) ?_
            refine AllReadyH.cons (by simp only [List.getElem?_toArray, List.getElem?_cons_succ, List.getElem?_cons_zero]; rfl) (fun K hK => ?_) AllReadyH.nil
            rw [if_pos (by rfl)]
            go_wp2_with fail
            refine (HCALL.out _ hHeld.2.2.2).mono ?_
            rintro e_ w1 ⟨rfl, hb1⟩; rw [HLINE.out]
            refine hK.out _ _ (MyS.step hHeld hb1) (fun hHeld2 => ?_)
            clear hK K hHeld
            have hHeld := hHeld2
            clear hHeld2
            try simp only [Act.put, List.setIfInBounds_toArray, List.set_cons_zero, List.set_cons_succ]
            refine tq (i := 2) (v := ?_) ?hy ?_
            case hy => (intro W_ hW_; go_simp; first | done | with_reducible rfl)
            try simp only [Act.put, List.setIfInBounds_toArray, List.set_cons_zero, List.set_cons_succ]
            refine tq (i := 3) (v := ?_) ?hy ?_
            case hy => (intro W_ hW_; go_simp; first | done | with_reducible rfl)
            try simp only [Act.put, List.setIfInBounds_toArray, List.set_cons_zero, List.set_cons_succ]
            refine tq (i := 4) (v := ?_) ?hy ?_
            case hy => (intro W_ hW_; go_simp; first | done | with_reducible rfl)
            try simp only [Act.put, List.setIfInBounds_toArray, List.set_cons_zero, List.set_cons_succ]
            refine tq (i := 5) (v := ?_) ?hy ?_
            case hy => (intro W_ hW_; go_simp; first | done | with_reducible rfl)
            try simp only [Act.put, List.setIfInBounds_toArray, List.set_cons_zero, List.set_cons_succ]
            refine tq (i := 6) (v := ?_) ?hy ?_
            case hy => (intro W_ hW_; go_simp; first | done | with_reducible rfl)
            try simp only [Act.put, List.setIfInBounds_toArray, List.set_cons_zero, List.set_cons_succ]
            refine tq (i := 7) (v := ?_) ?hy ?_
            case hy => (intro W_ hW_; go_simp; first | done | with_reducible rfl)
            try simp only [Act.put, List.setIfInBounds_toArray, List.set_cons_zero, List.set_cons_succ]
            refine tq (i := 8) (v := ?_) ?hy ?_
            case hy => (intro W_ hW_; have f32 := hl32 W_ hW_.2.1; go_simp; first | done | with_reducible rfl)
            try simp only [Act.put, List.setIfInBounds_toArray, List.set_cons_zero, List.set_cons_succ]
            refine tq (i := 9) (v := ?_) ?hy ?_
            case hy => (intro W_ hW_; go_simp; first | done | with_reducible rfl)
            try simp only [Act.put, List.setIfInBounds_toArray, List.set_cons_zero, List.set_cons_succ]
            refine tq (i := 10) (v := ?_) ?hy ?_
            case hy => (intro W_ hW_; go_simp; first | done | with_reducible rfl)
            try simp only [Act.put, List.setIfInBounds_toArray, List.set_cons_zero, List.set_cons_succ]
            refine tq (i := 11) (v := ?_) ?hy ?_
            case hy => (intro W_ hW_; go_simp; first | done | with_reducible rfl)
            try simp only [Act.put, List.setIfInBounds_toArray, List.set_cons_zero, List.set_cons_succ]
            refine tq (i := 12) (v := ?_) ?hy ?_
            case hy => (intro W_ hW_; go_simp; first | done | with_reducible rfl)
            try simp only [Act.put, List.setIfInBounds_toArray, List.set_cons_zero, List.set_cons_succ]
            refine tq (i := 13) (v := ?_) ?hy ?_
            case hy => (intro W_ hW_; refine Eq.trans (exec_load_cells 94 (.tmp 25) ?_ (ad.add (q * 19)) ?_ (cells8 p.id) _ hW_.2.2.1 Try.underlying94 rfl (idInfo HP16.out)) ?_ <;> (first | with_reducible rfl | rfl))
            try simp only [Act.put, List.setIfInBounds_toArray, List.set_cons_zero, List.set_cons_succ]
            refine tq (i := 14) (v := ?_) ?hy ?_
            case hy => (intro W_ hW_; go_simp; first | done | with_reducible rfl)
            try simp only [Act.put, List.setIfInBounds_toArray, List.set_cons_zero, List.set_cons_succ]
            refine tq (i := 15) (v := ?_) ?hy ?_
            case hy => (intro W_ hW_; refine Eq.trans (exec_load_cells 94 (.tmp 27) ?_ ⟨wr.heap.size, 0, none⟩ ?_ (cells8 e.id) _ (HID.out W_ hW_.1) Try.underlying94 rfl (idInfo HD16.out)) ?_ <;> (first | with_reducible rfl | rfl))
            try simp only [Act.put, List.setIfInBounds_toArray, List.set_cons_zero, List.set_cons_succ]
            refine wpAnyH_ready (rs := [16]) (by kernel_rfl) (by simp) ?_
            refine AllReadyH.cons (by simp only [List.getElem?_toArray, List.getElem?_cons_succ, List.getElem?_cons_zero]; rfl) (fun K hK => ?_) AllReadyH.nil
            rw [if_pos (by rfl)]
            go_wp2_with fail
            refine (less_call p.id e.id _ HP16.out HD16.out).mono ?_
            rintro e_ w1 ⟨rfl, hb1⟩; rw [HLS.out]
            refine hK.out _ _ (MyS.step hHeld hb1) (fun hHeld2 => ?_)
            clear hK K hHeld
            have hHeld := hHeld2
            clear hHeld2
            try simp only [Act.put, List.setIfInBounds_toArray, List.set_cons_zero, List.set_cons_succ]
            refine tq (i := 17) (v := ?_) ?hy ?_
            case hy => (intro W_ hW_; go_simp; first | done | with_reducible rfl)
            try simp only [Act.put, List.setIfInBounds_toArray, List.set_cons_zero, List.set_cons_succ]
            refine tq (i := 18) (v := ?_) ?hy ?_
            case hy => (intro W_ hW_; go_simp; first | done | with_reducible rfl)
            try simp only [Act.put, List.setIfInBounds_toArray, List.set_cons_zero, List.set_cons_succ]
            refine tq (i := 19) (v := ?_) ?hy ?_
            case hy => (intro W_ hW_; go_simp; first | done | with_reducible rfl)
            try simp only [Act.put, List.setIfInBounds_toArray, List.set_cons_zero, List.set_cons_succ]
            refine wpAnyH_done (by kernel_rfl) ?_ _
            have HH := Aside0.mk hHeld
            clear hHeld
            go_wp2_with fail
            go_roundg (m.l.length - (i + 1))
            case measure => have := HK.out; have := HI.out; omega
            case rel => exact ⟨i + 1, by first | rfl | (simp [e4]; done), ⟨by have := HI.out; omega⟩, HNEXT, ⟨HH.out.2.1⟩, ⟨HH.out.2.2.2⟩⟩
    · have e1 : decide ((i : Int) < (m.l.length : Int)) = false := by simpa using hi
      have e2 : ((i : Int) < (m.l.length : Int)) = False := by simpa using hi
      have hil : i = m.l.length := by have := HK.out; omega
      have HLINS : Aside0 (linsM 8 200 none m.l = true) := ⟨by rw [← HE.out, hil, List.drop_length]; unfold linsM; rfl⟩
      have g32 := (blk_cell HBW.out 32).trans K32.out
      have HRES : Aside0 (mayM m = decide ((m.l.length : Int) ≤ 10)) := ⟨by unfold mayM; rw [HLINS.out]; rfl⟩
      clear hi hil
      by_cases h10 : m.l.length ≤ 10
      · have c0 : decide ((m.l.length : Int) ≤ 10) = true := decide_eq_true (by omega)
        have c1 : decide (m.l.length ≤ 10) = true := decide_eq_true (by omega)
        rw [c0] at HRES
        clear h10
        go_wp2_with fail
        go_ret
        exact ⟨by rw [HRES.out]; rfl, HB.out⟩
      · have c0 : decide ((m.l.length : Int) ≤ 10) = false := decide_eq_false (by omega)
        have c1 : decide (m.l.length ≤ 10) = false := decide_eq_false (by omega)
        rw [c0] at HRES
        clear h10
        go_wp2_with fail
        go_ret
        exact ⟨by rw [HRES.out]; rfl, HB.out⟩
end Go.Proofs.Ytchaegfdcdlfaaa.X

namespace Go.Proofs.Ytchaegfdcdlfaaa.X
set_option linter.unusedVariables false
set_option linter.unusedSimpArgs false
open Go.RowKit Go.Proofs.YtchaegfdcdlfaaaW.PrintWords Go.Proofs.YtchaegfdcdlfaaaW.PrintLast Go.Proofs.YtchaegfdcdlfaaaW.PrintMore
open Go.Proofs.Ytchaegfdcdlfaaa.Y (Bytes RdB rdb_below rdb_drewN put_call word_call row_slice)

theorem At.reads {W : World} {a : Addr} {xs : List Int} (h : At W a (cells8 xs)) (hm : xs.length ≤ 1000000000) : RdB W (some a) xs.length xs :=
  Kd.C_of_reads (d := (0 : Int)) (h1 := fun _ => rfl) ⟨rfl, by omega, fun _ => ⟨_, rfl, fun j hj => h j _ (by simp [cells8, List.getD_eq_getElem?_getD, hj])⟩⟩
def SlB (W : World) (v : Value) (l : List Int) : Prop := ∃ A c, v = .slice A l.length c ∧ l.length ≤ c ∧ RdB W A l.length l
theorem SlB.below {W W1 : World} {v : Value} {l : List Int} (h : SlB W v l) (hb : Below W.heap.size W W1) : SlB W1 v l := by
  obtain ⟨A, c, hv, hc, hr⟩ := h
  exact ⟨A, c, hv, hc, rdb_below hr hb⟩
theorem SlB.alloc {W : World} {v : Value} {l : List Int} (h : SlB W v l) (o : Obj) : SlB (W.alloc o) v l := h.below (below_alloc (Below.refl _ _) o)
theorem SlB.drew {W : World} {v : Value} {l : List Int} (h : SlB W v l) : SlB W.drew v l := h.below (below_drew (Below.refl _ _))
theorem SlB.of_R {W : World} {base : Nat} {ok : Nat → Prop} {v : Value} {l : List Int} (h : Kd.R (Kd.int .u8) 5 W base ok v l) : SlB W v l := row_slice h
theorem SlB.at {W : World} {a : Addr} {xs : List Int} (h : At W a (cells8 xs)) (n c : Nat) (hn : xs.length = n) (hc : n ≤ c) (hm : n ≤ 1000000000) : SlB W (.slice (some a) n c) xs := by
  subst hn
  exact ⟨_, _, rfl, hc, h.reads hm⟩
theorem SlB.nil (W : World) : SlB W (.slice none 0 0) [] := ⟨none, 0, rfl, Nat.le_refl _, ⟨rfl, by simp, fun h => absurd h (by simp)⟩⟩
theorem SlB.one (W : World) (x : Int) : SlB (W.alloc (.cells #[.int .u8 x] 5)) (.slice (some ⟨W.heap.size, 0, none⟩) 1 1) [x] :=
  SlB.at (At.blk (cs := cells8 [x]) (blk_new W (.cells #[.int .u8 x] 5))) 1 1 rfl (Nat.le_refl _) (by omega)
inductive SlBs (W : World) : List Value → List (List Int) → Prop
  | nil : SlBs W [] []
  | cons {v : Value} {l : List Int} {vs : List Value} {ls : List (List Int)} (h : SlB W v l) (t : SlBs W vs ls) : SlBs W (v :: vs) (l :: ls)
theorem SlBs.len {W : World} : ∀ {vs : List Value} {ls : List (List Int)}, SlBs W vs ls → ls.length = vs.length
  | _, _, .nil => rfl
  | _, _, .cons _ t => by simp [t.len]
theorem SlBs.get {W : World} : ∀ {vs : List Value} {ls : List (List Int)}, SlBs W vs ls → ∀ (j : Nat) (l : List Int), ls[j]? = some l → ∃ v, vs[j]? = some v ∧ SlB W v l
  | _, _, .nil, j, l, h => by simp at h
  | _, _, .cons h t, 0, l, hj => by
    obtain rfl := Option.some.inj hj
    exact ⟨_, rfl, h⟩
  | _, _, .cons h t, j + 1, l, hj => t.get j l (by simpa using hj)
theorem rows_C {W : World} {vs : List Value} {ls : List (List Int)} (h : SlBs W vs ls) (hn : ls.length ≤ 1000) :
    Kd.C (Kd.slice 5 (Kd.int .u8)) (W.alloc (.cells vs.toArray 40)) (some ⟨W.heap.size, 0, none⟩) ls.length ls := by
  refine ⟨rfl, by omega, fun _ => ⟨_, rfl, fun j l hj => ?_⟩⟩
  obtain ⟨v, hv, A, c, rfl, hc, hr⟩ := h.get j l hj
  refine ⟨[.slice A l.length c], rfl, ⟨A, c, rfl, hc, rdb_below hr (below_alloc (Below.refl _ _) _)⟩, fun i u hi => ?_⟩
  have hi0 : i = 0 := by
    have := (List.getElem?_eq_some_iff.1 hi).1
    simp at this
    exact this
  subst hi0
  obtain rfl := Option.some.inj hi
  show (W.alloc _).cell? ((⟨W.heap.size, 0, none⟩ : Addr).add (j * 1 + 0)) = _
  rw [Nat.mul_one, Nat.add_zero, add_at, blk_cell (blk_new W _), List.getElem?_toArray]
  exact hv
theorem cat_rows {W : World} {vs : List Value} {ls : List (List Int)} (h : SlBs W vs ls) (hn : ls.length ≤ 1000) (N : Nat) (hN : W.heap.size = N) (n : Nat) (hl : ls.length = n) (hf : ls.flatten.length ≤ 1000000000) (r : List Int) (hr : ls.flatten = r) :
    Calls Try.prog 83 #[.slice (some ⟨N, 0, none⟩) n n] (W.alloc (.cells vs.toArray 40)) fun e w' => (∃ A c, e = .returned (.slice A r.length c) ∧ r.length ≤ c ∧ RdB w' A r.length r) ∧ Below W.heap.size W w' := by
  subst hl
  subst hr
  subst hN
  have := cat_call (some ⟨W.heap.size, 0, none⟩) ls.length ls _ (rows_C h hn) hf (by omega)
  refine this.mono ?_
  rintro e w' ⟨v, rfl, hR, hB⟩
  obtain ⟨A, c, rfl, hc, hr⟩ := SlB.of_R hR
  exact ⟨⟨A, c, rfl, hc, hr⟩, below_step (below_alloc (Below.refl _ _) _) hB⟩
end Go.Proofs.Ytchaegfdcdlfaaa.X
