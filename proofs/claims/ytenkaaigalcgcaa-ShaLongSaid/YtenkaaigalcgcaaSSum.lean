/- The digest of bytes: the walk. -/
import Derived.Test.YtenkaaigalcgcaaSTools
namespace Go.Proofs.Ytenkaaigalcgcaa.X
set_option linter.unusedVariables false
set_option linter.unusedSimpArgs false
open Go.RowKit Go.Proofs.YtenkaaigalcgcaaW.PrintWords Go.Proofs.YtenkaaigalcgcaaW.PrintLast Go.Proofs.YtenkaaigalcgcaaW.PrintMore

/-- How many zeros. -/
def padN (n : Nat) : Nat := (119 - n % 64) % 64
theorem padN_at (n : Nat) : (n + 1 + padN n) % 64 = 56 := by unfold padN; omega
theorem padN_lt (n : Nat) : padN n < 64 := by unfold padN; omega
theorem padN_not (n j : Nat) (h : j < padN n) : (n + 1 + j) % 64 ≠ 56 := by unfold padN at h; omega
def msg1 (l : List Int) (j : Nat) : List Int := (l ++ [128]) ++ List.replicate j 0
theorem msg1_length (l : List Int) (j : Nat) : (msg1 l j).length = l.length + 1 + j := by simp [msg1]; omega
theorem msg1_snoc (l : List Int) (j : Nat) : msg1 l j ++ [0] = msg1 l (j + 1) := by simp [msg1, List.replicate_succ']
def lenByte (n i : Nat) : Int := (n : Int) * 8 / 2 ^ (8 * (7 - i)) % 256
/-- A digest's byte. -/
def outByte (st : List Int) (i : Nat) : Int := st.getD (i / 4) 0 / 2 ^ (24 - 8 * (i % 4)) % 256
def outAt (st : List Int) : Nat → List Int
  | 0 => List.replicate 32 0
  | i + 1 => (outAt st i).set i (outByte st i)
theorem outAt_length (st : List Int) : ∀ i, (outAt st i).length = 32
  | 0 => by simp [outAt]
  | i + 1 => by simp [outAt, outAt_length st i]
def msg2 (l : List Int) (j : Nat) : List Int := msg1 l (padN l.length) ++ (List.range j).map (lenByte l.length)
theorem msg2_length (l : List Int) (j : Nat) : (msg2 l j).length = l.length + 1 + padN l.length + j := by simp [msg2, msg1_length]
theorem msg2_snoc (l : List Int) (j : Nat) : msg2 l j ++ [lenByte l.length j] = msg2 l (j + 1) := by simp [msg2, List.range_succ]
/-- The digest. -/
def shaOf (l : List Int) : List Int := outAt (stateAt (msg2 l 8) ((msg2 l 8).length / 64)) 32

set_option maxHeartbeats 4000000 in
set_option maxRecDepth 100000 in
theorem sum_call (A : Option Addr) (c : Nat) (l : List Int) (w : World) (hr : RdB w A l.length l) (hc : l.length ≤ c) (hl : l.length ≤ 100000000) :
    Calls Try.prog 10 #[.slice A l.length c] w fun e w' => e = .returned (.agg (cells8 (shaOf l))) ∧ Below w.heap.size w w' := by
  have HR := Aside0.mk hr
  clear hr
  go_enter Try.func10, Try.ntmps10
  go_wp2_with fail
  refine (clone_call A c l _ (rdb_below HR.out (below_alloc (Below.refl _ _) _)) hc (by omega)).mono ?_
  rintro e w1 ⟨v, rfl, HO, HB⟩
  have HBw : Aside0 (Below w.heap.size w w1) := ⟨(below_alloc (Below.refl _ _) _).trans (HB.out.mono (by simp))⟩
  have HZ : Aside0 (Blk8 w1 w.heap.size 24 (List.replicate 32 0)) := ⟨Blk8.below (w := w.alloc _) (heap_alloc_new w _) HB.out (by simp)⟩
  have HO1 : Aside0 (w1.ownsRow (w.heap.size + 1) 5 1 v l.length (nums .u8 l)) := ⟨by simpa using HO.out⟩
  have HS1 : Aside0 (w.heap.size + 1 ≤ w1.heap.size) := ⟨by simpa using HB.out.size⟩
  clear HB HO
  go_wp2_with (first
    | ((with_reducible refine gate_builtin (b := .append) (xs := #[.tmp 10, .tmp 11]) rfl ?_); at_builtin; refine app_one (w0 := w1) (w.heap.size + 1) rfl (.tmp 10) (.tmp 11) rfl v l 128 (by rfl) (by rfl) HO1.out (Below.refl _ _) HS1.out (by omega) ?_; intro v2 w2 HO2 HB2)
    | fail)
  clear HO1
  go_loopg [3] (padN l.length) (fun k v3 w' => ∃ (j m : Nat), Aside0 (k = padN l.length - j ∧ j ≤ padN l.length) ∧ Aside0 (m = l.length + 1 + j) ∧ Aside0 (w'.ownsRow (w.heap.size + 1) 5 1 v3 m (nums .u8 (msg1 l j))) ∧ Aside0 (Below (w.heap.size + 1) w1 w'))
  case atStart => exact ⟨0, l.length + 1, ⟨by omega, by omega⟩, ⟨by omega⟩, ⟨by simpa [msg1] using HO2.out⟩, HB2⟩
  case round =>
    clear HO2 HB2
    obtain ⟨j, m, HJ, HM, HO, HB⟩ := hrel
    obtain ⟨A3, c3, rfl⟩ := own_slice HO.out
    have hm : m ≤ 200000000 := by have := HM.out; have := HJ.out; have := padN_lt l.length; omega
    by_cases hj : j < padN l.length
    · have e1 : ((m : Int) % 64 != 56) = true := by
        have := padN_not l.length j hj
        have := HM.out
        simp only [bne_iff_ne, ne_eq]
        omega
      have HML : Aside0 ((msg1 l j).length = m) := ⟨by rw [msg1_length]; exact HM.out.symm⟩
      go_wp2_with (first
        | ((with_reducible refine gate_builtin (b := .append) (xs := #[.tmp 17, .tmp 18]) rfl ?_); at_builtin; refine app_one (w0 := w1) (w.heap.size + 1) rfl (.tmp 17) (.tmp 18) rfl _ (msg1 l j) 0 (by rfl) (by rfl) (by rw [HML.out]; exact HO.out) HB.out (Nat.le_trans HS1.out HB.out.size) (by rw [HML.out]; omega) ?_; intro v4 w4 HO4 HB4)
        | fail)
      go_roundg (padN l.length - (j + 1))
      case measure => have := HJ.out; omega
      case rel => exact ⟨j + 1, m + 1, ⟨rfl, by omega⟩, ⟨by have := HM.out; omega⟩, ⟨by have h_ := HO4.out; rw [msg1_snoc, msg1_length] at h_; have h2_ := HM.out; rw [show m + 1 = l.length + 1 + (j + 1) by omega]; exact h_⟩, HB4⟩
    · obtain rfl : j = padN l.length := by have := HJ.out; omega
      have e1 : ((m : Int) % 64 != 56) = false := by
        have := padN_at l.length
        have := HM.out
        simp only [bne_eq_false_iff_eq]
        omega
      clear hj
      go_wp2_with fail
      go_loopg [3, 20] 8 (fun k v3 v20 w' => ∃ (i p : Nat), v20 = .int .i64 (i : Int) ∧ Aside0 (k = 8 - i ∧ i ≤ 8) ∧ Aside0 (p = m + i) ∧ Aside0 (w'.ownsRow (w.heap.size + 1) 5 1 v3 p (nums .u8 (msg2 l i))) ∧ Aside0 (Below (w.heap.size + 1) w1 w'))
      case atStart => exact ⟨0, m, rfl, ⟨by omega, by omega⟩, ⟨rfl⟩, ⟨by simpa [msg2] using HO.out⟩, HB⟩
      case round =>
        clear HO HB e1
        obtain ⟨i, p, rfl, HI, HP, HO, HB⟩ := hrel
        obtain ⟨A4, c4, rfl⟩ := own_slice HO.out
        by_cases hi : i < 8
        · have d1 : decide (i < 8) = true := decide_eq_true hi
          have d2 : decide ((i : Int) < 8) = true := decide_eq_true (by omega)
          have HML : Aside0 ((msg2 l i).length = p) := ⟨by rw [msg2_length, HP.out, HM.out]⟩
          have hp : p ≤ 300000000 := by have := HP.out; omega
          have b0 : 0 ≤ (i : Int) := by omega
          have b1 : (i : Int) < 8 := by omega
          have hwr : IntKind.i64.wrap ((i : Int) + 1) = ((i + 1 : Nat) : Int) := by rw [i64_w]; unfold wrap64; omega
          go_wp2_with (first
            | ((with_reducible refine gate_builtin (b := .append) (xs := #[.tmp 23, .tmp 33]) rfl ?_); at_builtin; refine app_one (w0 := w1) (w.heap.size + 1) rfl (.tmp 23) (.tmp 33) rfl _ (msg2 l i) (lenByte l.length i) (by rfl) (by rfl) (by rw [HML.out]; exact HO.out) HB.out (Nat.le_trans HS1.out HB.out.size) (by rw [HML.out]; omega) ?_; intro v4 w4 HO4 HB4)
            | fail)
          go_roundg (8 - (i + 1))
          case measure => have := HI.out; omega
          case rel => exact ⟨i + 1, p + 1, by simp, ⟨rfl, by omega⟩, ⟨by have := HP.out; omega⟩, ⟨by have h_ := HO4.out; rw [msg2_snoc, msg2_length] at h_; have h2_ := HM.out; have h3_ := HP.out; rw [show p + 1 = l.length + 1 + padN l.length + (i + 1) by omega]; exact h_⟩, HB4⟩
        · have d1 : decide (i < 8) = false := decide_eq_false hi
          have d2 : decide ((i : Int) < 8) = false := decide_eq_false (by omega)
          obtain rfl : i = 8 := by have := HI.out; omega
          have HN : Aside0 (p % 64 = 0) := ⟨by have := HP.out; have := HM.out; have := padN_at l.length; omega⟩
          have HPL : Aside0 ((msg2 l 8).length = p) := ⟨by rw [msg2_length, HP.out, HM.out]⟩
          obtain ⟨msg, hmsg⟩ : ∃ msg, msg2 l 8 = msg := ⟨_, rfl⟩
          rw [hmsg] at HPL HO
          have HMSG := Aside0.mk hmsg
          clear hmsg hi HI
          obtain ⟨A5, c5, he5, hc5, hR5⟩ := own_row HO.out
          obtain ⟨rfl, rfl⟩ : A4 = A5 ∧ c4 = c5 := by injection he5 with h1 _ h3; exact ⟨h1, h3⟩
          have HR5 := Aside0.mk hR5
          clear he5 hR5 HO
          go_wp2_with fail
          refine (begun_call' _).mono ?_
          rintro e w5 ⟨rfl, hb5⟩
          have HB5 := Aside0.mk hb5
          clear hb5
          go_wp2_with fail
          refine (roots_call' _).mono ?_
          rintro e w6 ⟨rfl, hb6⟩
          have HB6 : Aside0 (Below (w.heap.size + 1) w1 w6) := ⟨(HB.out.trans (HB5.out.mono (Nat.le_trans HS1.out HB.out.size))).trans (hb6.mono (Nat.le_trans (Nat.le_trans HS1.out HB.out.size) HB5.out.size))⟩
          have HR6 : Aside0 (RdB w6 A4 p msg) := ⟨rdb_below (rdb_below HR5.out HB5.out) hb6⟩
          clear hb6 HB5 HR5
          have hz8 : (cellsOf begunL).size = 8 := by kernel_rfl
          have hz64 : (cellsOf rootsL).size = 64 := by kernel_rfl
          have hst1 := store_new2 w6 #[.int .u32 0, .int .u32 0, .int .u32 0, .int .u32 0, .int .u32 0, .int .u32 0, .int .u32 0, .int .u32 0] (cellsOf begunL) 40 (.cells #[.int .u32 0, .int .u32 0, .int .u32 0, .int .u32 0, .int .u32 0, .int .u32 0, .int .u32 0, .int .u32 0, .int .u32 0, .int .u32 0, .int .u32 0, .int .u32 0, .int .u32 0, .int .u32 0, .int .u32 0, .int .u32 0, .int .u32 0, .int .u32 0, .int .u32 0, .int .u32 0, .int .u32 0, .int .u32 0, .int .u32 0, .int .u32 0, .int .u32 0, .int .u32 0, .int .u32 0, .int .u32 0, .int .u32 0, .int .u32 0, .int .u32 0, .int .u32 0, .int .u32 0, .int .u32 0, .int .u32 0, .int .u32 0, .int .u32 0, .int .u32 0, .int .u32 0, .int .u32 0, .int .u32 0, .int .u32 0, .int .u32 0, .int .u32 0, .int .u32 0, .int .u32 0, .int .u32 0, .int .u32 0, .int .u32 0, .int .u32 0, .int .u32 0, .int .u32 0, .int .u32 0, .int .u32 0, .int .u32 0, .int .u32 0, .int .u32 0, .int .u32 0, .int .u32 0, .int .u32 0, .int .u32 0, .int .u32 0, .int .u32 0, .int .u32 0] 42 (0, 0)) (by rw [hz8]; kernel_rfl) (cellsOf_all _)
          have hst2 : (storeCells ⟨w6.heap.size + 1, 0, none⟩ (cellsOf rootsL).toList).run Try.prog ((w6.alloc (.cells (cellsOf begunL) 40 (0, 0))).alloc (.cells #[.int .u32 0, .int .u32 0, .int .u32 0, .int .u32 0, .int .u32 0, .int .u32 0, .int .u32 0, .int .u32 0, .int .u32 0, .int .u32 0, .int .u32 0, .int .u32 0, .int .u32 0, .int .u32 0, .int .u32 0, .int .u32 0, .int .u32 0, .int .u32 0, .int .u32 0, .int .u32 0, .int .u32 0, .int .u32 0, .int .u32 0, .int .u32 0, .int .u32 0, .int .u32 0, .int .u32 0, .int .u32 0, .int .u32 0, .int .u32 0, .int .u32 0, .int .u32 0, .int .u32 0, .int .u32 0, .int .u32 0, .int .u32 0, .int .u32 0, .int .u32 0, .int .u32 0, .int .u32 0, .int .u32 0, .int .u32 0, .int .u32 0, .int .u32 0, .int .u32 0, .int .u32 0, .int .u32 0, .int .u32 0, .int .u32 0, .int .u32 0, .int .u32 0, .int .u32 0, .int .u32 0, .int .u32 0, .int .u32 0, .int .u32 0, .int .u32 0, .int .u32 0, .int .u32 0, .int .u32 0, .int .u32 0, .int .u32 0, .int .u32 0, .int .u32 0] 42 (0, 0))) = .ok () ((w6.alloc (.cells (cellsOf begunL) 40 (0, 0))).alloc (.cells (cellsOf rootsL) 42 (0, 0))) := by
            have h_ := store_new (w6.alloc (.cells (cellsOf begunL) 40 (0, 0))) #[.int .u32 0, .int .u32 0, .int .u32 0, .int .u32 0, .int .u32 0, .int .u32 0, .int .u32 0, .int .u32 0, .int .u32 0, .int .u32 0, .int .u32 0, .int .u32 0, .int .u32 0, .int .u32 0, .int .u32 0, .int .u32 0, .int .u32 0, .int .u32 0, .int .u32 0, .int .u32 0, .int .u32 0, .int .u32 0, .int .u32 0, .int .u32 0, .int .u32 0, .int .u32 0, .int .u32 0, .int .u32 0, .int .u32 0, .int .u32 0, .int .u32 0, .int .u32 0, .int .u32 0, .int .u32 0, .int .u32 0, .int .u32 0, .int .u32 0, .int .u32 0, .int .u32 0, .int .u32 0, .int .u32 0, .int .u32 0, .int .u32 0, .int .u32 0, .int .u32 0, .int .u32 0, .int .u32 0, .int .u32 0, .int .u32 0, .int .u32 0, .int .u32 0, .int .u32 0, .int .u32 0, .int .u32 0, .int .u32 0, .int .u32 0, .int .u32 0, .int .u32 0, .int .u32 0, .int .u32 0, .int .u32 0, .int .u32 0, .int .u32 0, .int .u32 0] (cellsOf rootsL) 42 (by rw [hz64]; kernel_rfl) (cellsOf_all _)
            rw [show (w6.alloc (.cells (cellsOf begunL) 40 (0, 0))).heap.size = w6.heap.size + 1 from Array.size_push ..] at h_
            exact h_
          go_wp2_with fail
          clear hst1 hst2 hz8 hz64
          have HS7 : Aside0 (Blk ((w6.alloc (.cells (cellsOf begunL) 40 (0, 0))).alloc (.cells (cellsOf rootsL) 42 (0, 0))) w6.heap.size 40 begunL) := ⟨heap_alloc2_old w6 _ _⟩
          have HK7 : Aside0 (Blk ((w6.alloc (.cells (cellsOf begunL) 40 (0, 0))).alloc (.cells (cellsOf rootsL) 42 (0, 0))) (w6.heap.size + 1) 42 rootsL) := ⟨heap_alloc2_new w6 _ _⟩
          have HB7 : Aside0 (Below w6.heap.size w6 ((w6.alloc (.cells (cellsOf begunL) 40 (0, 0))).alloc (.cells (cellsOf rootsL) 42 (0, 0)))) := ⟨below_alloc (below_alloc (Below.refl _ _) _) _⟩
          go_loopg [3] (p / 64) (fun k v3 w' => ∃ (j n : Nat) (q : List Int) (A : Option Addr) (c : Nat), v3 = .slice A n c ∧ Aside0 (k = p / 64 - j ∧ j ≤ p / 64) ∧ Aside0 (n ≤ c) ∧ Aside0 (n = p - 64 * j) ∧ Aside0 (q = msg.drop (64 * j)) ∧ Aside0 (q.length = n) ∧ Aside0 (RdB w6 A n q) ∧ Aside0 (Blk w' w6.heap.size 40 (stateAt msg j)) ∧ Aside0 (Blk w' (w6.heap.size + 1) 42 rootsL) ∧ Aside0 (Below w6.heap.size w6 w'))
          case atStart => exact ⟨0, p, msg, A4, c4, rfl, ⟨by omega, by omega⟩, ⟨hc5⟩, ⟨by omega⟩, ⟨by simp⟩, HPL, HR6, HS7, HK7, HB7⟩
          case round =>
            clear HS7 HK7 HB7 d1 d2 hc5 HR6
            obtain ⟨j, n, q, A, c, rfl, HJ3, HC, HN3, HQ, HQL, HR, HS, HK, HL⟩ := hrel
            have hn : n ≤ 300000000 := by have := HN3.out; have := HP.out; omega
            by_cases hj : j < p / 64
            · have hn64 : 64 ≤ n := by have := HN3.out; have := HN.out; omega
              have d1 : decide (0 < n) = true := decide_eq_true (by omega)
              have d2 : decide (0 < (n : Int)) = true := decide_eq_true (by omega)
              have hcut := rdb_cut A c q 64 (by rw [HQL.out]; exact hn64) (by rw [HQL.out]; exact HC.out)
              obtain ⟨A', hdrop, hA', hc'⟩ := rdb_drop A c q 64 (by rw [HQL.out]; exact hn64) (by rw [HQL.out]; exact HC.out)
              rw [HQL.out] at hcut hdrop hc'
              replace hcut : ∀ W : World, (Instr.slice 22 (.slice A n c) none (some (.int .i64 64)) none).run Try.prog W = .ok (.slice A 64 c) W := hcut
              replace hdrop : ∀ W : World, (Instr.slice 22 (.slice A n c) (some (.int .i64 64)) none none).run Try.prog W = .ok (.slice A' (n - 64) (c - 64)) W := hdrop
              have HA' : Aside0 (RdB w6 A' (n - 64) (q.drop 64)) := ⟨by have := hA' w6 (by rw [HQL.out]; exact HR.out); rw [HQL.out] at this; exact this⟩
              have HT : Aside0 (RdB w6 A 64 (q.take 64)) := ⟨rdb_take (by rw [HQL.out]; exact HR.out) 64 (by rw [HQL.out]; exact hn64)⟩
              have HTL : Aside0 ((q.take 64).length = 64) := ⟨by rw [List.length_take, HQL.out]; omega⟩
              clear hA'
              have HC' := Aside0.mk hc'
              clear hc'
              go_wp2_with fail
              refine (take_call w6.heap.size (w6.heap.size + 1) A c (q.take 64) (stateAt msg j) rootsL _ HS.out (stateAt_length _ _) HK.out rfl (by omega) (by rw [HTL.out]; exact rdb_below HT.out HL.out) (by have := HC.out; omega) HTL.out).mono ?_
              rintro e w8 ⟨rfl, hs8, hg8⟩
              have HS8 := Aside0.mk hs8
              have HK8 : Aside0 (Blk w8 (w6.heap.size + 1) 42 rootsL) := ⟨(hg8.block _ (Blk.lt HK.out) (by simp)).trans HK.out⟩
              have HL8 : Aside0 (Below w6.heap.size w6 w8) := ⟨pw_below_grown HL.out _ HL.out.size hg8 (by intro k hk; injection hk with hk; omega)⟩
              clear hs8 hg8
              go_wp2_with fail
              go_roundg (p / 64 - (j + 1))
              case measure => have := HJ3.out; omega
              case rel =>
                refine ⟨j + 1, n - 64, q.drop 64, A', c - 64, rfl, ⟨rfl, by omega⟩, HC', ⟨by have := HN3.out; omega⟩, ⟨by rw [HQ.out, List.drop_drop]; congr 1⟩, ⟨by rw [List.length_drop, HQL.out]⟩, HA', ⟨?_⟩, HK8, HL8⟩
                have := HS8.out
                rw [HQ.out] at this
                exact this
            · obtain rfl : j = p / 64 := by have := HJ3.out; omega
              obtain rfl : n = 0 := by have := HN3.out; have := HN.out; omega
              have HST : Aside0 ((stateAt msg (p / 64)).length = 8) := ⟨stateAt_length _ _⟩
              obtain ⟨st, hst⟩ : ∃ st, st = stateAt msg (p / 64) := ⟨_, rfl⟩
              have HSTE := Aside0.mk hst
              rw [← hst] at HS HST
              have HB8 : Aside0 (Below (w.heap.size + 1) w1 wr) := ⟨HB6.out.trans (HL.out.mono (Nat.le_trans HS1.out HB6.out.size))⟩
              have HSZ8 : Aside0 (w6.heap.size < wr.heap.size) := ⟨Blk.lt HS.out⟩
              clear hst hj HJ3 hn HN3
              go_wp2_with fail
              obtain ⟨wo, rfl⟩ : ∃ wo : World, wo = wr := ⟨_, rfl⟩
              go_loopg [46] 32 (fun k v46 w' => ∃ (i : Nat), v46 = .int .i64 (i : Int) ∧ Aside0 (k = 32 - i ∧ i ≤ 32) ∧ Aside0 (Blk8 w' wo.heap.size 24 (outAt st i)) ∧ Aside0 (Blk w' w6.heap.size 40 st) ∧ Aside0 (Below (w.heap.size + 1) w1 w'))
              case atStart => exact ⟨0, rfl, ⟨by omega, by omega⟩, ⟨heap_alloc_new wo _⟩, ⟨Blk.below HS.out (below_alloc (Below.refl _ _) _) HSZ8.out⟩, ⟨HB8.out.alloc (Nat.le_trans HS1.out HB8.out.size) _⟩⟩
              case round =>
                clear HS HK HL HB8
                obtain ⟨i, rfl, HI, HO, HS, HB⟩ := hrel
                by_cases hi : i < 32
                · have d1 : decide (i < 32) = true := decide_eq_true hi
                  have d2 : decide ((i : Int) < 32) = true := decide_eq_true (by omega)
                  have hwr : IntKind.i64.wrap ((i : Int) + 1) = ((i + 1 : Nat) : Int) := by rw [i64_w]; unfold wrap64; omega
                  have b0 : 0 ≤ (i : Int) := by omega
                  have b1 : (i : Int) < 32 := by omega
                  have pi : (0 ≤ (i : Int)) = True := eq_true (by omega)
                  have qi : ((i : Int) < 32) = True := eq_true (by omega)
                  have y1 : wr.drew.cell? ⟨w6.heap.size, i / 4, none⟩ = _ := HS.out.cell (i := i / 4) (by rw [HST.out]; omega)
                  have y2 : wr.cell? ⟨w6.heap.size, i / 4, none⟩ = _ := HS.out.cell (i := i / 4) (by rw [HST.out]; omega)
                  have y3 : wr.cell? ⟨wo.heap.size, i, none⟩ = _ := HO.out.cell (i := i) (by rw [outAt_length]; exact hi)
                  have y4 : wr.frozen? ⟨wo.heap.size, i, none⟩ = false := HO.out.free i
                  clear y1
                  go_wp2_with fail
                  go_roundg (32 - (i + 1))
                  case measure => have := HI.out; omega
                  case rel =>
                    refine ⟨i + 1, by simp, ⟨rfl, by omega⟩, ⟨?_⟩, ⟨?_⟩, ⟨?_⟩⟩
                    · exact HO.out.set i (outByte st i)
                    · exact Blk.other HS.out _ _ (Nat.ne_of_lt HSZ8.out)
                    · exact HB.out.setCell (Nat.le_trans HS1.out (Nat.le_trans HB6.out.size (Nat.le_of_lt HSZ8.out))) _
                · obtain rfl : i = 32 := by have := HI.out; omega
                  have d1 : decide (32 < 32) = false := by decide
                  have HZ2 : Aside0 (Blk8 wr w.heap.size 24 (List.replicate 32 0)) := ⟨Blk8.below HZ.out HB.out (Nat.lt_succ_self _)⟩
                  obtain ⟨cs, hcs⟩ : ∃ cs, cs = cells8 (outAt st 32) := ⟨_, rfl⟩
                  have hsz : cs.size = 32 := by rw [hcs, cells8_size, outAt_length]
                  have hall : cs.all (·.oneCell') = true := by rw [hcs]; exact cells8_all _
                  have hB : wr.heap[wo.heap.size]? = some (.cells cs 24 (0, 0)) := by rw [hcs]; exact HO.out
                  have HCS : Aside0 (cs = cells8 (shaOf l)) := ⟨by rw [hcs]; unfold shaOf; rw [HMSG.out, HPL.out, ← HSTE.out]⟩
                  clear hcs
                  have HBB := Aside0.mk hB
                  have HSZ := Aside0.mk hsz
                  have HALL := Aside0.mk hall
                  have hst : (storeCells ⟨w.heap.size, 0, none⟩ cs.toList).run Try.prog wr = .ok () (wr.setRow w.heap.size cs) := by
                    have := run_storeCells_from (P := Try.prog) w.heap.size 24 cs.toList 0 _ wr HZ2.out (by simp [hsz]) (fun v hv => (Array.all_eq_true_iff_forall_mem.1 hall) v (by simpa using hv))
                    simpa using this
                  have HROW := Aside0.mk (setRow_heap wr w.heap.size _ cs 24 (0, 0) HZ2.out)
                  have HBL : Aside0 (Below w.heap.size w (wr.setRow w.heap.size cs)) := ⟨(HBw.out.trans (HB.out.mono (Nat.le_succ _))).trans ⟨rfl, rfl, rfl, by rw [setRow_size]; exact Nat.le_refl _, fun k hk => by rw [setRow_other _ _ _ _ (by omega)]⟩⟩
                  clear hB hall hi
                  go_wp2_with (first
                    | ((with_reducible refine gate_dst (N := 62) rfl ?_); refine wpList_load_row rfl 24 (.tmp 7) rfl wo.heap.size rfl 24 cs (0, 0) _ HBB.out rfl (by kernel_rfl) (by rw [HSZ.out]; kernel_rfl) ?_)
                    | fail)
                  refine bodyPost_ret (v := .agg cs) ?_ rfl ⟨by rw [HCS.out], HBL.out⟩
                  exact results_cell_row (P := Try.prog) Try.results10 _ _ w.heap.size 24 cs (0, 0) _ rfl HROW.out rfl (by kernel_rfl) (by rw [hsz]; kernel_rfl)

end Go.Proofs.Ytenkaaigalcgcaa.X
