/- SignFindsUpto: the walk, the plain law, the row. -/
import Derived.Test.YtchaegfdcdlfaaaG1
import Derived.WalkLawsBesides
import Derived.Test.YtchaegfdcdlfaaaG2
import Derived.Test.YtchaegfdcdlfaaaRows
import Derived.WalkKit
import Derived.ProofKit
import Derived.OpenShut
import Derived.ShutString
import Derived.ChangeOld
import Derived.Below
import Derived.JoinedCond
import Derived.SizedLaws
import Derived.Test.YtchaegfdcdlfaaaWSized

/- sign.Of over a text up to the bound. -/
namespace Go.Proofs.Ytchaegfdcdlfaaa.X
set_option linter.unusedVariables false
set_option linter.unusedSimpArgs false
open Go.RowKit Go.Maps Go.Proofs.YtchaegfdcdlfaaaW.PrintWords Go.Proofs.YtchaegfdcdlfaaaW.PrintLast Go.Proofs.YtchaegfdcdlfaaaW.PrintMore

set_option maxHeartbeats 1000000 in
set_option maxRecDepth 100000 in
theorem signof_callL (s : ByteArray) (w : World) (hs : s.size ≤ 1100000) :
    Calls Try.prog 33 #[.string s] w fun e w' => ∃ v, e = .returned v ∧ sgK.R 30 w' w.heap.size (fun _ => True) v (signOf s) ∧ Below w.heap.size w w' := by
  by_cases h24 : s.size < 24
  · have e1 : decide ((s.size : Int) < 24) = true := by simp; omega
    have e2 : ((s.size : Int) < 24) = True := by simp; omega
    have HE : Aside0 (signOf s = []) := ⟨by simp [signOf, h24]⟩
    clear h24
    go_enter Try.func33, Try.ntmps33
    go_wp2_with fail
    go_ret
    exact ⟨_, rfl, by rw [HE.out]; exact Kd.R_nil _ _ _ _ _, Below.refl _ _⟩
  · have e1 : decide ((s.size : Int) < 24) = false := by simp; omega
    have e2 : ((s.size : Int) < 24) = False := by simp; omega
    have HE : Aside0 (signOf s = blocks s (s.size / 8)) := ⟨by simp [signOf, h24]⟩
    have HN := Aside0.mk h24
    have HZ := Aside0.mk hs
    clear h24 hs
    go_enter Try.func33, Try.ntmps33
    go_wp2_with fail
    go_loopg [0, 3] s.size (fun k v0 v3 w' => ∃ (j : Nat) (t : ByteArray), v0 = .string t ∧ Aside0 (t = s.extract (8 * j) s.size ∧ 8 * j ≤ s.size) ∧ Aside0 (k = t.size) ∧ Aside0 (sgK.R 30 w' w.heap.size (fun _ => True) v3 (blocks s j)) ∧ Aside0 (Below w.heap.size w w'))
    case atStart => exact ⟨0, s, rfl, ⟨by simp, by omega⟩, ⟨rfl⟩, ⟨Kd.R_nil _ _ _ _ _⟩, ⟨Below.refl _ _⟩⟩
    case round =>
      clear e1 e2
      obtain ⟨j, t, rfl, HT, HK, HR, HB⟩ := hrel
      have ht : t.size = s.size - 8 * j := by rw [HT.out.1]; simp
      have HS := Aside0.mk ht
      by_cases h8 : 8 ≤ t.size
      · have e1 : decide (8 ≤ (t.size : Int)) = true := by simp; omega
        have e2 : (8 ≤ (t.size : Int)) = True := by simp; omega
        have HQ : Aside0 (t.extract 0 8 = s.extract (8 * j) (8 * j + 8)) := ⟨by rw [HT.out.1, ByteArray.extract_extract]; congr 1; omega⟩
        have HP : Aside0 (oneOf (t.extract 0 8) = blockAt s j) := ⟨by rw [HQ.out]; rfl⟩
        have HQQ : Aside0 (t.extract 8 t.size = s.extract (8 * (j + 1)) s.size ∧ (t.extract 8 t.size).size = t.size - 8) := ⟨by
          constructor
          · rw [HT.out.1, ByteArray.extract_extract]; simp; congr 1 <;> omega
          · simp⟩
        have H8 := Aside0.mk h8
        clear h8 ht
        go_wp2_with fail
        refine (one_call (t.extract 0 8) _ (by simp; omega)).mono ?_
        rintro e w1 ⟨rfl, hb1⟩
        rw [HP.out]
        have HOK : Aside0 (SgOk (blockAt s j)) := ⟨oneOf_ok _⟩
        obtain ⟨y, hy⟩ : ∃ y, y = blockAt s j := ⟨_, rfl⟩
        rw [← hy] at HOK ⊢
        have HY := Aside0.mk hy
        clear hy
        have HR1 := Aside0.mk (Kd.R_below HR.out hb1)
        have HB1 := Aside0.mk (below_step HB.out hb1)
        have HSZ := Aside0.mk HB1.out.size
        clear hb1
        go_wp2_with (first
          | ((with_reducible refine gate_dst (N := 16) rfl ?_); refine wpList_buildSlice_one rfl 22 30 (.tmp 15) rfl 33 (sgA y) _ Try.underlying22 zeroSig2 (sgA_size HOK.out.len).symm (by decide) (by decide) rfl ?_)
          | ((with_reducible refine gate_builtin (b := .append) (xs := #[.tmp 12, .tmp 16]) rfl ?_); at_builtin; go_loud (refine Kd.R_append sgK (w0 := w) w.heap.size rfl _ _ 22 30 _ 36 rfl Try.underlying22 zeroSig rfl (by decide) (by decide) u3 (blocks s j) y (sgL y) (fun _ => True) (fun k => False) (by rfl) (by rfl) (sgK_M HOK.out.len) (fun k hk => hk.elim) (fun _ _ => trivial) HR1.out HB1.out HSZ.out (by have := HT.out.2; have := HZ.out; rw [blocks_length]; omega) ?_; intro v2 w2 hR2 hB2 hg2 hat2; clear hg2 hat2; have HR2 := Aside0.mk hR2; have HB2 := Aside0.mk hB2; clear hR2 hB2))
          | fail)
        go_roundg (t.size - 8)
        case measure => have := HK.out; have := H8.out; omega
        case rel =>
          refine ⟨j + 1, t.extract 8 t.size, rfl, ⟨HQQ.out.1, by have := HS.out; have := H8.out; omega⟩, ⟨HQQ.out.2.symm⟩, ⟨?_⟩, HB2⟩
          rw [← blocks_snoc, ← HY.out]
          exact HR2.out
      · have e1 : decide (8 ≤ (t.size : Int)) = false := by simp; omega
        have e2 : (8 ≤ (t.size : Int)) = False := by simp; omega
        have hj : j = s.size / 8 := by have := HT.out.2; omega
        have HJ := Aside0.mk hj
        clear h8 ht hj
        go_wp2_with fail
        go_ret
        refine ⟨_, rfl, ?_, HB.out⟩
        rw [HE.out, ← HJ.out]
        exact HR.out
end Go.Proofs.Ytchaegfdcdlfaaa.X

/- A block that is there is found, at its place or ahead: the walk. -/
namespace Go.Proofs.Ytchaegfdcdlfaaa.X
set_option linter.unusedVariables false
set_option linter.unusedSimpArgs false
open Go.RowKit Go.Maps Go.Proofs.YtchaegfdcdlfaaaW.PrintWords Go.Proofs.YtchaegfdcdlfaaaW.PrintLast Go.Proofs.YtchaegfdcdlfaaaW.PrintMore

theorem sign_callL (s : ByteArray) (hs : s.size ≤ 1100000) (l : List Sg) (hl : signOf s = l) (n : Nat) (hn : l.length = n) (w : World) : Calls Try.prog 33 #[.string s] w fun e w' => ∃ A c, e = .returned (.slice A n c) ∧ n ≤ c ∧ sgK.C w' A n l ∧ Below w.heap.size w w' := by
  subst hl
  subst hn
  refine (signof_callL s w hs).mono ?_
  rintro e w' ⟨v, rfl, hR, hb⟩
  obtain ⟨A, c, rfl, hc, hC⟩ := Kd.R_reads hR
  exact ⟨A, c, rfl, hc, hC, hb⟩
theorem find_there (l : List Sg) (q : ByteArray) (y : Sg) (i : Nat) (hi : i < l.length) (hy : l.getD i (0, []) = y) (hq : oneOf q = y) (h8 : q.size = 8) : ∃ k : Nat, findOf l q = (k : Int) ∧ k ≤ i ∧ k < l.length ∧ l.getD k (0, []) = y := by
  have hg : l[i]? = some y := by
    rw [List.getD_eq_getElem?_getD, List.getElem?_eq_getElem hi] at hy
    rw [List.getElem?_eq_getElem hi]
    exact congrArg some hy
  have hm : y ∈ l := List.mem_of_getElem? hg
  obtain ⟨h1, h2, h3⟩ := idxOf_first hm
  refine ⟨l.idxOf y, ?_, ?_, h1, ?_⟩
  · unfold findOf idxI
    rw [if_pos h8, hq, if_pos hm]
  · by_cases h : l.idxOf y ≤ i
    · exact h
    · exact absurd hg (h3 i (by omega))
  · rw [List.getD_eq_getElem?_getD, h2]
    rfl
set_option maxHeartbeats 2000000 in
set_option maxRecDepth 100000 in
theorem finds_off0 (s : ByteArray) (a : Int) (w : World) (hs : s.size ≤ 1100000) (h : 300 < s.size) : Calls Try.prog 4 #[.string s, .int .i64 a] w fun e w' => e = .returned (.bool true) ∧ Below w.heap.size w w' := by
  have e0 : decide ((s.size : Int) > 300) = true := decide_eq_true (by omega)
  have e0b : decide (300 < s.size) = true := decide_eq_true h
  obtain ⟨l, hl⟩ : ∃ l, signOf s = l := ⟨_, rfl⟩
  obtain ⟨n, hn⟩ : ∃ n, l.length = n := ⟨_, rfl⟩
  have HS : Aside0 (s.size ≤ 1100000) := ⟨by omega⟩
  have HL := Aside0.mk hl
  have HN := Aside0.mk hn
  clear hl hn h hs
  go_enter Try.func4, Try.ntmps4
  go_wp2_with fail
  refine (awake10_call _).mono ?_
  rintro e w1 ⟨rfl, hb1⟩
  have HB1 := Aside0.mk hb1
  clear hb1
  go_wp2_with fail
  refine (sign_callL s HS.out l HL.out n HN.out _).mono ?_
  rintro e w2 ⟨A, c, rfl, hc, hr, hb2⟩
  have HB2 := Aside0.mk (below_step HB1.out hb2)
  have HR := Aside0.mk hr
  clear hb2 hr hc HB1
  go_wp2_with fail
  go_ret
  exact ⟨rfl, HB2.out⟩
set_option maxHeartbeats 2000000 in
set_option maxRecDepth 100000 in
theorem finds_off1 (s : ByteArray) (a : Int) (w : World) (h0 : ¬ 300 < s.size) (h : a < 0) : Calls Try.prog 4 #[.string s, .int .i64 a] w fun e w' => e = .returned (.bool true) ∧ Below w.heap.size w w' := by
  have d0 : decide ((s.size : Int) > 300) = false := decide_eq_false (by omega)
  have d0b : decide (300 < s.size) = false := decide_eq_false (by omega)
  have e1 : decide (a < 0) = true := decide_eq_true h
  obtain ⟨l, hl⟩ : ∃ l, signOf s = l := ⟨_, rfl⟩
  obtain ⟨n, hn⟩ : ∃ n, l.length = n := ⟨_, rfl⟩
  have HS : Aside0 (s.size ≤ 1100000) := ⟨by omega⟩
  have HL := Aside0.mk hl
  have HN := Aside0.mk hn
  clear hl hn h h0
  go_enter Try.func4, Try.ntmps4
  go_wp2_with fail
  refine (awake10_call _).mono ?_
  rintro e w1 ⟨rfl, hb1⟩
  have HB1 := Aside0.mk hb1
  clear hb1
  go_wp2_with fail
  refine (sign_callL s HS.out l HL.out n HN.out _).mono ?_
  rintro e w2 ⟨A, c, rfl, hc, hr, hb2⟩
  have HB2 := Aside0.mk (below_step HB1.out hb2)
  have HR := Aside0.mk hr
  clear hb2 hr hc HB1
  go_wp2_with fail
  go_ret
  exact ⟨rfl, HB2.out⟩
set_option maxHeartbeats 2000000 in
set_option maxRecDepth 100000 in
theorem finds_off2 (s : ByteArray) (i : Nat) (w : World) (h0 : ¬ 300 < s.size) (h : (signOf s).length ≤ i) : Calls Try.prog 4 #[.string s, .int .i64 (i : Int)] w fun e w' => e = .returned (.bool true) ∧ Below w.heap.size w w' := by
  have d0 : decide ((s.size : Int) > 300) = false := decide_eq_false (by omega)
  have d0b : decide (300 < s.size) = false := decide_eq_false (by omega)
  have d1 : decide ((i : Int) < 0) = false := decide_eq_false (by omega)
  obtain ⟨l, hl⟩ : ∃ l, signOf s = l := ⟨_, rfl⟩
  obtain ⟨n, hn⟩ : ∃ n, l.length = n := ⟨_, rfl⟩
  have HS : Aside0 (s.size ≤ 1100000) := ⟨by omega⟩
  have HL := Aside0.mk hl
  have HN := Aside0.mk hn
  have hin : n ≤ i := by rw [← hn, ← hl]; exact h
  have f2 : decide ((i : Int) ≥ (n : Int)) = true := by simp; omega
  have f2b : ((n : Int) ≤ (i : Int)) = True := by simp; omega
  have f2n : decide (n ≤ i) = true := by simp; omega
  clear hl hn h h0 hin
  go_enter Try.func4, Try.ntmps4
  go_wp2_with fail
  refine (awake10_call _).mono ?_
  rintro e w1 ⟨rfl, hb1⟩
  have HB1 := Aside0.mk hb1
  clear hb1
  go_wp2_with fail
  refine (sign_callL s HS.out l HL.out n HN.out _).mono ?_
  rintro e w2 ⟨A, c, rfl, hc, hr, hb2⟩
  have HB2 := Aside0.mk (below_step HB1.out hb2)
  have HR := Aside0.mk hr
  clear hb2 hr hc HB1
  go_wp2_with fail
  go_ret
  exact ⟨rfl, HB2.out⟩
set_option maxHeartbeats 2000000 in
set_option maxRecDepth 100000 in
theorem finds_on (s : ByteArray) (i : Nat) (w : World) (h0 : ¬ 300 < s.size) (h : i < (signOf s).length) : Calls Try.prog 4 #[.string s, .int .i64 (i : Int)] w fun e w' => e = .returned (.bool true) ∧ Below w.heap.size w w' := by
  have d0 : decide ((s.size : Int) > 300) = false := decide_eq_false (by omega)
  have d0b : decide (300 < s.size) = false := decide_eq_false (by omega)
  have d1 : decide ((i : Int) < 0) = false := decide_eq_false (by omega)
  obtain ⟨l, hl⟩ : ∃ l, signOf s = l := ⟨_, rfl⟩
  obtain ⟨n, hn⟩ : ∃ n, l.length = n := ⟨_, rfl⟩
  have HS : Aside0 (s.size ≤ 1100000) := ⟨by omega⟩
  have HL := Aside0.mk hl
  have HN := Aside0.mk hn
  have hin : i < n := by rw [← hn, ← hl]; exact h
  have h24 : ¬ s.size < 24 := fun h24 => by rw [← hn, ← hl] at hin; unfold signOf at hin; rw [if_pos h24] at hin; simp at hin
  have hbl : l = blocks s (s.size / 8) := by rw [← hl]; unfold signOf; rw [if_neg h24]
  have hnl : n = s.size / 8 := by rw [← hn, hbl, blocks_length]
  have h8 : 8 * i + 8 ≤ s.size := by omega
  obtain ⟨y, hy⟩ : ∃ y, blockAt s i = y := ⟨_, rfl⟩
  have hyi : l.getD i (0, []) = y := by rw [hbl, blocks_get s _ i (by omega), hy]
  obtain ⟨p0, hp0⟩ : ∃ p0 : Nat, p0 = 8 * i := ⟨_, rfl⟩
  obtain ⟨p1, hp1⟩ : ∃ p1 : Nat, p1 = 8 * i + 8 := ⟨_, rfl⟩
  have hcut := cut_text s p0 p1 (by omega) (by omega)
  obtain ⟨q, hq⟩ : ∃ q, q = s.extract p0 p1 := ⟨_, rfl⟩
  rw [← hq] at hcut
  have hq8 : q.size = 8 := by rw [hq]; simp; omega
  have hqy : oneOf q = y := by rw [hq, ← hy, hp0, hp1]; rfl
  obtain ⟨k, hk, hki, hkl, hyk⟩ := find_there l q y i (by omega) hyi hqy hq8
  have hkn : k < n := by omega
  have HFK := Aside0.mk hk
  have HK := Aside0.mk hkn
  have HYK := Aside0.mk hyk
  have HYI := Aside0.mk hyi
  have HI := Aside0.mk hin
  have HQ8 : Aside0 (q.size ≤ 1000) := ⟨by omega⟩
  have HN6 : Aside0 (n ≤ 60) := ⟨by omega⟩
  have HY : Aside0 (SgOk y) := ⟨by rw [← hqy]; exact oneOf_ok q⟩
  have HOK : Aside0 (∀ x ∈ l, SgOk x) := ⟨by rw [← hl]; exact signOf_ok s⟩
  have f1 : IntKind.i64.wrap (8 * (i : Int)) = (p0 : Int) := by simp [IntKind.wrap, IntKind.bits, IntKind.signed]; omega
  have f1b : IntKind.i64.wrap ((p0 : Int) + 8) = (p1 : Int) := by simp [IntKind.wrap, IntKind.bits, IntKind.signed]; omega
  have f2 : decide ((i : Int) ≥ (n : Int)) = false := by simp; omega
  have f2b : ((n : Int) ≤ (i : Int)) = False := by simp; omega
  have f2n : decide (n ≤ i) = false := by simp; omega
  have f3 : decide ((s.size : Int) < (p1 : Int)) = false := by simp; omega
  have f3b : ((s.size : Int) < (p1 : Int)) = False := by simp; omega
  have f3n : decide (s.size < p1) = false := by simp; omega
  have f4 : decide ((k : Int) ≥ 0) = true := by simp
  have f4b : (0 ≤ (k : Int)) = True := by simp
  have f5 : decide ((k : Int) ≤ (i : Int)) = true := by simp; omega
  have f5b : ((k : Int) ≤ (i : Int)) = True := by simp; omega
  have f5n : decide (k ≤ i) = true := by simp; omega
  have f6 : ((k : Int) < (n : Int)) = True := by simp; omega
  have f7 : ((i : Int) < (n : Int)) = True := by simp; omega
  have f8 : (0 ≤ (i : Int)) = True := by simp
  clear hl hn h h0 hin h24 hbl hnl h8 hy hyi hp0 hp1 hq hq8 hqy hk hki hkl hyk hkn
  go_enter Try.func4, Try.ntmps4
  go_wp2_with fail
  refine (awake10_call _).mono ?_
  rintro e w1 ⟨rfl, hb1⟩
  have HB1 := Aside0.mk hb1
  clear hb1
  go_wp2_with fail
  refine (sign_callL s HS.out l HL.out n HN.out _).mono ?_
  rintro e w2 ⟨A, c, rfl, hc, hr, hb2⟩
  have HB2 := Aside0.mk (below_step HB1.out hb2)
  have HR := Aside0.mk hr
  clear hb2 hr hc HB1
  go_wp2_with fail
  obtain ⟨ad, hA, _⟩ := sg_at HR.out HI.out y HYI.out
  subst hA
  refine (find_callB HN.out (some ad) c q _ HR.out HOK.out (by have := HN6.out; omega) (by have := HQ8.out; omega) (k : Int) HFK.out).mono ?_
  rintro e w3 ⟨rfl, hb3⟩
  have HB3 := Aside0.mk (below_step HB2.out hb3)
  have HR := Aside0.mk (Kd.C_below HR.out hb3)
  clear hb3 HB2
  go_wp2_with fail
  refine wp_region_held_drew (S := (fun W => sgK.C W (some ad) n l ∧ Below w.heap.size w W)) (by kernel_rfl) ((And.intro HR.out (below_drew HB3.out))) (fun hHeld => ?_)
  refine wpAnyH_take (i := 0) (v := ?_) (by simp only [List.getElem?_toArray, List.getElem?_cons_succ, List.getElem?_cons_zero]; rfl) (by kernel_rfl) (by kernel_rfl) (by kernel_rfl) (by intro _ _ _ h; exact h) (Or.inl ⟨by rfl, ?hy⟩) (by assumption) ?_
  case hy => (intro W_ hW_; go_simp; first | done | with_reducible rfl)
  try simp only [Act.put, List.setIfInBounds_toArray, List.set_cons_zero, List.set_cons_succ]
  refine wpAnyH_take (i := 1) (v := ?_) (by simp only [List.getElem?_toArray, List.getElem?_cons_succ, List.getElem?_cons_zero]; rfl) (by kernel_rfl) (by kernel_rfl) (by kernel_rfl) (by intro _ _ _ h; exact h) (Or.inl ⟨by rfl, ?hy⟩) (by assumption) ?_
  case hy => (intro W_ hW_; go_simp; first | done | with_reducible rfl)
  try simp only [Act.put, List.setIfInBounds_toArray, List.set_cons_zero, List.set_cons_succ]
  refine wpAnyH_take (i := 2) (v := ?_) (by simp only [List.getElem?_toArray, List.getElem?_cons_succ, List.getElem?_cons_zero]; rfl) (by kernel_rfl) (by kernel_rfl) (by kernel_rfl) (by intro _ _ _ h; exact h) (Or.inl ⟨by rfl, ?hy⟩) (by assumption) ?_
  case hy => (intro W_ hW_; go_simp; first | done | with_reducible rfl)
  try simp only [Act.put, List.setIfInBounds_toArray, List.set_cons_zero, List.set_cons_succ]
  refine wpAnyH_take (i := 3) (v := ?_) (by simp only [List.getElem?_toArray, List.getElem?_cons_succ, List.getElem?_cons_zero]; rfl) (by kernel_rfl) (by kernel_rfl) (by kernel_rfl) (by intro _ _ _ h; exact h) (Or.inl ⟨by rfl, ?hy⟩) (by assumption) ?_
  case hy => (intro W_ hW_; go_simp; first | done | with_reducible rfl)
  try simp only [Act.put, List.setIfInBounds_toArray, List.set_cons_zero, List.set_cons_succ]
  refine wpAnyH_take (i := 4) (v := ?_) (by simp only [List.getElem?_toArray, List.getElem?_cons_succ, List.getElem?_cons_zero]; rfl) (by kernel_rfl) (by kernel_rfl) (by kernel_rfl) (by intro _ _ _ h; exact h) (Or.inl ⟨by rfl, ?hy⟩) (by assumption) ?_
  case hy => (intro W_ hW_; go_simp; first | done | with_reducible rfl)
  try simp only [Act.put, List.setIfInBounds_toArray, List.set_cons_zero, List.set_cons_succ]
  refine wpAnyH_take (i := 5) (v := ?_) (by simp only [List.getElem?_toArray, List.getElem?_cons_succ, List.getElem?_cons_zero]; rfl) (by kernel_rfl) (by kernel_rfl) (by kernel_rfl) (by intro _ _ _ h; exact h) (Or.inl ⟨by rfl, ?hy⟩) (by assumption) ?_
  case hy => (intro W_ hW_; go_simp; first | done | with_reducible rfl)
  try simp only [Act.put, List.setIfInBounds_toArray, List.set_cons_zero, List.set_cons_succ]
  refine wpAnyH_take (i := 6) (v := ?_) (by simp only [List.getElem?_toArray, List.getElem?_cons_succ, List.getElem?_cons_zero]; rfl) (by kernel_rfl) (by kernel_rfl) (by kernel_rfl) (by intro _ _ _ h; exact h) (Or.inl ⟨by rfl, ?hy⟩) (by assumption) ?_
  case hy => (intro W_ hW_; go_simp; first | done | with_reducible rfl)
  try simp only [Act.put, List.setIfInBounds_toArray, List.set_cons_zero, List.set_cons_succ]
  refine wpAnyH_take (i := 7) (v := ?_) (by simp only [List.getElem?_toArray, List.getElem?_cons_succ, List.getElem?_cons_zero]; rfl) (by kernel_rfl) (by kernel_rfl) (by kernel_rfl) (by intro _ _ _ h; exact h) (Or.inl ⟨by rfl, ?hy⟩) (by assumption) ?_
  case hy => (intro W_ hW_; go_simp; first | done | with_reducible rfl)
  try simp only [Act.put, List.setIfInBounds_toArray, List.set_cons_zero, List.set_cons_succ]
  refine wpAnyH_take (i := 8) (v := ?_) (by simp only [List.getElem?_toArray, List.getElem?_cons_succ, List.getElem?_cons_zero]; rfl) (by kernel_rfl) (by kernel_rfl) (by kernel_rfl) (by intro _ _ _ h; exact h) (Or.inl ⟨by rfl, ?hy⟩) (by assumption) ?_
  case hy => (intro W_ hW_; go_simp; first | done | with_reducible rfl)
  try simp only [Act.put, List.setIfInBounds_toArray, List.set_cons_zero, List.set_cons_succ]
  refine wpAnyH_take (i := 9) (v := ?_) (by simp only [List.getElem?_toArray, List.getElem?_cons_succ, List.getElem?_cons_zero]; rfl) (by kernel_rfl) (by kernel_rfl) (by kernel_rfl) (by intro _ _ _ h; exact h) (Or.inl ⟨by rfl, ?hy⟩) (by assumption) ?_
  case hy => (intro W_ hW_; go_simp; first | done | with_reducible rfl)
  try simp only [Act.put, List.setIfInBounds_toArray, List.set_cons_zero, List.set_cons_succ]
  refine wpAnyH_take (i := 10) (v := ?_) (by simp only [List.getElem?_toArray, List.getElem?_cons_succ, List.getElem?_cons_zero]; rfl) (by kernel_rfl) (by kernel_rfl) (by kernel_rfl) (by intro _ _ _ h; exact h) (Or.inl ⟨by rfl, ?hy⟩) (by assumption) ?_
  case hy => (intro W_ hW_; go_simp; first | done | with_reducible rfl)
  try simp only [Act.put, List.setIfInBounds_toArray, List.set_cons_zero, List.set_cons_succ]
  refine wpAnyH_take (i := 11) (v := ?_) (by simp only [List.getElem?_toArray, List.getElem?_cons_succ, List.getElem?_cons_zero]; rfl) (by kernel_rfl) (by kernel_rfl) (by kernel_rfl) (by intro _ _ _ h; exact h) (Or.inl ⟨by rfl, ?hy⟩) (by assumption) ?_
  case hy => (intro W_ hW_; refine Eq.trans (exec_load_cells 30 (.tmp 54) ?_ (ad.add (k * 33)) ?_ (sgA y) _ (sg_at' hW_.1 HK.out y HYK.out) Try.underlying30 rfl (sgInfo HY.out.len)) ?_ <;> (first | with_reducible rfl | rfl))
  try simp only [Act.put, List.setIfInBounds_toArray, List.set_cons_zero, List.set_cons_succ]
  refine wpAnyH_take (i := 12) (v := ?_) (by simp only [List.getElem?_toArray, List.getElem?_cons_succ, List.getElem?_cons_zero]; rfl) (by kernel_rfl) (by kernel_rfl) (by kernel_rfl) (by intro _ _ _ h; exact h) (Or.inl ⟨by rfl, ?hy⟩) (by assumption) ?_
  case hy => (intro W_ hW_; go_simp; first | done | with_reducible rfl)
  try simp only [Act.put, List.setIfInBounds_toArray, List.set_cons_zero, List.set_cons_succ]
  refine wpAnyH_take (i := 13) (v := ?_) (by simp only [List.getElem?_toArray, List.getElem?_cons_succ, List.getElem?_cons_zero]; rfl) (by kernel_rfl) (by kernel_rfl) (by kernel_rfl) (by intro _ _ _ h; exact h) (Or.inl ⟨by rfl, ?hy⟩) (by assumption) ?_
  case hy => (intro W_ hW_; go_simp; first | done | with_reducible rfl)
  try simp only [Act.put, List.setIfInBounds_toArray, List.set_cons_zero, List.set_cons_succ]
  refine wpAnyH_take (i := 14) (v := ?_) (by simp only [List.getElem?_toArray, List.getElem?_cons_succ, List.getElem?_cons_zero]; rfl) (by kernel_rfl) (by kernel_rfl) (by kernel_rfl) (by intro _ _ _ h; exact h) (Or.inl ⟨by rfl, ?hy⟩) (by assumption) ?_
  case hy => (intro W_ hW_; go_simp; first | done | with_reducible rfl)
  try simp only [Act.put, List.setIfInBounds_toArray, List.set_cons_zero, List.set_cons_succ]
  refine wpAnyH_take (i := 15) (v := ?_) (by simp only [List.getElem?_toArray, List.getElem?_cons_succ, List.getElem?_cons_zero]; rfl) (by kernel_rfl) (by kernel_rfl) (by kernel_rfl) (by intro _ _ _ h; exact h) (Or.inl ⟨by rfl, ?hy⟩) (by assumption) ?_
  case hy => (intro W_ hW_; refine Eq.trans (exec_load_cells 30 (.tmp 58) ?_ (ad.add (i * 33)) ?_ (sgA y) _ (sg_at' hW_.1 HI.out y HYI.out) Try.underlying30 rfl (sgInfo HY.out.len)) ?_ <;> (first | with_reducible rfl | rfl))
  try simp only [Act.put, List.setIfInBounds_toArray, List.set_cons_zero, List.set_cons_succ]
  refine wpAnyH_take (i := 16) (v := ?_) (by simp only [List.getElem?_toArray, List.getElem?_cons_succ, List.getElem?_cons_zero]; rfl) (by kernel_rfl) (by kernel_rfl) (by kernel_rfl) (by intro _ _ _ h; exact h) (Or.inl ⟨by rfl, ?hy⟩) (by assumption) ?_
  case hy => (intro W_ hW_; refine Eq.trans (exec_eql_sg y y HY.out HY.out (.tmp 55) (.tmp 59) ?_ ?_ ?_) ?_ <;> (first | with_reducible rfl | rfl))
  try simp only [Act.put, List.setIfInBounds_toArray, List.set_cons_zero, List.set_cons_succ]
  refine wpAnyH_take (i := 17) (v := ?_) (by simp only [List.getElem?_toArray, List.getElem?_cons_succ, List.getElem?_cons_zero]; rfl) (by kernel_rfl) (by kernel_rfl) (by kernel_rfl) (by intro _ _ _ h; exact h) (Or.inl ⟨by rfl, ?hy⟩) (by assumption) ?_
  case hy => (intro W_ hW_; go_simp; first | done | with_reducible rfl)
  try simp only [Act.put, List.setIfInBounds_toArray, List.set_cons_zero, List.set_cons_succ]
  refine wpAnyH_take (i := 18) (v := ?_) (by simp only [List.getElem?_toArray, List.getElem?_cons_succ, List.getElem?_cons_zero]; rfl) (by kernel_rfl) (by kernel_rfl) (by kernel_rfl) (by intro _ _ _ h; exact h) (Or.inl ⟨by rfl, ?hy⟩) (by assumption) ?_
  case hy => (intro W_ hW_; go_simp; first | done | with_reducible rfl)
  try simp only [Act.put, List.setIfInBounds_toArray, List.set_cons_zero, List.set_cons_succ]
  refine wpAnyH_done (by kernel_rfl) ?_ _
  go_wp2_with fail
  go_ret
  exact ⟨rfl, hHeld.2⟩
theorem rolodexlaw10_SignFinds.walk (s : ByteArray) (a : Int) (w : World) (hs : s.size ≤ 1048576) : Calls Try.prog 4 #[.string s, .int .i64 a] w fun e w' => e = .returned (.bool true) ∧ Below w.heap.size w w' := by
  by_cases h0 : 300 < s.size
  · exact finds_off0 s a w (by omega) h0
  · by_cases h1 : a < 0
    · exact finds_off1 s a w h0 h1
    · obtain ⟨i, rfl⟩ := Int.eq_ofNat_of_zero_le (show 0 ≤ a by omega)
      by_cases h2 : (signOf s).length ≤ i
      · exact finds_off2 s i w h0 h2
      · exact finds_on s i w h0 (by omega)
end Go.Proofs.Ytchaegfdcdlfaaa.X

/- The row of SignFinds, over the walk that is proved by hand. -/
namespace Go.Proofs.Ytchaegfdcdlfaaa.signFinds
open Go.ChangeShapes Go.WideShapes Go.ChangeAt Go.RowKit
open Go.ChangeMaps (open_string shut_string)
set_option linter.unusedVariables false
theorem own : ownKnob Try.prog.godebug = none := by kernel_rfl
theorem laidOut : laidOutB Try.prog = true := by kernel_rfl
def IsRow (k : IntKind) (w : World) (a : Option Addr) (len cap : Nat) (zs : List Int) : Prop :=
  (a = none ∧ len = 0 ∧ cap = 0 ∧ zs = []) ∨
  ∃ x, a = some x ∧ len ≤ cap ∧ cap ≤ maxLen ∧ zs.length = cap ∧ (∀ i, i < zs.length → w.cell? (x.add i) = some (.int k (zs.getD i 0))) ∧ ∀ n ∈ zs, (Lit.int k n).wf = true
theorem short {H : Type} {s : ByteArray} {l : List (DataW H)} (hk : Rows.uptoSmall H l = true) (hm : DataW.lit (H := H) (.string s.data.toList) ∈ l) : s.size ≤ 1048576 := by
  have h : Rows.uptoBulkAll l ≤ 1048576 := of_decide_eq_true hk
  have hp : ∀ l : List (DataW H), DataW.lit (H := H) (.string s.data.toList) ∈ l → Rows.uptoBulk (DataW.lit (H := H) (.string s.data.toList)) ≤ Rows.uptoBulkAll l := by
    intro l
    induction l with
    | nil => intro h; cases h
    | cons x r ih =>
      intro h
      simp only [Rows.uptoBulkAll]
      cases List.mem_cons.1 h with
      | inl e => subst e; omega
      | inr e => have := ih e; omega
  have h2 := hp l hm
  simp only [Rows.uptoBulk] at h2
  have e : s.data.toList.length = s.size := by rw [Array.length_toList]; rfl
  omega
set_option maxRecDepth 100000 in
theorem lifted (os : Os) (started : os.Started) (H : Type) (enc : TypeId × Value → H) (F : Stop.Interp) :
    ReturnsInHanded {} Try.checked os 4 .any ((Rows.OpenSpec.upto Rows.signFindsSpec).pre6 enc Try.prog Try.f4 Rows.signFindsUptoRow.domain false) (((Rows.OpenSpec.upto Rows.signFindsSpec).at F).post enc Try.prog Try.f4 false true false false) := by
  refine returnsInHanded_of_cond (C := Try.checked) (s := Rows.OpenSpec.upto Rows.signFindsSpec) (k := Rows.uptoSmall) rfl own started (by kernel_rfl) Try.func4
    (OpenSpec.witness (enc := enc) (C := Try.checked) (s := Rows.OpenSpec.upto Rows.signFindsSpec) (k := Rows.uptoSmall) rfl false ⟨#[], #[.string ByteArray.empty, .int .i64 0], []⟩ 8 (by kernel_rfl) (by kernel_rfl) (by kernel_rfl)
      (x := ([.lit (.string []), .lit (.int .i64 0)], [], [])) (by kernel_rfl) rfl (by kernel_rfl)) ?_
  intro W base args ds gs before hval0 hW _ hk _
  have hval : ∀ (j : Nat) t v, Try.f4.params[j]? = some t → args[j]? = some v → Value.okWide Try.prog W .any base t v := hval0
  have hW' := hW
  obtain ⟨p, q, hA0, hV, rfl, hfz, hnd⟩ := hW
  have hA : DataW.TrodAll enc Try.prog W 0 (fun _ => true) true Try.f4.params.toList args.toList ds p := hA0
  rw [Try.params4] at hA hval
  obtain ⟨v0, vs0, d0, ds0, p0, q0, hargs, rfl, rfl, h0, r0⟩ := trodAll_cons hA
  obtain ⟨v1, vs1, d1, ds1, p1, q1, rfl, rfl, rfl, h1, r1⟩ := trodAll_cons r0
  obtain ⟨rfl, rfl, rfl⟩ := trodAll_nil r1
  obtain rfl : args = #[v0, v1] := by cases args; simp_all
  obtain ⟨rfl, rfl⟩ := trodVars_none hV
  obtain ⟨a0, rfl, rfl, rfl, y0⟩ := open_string Try.underlying9 (hval 0 9 v0 rfl rfl) h0
  have w0 : a0.size ≤ 1048576 := short hk (by simp)
  obtain ⟨a1, rfl, rfl, rfl, w1⟩ := open_int Try.underlying3 (hval 1 3 v1 rfl rfl) h1
  refine (X.rolodexlaw10_SignFinds.walk a0 a1 W w0).mono fun e W' ⟨he, bel⟩ => ?_
  subst he
  exact ⟨_, rfl, _, _, _, [], _, [], hW', trodAll_mk1 (shut_bool Try.underlying4 _), (trodAll_cons_mk (shut_string Try.underlying9 y0) (trodAll_cons_mk (shut_int Try.underlying3 w1) trodAll_mk0)), rfl, bel.frame _, fun h => by cases h⟩
theorem clos0 : (J.closT Try.prog 185 [4] []).isSome = true := by kernel_rfl
theorem clos1 : Try.prog.closure 4 = (J.closT Try.prog 185 [4] []).getD [] := J.clos_eq (of_decide_eq_true (by kernel_rfl)) clos0
theorem fact1 : Try.prog.inPlace 4 = [] := by unfold Program.inPlace; rw [clos1]; kernel_rfl
theorem fact2 : Try.prog.unfollowed 4 = false := by unfold Program.unfollowed; rw [clos1]; kernel_rfl
theorem fact3 : Try.prog.recurses 4 = false := by unfold Program.recurses; rw [fact2, clos1, Bool.false_or]; exact J.no_back (n := 185) (of_decide_eq_true (by kernel_rfl)) (by kernel_rfl)
theorem fact4 : Try.prog.varsNamed 4 = [] := by unfold Program.varsNamed; rw [clos1]; kernel_rfl
set_option maxRecDepth 100000 in
theorem facts : joinedFacts Try.prog 4 Try.f4 (Rows.OpenSpec.upto Rows.signFindsSpec).bare Rows.signFindsUptoRow = true := by
  unfold joinedFacts
  simp only [Bool.and_eq_true]
  repeat' apply And.intro
  all_goals first | (with_reducible exact J.mayEnter) | (rw [J.liftsFinal]; kernel_rfl) | (rw [J.make]; kernel_rfl) | (rw [fact1]; kernel_rfl) | (rw [fact2]; kernel_rfl) | (rw [fact3]; kernel_rfl) | (rw [fact4]; kernel_rfl) | kernel_rfl
theorem over : Rows.signFindsUptoRow.holds Try.pinned (Rows.OpenSpec.upto Rows.signFindsSpec) :=
  OpenClaim.holds_of_cond 4 Try.f4 rfl rfl rfl rfl rfl rfl rfl ⟨rfl, rfl, rfl, rfl, rfl⟩ rfl rfl rfl rfl rfl (by kernel_rfl) Try.func4 facts
    (of_decide_eq_true (by kernel_rfl)) (by unfold Func.isWrapper; first | (rw [if_pos (by decide +kernel)]; kernel_rfl) | (rw [if_neg (by decide +kernel)]; exact ⟨rfl, rfl⟩))
    (fun os started H enc _ F => lifted os started H enc F)
theorem proved : Rows.SignFindsUptoSaid := over
#print axioms proved
end Go.Proofs.Ytchaegfdcdlfaaa.signFinds
namespace Go.Proofs.Ytchaegfdcdlfaaa
/-- The row, under a short name, for the claim. -/
theorem signFindsUpto_holds : Rows.SignFindsUptoSaid := signFinds.proved
end Go.Proofs.Ytchaegfdcdlfaaa
