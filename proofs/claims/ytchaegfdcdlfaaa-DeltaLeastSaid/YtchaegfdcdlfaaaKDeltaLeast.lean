/- DeltaLeast: the walk, the plain law, the row. -/
import Derived.WalkLawsBesides
import Derived.Test.YtchaegfdcdlfaaaE5
import Derived.Test.YtchaegfdcdlfaaaRows
import Derived.WalkKit
import Derived.ProofKit
import Derived.OpenShut
import Derived.ShutString
import Derived.ChangeOld
import Derived.Below
import Derived.SizedLaws

/- Of a value itself no text is made: the walk. -/
namespace Go.Proofs.Ytchaegfdcdlfaaa.X
set_option linter.unusedVariables false
set_option linter.unusedSimpArgs false
open Go.RowKit Go.Maps Go.Proofs.YtchaegfdcdlfaaaW.PrintWords Go.Proofs.YtchaegfdcdlfaaaW.PrintLast Go.Proofs.YtchaegfdcdlfaaaW.PrintMore

theorem makeF_len (sig : List Sg) (s : ByteArray) (hs : s.size ≤ 1000000) : (makeF sig s.size [] s).length ≤ s.size := by
  obtain ⟨t, h0, h1⟩ := makeF_ind sig (fun l t => l.length + t.size ≤ s.size)
    (by
      intro l t i h h8 _
      have := blockL_len l ((i : Int) * 8)
      simp only [ByteArray.size_extract]
      omega)
    (by
      intro l t h h8 _
      have := litL_len l (t.extract 0 1)
      simp only [ByteArray.size_extract]
      omega)
    s.size [] s (Nat.le_refl _) (by simp)
  omega
theorem makeF_nonneg (sig : List Sg) (s : ByteArray) (hs : s.size ≤ 1000000) : ∀ p ∈ makeF sig s.size [] s, 0 ≤ p.f2 := by
  obtain ⟨t, h0, _, h1⟩ := makeF_ind sig (fun l t => t.size ≤ s.size ∧ ∀ p ∈ l, 0 ≤ p.f2 ∧ p.f2 + (t.size : Int) ≤ (s.size : Int))
    (by
      rintro l t i ⟨ht, h⟩ h8 _
      have e : (t.extract 8 t.size).size = t.size - 8 := by simp only [ByteArray.size_extract]; omega
      rw [e]
      refine ⟨by omega, ?_⟩
      have hnew : (0 : Int) ≤ 8 ∧ (8 : Int) + ((t.size - 8 : Nat) : Int) ≤ (s.size : Int) := by omega
      rcases snoc_cases l with rfl | ⟨m, p, rfl⟩
      · rw [blockL_nil]
        intro q hq
        rw [List.mem_singleton.1 hq]
        exact hnew
      · have hp := h p (by simp)
        rw [blockL_snoc]
        split
        · have ew : IntKind.i64.wrap (p.f2 + 8) = p.f2 + 8 := wrap_ok _ (by omega) (by omega)
          rw [ew]
          intro q hq
          rcases List.mem_append.1 hq with hq | hq
          · have := h q (by simp [hq])
            omega
          · rw [List.mem_singleton.1 hq]
            show 0 ≤ p.f2 + 8 ∧ p.f2 + 8 + _ ≤ _
            omega
        · intro q hq
          rcases List.mem_append.1 hq with hq | hq
          · have := h q hq
            omega
          · rw [List.mem_singleton.1 hq]
            exact hnew)
    (by
      rintro l t ⟨ht, h⟩ h8 _
      have e : (t.extract 1 t.size).size = t.size - 1 := by simp only [ByteArray.size_extract]; omega
      rw [e]
      refine ⟨by omega, ?_⟩
      have hnew : (0 : Int) ≤ 0 ∧ (0 : Int) + ((t.size - 1 : Nat) : Int) ≤ (s.size : Int) := by omega
      rcases snoc_cases l with rfl | ⟨m, p, rfl⟩
      · rw [litL_nil]
        intro q hq
        rw [List.mem_singleton.1 hq]
        exact hnew
      · have hp := h p (by simp)
        rw [litL_snoc]
        split
        · intro q hq
          rcases List.mem_append.1 hq with hq | hq
          · have := h q (by simp [hq])
            omega
          · rw [List.mem_singleton.1 hq]
            show 0 ≤ p.f2 ∧ p.f2 + _ ≤ _
            omega
        · intro q hq
          rcases List.mem_append.1 hq with hq | hq
          · have := h q hq
            omega
          · rw [List.mem_singleton.1 hq]
            exact hnew)
    s.size [] s (Nat.le_refl _) ⟨by omega, by simp⟩
  exact fun p hp => (h1 p hp).1
theorem sum_pos : ∀ {l : List S67}, (∀ p ∈ l, 0 ≤ p.f2) → 0 ≤ sumP l
  | [], _ => by rw [sumP_nil]; omega
  | p :: l, h => by
    rw [sumP_cons]
    have h1 := sum_pos (l := l) (fun q hq => h q (by simp [hq]))
    have h2 := h p (by simp)
    omega
theorem sum_next (R : List S67) (j : Nat) (h : j < R.length) (hn : ∀ p ∈ R, 0 ≤ p.f2) : sumP (R.take (j + 1)) = sumP (R.take j) + ((R.getD j z67).f2 + ((R.getD j z67).f3.size : Int)) ∧ 0 ≤ (R.getD j z67).f2 ∧ 0 ≤ sumP (R.take j) ∧ sumP (R.take j) + ((R.getD j z67).f2 + ((R.getD j z67).f3.size : Int)) ≤ sumP R := by
  have e : sumP (R.take (j + 1)) = sumP (R.take j) + ((R.getD j z67).f2 + ((R.getD j z67).f3.size : Int)) := by rw [take_snocD R j h, sumP_append, sumP_one]
  have h1 : 0 ≤ sumP (R.drop (j + 1)) := sum_pos (fun p hp => hn p (List.mem_of_mem_drop hp))
  have h2 : 0 ≤ sumP (R.take j) := sum_pos (fun p hp => hn p (List.mem_of_mem_take hp))
  have h3 : sumP R = sumP (R.take (j + 1)) + sumP (R.drop (j + 1)) := by rw [← sumP_append, List.take_append_drop]
  refine ⟨e, hn _ ?_, h2, by omega⟩
  rw [List.getD_eq_getElem?_getD, List.getElem?_eq_getElem h]
  exact List.getElem_mem h
set_option maxHeartbeats 4000000 in
set_option maxRecDepth 100000 in
theorem down_off (s : ByteArray) (w : World) (h : 200 < s.size) : Calls Try.prog 18 #[.string s] w fun e w' => e = .returned (.bool true) ∧ Below w.heap.size w w' := by
  have d0 : decide ((s.size : Int) > 200) = true := decide_eq_true (by omega)
  have d1 : decide (200 < s.size) = true := decide_eq_true h
  go_enter Try.func18, Try.ntmps18
  go_wp2_with fail
  refine (awake11_call _).mono ?_
  rintro e w1 ⟨rfl, hb1⟩
  have HB1 := Aside0.mk hb1
  clear hb1
  go_wp2_with fail
  go_ret
  exact ⟨rfl, HB1.out⟩
set_option maxHeartbeats 4000000 in
set_option maxRecDepth 100000 in
theorem down_nil (s : ByteArray) (w : World) (h : s.size = 0) : Calls Try.prog 18 #[.string s] w fun e w' => e = .returned (.bool true) ∧ Below w.heap.size w w' := by
  have d0 : decide ((s.size : Int) > 200) = false := decide_eq_false (by omega)
  have d1 : decide (200 < s.size) = false := decide_eq_false (by omega)
  have g1 : s.toList.isEmpty = true := by rw [toList_nil h]; rfl
  have H := Aside0.mk h
  clear h
  go_enter Try.func18, Try.ntmps18
  go_wp2_with fail
  refine (awake11_call _).mono ?_
  rintro e w1 ⟨rfl, hb1⟩
  have HB1 := Aside0.mk hb1
  clear hb1
  go_wp2_with fail
  refine (make_callB (sig := []) (n := 0) rfl none 0 s _ (sg_nil _) (by simp) (by omega) (by have := H.out; omega) [] (makeF_end _ _ _ _ H.out) 0 rfl).mono ?_
  rintro e w2 ⟨A1, c1, rfl, hc1, hr1, hb2⟩
  have HB2 := Aside0.mk (below_step HB1.out hb2)
  clear hc1 hr1 hb2
  go_wp2_with fail
  go_ret
  exact ⟨rfl, HB2.out⟩
theorem pos_of_sum {l : List S67} {n : Nat} (h : sumP l = (n : Int)) (h0 : 0 < n) : 0 < l.length := by
  cases l with
  | nil => rw [sumP_nil] at h; omega
  | cons a l => simp
theorem pc_one {W : World} {A : Option Addr} {p : S67} (h : Kd.C k67 W A 1 [p]) : ∃ ad, A = some ad ∧ PcAt W ad p := by
  obtain ⟨ad, hA, h0⟩ := pc_at h (i := 0) (by omega) p rfl
  exact ⟨ad, hA, h0⟩
set_option maxHeartbeats 4000000 in
set_option maxRecDepth 100000 in
theorem down_main (s : ByteArray) (w : World) (h0 : 0 < s.size) (h2 : s.size ≤ 200) : Calls Try.prog 18 #[.string s] w fun e w' => e = .returned (.bool true) ∧ Below w.heap.size w w' := by
  have d0 : decide ((s.size : Int) > 200) = false := decide_eq_false (by omega)
  have d1 : decide (200 < s.size) = false := decide_eq_false (by omega)
  have g1 : s.toList.isEmpty = false := toList_cons (by omega)
  obtain ⟨n, hn⟩ : ∃ n, (signOf s).length = n := ⟨_, rfl⟩
  obtain ⟨R, hR⟩ : ∃ R, makeF (signOf s) s.size [] s = R := ⟨_, rfl⟩
  obtain ⟨m, hm⟩ : ∃ m, R.length = m := ⟨_, rfl⟩
  have HN := Aside0.mk hn
  have HRR := Aside0.mk hR
  have HM := Aside0.mk hm
  have HNL : Aside0 (n ≤ 100000) := ⟨by rw [← hn]; unfold signOf; split; simp; rw [blocks_length]; omega⟩
  have HMP : Aside0 (0 < m) := ⟨by rw [← hm, ← hR]; exact pos_of_sum (makeF_least (signOf s) s (by omega)).1 h0⟩
  have HML : Aside0 (m ≤ 1000000) := ⟨by
    rw [← hm, ← hR]
    have h := makeF_len (signOf s) s (by omega)
    omega⟩
  have HCP : Aside0 (24 ≤ s.size → s.size % 8 = 0 → ∀ p ∈ R, p.f0 = true) := ⟨fun a b => by rw [← hR]; exact makeF_own s a b⟩
  have H0 := Aside0.mk h0
  have H2 := Aside0.mk h2
  clear hn hR hm h0 h2
  go_enter Try.func18, Try.ntmps18
  go_wp2_with fail
  refine (awake11_call _).mono ?_
  rintro e w1 ⟨rfl, hb1⟩
  have HB1 := Aside0.mk hb1
  clear hb1
  go_wp2_with fail
  refine (make_callB (sig := []) (n := 0) rfl none 0 s _ (sg_nil _) (by simp) (by omega) (by have := H2.out; omega) [⟨false, 0, 0, s⟩] (makeF_none s H0.out) 1 rfl).mono ?_
  rintro e w2 ⟨A1, c1, rfl, hc1, hr1, hb2⟩
  have HB2 := Aside0.mk (below_step HB1.out hb2)
  obtain ⟨ad, hA, x0, x1, x2, x3⟩ := pc_one hr1
  subst hA
  clear hc1 hr1 hb2 HB1
  dsimp only at x0 x1 x2 x3
  go_wp2_with fail
  refine (sign_callB s (by have := H2.out; omega) (signOf s) rfl n HN.out _).mono ?_
  rintro e w3 ⟨A3, c3, rfl, hc3, hr3, hb3⟩
  have HB3 := Aside0.mk (below_step HB2.out hb3)
  have HR3 := Aside0.mk hr3
  clear hc3 hr3 hb3 HB2 x0 x1 x2 x3
  go_wp2_with fail
  refine (make_callB HN.out A3 c3 s _ HR3.out (signOf_ok s) HNL.out (by have := H2.out; omega) R HRR.out m HM.out).mono ?_
  rintro e w4 ⟨A4, c4, rfl, hc4, hr4, hb4⟩
  have HB4 := Aside0.mk (below_step HB3.out hb4)
  have HR4 := Aside0.mk hr4
  clear hc4 hr4 hb4 HB3 HR3
  go_wp2_with fail
  go_loopg [6] m (fun k v w' => ∃ j : Nat, v = .int .i64 j ∧ Aside0 (k = m - j ∧ j ≤ m) ∧ Aside0 (Kd.C k67 w' A4 m R) ∧ Aside0 (Below w.heap.size w w'))
  case atStart => exact ⟨0, rfl, ⟨by omega, by omega⟩, HR4, HB4⟩
  case round =>
    clear HR4 HB4
    obtain ⟨j, rfl, HJ, HR, HB⟩ := hrel
    have fin1 : decide ((m : Int) ≥ 1) = true := decide_eq_true (by have := HMP.out; omega)
    have fin2 : decide (1 ≤ m) = true := decide_eq_true (by have := HMP.out; omega)
    obtain ⟨r, hr⟩ : ∃ r, s.size % 8 = r := ⟨_, rfl⟩
    have t1 : Int.tmod (s.size : Int) 8 = (r : Int) := by rw [Int.tmod_eq_emod_of_nonneg (by omega)]; omega
    have t2 : IntKind.i64.wrap (r : Int) = (r : Int) := wrap_ok _ (by omega) (by omega)
    by_cases hj : j < m
    · have e1 : decide ((j : Int) < (m : Int)) = true := by simpa using hj
      have e2 : ((j : Int) < (m : Int)) = True := by simpa using hj
      have e3 : (0 ≤ (j : Int)) = True := by simp
      by_cases h24 : 24 ≤ s.size
      · have f1 : decide ((s.size : Int) ≥ 24) = true := decide_eq_true (by omega)
        have f2 : decide (24 ≤ s.size) = true := decide_eq_true h24
        by_cases h8 : r = 0
        · have f3 : ((r : Int) == 0) = true := by rw [h8]; rfl
          have ew : IntKind.i64.wrap ((j : Int) + 1) = ((j + 1 : Nat) : Int) := by have := HML.out; rw [wrap_ok _ (by omega) (by omega)]; omega
          obtain ⟨p, hp⟩ : ∃ p, R.getD j z67 = p := ⟨_, rfl⟩
          have hpf : p.f0 = true := HCP.out h24 (by omega) p (by rw [← hp, List.getD_eq_getElem?_getD, List.getElem?_eq_getElem (by rw [HM.out]; exact hj)]; exact List.getElem_mem _)
          obtain ⟨ad, hA, x0, _⟩ := pc_at HR.out hj p hp
          subst hA
          rw [hpf] at x0
          have HJ2 := Aside0.mk hj
          clear hj hr h24 h8 hp hpf
          go_wp2_with fail
          go_roundg (m - (j + 1))
          case measure => have := HJ.out; have := HJ2.out; omega
          case rel => exact ⟨j + 1, by simp [ew], ⟨rfl, by have := HJ2.out; omega⟩, HR, HB⟩
        · have f3 : ((r : Int) == 0) = false := by simp; omega
          clear hj hr h24 h8
          go_wp2_with fail
          go_ret
          exact ⟨rfl, HB.out⟩
      · have f1 : decide ((s.size : Int) ≥ 24) = false := decide_eq_false (by omega)
        have f2 : decide (24 ≤ s.size) = false := decide_eq_false h24
        clear hj hr h24
        go_wp2_with fail
        go_ret
        exact ⟨rfl, HB.out⟩
    · have e1 : decide ((j : Int) < (m : Int)) = false := by simpa using hj
      have e2 : ((j : Int) < (m : Int)) = False := by simpa using hj
      clear hj hr
      go_wp2_with fail
      go_ret
      exact ⟨rfl, HB.out⟩
theorem rolodexlaw11_DeltaOwn.walk (a0 : ByteArray) (w : World) (w0 : a0.size ≤ 140737488351232) :
    Calls Try.prog 18 #[.string a0] w fun e w' => e = .returned (.bool true) ∧ Below w.heap.size w w' := by
  by_cases h1 : 200 < a0.size
  · exact down_off a0 w h1
  · by_cases h2 : a0.size = 0
    · exact down_nil a0 w h2
    · exact down_main a0 w (by omega) (by omega)
end Go.Proofs.Ytchaegfdcdlfaaa.X

/- Pieces are of just as many bytes; no two texts stand side by side: the walk. -/
namespace Go.Proofs.Ytchaegfdcdlfaaa.X
set_option linter.unusedVariables false
set_option linter.unusedSimpArgs false
open Go.RowKit Go.Maps Go.Proofs.YtchaegfdcdlfaaaW.PrintWords Go.Proofs.YtchaegfdcdlfaaaW.PrintLast Go.Proofs.YtchaegfdcdlfaaaW.PrintMore

set_option maxHeartbeats 4000000 in
set_option maxRecDepth 100000 in
theorem dleast_off0 (s t : ByteArray) (w : World) (h : 190 < s.size) : Calls Try.prog 19 #[.string s, .string t] w fun e w' => e = .returned (.bool true) ∧ Below w.heap.size w w' := by
  have d0 : decide ((s.size : Int) > 190) = true := decide_eq_true (by omega)
  have d1 : decide (190 < s.size) = true := decide_eq_true h
  go_enter Try.func19, Try.ntmps19
  go_wp2_with fail
  refine (awake11_call _).mono ?_
  rintro e w1 ⟨rfl, hb1⟩
  have HB1 := Aside0.mk hb1
  clear hb1
  go_wp2_with fail
  go_ret
  exact ⟨rfl, HB1.out⟩
set_option maxHeartbeats 4000000 in
set_option maxRecDepth 100000 in
theorem dleast_off1 (s t : ByteArray) (w : World) (h : ¬ 190 < s.size) (h2 : 10 < t.size) : Calls Try.prog 19 #[.string s, .string t] w fun e w' => e = .returned (.bool true) ∧ Below w.heap.size w w' := by
  have d0 : decide ((s.size : Int) > 190) = false := decide_eq_false (by omega)
  have d1 : decide (190 < s.size) = false := decide_eq_false h
  have d2 : decide ((t.size : Int) > 10) = true := decide_eq_true (by omega)
  have d3 : decide (10 < t.size) = true := decide_eq_true h2
  go_enter Try.func19, Try.ntmps19
  go_wp2_with fail
  refine (awake11_call _).mono ?_
  rintro e w1 ⟨rfl, hb1⟩
  have HB1 := Aside0.mk hb1
  clear hb1
  go_wp2_with fail
  go_ret
  exact ⟨rfl, HB1.out⟩
set_option maxHeartbeats 4000000 in
set_option maxRecDepth 100000 in
theorem dleast_main (s t : ByteArray) (w : World) (h1 : s.size ≤ 190) (h2 : t.size ≤ 10) : Calls Try.prog 19 #[.string s, .string t] w fun e w' => e = .returned (.bool true) ∧ Below w.heap.size w w' := by
  have d0 : decide ((s.size : Int) > 190) = false := decide_eq_false (by omega)
  have d1 : decide (190 < s.size) = false := decide_eq_false (by omega)
  have d2 : decide ((t.size : Int) > 10) = false := decide_eq_false (by omega)
  have d3 : decide (10 < t.size) = false := decide_eq_false (by omega)
  have d4 : s.size + t.size ≤ 9223372036854775807 := by omega
  have d5 : (s.size + t.size ≤ 9223372036854775807) = True := eq_true d4
  obtain ⟨q, hq⟩ : ∃ q, q = s ++ t := ⟨_, rfl⟩
  have HQ := Aside0.mk hq
  have HQS : Aside0 (q.size = s.size + t.size) := ⟨by rw [hq, ByteArray.size_append]⟩
  obtain ⟨n, hn⟩ : ∃ n, (signOf s).length = n := ⟨_, rfl⟩
  obtain ⟨R, hR⟩ : ∃ R, makeF (signOf s) q.size [] q = R := ⟨_, rfl⟩
  obtain ⟨m, hm⟩ : ∃ m, R.length = m := ⟨_, rfl⟩
  have HN := Aside0.mk hn
  have HRR := Aside0.mk hR
  have HM := Aside0.mk hm
  have HNL : Aside0 (n ≤ 100000) := ⟨by rw [← hn]; unfold signOf; split; simp; rw [blocks_length]; omega⟩
  have HML : Aside0 (m ≤ 1000000) := ⟨by
    rw [← hm, ← hR]
    have h := makeF_len (signOf s) q (by have := HQS.out; omega)
    have := HQS.out
    omega⟩
  have HSUM : Aside0 (sumP R = (q.size : Int)) := ⟨by rw [← hR]; exact (makeF_least (signOf s) q (by have := HQS.out; omega)).1⟩
  have HAP : Aside0 (apart R) := ⟨by rw [← hR]; exact (makeF_least (signOf s) q (by have := HQS.out; omega)).2⟩
  have HNN : Aside0 (∀ p ∈ R, 0 ≤ p.f2) := ⟨by rw [← hR]; exact makeF_nonneg (signOf s) q (by have := HQS.out; omega)⟩
  have H1 := Aside0.mk h1
  have H2 := Aside0.mk h2
  clear hn hR hm h1 h2 hq
  go_enter Try.func19, Try.ntmps19
  go_wp2_with fail
  refine (awake11_call _).mono ?_
  rintro e w1 ⟨rfl, hb1⟩
  have HB1 := Aside0.mk hb1
  clear hb1
  go_wp2_with fail
  refine (sign_callB s (by have := H1.out; omega) (signOf s) rfl n HN.out _).mono ?_
  rintro e w3 ⟨A3, c3, rfl, hc3, hr3, hb3⟩
  have HB3 := Aside0.mk (below_step HB1.out hb3)
  have HR3 := Aside0.mk hr3
  clear hc3 hr3 hb3 HB1
  go_wp2_with fail
  rw [← HQ.out]
  refine (make_callB HN.out A3 c3 q _ HR3.out (signOf_ok s) HNL.out (by have := H1.out; have := H2.out; have := HQS.out; omega) R HRR.out m HM.out).mono ?_
  rintro e w4 ⟨A4, c4, rfl, hc4, hr4, hb4⟩
  have HB4 := Aside0.mk (below_step HB3.out hb4)
  have HR4 := Aside0.mk hr4
  clear hc4 hr4 hb4 HB3 HR3
  go_wp2_with fail
  go_loopg [7] (m - 1) (fun k v w' => ∃ j : Nat, v = .int .i64 j ∧ Aside0 (k = m - j ∧ 1 ≤ j ∧ j ≤ 1000001) ∧ Aside0 (Kd.C k67 w' A4 m R) ∧ Aside0 (Below w.heap.size w w'))
  case atStart => exact ⟨1, rfl, ⟨rfl, by omega, by omega⟩, HR4, HB4⟩
  case round =>
    clear HR4 HB4
    obtain ⟨j, rfl, HJ, HR, HB⟩ := hrel
    by_cases hj : j < m
    · have e1 : decide ((j : Int) < (m : Int)) = true := by simpa using hj
      have e2 : ((j : Int) < (m : Int)) = True := by simpa using hj
      have e3 : (0 ≤ (j : Int)) = True := by simp
      have ew : IntKind.i64.wrap ((j : Int) + 1) = ((j + 1 : Nat) : Int) := by have := HML.out; rw [wrap_ok _ (by omega) (by omega)]; omega
      obtain ⟨i, hi⟩ : ∃ i, j = i + 1 := ⟨j - 1, by have := HJ.out; omega⟩
      have ev : IntKind.i64.wrap ((j : Int) - 1) = (i : Int) := by have := HML.out; rw [wrap_ok _ (by omega) (by omega)]; omega
      have e4 : ((i : Int) < (m : Int)) = True := by simp; omega
      have e5 : (0 ≤ (i : Int)) = True := by simp
      obtain ⟨p, hp⟩ : ∃ p, R.getD j z67 = p := ⟨_, rfl⟩
      obtain ⟨p2, hp2⟩ : ∃ p2, R.getD i z67 = p2 := ⟨_, rfl⟩
      have hap := apart_get R i HAP.out (by rw [HM.out, ← hi]; exact hj)
      rw [← hi, hp, hp2] at hap
      obtain ⟨ad, hA, x0, _⟩ := pc_at HR.out hj p hp
      subst hA
      obtain ⟨y0, _⟩ := pc_at' HR.out (show i < m by omega) p2 hp2
      have HJ2 := Aside0.mk hj
      have HI := Aside0.mk hi
      obtain ⟨b1, hb1⟩ : ∃ b, p.f0 = b := ⟨_, rfl⟩
      obtain ⟨b2, hb2⟩ : ∃ b, p2.f0 = b := ⟨_, rfl⟩
      rw [hb1] at x0 hap
      rw [hb2] at y0 hap
      clear hj hi hp hp2 hb1 hb2
      cases b1
      · cases b2
        · exact absurd ⟨rfl, rfl⟩ hap
        · clear hap
          go_wp2_with fail
          go_roundg (m - (j + 1))
          case measure => have := HJ.out; have := HJ2.out; omega
          case rel => exact ⟨j + 1, by simp [ew], ⟨rfl, by omega, by have := HJ2.out; have := HML.out; omega⟩, HR, HB⟩
      · clear hap
        go_wp2_with fail
        go_roundg (m - (j + 1))
        case measure => have := HJ.out; have := HJ2.out; omega
        case rel => exact ⟨j + 1, by simp [ew], ⟨rfl, by omega, by have := HJ2.out; have := HML.out; omega⟩, HR, HB⟩
    · have e1 : decide ((j : Int) < (m : Int)) = false := by simpa using hj
      have e2 : ((j : Int) < (m : Int)) = False := by simpa using hj
      clear hj HJ
      go_wp2_with fail
      go_loopg [8, 9] m (fun k v8 v w' => ∃ (a : Int) (j : Nat), v8 = .int .i64 a ∧ v = .int .i64 j ∧ Aside0 (k = m - j ∧ j ≤ m) ∧ Aside0 (a = sumP (R.take j) ∧ 0 ≤ a ∧ a ≤ (q.size : Int)) ∧ Aside0 (Kd.C k67 w' A4 m R) ∧ Aside0 (Below w.heap.size w w'))
      case atStart => exact ⟨0, 0, rfl, rfl, ⟨by omega, by omega⟩, ⟨rfl, by omega, by omega⟩, HR, HB⟩
      case round =>
        clear HR HB e1 e2
        obtain ⟨a, j, rfl, rfl, HJ, HA, HR, HB⟩ := hrel
        by_cases hj : j < m
        · have e1 : decide ((j : Int) < (m : Int)) = true := by simpa using hj
          have e2 : ((j : Int) < (m : Int)) = True := by simpa using hj
          have e3 : (0 ≤ (j : Int)) = True := by simp
          have ew : IntKind.i64.wrap ((j : Int) + 1) = ((j + 1 : Nat) : Int) := by have := HML.out; rw [wrap_ok _ (by omega) (by omega)]; omega
          obtain ⟨p, hp⟩ : ∃ p, R.getD j z67 = p := ⟨_, rfl⟩
          have HPD := Aside0.mk hp
          obtain ⟨ad, hA, _⟩ := pc_at HR.out hj p hp
          subst hA
          obtain ⟨x2, hx2⟩ : ∃ x, p.f2 = x := ⟨_, rfl⟩
          obtain ⟨s3, hs3⟩ : ∃ x, p.f3 = x := ⟨_, rfl⟩
          have hsum := sum_next R j (by rw [HM.out]; exact hj) HNN.out
          rw [hp, hx2, hs3, HSUM.out, ← HA.out.1] at hsum
          have HX2 := Aside0.mk hx2
          have HS3 := Aside0.mk hs3
          have HJ2 := Aside0.mk hj
          obtain ⟨a1, ha1⟩ : ∃ a1, a1 = a + x2 := ⟨_, rfl⟩
          obtain ⟨a2, ha2⟩ : ∃ a2, a2 = a1 + (s3.size : Int) := ⟨_, rfl⟩
          have v1 : IntKind.i64.wrap (a + x2) = a1 := by have := HA.out; have := HQS.out; have := H1.out; have := H2.out; rw [wrap_ok _ (by omega) (by omega), ha1]
          have v2 : IntKind.i64.wrap (a1 + (s3.size : Int)) = a2 := by have := HA.out; have := HQS.out; have := H1.out; have := H2.out; rw [wrap_ok _ (by omega) (by omega), ha2]
          have HA2 : Aside0 (a2 = sumP (R.take (j + 1)) ∧ 0 ≤ a2 ∧ a2 ≤ (q.size : Int)) := ⟨by rw [hsum.1]; omega, by omega, by have := hsum.2.2.2; omega⟩
          clear hj hp hx2 hs3 hsum ha1 ha2
          go_wp2_with fail
          refine wp_region_held_drew (S := (fun W => Kd.C k67 W (some ad) m R ∧ Below w.heap.size w W)) (by kernel_rfl) ((And.intro HR.out (below_drew HB.out))) (fun hHeld => ?_)
          refine wpAnyH_take (i := 0) (v := ?_) (by simp only [List.getElem?_toArray, List.getElem?_cons_succ, List.getElem?_cons_zero]; rfl) (by kernel_rfl) (by kernel_rfl) (by kernel_rfl) (by intro _ _ _ h; exact h) (Or.inl ⟨by rfl, ?hy⟩) (by assumption) ?_
          case hy => (intro W_ hW_; go_simp; first | done | with_reducible rfl)
          try simp only [Act.put, List.setIfInBounds_toArray, List.set_cons_zero, List.set_cons_succ]
          refine wpAnyH_take (i := 1) (v := ?_) (by simp only [List.getElem?_toArray, List.getElem?_cons_succ, List.getElem?_cons_zero]; rfl) (by kernel_rfl) (by kernel_rfl) (by kernel_rfl) (by intro _ _ _ h; exact h) (Or.inl ⟨by rfl, ?hy⟩) (by assumption) ?_
          case hy => (intro W_ hW_; go_simp; first | done | with_reducible rfl)
          try simp only [Act.put, List.setIfInBounds_toArray, List.set_cons_zero, List.set_cons_succ]
          refine wpAnyH_take (i := 2) (v := ?_) (by simp only [List.getElem?_toArray, List.getElem?_cons_succ, List.getElem?_cons_zero]; rfl) (by kernel_rfl) (by kernel_rfl) (by kernel_rfl) (by intro _ _ _ h; exact h) (Or.inl ⟨by rfl, ?hy⟩) (by assumption) ?_
          case hy => (intro W_ hW_; go_simp; first | done | with_reducible rfl)
          try simp only [Act.put, List.setIfInBounds_toArray, List.set_cons_zero, List.set_cons_succ]
          refine wpAnyH_take (i := 3) (v := ?_) (by simp only [List.getElem?_toArray, List.getElem?_cons_succ, List.getElem?_cons_zero]; rfl) (by kernel_rfl) (by kernel_rfl) (by kernel_rfl) (by intro _ _ _ h; exact h) (Or.inl ⟨by rfl, ?hy⟩) (by assumption) ?_
          case hy => (intro W_ hW_; go_simp; first | done | with_reducible rfl)
          try simp only [Act.put, List.setIfInBounds_toArray, List.set_cons_zero, List.set_cons_succ]
          refine wpAnyH_take (i := 4) (v := ?_) (by simp only [List.getElem?_toArray, List.getElem?_cons_succ, List.getElem?_cons_zero]; rfl) (by kernel_rfl) (by kernel_rfl) (by kernel_rfl) (by intro _ _ _ h; exact h) (Or.inl ⟨by rfl, ?hy⟩) (by assumption) ?_
          case hy => (intro W_ hW_; go_simp; first | done | with_reducible rfl)
          try simp only [Act.put, List.setIfInBounds_toArray, List.set_cons_zero, List.set_cons_succ]
          refine wpAnyH_take (i := 5) (v := ?_) (by simp only [List.getElem?_toArray, List.getElem?_cons_succ, List.getElem?_cons_zero]; rfl) (by kernel_rfl) (by kernel_rfl) (by kernel_rfl) (by intro _ _ _ h; exact h) (Or.inl ⟨by rfl, ?hy⟩) (by assumption) ?_
          case hy => (intro W_ hW_; have f_ := (pc_at' hW_.1 HJ2.out p HPD.out).2.2.1; go_simp; first | done | with_reducible rfl)
          try simp only [Act.put, List.setIfInBounds_toArray, List.set_cons_zero, List.set_cons_succ]
          refine wpAnyH_take (i := 6) (v := ?_) (by simp only [List.getElem?_toArray, List.getElem?_cons_succ, List.getElem?_cons_zero]; rfl) (by kernel_rfl) (by kernel_rfl) (by kernel_rfl) (by intro _ _ _ h; exact h) (Or.inl ⟨by rfl, ?hy⟩) (by assumption) ?_
          case hy => (intro W_ hW_; go_simp; first | done | with_reducible rfl)
          try simp only [Act.put, List.setIfInBounds_toArray, List.set_cons_zero, List.set_cons_succ]
          refine wpAnyH_take (i := 7) (v := ?_) (by simp only [List.getElem?_toArray, List.getElem?_cons_succ, List.getElem?_cons_zero]; rfl) (by kernel_rfl) (by kernel_rfl) (by kernel_rfl) (by intro _ _ _ h; exact h) (Or.inl ⟨by rfl, ?hy⟩) (by assumption) ?_
          case hy => (intro W_ hW_; go_simp; first | done | with_reducible rfl)
          try simp only [Act.put, List.setIfInBounds_toArray, List.set_cons_zero, List.set_cons_succ]
          refine wpAnyH_take (i := 8) (v := ?_) (by simp only [List.getElem?_toArray, List.getElem?_cons_succ, List.getElem?_cons_zero]; rfl) (by kernel_rfl) (by kernel_rfl) (by kernel_rfl) (by intro _ _ _ h; exact h) (Or.inl ⟨by rfl, ?hy⟩) (by assumption) ?_
          case hy => (intro W_ hW_; go_simp; first | done | with_reducible rfl)
          try simp only [Act.put, List.setIfInBounds_toArray, List.set_cons_zero, List.set_cons_succ]
          refine wpAnyH_take (i := 9) (v := ?_) (by simp only [List.getElem?_toArray, List.getElem?_cons_succ, List.getElem?_cons_zero]; rfl) (by kernel_rfl) (by kernel_rfl) (by kernel_rfl) (by intro _ _ _ h; exact h) (Or.inl ⟨by rfl, ?hy⟩) (by assumption) ?_
          case hy => (intro W_ hW_; go_simp; first | done | with_reducible rfl)
          try simp only [Act.put, List.setIfInBounds_toArray, List.set_cons_zero, List.set_cons_succ]
          refine wpAnyH_take (i := 10) (v := ?_) (by simp only [List.getElem?_toArray, List.getElem?_cons_succ, List.getElem?_cons_zero]; rfl) (by kernel_rfl) (by kernel_rfl) (by kernel_rfl) (by intro _ _ _ h; exact h) (Or.inl ⟨by rfl, ?hy⟩) (by assumption) ?_
          case hy => (intro W_ hW_; go_simp; first | done | with_reducible rfl)
          try simp only [Act.put, List.setIfInBounds_toArray, List.set_cons_zero, List.set_cons_succ]
          refine wpAnyH_take (i := 11) (v := ?_) (by simp only [List.getElem?_toArray, List.getElem?_cons_succ, List.getElem?_cons_zero]; rfl) (by kernel_rfl) (by kernel_rfl) (by kernel_rfl) (by intro _ _ _ h; exact h) (Or.inl ⟨by rfl, ?hy⟩) (by assumption) ?_
          case hy => (intro W_ hW_; have f_ := (pc_at' hW_.1 HJ2.out p HPD.out).2.2.2; go_simp; first | done | with_reducible rfl)
          try simp only [Act.put, List.setIfInBounds_toArray, List.set_cons_zero, List.set_cons_succ]
          refine wpAnyH_take (i := 12) (v := ?_) (by simp only [List.getElem?_toArray, List.getElem?_cons_succ, List.getElem?_cons_zero]; rfl) (by kernel_rfl) (by kernel_rfl) (by kernel_rfl) (by intro _ _ _ h; exact h) (Or.inl ⟨by rfl, ?hy⟩) (by assumption) ?_
          case hy => (intro W_ hW_; go_simp; first | done | with_reducible rfl)
          try simp only [Act.put, List.setIfInBounds_toArray, List.set_cons_zero, List.set_cons_succ]
          refine wpAnyH_take (i := 13) (v := ?_) (by simp only [List.getElem?_toArray, List.getElem?_cons_succ, List.getElem?_cons_zero]; rfl) (by kernel_rfl) (by kernel_rfl) (by kernel_rfl) (by intro _ _ _ h; exact h) (Or.inl ⟨by rfl, ?hy⟩) (by assumption) ?_
          case hy => (intro W_ hW_; go_simp; first | done | with_reducible rfl)
          try simp only [Act.put, List.setIfInBounds_toArray, List.set_cons_zero, List.set_cons_succ]
          refine wpAnyH_take (i := 14) (v := ?_) (by simp only [List.getElem?_toArray, List.getElem?_cons_succ, List.getElem?_cons_zero]; rfl) (by kernel_rfl) (by kernel_rfl) (by kernel_rfl) (by intro _ _ _ h; exact h) (Or.inl ⟨by rfl, ?hy⟩) (by assumption) ?_
          case hy => (intro W_ hW_; go_simp; first | done | with_reducible rfl)
          try simp only [Act.put, List.setIfInBounds_toArray, List.set_cons_zero, List.set_cons_succ]
          refine wpAnyH_done (by kernel_rfl) ?_ _
          go_wp2_with fail
          go_roundg (m - (j + 1))
          case measure => have := HJ.out; have := HJ2.out; omega
          case rel => exact ⟨a2, j + 1, by simp [HX2.out, HS3.out, v1, v2], by simp [ew], ⟨rfl, by have := HJ2.out; omega⟩, HA2, ⟨hHeld.1⟩, ⟨hHeld.2⟩⟩
        · have e1 : decide ((j : Int) < (m : Int)) = false := by simpa using hj
          have e2 : ((j : Int) < (m : Int)) = False := by simpa using hj
          obtain ⟨z, hz⟩ : ∃ z : Int, z = (s.size : Int) + (t.size : Int) := ⟨_, rfl⟩
          have v1 : IntKind.i64.wrap ((s.size : Int) + (t.size : Int)) = z := by have := H1.out; have := H2.out; rw [wrap_ok _ (by omega) (by omega), hz]
          have haz : a = z := by rw [HA.out.1, List.take_of_length_le (by rw [HM.out]; omega), HSUM.out, HQS.out, hz]; omega
          have v2 : (a == z) = true := by rw [haz]; simp
          clear hj hz haz
          go_wp2_with fail
          go_ret
          exact ⟨rfl, HB.out⟩
theorem rolodexlaw11_DeltaLeast.walk (a0 : ByteArray) (a1 : ByteArray) (w : World) (w0 : a0.size ≤ 140737488351232) (w1 : a1.size ≤ 140737488351232) :
    Calls Try.prog 19 #[.string a0, .string a1] w fun e w' => e = .returned (.bool true) ∧ Below w.heap.size w w' := by
  by_cases h1 : 190 < a0.size
  · exact dleast_off0 a0 a1 w h1
  · by_cases h2 : 10 < a1.size
    · exact dleast_off1 a0 a1 w h1 h2
    · exact dleast_main a0 a1 w (by omega) (by omega)
end Go.Proofs.Ytchaegfdcdlfaaa.X

/- The row of DeltaLeast, over the walk that is proved by hand. -/
namespace Go.Proofs.Ytchaegfdcdlfaaa.deltaLeast
open Go.ChangeShapes Go.WideShapes Go.ChangeAt Go.RowKit
open Go.ChangeMaps (open_string shut_string)
set_option linter.unusedVariables false
theorem own : ownKnob Try.prog.godebug = none := by kernel_rfl
set_option maxRecDepth 100000 in
theorem lifted (os : Os) (started : os.Started) (H : Type) (enc : TypeId × Value → H) :
    ReturnsInHanded {} Try.checked os 19 .any (Rows.deltaLeastSpec.pre6 enc Try.prog Try.f19 Rows.deltaLeastRow.domain false) (Rows.deltaLeastSpec.post enc Try.prog Try.f19 false true false false) := by
  refine returnsInHanded_of_change_sized (C := Try.checked) own started (by kernel_rfl) Try.func19
    (ChangeSpec.witness6 (enc := enc) (C := Try.checked) false ⟨#[], #[.string ByteArray.empty, .string ByteArray.empty], []⟩ 8 (by kernel_rfl) (by kernel_rfl) (by kernel_rfl) (by kernel_rfl)) ?_
  intro W base args ds gs before hval0 hW hcnd hsz0 _
  have hsz : (DataW.weightsEach Try.prog (Try.f19.params.toList ++ Rows.deltaLeastSpec.plain.varTypes Try.prog) (ds ++ gs)).all (· ≤ reachBytes) = true := hsz0
  have hval : ∀ (j : Nat) t v, Try.f19.params[j]? = some t → args[j]? = some v → Value.okWide Try.prog W .any base t v := hval0
  have hW' := hW
  obtain ⟨p, q, hA0, hV, rfl, hfz, hnd⟩ := hW
  have hA : DataW.TrodAll enc Try.prog W 0 (fun _ => true) true Try.f19.params.toList args.toList ds p := hA0
  rw [Try.params19] at hA hval hsz
  obtain ⟨v0, vs0, d0, ds0, p0, q0, hargs, rfl, rfl, h0, r0⟩ := trodAll_cons hA
  obtain ⟨v1, vs1, d1, ds1, p1, q1, rfl, rfl, rfl, h1, r1⟩ := trodAll_cons r0
  obtain ⟨rfl, rfl, rfl⟩ := trodAll_nil r1
  obtain rfl : args = #[v0, v1] := by cases args; simp_all
  obtain ⟨rfl, rfl⟩ := trodVars_none hV
  obtain ⟨a0, rfl, rfl, rfl, y0⟩ := open_string Try.underlying9 (hval 0 9 v0 rfl rfl) h0
  have w0 : a0.size ≤ 140737488351232 := by
    have z := sized_string hsz (j := 0) (t := 9) rfl rfl
    rw [Array.length_toList] at z
    exact z
  obtain ⟨a1, rfl, rfl, rfl, y1⟩ := open_string Try.underlying9 (hval 1 9 v1 rfl rfl) h1
  have w1 : a1.size ≤ 140737488351232 := by
    have z := sized_string hsz (j := 1) (t := 9) rfl rfl
    rw [Array.length_toList] at z
    exact z
  clear hA0 hval0 hsz0 hsz
  refine (X.rolodexlaw11_DeltaLeast.walk a0 a1 W w0 w1).mono fun e W' ⟨he, bel⟩ => ?_
  subst he
  exact ⟨_, rfl, _, _, _, [], _, [], hW', trodAll_mk1 (shut_bool Try.underlying4 _), (trodAll_cons_mk (shut_string Try.underlying9 y0) (trodAll_cons_mk (shut_string Try.underlying9 y1) trodAll_mk0)), rfl, bel.frame _, fun h => by cases h⟩
theorem clos0 : (J.closT Try.prog 185 [19] []).isSome = true := by kernel_rfl
theorem clos1 : Try.prog.closure 19 = (J.closT Try.prog 185 [19] []).getD [] := J.clos_eq (of_decide_eq_true (by kernel_rfl)) clos0
theorem fact1 : Try.prog.inPlace 19 = ["internal/abi.NoEscape"] := by unfold Program.inPlace; rw [clos1]; kernel_rfl
theorem fact2 : Try.prog.unfollowed 19 = true := by unfold Program.unfollowed; rw [clos1]; kernel_rfl
theorem fact3 : Try.prog.recurses 19 = true := by unfold Program.recurses; rw [fact2]; rfl
theorem fact4 : Try.prog.varsNamed 19 = [] := by unfold Program.varsNamed; rw [clos1]; kernel_rfl
set_option maxRecDepth 100000 in
theorem facts : joinedFacts Try.prog 19 Try.f19 Rows.deltaLeastSpec Rows.deltaLeastRow = true := by
  unfold joinedFacts
  simp only [Bool.and_eq_true]
  repeat' apply And.intro
  all_goals first | (with_reducible exact J.mayEnter) | (rw [J.liftsFinal]; kernel_rfl) | (rw [J.make]; kernel_rfl) | (rw [fact1]; kernel_rfl) | (rw [fact2]; kernel_rfl) | (rw [fact3]; kernel_rfl) | (rw [fact4]; kernel_rfl) | kernel_rfl
theorem over : Rows.deltaLeastRow.holds Try.pinned (OpenSpec.ofChange Rows.deltaLeastSpec) :=
  OpenClaim.holds_of_wide 19 Try.f19 rfl rfl rfl rfl rfl rfl rfl ⟨rfl, rfl, rfl, rfl, rfl⟩ rfl rfl rfl rfl rfl (by kernel_rfl) Try.func19 facts
    (of_decide_eq_true (by kernel_rfl)) (by unfold Func.isWrapper; first | (rw [if_pos (by decide +kernel)]; kernel_rfl) | (rw [if_neg (by decide +kernel)]; exact ⟨rfl, rfl⟩))
    (fun os started H enc _ => lifted os started H enc)
theorem proved : Rows.DeltaLeastSaid := over
#print axioms proved
end Go.Proofs.Ytchaegfdcdlfaaa.deltaLeast
namespace Go.Proofs.Ytchaegfdcdlfaaa
/-- The row, under a short name, for the claim. -/
theorem deltaLeast_holds : Rows.DeltaLeastSaid := deltaLeast.proved
end Go.Proofs.Ytchaegfdcdlfaaa
