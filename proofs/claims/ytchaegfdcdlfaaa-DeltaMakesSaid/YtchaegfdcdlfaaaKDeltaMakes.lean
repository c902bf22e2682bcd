/- DeltaMakes: the walk, the plain law, the row. -/
import Derived.WalkLawsBesides
import Derived.Test.YtchaegfdcdlfaaaE5
import Derived.Test.YtchaegfdcdlfaaaRows
import Derived.WalkKit
import Derived.ProofKit
import Derived.OpenShut
import Derived.ShutString
import Derived.ChangeOld
import Derived.Below
import Derived.SizedLaws

/- Of a value itself no text is made: the walk. -/
namespace Go.Proofs.Ytchaegfdcdlfaaa.X
set_option linter.unusedVariables false
set_option linter.unusedSimpArgs false
open Go.RowKit Go.Maps Go.Proofs.YtchaegfdcdlfaaaW.PrintWords Go.Proofs.YtchaegfdcdlfaaaW.PrintLast Go.Proofs.YtchaegfdcdlfaaaW.PrintMore

theorem makeF_len (sig : List Sg) (s : ByteArray) (hs : s.size ≤ 1000000) : (makeF sig s.size [] s).length ≤ s.size := by
  obtain ⟨t, h0, h1⟩ := makeF_ind sig (fun l t => l.length + t.size ≤ s.size)
    (by
      intro l t i h h8 _
      have := blockL_len l ((i : Int) * 8)
      simp only [ByteArray.size_extract]
      omega)
    (by
      intro l t h h8 _
      have := litL_len l (t.extract 0 1)
      simp only [ByteArray.size_extract]
      omega)
    s.size [] s (Nat.le_refl _) (by simp)
  omega
theorem makeF_nonneg (sig : List Sg) (s : ByteArray) (hs : s.size ≤ 1000000) : ∀ p ∈ makeF sig s.size [] s, 0 ≤ p.f2 := by
  obtain ⟨t, h0, _, h1⟩ := makeF_ind sig (fun l t => t.size ≤ s.size ∧ ∀ p ∈ l, 0 ≤ p.f2 ∧ p.f2 + (t.size : Int) ≤ (s.size : Int))
    (by
      rintro l t i ⟨ht, h⟩ h8 _
      have e : (t.extract 8 t.size).size = t.size - 8 := by simp only [ByteArray.size_extract]; omega
      rw [e]
      refine ⟨by omega, ?_⟩
      have hnew : (0 : Int) ≤ 8 ∧ (8 : Int) + ((t.size - 8 : Nat) : Int) ≤ (s.size : Int) := by omega
      rcases snoc_cases l with rfl | ⟨m, p, rfl⟩
      · rw [blockL_nil]
        intro q hq
        rw [List.mem_singleton.1 hq]
        exact hnew
      · have hp := h p (by simp)
        rw [blockL_snoc]
        split
        · have ew : IntKind.i64.wrap (p.f2 + 8) = p.f2 + 8 := wrap_ok _ (by omega) (by omega)
          rw [ew]
          intro q hq
          rcases List.mem_append.1 hq with hq | hq
          · have := h q (by simp [hq])
            omega
          · rw [List.mem_singleton.1 hq]
            show 0 ≤ p.f2 + 8 ∧ p.f2 + 8 + _ ≤ _
            omega
        · intro q hq
          rcases List.mem_append.1 hq with hq | hq
          · have := h q hq
            omega
          · rw [List.mem_singleton.1 hq]
            exact hnew)
    (by
      rintro l t ⟨ht, h⟩ h8 _
      have e : (t.extract 1 t.size).size = t.size - 1 := by simp only [ByteArray.size_extract]; omega
      rw [e]
      refine ⟨by omega, ?_⟩
      have hnew : (0 : Int) ≤ 0 ∧ (0 : Int) + ((t.size - 1 : Nat) : Int) ≤ (s.size : Int) := by omega
      rcases snoc_cases l with rfl | ⟨m, p, rfl⟩
      · rw [litL_nil]
        intro q hq
        rw [List.mem_singleton.1 hq]
        exact hnew
      · have hp := h p (by simp)
        rw [litL_snoc]
        split
        · intro q hq
          rcases List.mem_append.1 hq with hq | hq
          · have := h q (by simp [hq])
            omega
          · rw [List.mem_singleton.1 hq]
            show 0 ≤ p.f2 ∧ p.f2 + _ ≤ _
            omega
        · intro q hq
          rcases List.mem_append.1 hq with hq | hq
          · have := h q hq
            omega
          · rw [List.mem_singleton.1 hq]
            exact hnew)
    s.size [] s (Nat.le_refl _) ⟨by omega, by simp⟩
  exact fun p hp => (h1 p hp).1
theorem sum_pos : ∀ {l : List S67}, (∀ p ∈ l, 0 ≤ p.f2) → 0 ≤ sumP l
  | [], _ => by rw [sumP_nil]; omega
  | p :: l, h => by
    rw [sumP_cons]
    have h1 := sum_pos (l := l) (fun q hq => h q (by simp [hq]))
    have h2 := h p (by simp)
    omega
theorem sum_next (R : List S67) (j : Nat) (h : j < R.length) (hn : ∀ p ∈ R, 0 ≤ p.f2) : sumP (R.take (j + 1)) = sumP (R.take j) + ((R.getD j z67).f2 + ((R.getD j z67).f3.size : Int)) ∧ 0 ≤ (R.getD j z67).f2 ∧ 0 ≤ sumP (R.take j) ∧ sumP (R.take j) + ((R.getD j z67).f2 + ((R.getD j z67).f3.size : Int)) ≤ sumP R := by
  have e : sumP (R.take (j + 1)) = sumP (R.take j) + ((R.getD j z67).f2 + ((R.getD j z67).f3.size : Int)) := by rw [take_snocD R j h, sumP_append, sumP_one]
  have h1 : 0 ≤ sumP (R.drop (j + 1)) := sum_pos (fun p hp => hn p (List.mem_of_mem_drop hp))
  have h2 : 0 ≤ sumP (R.take j) := sum_pos (fun p hp => hn p (List.mem_of_mem_take hp))
  have h3 : sumP R = sumP (R.take (j + 1)) + sumP (R.drop (j + 1)) := by rw [← sumP_append, List.take_append_drop]
  refine ⟨e, hn _ ?_, h2, by omega⟩
  rw [List.getD_eq_getElem?_getD, List.getElem?_eq_getElem h]
  exact List.getElem_mem h
set_option maxHeartbeats 4000000 in
set_option maxRecDepth 100000 in
theorem down_off (s : ByteArray) (w : World) (h : 200 < s.size) : Calls Try.prog 18 #[.string s] w fun e w' => e = .returned (.bool true) ∧ Below w.heap.size w w' := by
  have d0 : decide ((s.size : Int) > 200) = true := decide_eq_true (by omega)
  have d1 : decide (200 < s.size) = true := decide_eq_true h
  go_enter Try.func18, Try.ntmps18
  go_wp2_with fail
  refine (awake11_call _).mono ?_
  rintro e w1 ⟨rfl, hb1⟩
  have HB1 := Aside0.mk hb1
  clear hb1
  go_wp2_with fail
  go_ret
  exact ⟨rfl, HB1.out⟩
set_option maxHeartbeats 4000000 in
set_option maxRecDepth 100000 in
theorem down_nil (s : ByteArray) (w : World) (h : s.size = 0) : Calls Try.prog 18 #[.string s] w fun e w' => e = .returned (.bool true) ∧ Below w.heap.size w w' := by
  have d0 : decide ((s.size : Int) > 200) = false := decide_eq_false (by omega)
  have d1 : decide (200 < s.size) = false := decide_eq_false (by omega)
  have g1 : s.toList.isEmpty = true := by rw [toList_nil h]; rfl
  have H := Aside0.mk h
  clear h
  go_enter Try.func18, Try.ntmps18
  go_wp2_with fail
  refine (awake11_call _).mono ?_
  rintro e w1 ⟨rfl, hb1⟩
  have HB1 := Aside0.mk hb1
  clear hb1
  go_wp2_with fail
  refine (make_callB (sig := []) (n := 0) rfl none 0 s _ (sg_nil _) (by simp) (by omega) (by have := H.out; omega) [] (makeF_end _ _ _ _ H.out) 0 rfl).mono ?_
  rintro e w2 ⟨A1, c1, rfl, hc1, hr1, hb2⟩
  have HB2 := Aside0.mk (below_step HB1.out hb2)
  clear hc1 hr1 hb2
  go_wp2_with fail
  go_ret
  exact ⟨rfl, HB2.out⟩
theorem pos_of_sum {l : List S67} {n : Nat} (h : sumP l = (n : Int)) (h0 : 0 < n) : 0 < l.length := by
  cases l with
  | nil => rw [sumP_nil] at h; omega
  | cons a l => simp
theorem pc_one {W : World} {A : Option Addr} {p : S67} (h : Kd.C k67 W A 1 [p]) : ∃ ad, A = some ad ∧ PcAt W ad p := by
  obtain ⟨ad, hA, h0⟩ := pc_at h (i := 0) (by omega) p rfl
  exact ⟨ad, hA, h0⟩
set_option maxHeartbeats 4000000 in
set_option maxRecDepth 100000 in
theorem down_main (s : ByteArray) (w : World) (h0 : 0 < s.size) (h2 : s.size ≤ 200) : Calls Try.prog 18 #[.string s] w fun e w' => e = .returned (.bool true) ∧ Below w.heap.size w w' := by
  have d0 : decide ((s.size : Int) > 200) = false := decide_eq_false (by omega)
  have d1 : decide (200 < s.size) = false := decide_eq_false (by omega)
  have g1 : s.toList.isEmpty = false := toList_cons (by omega)
  obtain ⟨n, hn⟩ : ∃ n, (signOf s).length = n := ⟨_, rfl⟩
  obtain ⟨R, hR⟩ : ∃ R, makeF (signOf s) s.size [] s = R := ⟨_, rfl⟩
  obtain ⟨m, hm⟩ : ∃ m, R.length = m := ⟨_, rfl⟩
  have HN := Aside0.mk hn
  have HRR := Aside0.mk hR
  have HM := Aside0.mk hm
  have HNL : Aside0 (n ≤ 100000) := ⟨by rw [← hn]; unfold signOf; split; simp; rw [blocks_length]; omega⟩
  have HMP : Aside0 (0 < m) := ⟨by rw [← hm, ← hR]; exact pos_of_sum (makeF_least (signOf s) s (by omega)).1 h0⟩
  have HML : Aside0 (m ≤ 1000000) := ⟨by
    rw [← hm, ← hR]
    have h := makeF_len (signOf s) s (by omega)
    omega⟩
  have HCP : Aside0 (24 ≤ s.size → s.size % 8 = 0 → ∀ p ∈ R, p.f0 = true) := ⟨fun a b => by rw [← hR]; exact makeF_own s a b⟩
  have H0 := Aside0.mk h0
  have H2 := Aside0.mk h2
  clear hn hR hm h0 h2
  go_enter Try.func18, Try.ntmps18
  go_wp2_with fail
  refine (awake11_call _).mono ?_
  rintro e w1 ⟨rfl, hb1⟩
  have HB1 := Aside0.mk hb1
  clear hb1
  go_wp2_with fail
  refine (make_callB (sig := []) (n := 0) rfl none 0 s _ (sg_nil _) (by simp) (by omega) (by have := H2.out; omega) [⟨false, 0, 0, s⟩] (makeF_none s H0.out) 1 rfl).mono ?_
  rintro e w2 ⟨A1, c1, rfl, hc1, hr1, hb2⟩
  have HB2 := Aside0.mk (below_step HB1.out hb2)
  obtain ⟨ad, hA, x0, x1, x2, x3⟩ := pc_one hr1
  subst hA
  clear hc1 hr1 hb2 HB1
  dsimp only at x0 x1 x2 x3
  go_wp2_with fail
  refine (sign_callB s (by have := H2.out; omega) (signOf s) rfl n HN.out _).mono ?_
  rintro e w3 ⟨A3, c3, rfl, hc3, hr3, hb3⟩
  have HB3 := Aside0.mk (below_step HB2.out hb3)
  have HR3 := Aside0.mk hr3
  clear hc3 hr3 hb3 HB2 x0 x1 x2 x3
  go_wp2_with fail
  refine (make_callB HN.out A3 c3 s _ HR3.out (signOf_ok s) HNL.out (by have := H2.out; omega) R HRR.out m HM.out).mono ?_
  rintro e w4 ⟨A4, c4, rfl, hc4, hr4, hb4⟩
  have HB4 := Aside0.mk (below_step HB3.out hb4)
  have HR4 := Aside0.mk hr4
  clear hc4 hr4 hb4 HB3 HR3
  go_wp2_with fail
  go_loopg [6] m (fun k v w' => ∃ j : Nat, v = .int .i64 j ∧ Aside0 (k = m - j ∧ j ≤ m) ∧ Aside0 (Kd.C k67 w' A4 m R) ∧ Aside0 (Below w.heap.size w w'))
  case atStart => exact ⟨0, rfl, ⟨by omega, by omega⟩, HR4, HB4⟩
  case round =>
    clear HR4 HB4
    obtain ⟨j, rfl, HJ, HR, HB⟩ := hrel
    have fin1 : decide ((m : Int) ≥ 1) = true := decide_eq_true (by have := HMP.out; omega)
    have fin2 : decide (1 ≤ m) = true := decide_eq_true (by have := HMP.out; omega)
    obtain ⟨r, hr⟩ : ∃ r, s.size % 8 = r := ⟨_, rfl⟩
    have t1 : Int.tmod (s.size : Int) 8 = (r : Int) := by rw [Int.tmod_eq_emod_of_nonneg (by omega)]; omega
    have t2 : IntKind.i64.wrap (r : Int) = (r : Int) := wrap_ok _ (by omega) (by omega)
    by_cases hj : j < m
    · have e1 : decide ((j : Int) < (m : Int)) = true := by simpa using hj
      have e2 : ((j : Int) < (m : Int)) = True := by simpa using hj
      have e3 : (0 ≤ (j : Int)) = True := by simp
      by_cases h24 : 24 ≤ s.size
      · have f1 : decide ((s.size : Int) ≥ 24) = true := decide_eq_true (by omega)
        have f2 : decide (24 ≤ s.size) = true := decide_eq_true h24
        by_cases h8 : r = 0
        · have f3 : ((r : Int) == 0) = true := by rw [h8]; rfl
          have ew : IntKind.i64.wrap ((j : Int) + 1) = ((j + 1 : Nat) : Int) := by have := HML.out; rw [wrap_ok _ (by omega) (by omega)]; omega
          obtain ⟨p, hp⟩ : ∃ p, R.getD j z67 = p := ⟨_, rfl⟩
          have hpf : p.f0 = true := HCP.out h24 (by omega) p (by rw [← hp, List.getD_eq_getElem?_getD, List.getElem?_eq_getElem (by rw [HM.out]; exact hj)]; exact List.getElem_mem _)
          obtain ⟨ad, hA, x0, _⟩ := pc_at HR.out hj p hp
          subst hA
          rw [hpf] at x0
          have HJ2 := Aside0.mk hj
          clear hj hr h24 h8 hp hpf
          go_wp2_with fail
          go_roundg (m - (j + 1))
          case measure => have := HJ.out; have := HJ2.out; omega
          case rel => exact ⟨j + 1, by simp [ew], ⟨rfl, by have := HJ2.out; omega⟩, HR, HB⟩
        · have f3 : ((r : Int) == 0) = false := by simp; omega
          clear hj hr h24 h8
          go_wp2_with fail
          go_ret
          exact ⟨rfl, HB.out⟩
      · have f1 : decide ((s.size : Int) ≥ 24) = false := decide_eq_false (by omega)
        have f2 : decide (24 ≤ s.size) = false := decide_eq_false h24
        clear hj hr h24
        go_wp2_with fail
        go_ret
        exact ⟨rfl, HB.out⟩
    · have e1 : decide ((j : Int) < (m : Int)) = false := by simpa using hj
      have e2 : ((j : Int) < (m : Int)) = False := by simpa using hj
      clear hj hr
      go_wp2_with fail
      go_ret
      exact ⟨rfl, HB.out⟩
theorem rolodexlaw11_DeltaOwn.walk (a0 : ByteArray) (w : World) (w0 : a0.size ≤ 140737488351232) :
    Calls Try.prog 18 #[.string a0] w fun e w' => e = .returned (.bool true) ∧ Below w.heap.size w w' := by
  by_cases h1 : 200 < a0.size
  · exact down_off a0 w h1
  · by_cases h2 : a0.size = 0
    · exact down_nil a0 w h2
    · exact down_main a0 w (by omega) (by omega)
end Go.Proofs.Ytchaegfdcdlfaaa.X

/- What is made of a value of its own blocks makes just the other value: the walk. -/
namespace Go.Proofs.Ytchaegfdcdlfaaa.X
set_option linter.unusedVariables false
set_option linter.unusedSimpArgs false
open Go.RowKit Go.Maps Go.Proofs.YtchaegfdcdlfaaaW.PrintWords Go.Proofs.YtchaegfdcdlfaaaW.PrintLast Go.Proofs.YtchaegfdcdlfaaaW.PrintMore

theorem exec_eql_dig {a : Act} {o : Oper} {W : World} (s y : List Int) (hs : s.length = 32) (hy : y.length = 32) (p q : Operand) (ho : o.op = .binOp .eql 28 p q 28) (hp : a.eval p = .agg (cells8 s)) (hq : a.eval q = .agg (cells8 y)) :
    (execOp a.eval o).run Try.prog W = .ok (.value (.bool (s == y))) W := by
  unfold execOp
  have := eql8 (P := Try.prog) (w := W) (t := 28) Try.underlying28 Try.info5i Try.underlying5 cells5 s y hs hy
  simp [ho, hp, hq, Sem.run_bind, eqGuard, guardDig, this]
theorem sha_len (q : ByteArray) : (shaOf (bytesOf q)).length = 32 := by
  have h := (oneOf_ok q).len
  rwa [oneOf_snd] at h
theorem bytes_inj {s t : ByteArray} (h : s.toList = t.toList) : s = t := by
  rw [ByteArray.toList_eq, ByteArray.toList_eq] at h
  apply ByteArray.ext
  exact Array.ext' h
/-- Two parts that are not the same have not the same digest. -/
def NoC (b s : ByteArray) (a i : Nat) : Prop := a + 8 ≤ s.size → 8 * i + 8 ≤ b.size → shaOf (bytesOf (b.extract (8 * i) (8 * i + 8))) = shaOf (bytesOf (s.extract a (a + 8))) → b.extract (8 * i) (8 * i + 8) = s.extract a (a + 8)
set_option maxHeartbeats 4000000 in
set_option maxRecDepth 100000 in
theorem dmakes_off0 (s t : ByteArray) (w : World) (h : 200 < s.size) : Calls Try.prog 16 #[.string s, .string t] w fun e w' => e = .returned (.bool true) ∧ Below w.heap.size w w' := by
  have d0 : decide ((s.size : Int) > 200) = true := decide_eq_true (by omega)
  have d1 : decide (200 < s.size) = true := decide_eq_true h
  go_enter Try.func16, Try.ntmps16
  go_wp2_with fail
  refine (awake11_call _).mono ?_
  rintro e w1 ⟨rfl, hb1⟩
  have HB1 := Aside0.mk hb1
  clear hb1
  go_wp2_with fail
  go_ret
  exact ⟨rfl, HB1.out⟩
set_option maxHeartbeats 4000000 in
set_option maxRecDepth 100000 in
theorem dmakes_off1 (s t : ByteArray) (w : World) (h : ¬ 200 < s.size) (h2 : 200 < t.size) : Calls Try.prog 16 #[.string s, .string t] w fun e w' => e = .returned (.bool true) ∧ Below w.heap.size w w' := by
  have d0 : decide ((s.size : Int) > 200) = false := decide_eq_false (by omega)
  have d1 : decide (200 < s.size) = false := decide_eq_false h
  have d2 : decide ((t.size : Int) > 200) = true := decide_eq_true (by omega)
  have d3 : decide (200 < t.size) = true := decide_eq_true h2
  go_enter Try.func16, Try.ntmps16
  go_wp2_with fail
  refine (awake11_call _).mono ?_
  rintro e w1 ⟨rfl, hb1⟩
  have HB1 := Aside0.mk hb1
  clear hb1
  go_wp2_with fail
  go_ret
  exact ⟨rfl, HB1.out⟩
set_option maxHeartbeats 16000000 in
set_option maxRecDepth 100000 in
theorem dmakes_main (b s : ByteArray) (w : World) (h1 : b.size ≤ 200) (h2 : s.size ≤ 200) : Calls Try.prog 16 #[.string b, .string s] w fun e w' => e = .returned (.bool true) ∧ Below w.heap.size w w' := by
  have d0 : decide ((b.size : Int) > 200) = false := decide_eq_false (by omega)
  have d1 : decide (200 < b.size) = false := decide_eq_false (by omega)
  have d2 : decide ((s.size : Int) > 200) = false := decide_eq_false (by omega)
  have d3 : decide (200 < s.size) = false := decide_eq_false (by omega)
  obtain ⟨n, hn⟩ : ∃ n, (signOf b).length = n := ⟨_, rfl⟩
  obtain ⟨R, hR⟩ : ∃ R, makeF (signOf b) s.size [] s = R := ⟨_, rfl⟩
  obtain ⟨m, hm⟩ : ∃ m, R.length = m := ⟨_, rfl⟩
  have HN := Aside0.mk hn
  have HRR := Aside0.mk hR
  have HM := Aside0.mk hm
  have HNL : Aside0 (n ≤ 100000) := ⟨by rw [← hn]; unfold signOf; split; simp; rw [blocks_length]; omega⟩
  have HML : Aside0 (m ≤ 1000000) := ⟨by
    rw [← hm, ← hR]
    have h := makeF_len (signOf b) s (by omega)
    omega⟩
  have HSUM : Aside0 (sumP R = (s.size : Int)) := ⟨by rw [← hR]; exact (makeF_least (signOf b) s (by omega)).1⟩
  have H1 := Aside0.mk h1
  have H2 := Aside0.mk h2
  clear hn hR hm h1 h2
  go_enter Try.func16, Try.ntmps16
  go_wp2_with fail
  refine (awake11_call _).mono ?_
  rintro e w1 ⟨rfl, hb1⟩
  have HB1 := Aside0.mk hb1
  clear hb1
  go_wp2_with fail
  refine (sign_callB b (by have := H1.out; omega) (signOf b) rfl n HN.out _).mono ?_
  rintro e w3 ⟨A3, c3, rfl, hc3, hr3, hb3⟩
  have HB3 := Aside0.mk (below_step HB1.out hb3)
  have HR3 := Aside0.mk hr3
  clear hc3 hr3 hb3 HB1
  go_wp2_with fail
  refine (make_callB HN.out A3 c3 s _ HR3.out (signOf_ok b) HNL.out (by have := H2.out; omega) R HRR.out m HM.out).mono ?_
  rintro e w4 ⟨A4, c4, rfl, hc4, hr4, hb4⟩
  have HB4 := Aside0.mk (below_step HB3.out hb4)
  have HR4 := Aside0.mk hr4
  have HC4 := Aside0.mk hc4
  clear hc4 hr4 hb4 HB3 HR3
  go_wp2_with fail
  go_loopg [7] s.size (fun k v w' => ∃ a : Nat, v = .int .i64 a ∧ Aside0 (k = s.size - a ∧ a ≤ s.size) ∧ Aside0 (∀ a' i, a' < a → NoC b s a' i) ∧ Aside0 (Kd.C k67 w' A4 m R) ∧ Aside0 (Below w.heap.size w w'))
  case atStart => exact ⟨0, rfl, ⟨by omega, by omega⟩, ⟨fun a' i h => by omega⟩, HR4, HB4⟩
  case round =>
    clear HR4 HB4
    obtain ⟨a, rfl, HJ, HNC, HR, HB⟩ := hrel
    obtain ⟨a8, ha8⟩ : ∃ a8, a8 = a + 8 := ⟨_, rfl⟩
    have va : IntKind.i64.wrap ((a : Int) + 8) = (a8 : Int) := by have := HJ.out; have := H2.out; rw [wrap_ok _ (by omega) (by omega)]; omega
    have HA8 := Aside0.mk ha8
    by_cases ha : a8 ≤ s.size
    · have e1 : decide ((a8 : Int) ≤ (s.size : Int)) = true := decide_eq_true (by omega)
      have e2 : decide (a8 ≤ s.size) = true := decide_eq_true ha
      have ew : IntKind.i64.wrap ((a : Int) + 1) = ((a + 1 : Nat) : Int) := by have := HJ.out; have := H2.out; rw [wrap_ok _ (by omega) (by omega)]; omega
      have hcut2 := cut_text s a a8 (by omega) ha
      obtain ⟨q2, hq2⟩ : ∃ q2, q2 = s.extract a a8 := ⟨_, rfl⟩
      rw [← hq2] at hcut2
      have HQ2 : Aside0 (q2.size = 8) := ⟨by rw [hq2]; simp only [ByteArray.size_extract]; omega⟩
      have HQE2 : Aside0 (q2 = s.extract a (a + 8)) := ⟨by rw [hq2, ha8]⟩
      have HA := Aside0.mk ha
      obtain ⟨y2, hy2⟩ : ∃ y2, shaOf (bytesOf q2) = y2 := ⟨_, rfl⟩
      have HY2 := Aside0.mk hy2
      have HL2 : Aside0 (y2.length = 32) := ⟨by rw [← hy2]; exact sha_len q2⟩
      clear ha ha8 hq2 hy2
      go_wp2_with fail
      go_loopg [8] b.size (fun k v w' => ∃ c i : Nat, v = .int .i64 c ∧ Aside0 (c = 8 * i ∧ c ≤ b.size) ∧ Aside0 (k = b.size - c) ∧ Aside0 (∀ i', i' < i → NoC b s a i') ∧ Aside0 (Kd.C k67 w' A4 m R) ∧ Aside0 (Below w.heap.size w w'))
      case atStart => exact ⟨0, 0, rfl, ⟨by omega, by omega⟩, ⟨rfl⟩, ⟨fun i' h => by omega⟩, HR, HB⟩
      case round =>
        clear HR HB
        obtain ⟨c, i, rfl, HC, HK, HNI, HR, HB⟩ := hrel
        obtain ⟨c8, hc8⟩ : ∃ c8, c8 = c + 8 := ⟨_, rfl⟩
        have vc : IntKind.i64.wrap ((c : Int) + 8) = (c8 : Int) := by have := HC.out; have := H1.out; rw [wrap_ok _ (by omega) (by omega)]; omega
        by_cases hcc : c8 ≤ b.size
        · have f1 : decide ((c8 : Int) ≤ (b.size : Int)) = true := decide_eq_true (by omega)
          have f2 : decide (c8 ≤ b.size) = true := decide_eq_true hcc
          have hcut1 := cut_text b c c8 (by omega) hcc
          obtain ⟨q1, hq1⟩ : ∃ q1, q1 = b.extract c c8 := ⟨_, rfl⟩
          rw [← hq1] at hcut1
          have HQ1 : Aside0 (q1.size = 8) := ⟨by rw [hq1]; simp only [ByteArray.size_extract]; omega⟩
          have HQE1 : Aside0 (q1 = b.extract (8 * i) (8 * i + 8)) := ⟨by rw [hq1, hc8, HC.out.1]⟩
          have HC2 : Aside0 (c8 = c + 8 ∧ c8 ≤ b.size) := ⟨⟨hc8, hcc⟩⟩
          obtain ⟨y1, hy1⟩ : ∃ y1, shaOf (bytesOf q1) = y1 := ⟨_, rfl⟩
          have HY1 := Aside0.mk hy1
          have HL1 : Aside0 (y1.length = 32) := ⟨by rw [← hy1]; exact sha_len q1⟩
          clear hcc hc8 hq1 hy1
          by_cases hqq : q1 = q2
          · have HQQ := Aside0.mk hqq
            have qe : (q1.toList == q2.toList) = true := by rw [hqq]; simp
            have qe2 : (q1.toList != q2.toList) = false := by rw [hqq]; simp
            clear hqq
            go_wp2_with fail
            refine wp_region_held_drew (S := (fun W => Kd.C k67 W A4 m R ∧ Below w.heap.size w W)) (by kernel_rfl) ((And.intro HR.out (below_drew HB.out))) (fun hHeld => ?_)
            refine wpAnyH_take (i := 0) (v := ?_) (by simp only [List.getElem?_toArray, List.getElem?_cons_succ, List.getElem?_cons_zero]; rfl) (by kernel_rfl) (by kernel_rfl) (by kernel_rfl) (by intro _ _ _ h; exact h) (Or.inl ⟨by rfl, ?hy⟩) (by assumption) ?_
            case hy => (intro W_ hW_; go_simp; first | done | with_reducible rfl)
            try simp only [Act.put, List.setIfInBounds_toArray, List.set_cons_zero, List.set_cons_succ]
            refine wpAnyH_take (i := 1) (v := ?_) (by simp only [List.getElem?_toArray, List.getElem?_cons_succ, List.getElem?_cons_zero]; rfl) (by kernel_rfl) (by kernel_rfl) (by kernel_rfl) (by intro _ _ _ h; exact h) (Or.inl ⟨by rfl, ?hy⟩) (by assumption) ?_
            case hy => (intro W_ hW_; go_simp; first | done | with_reducible rfl)
            try simp only [Act.put, List.setIfInBounds_toArray, List.set_cons_zero, List.set_cons_succ]
            refine wpAnyH_take (i := 2) (v := ?_) (by simp only [List.getElem?_toArray, List.getElem?_cons_succ, List.getElem?_cons_zero]; rfl) (by kernel_rfl) (by kernel_rfl) (by kernel_rfl) (by intro _ _ _ h; exact h) (Or.inl ⟨by rfl, ?hy⟩) (by assumption) ?_
            case hy => (intro W_ hW_; go_simp; first | done | with_reducible rfl)
            try simp only [Act.put, List.setIfInBounds_toArray, List.set_cons_zero, List.set_cons_succ]
            refine wpAnyH_take (i := 3) (v := ?_) (by simp only [List.getElem?_toArray, List.getElem?_cons_succ, List.getElem?_cons_zero]; rfl) (by kernel_rfl) (by kernel_rfl) (by kernel_rfl) (by intro _ _ _ h; exact h) (Or.inl ⟨by rfl, ?hy⟩) (by assumption) ?_
            case hy => (intro W_ hW_; go_simp; first | done | with_reducible rfl)
            try simp only [Act.put, List.setIfInBounds_toArray, List.set_cons_zero, List.set_cons_succ]
            refine wpAnyH_take (i := 4) (v := ?_) (by simp only [List.getElem?_toArray, List.getElem?_cons_succ, List.getElem?_cons_zero]; rfl) (by kernel_rfl) (by kernel_rfl) (by kernel_rfl) (by intro _ _ _ h; exact h) (Or.inl ⟨by rfl, ?hy⟩) (by assumption) ?_
            case hy => (intro W_ hW_; go_simp; first | done | with_reducible rfl)
            try simp only [Act.put, List.setIfInBounds_toArray, List.set_cons_zero, List.set_cons_succ]
            refine wpAnyH_take (i := 5) (v := ?_) (by simp only [List.getElem?_toArray, List.getElem?_cons_succ, List.getElem?_cons_zero]; rfl) (by kernel_rfl) (by kernel_rfl) (by kernel_rfl) (by intro _ _ _ h; exact h) (Or.inl ⟨by rfl, ?hy⟩) (by assumption) ?_
            case hy => (intro W_ hW_; go_simp; first | done | with_reducible rfl)
            try simp only [Act.put, List.setIfInBounds_toArray, List.set_cons_zero, List.set_cons_succ]
            refine wpAnyH_take (i := 6) (v := ?_) (by simp only [List.getElem?_toArray, List.getElem?_cons_succ, List.getElem?_cons_zero]; rfl) (by kernel_rfl) (by kernel_rfl) (by kernel_rfl) (by intro _ _ _ h; exact h) (Or.inl ⟨by rfl, ?hy⟩) (by assumption) ?_
            case hy => (intro W_ hW_; go_simp; first | done | with_reducible rfl)
            try simp only [Act.put, List.setIfInBounds_toArray, List.set_cons_zero, List.set_cons_succ]
            refine wpAnyH_take (i := 7) (v := ?_) (by simp only [List.getElem?_toArray, List.getElem?_cons_succ, List.getElem?_cons_zero]; rfl) (by kernel_rfl) (by kernel_rfl) (by kernel_rfl) (by intro _ _ _ h; exact h) (Or.inl ⟨by rfl, ?hy⟩) (by assumption) ?_
            case hy => (intro W_ hW_; go_simp; first | done | with_reducible rfl)
            try simp only [Act.put, List.setIfInBounds_toArray, List.set_cons_zero, List.set_cons_succ]
            refine wpAnyH_take (i := 8) (v := ?_) (by simp only [List.getElem?_toArray, List.getElem?_cons_succ, List.getElem?_cons_zero]; rfl) (by kernel_rfl) (by kernel_rfl) (by kernel_rfl) (by intro _ _ _ h; exact h) (Or.inl ⟨by rfl, ?hy⟩) (by assumption) ?_
            case hy => (intro W_ hW_; go_simp; first | done | with_reducible rfl)
            try simp only [Act.put, List.setIfInBounds_toArray, List.set_cons_zero, List.set_cons_succ]
            refine wpAnyH_take (i := 9) (v := ?_) (by simp only [List.getElem?_toArray, List.getElem?_cons_succ, List.getElem?_cons_zero]; rfl) (by kernel_rfl) (by kernel_rfl) (by kernel_rfl) (by intro _ _ _ h; exact h) (Or.inl ⟨by rfl, ?hy⟩) (by assumption) ?_
            case hy => (intro W_ hW_; go_simp; first | done | with_reducible rfl)
            try simp only [Act.put, List.setIfInBounds_toArray, List.set_cons_zero, List.set_cons_succ]
            refine wpAnyH_take (i := 10) (v := ?_) (by simp only [List.getElem?_toArray, List.getElem?_cons_succ, List.getElem?_cons_zero]; rfl) (by kernel_rfl) (by kernel_rfl) (by kernel_rfl) (by intro _ _ _ h; exact h) (Or.inl ⟨by rfl, ?hy⟩) (by assumption) ?_
            case hy => (intro W_ hW_; go_simp; first | done | with_reducible rfl)
            try simp only [Act.put, List.setIfInBounds_toArray, List.set_cons_zero, List.set_cons_succ]
            refine wpAnyH_take (i := 11) (v := ?_) (by simp only [List.getElem?_toArray, List.getElem?_cons_succ, List.getElem?_cons_zero]; rfl) (by kernel_rfl) (by kernel_rfl) (by kernel_rfl) (by intro _ _ _ h; exact h) (Or.inl ⟨by rfl, ?hy⟩) (by assumption) ?_
            case hy => (intro W_ hW_; go_simp; first | done | with_reducible rfl)
            try simp only [Act.put, List.setIfInBounds_toArray, List.set_cons_zero, List.set_cons_succ]
            refine wpAnyH_take (i := 12) (v := undef) (by simp only [List.getElem?_toArray, List.getElem?_cons_succ, List.getElem?_cons_zero]; rfl) (by kernel_rfl) (by kernel_rfl) (by kernel_rfl) (by intro _ _ _ h; exact h) (Or.inr ⟨by rfl, rfl⟩) (by assumption) ?_
            try simp only [Act.put, List.setIfInBounds_toArray, List.set_cons_zero, List.set_cons_succ]
            refine wpAnyH_take (i := 13) (v := undef) (by simp only [List.getElem?_toArray, List.getElem?_cons_succ, List.getElem?_cons_zero]; rfl) (by kernel_rfl) (by kernel_rfl) (by kernel_rfl) (by intro _ _ _ h; exact h) (Or.inr ⟨by rfl, rfl⟩) (by assumption) ?_
            try simp only [Act.put, List.setIfInBounds_toArray, List.set_cons_zero, List.set_cons_succ]
            refine wpAnyH_take (i := 14) (v := undef) (by simp only [List.getElem?_toArray, List.getElem?_cons_succ, List.getElem?_cons_zero]; rfl) (by kernel_rfl) (by kernel_rfl) (by kernel_rfl) (by intro _ _ _ h; exact h) (Or.inr ⟨by rfl, rfl⟩) (by assumption) ?_
            try simp only [Act.put, List.setIfInBounds_toArray, List.set_cons_zero, List.set_cons_succ]
            refine wpAnyH_take (i := 15) (v := undef) (by simp only [List.getElem?_toArray, List.getElem?_cons_succ, List.getElem?_cons_zero]; rfl) (by kernel_rfl) (by kernel_rfl) (by kernel_rfl) (by intro _ _ _ h; exact h) (Or.inr ⟨by rfl, rfl⟩) (by assumption) ?_
            try simp only [Act.put, List.setIfInBounds_toArray, List.set_cons_zero, List.set_cons_succ]
            refine wpAnyH_take (i := 16) (v := undef) (by simp only [List.getElem?_toArray, List.getElem?_cons_succ, List.getElem?_cons_zero]; rfl) (by kernel_rfl) (by kernel_rfl) (by kernel_rfl) (by intro _ _ _ h; exact h) (Or.inr ⟨by rfl, rfl⟩) (by assumption) ?_
            try simp only [Act.put, List.setIfInBounds_toArray, List.set_cons_zero, List.set_cons_succ]
            refine wpAnyH_take (i := 17) (v := undef) (by simp only [List.getElem?_toArray, List.getElem?_cons_succ, List.getElem?_cons_zero]; rfl) (by kernel_rfl) (by kernel_rfl) (by kernel_rfl) (by intro _ _ _ h; exact h) (Or.inr ⟨by rfl, rfl⟩) (by assumption) ?_
            try simp only [Act.put, List.setIfInBounds_toArray, List.set_cons_zero, List.set_cons_succ]
            refine wpAnyH_take (i := 18) (v := undef) (by simp only [List.getElem?_toArray, List.getElem?_cons_succ, List.getElem?_cons_zero]; rfl) (by kernel_rfl) (by kernel_rfl) (by kernel_rfl) (by intro _ _ _ h; exact h) (Or.inr ⟨by rfl, rfl⟩) (by assumption) ?_
            try simp only [Act.put, List.setIfInBounds_toArray, List.set_cons_zero, List.set_cons_succ]
            refine wpAnyH_take (i := 19) (v := undef) (by simp only [List.getElem?_toArray, List.getElem?_cons_succ, List.getElem?_cons_zero]; rfl) (by kernel_rfl) (by kernel_rfl) (by kernel_rfl) (by intro _ _ _ h; exact h) (Or.inr ⟨by rfl, rfl⟩) (by assumption) ?_
            try simp only [Act.put, List.setIfInBounds_toArray, List.set_cons_zero, List.set_cons_succ]
            refine wpAnyH_take (i := 20) (v := undef) (by simp only [List.getElem?_toArray, List.getElem?_cons_succ, List.getElem?_cons_zero]; rfl) (by kernel_rfl) (by kernel_rfl) (by kernel_rfl) (by intro _ _ _ h; exact h) (Or.inr ⟨by rfl, rfl⟩) (by assumption) ?_
            try simp only [Act.put, List.setIfInBounds_toArray, List.set_cons_zero, List.set_cons_succ]
            refine wpAnyH_take (i := 21) (v := undef) (by simp only [List.getElem?_toArray, List.getElem?_cons_succ, List.getElem?_cons_zero]; rfl) (by kernel_rfl) (by kernel_rfl) (by kernel_rfl) (by intro _ _ _ h; exact h) (Or.inr ⟨by rfl, rfl⟩) (by assumption) ?_
            try simp only [Act.put, List.setIfInBounds_toArray, List.set_cons_zero, List.set_cons_succ]
            refine wpAnyH_take (i := 22) (v := undef) (by simp only [List.getElem?_toArray, List.getElem?_cons_succ, List.getElem?_cons_zero]; rfl) (by kernel_rfl) (by kernel_rfl) (by kernel_rfl) (by intro _ _ _ h; exact h) (Or.inr ⟨by rfl, rfl⟩) (by assumption) ?_
            try simp only [Act.put, List.setIfInBounds_toArray, List.set_cons_zero, List.set_cons_succ]
            refine wpAnyH_take (i := 23) (v := undef) (by simp only [List.getElem?_toArray, List.getElem?_cons_succ, List.getElem?_cons_zero]; rfl) (by kernel_rfl) (by kernel_rfl) (by kernel_rfl) (by intro _ _ _ h; exact h) (Or.inr ⟨by rfl, rfl⟩) (by assumption) ?_
            try simp only [Act.put, List.setIfInBounds_toArray, List.set_cons_zero, List.set_cons_succ]
            refine wpAnyH_take (i := 24) (v := undef) (by simp only [List.getElem?_toArray, List.getElem?_cons_succ, List.getElem?_cons_zero]; rfl) (by kernel_rfl) (by kernel_rfl) (by kernel_rfl) (by intro _ _ _ h; exact h) (Or.inr ⟨by rfl, rfl⟩) (by assumption) ?_
            try simp only [Act.put, List.setIfInBounds_toArray, List.set_cons_zero, List.set_cons_succ]
            refine wpAnyH_take (i := 25) (v := ?_) (by simp only [List.getElem?_toArray, List.getElem?_cons_succ, List.getElem?_cons_zero]; rfl) (by kernel_rfl) (by kernel_rfl) (by kernel_rfl) (by intro _ _ _ h; exact h) (Or.inl ⟨by rfl, ?hy⟩) (by assumption) ?_
            case hy => (intro W_ hW_; go_simp; first | done | with_reducible rfl)
            try simp only [Act.put, List.setIfInBounds_toArray, List.set_cons_zero, List.set_cons_succ]
            refine wpAnyH_done (by kernel_rfl) ?_ _
            go_wp2_with fail
            go_roundg (b.size - c8)
            case measure => have := HK.out; have := HC2.out; omega
            case rel => exact ⟨c8, i + 1, rfl, ⟨by have := HC.out; have := HC2.out; omega, by have := HC2.out; omega⟩, ⟨rfl⟩, ⟨fun i' hi' => by
              by_cases h : i' < i
              · exact HNI.out i' h
              · have : i' = i := by omega
                subst this
                intro _ _ _
                rw [← HQE1.out, ← HQE2.out, HQQ.out]⟩, ⟨hHeld.1⟩, ⟨hHeld.2⟩⟩
          · have qn : q1.toList ≠ q2.toList := fun h => hqq (bytes_inj h)
            have qe : (q1.toList == q2.toList) = false := by simpa using qn
            have qe2 : (q1.toList != q2.toList) = true := by simpa using qn
            clear qn
            by_cases hyy : y1 = y2
            · have ye : (y1 == y2) = true := by simpa using hyy
              clear hqq hyy
              go_wp2_with fail
              refine wp_region_held_drew (S := (fun W => Kd.C k67 W A4 m R ∧ Below w.heap.size w W)) (by kernel_rfl) ((And.intro HR.out (below_drew HB.out))) (fun hHeld => ?_)
              refine wpAnyH_take (i := 0) (v := ?_) (by simp only [List.getElem?_toArray, List.getElem?_cons_succ, List.getElem?_cons_zero]; rfl) (by kernel_rfl) (by kernel_rfl) (by kernel_rfl) (by intro _ _ _ h; exact h) (Or.inl ⟨by rfl, ?hy⟩) (by assumption) ?_
              case hy => (intro W_ hW_; go_simp; first | done | with_reducible rfl)
              try simp only [Act.put, List.setIfInBounds_toArray, List.set_cons_zero, List.set_cons_succ]
              refine wpAnyH_take (i := 1) (v := ?_) (by simp only [List.getElem?_toArray, List.getElem?_cons_succ, List.getElem?_cons_zero]; rfl) (by kernel_rfl) (by kernel_rfl) (by kernel_rfl) (by intro _ _ _ h; exact h) (Or.inl ⟨by rfl, ?hy⟩) (by assumption) ?_
              case hy => (intro W_ hW_; go_simp; first | done | with_reducible rfl)
              try simp only [Act.put, List.setIfInBounds_toArray, List.set_cons_zero, List.set_cons_succ]
              refine wpAnyH_take (i := 2) (v := ?_) (by simp only [List.getElem?_toArray, List.getElem?_cons_succ, List.getElem?_cons_zero]; rfl) (by kernel_rfl) (by kernel_rfl) (by kernel_rfl) (by intro _ _ _ h; exact h) (Or.inl ⟨by rfl, ?hy⟩) (by assumption) ?_
              case hy => (intro W_ hW_; go_simp; first | done | with_reducible rfl)
              try simp only [Act.put, List.setIfInBounds_toArray, List.set_cons_zero, List.set_cons_succ]
              refine wpAnyH_take (i := 3) (v := ?_) (by simp only [List.getElem?_toArray, List.getElem?_cons_succ, List.getElem?_cons_zero]; rfl) (by kernel_rfl) (by kernel_rfl) (by kernel_rfl) (by intro _ _ _ h; exact h) (Or.inl ⟨by rfl, ?hy⟩) (by assumption) ?_
              case hy => (intro W_ hW_; go_simp; first | done | with_reducible rfl)
              try simp only [Act.put, List.setIfInBounds_toArray, List.set_cons_zero, List.set_cons_succ]
              refine wpAnyH_take (i := 4) (v := ?_) (by simp only [List.getElem?_toArray, List.getElem?_cons_succ, List.getElem?_cons_zero]; rfl) (by kernel_rfl) (by kernel_rfl) (by kernel_rfl) (by intro _ _ _ h; exact h) (Or.inl ⟨by rfl, ?hy⟩) (by assumption) ?_
              case hy => (intro W_ hW_; go_simp; first | done | with_reducible rfl)
              try simp only [Act.put, List.setIfInBounds_toArray, List.set_cons_zero, List.set_cons_succ]
              refine wpAnyH_take (i := 5) (v := ?_) (by simp only [List.getElem?_toArray, List.getElem?_cons_succ, List.getElem?_cons_zero]; rfl) (by kernel_rfl) (by kernel_rfl) (by kernel_rfl) (by intro _ _ _ h; exact h) (Or.inl ⟨by rfl, ?hy⟩) (by assumption) ?_
              case hy => (intro W_ hW_; go_simp; first | done | with_reducible rfl)
              try simp only [Act.put, List.setIfInBounds_toArray, List.set_cons_zero, List.set_cons_succ]
              refine wpAnyH_take (i := 6) (v := ?_) (by simp only [List.getElem?_toArray, List.getElem?_cons_succ, List.getElem?_cons_zero]; rfl) (by kernel_rfl) (by kernel_rfl) (by kernel_rfl) (by intro _ _ _ h; exact h) (Or.inl ⟨by rfl, ?hy⟩) (by assumption) ?_
              case hy => (intro W_ hW_; go_simp; first | done | with_reducible rfl)
              try simp only [Act.put, List.setIfInBounds_toArray, List.set_cons_zero, List.set_cons_succ]
              refine wpAnyH_take (i := 7) (v := ?_) (by simp only [List.getElem?_toArray, List.getElem?_cons_succ, List.getElem?_cons_zero]; rfl) (by kernel_rfl) (by kernel_rfl) (by kernel_rfl) (by intro _ _ _ h; exact h) (Or.inl ⟨by rfl, ?hy⟩) (by assumption) ?_
              case hy => (intro W_ hW_; go_simp; first | done | with_reducible rfl)
              try simp only [Act.put, List.setIfInBounds_toArray, List.set_cons_zero, List.set_cons_succ]
              refine wpAnyH_take (i := 8) (v := ?_) (by simp only [List.getElem?_toArray, List.getElem?_cons_succ, List.getElem?_cons_zero]; rfl) (by kernel_rfl) (by kernel_rfl) (by kernel_rfl) (by intro _ _ _ h; exact h) (Or.inl ⟨by rfl, ?hy⟩) (by assumption) ?_
              case hy => (intro W_ hW_; go_simp; first | done | with_reducible rfl)
              try simp only [Act.put, List.setIfInBounds_toArray, List.set_cons_zero, List.set_cons_succ]
              refine wpAnyH_take (i := 9) (v := ?_) (by simp only [List.getElem?_toArray, List.getElem?_cons_succ, List.getElem?_cons_zero]; rfl) (by kernel_rfl) (by kernel_rfl) (by kernel_rfl) (by intro _ _ _ h; exact h) (Or.inl ⟨by rfl, ?hy⟩) (by assumption) ?_
              case hy => (intro W_ hW_; go_simp; first | done | with_reducible rfl)
              try simp only [Act.put, List.setIfInBounds_toArray, List.set_cons_zero, List.set_cons_succ]
              refine wpAnyH_take (i := 10) (v := ?_) (by simp only [List.getElem?_toArray, List.getElem?_cons_succ, List.getElem?_cons_zero]; rfl) (by kernel_rfl) (by kernel_rfl) (by kernel_rfl) (by intro _ _ _ h; exact h) (Or.inl ⟨by rfl, ?hy⟩) (by assumption) ?_
              case hy => (intro W_ hW_; go_simp; first | done | with_reducible rfl)
              try simp only [Act.put, List.setIfInBounds_toArray, List.set_cons_zero, List.set_cons_succ]
              refine wpAnyH_take (i := 11) (v := ?_) (by simp only [List.getElem?_toArray, List.getElem?_cons_succ, List.getElem?_cons_zero]; rfl) (by kernel_rfl) (by kernel_rfl) (by kernel_rfl) (by intro _ _ _ h; exact h) (Or.inl ⟨by rfl, ?hy⟩) (by assumption) ?_
              case hy => (intro W_ hW_; go_simp; first | done | with_reducible rfl)
              try simp only [Act.put, List.setIfInBounds_toArray, List.set_cons_zero, List.set_cons_succ]
              refine wpAnyH_take (i := 12) (v := ?_) (by simp only [List.getElem?_toArray, List.getElem?_cons_succ, List.getElem?_cons_zero]; rfl) (by kernel_rfl) (by kernel_rfl) (by kernel_rfl) (by intro _ _ _ h; exact h) (Or.inl ⟨by rfl, ?hy⟩) (by assumption) ?_
              case hy => (intro W_ hW_; go_simp; first | done | with_reducible rfl)
              try simp only [Act.put, List.setIfInBounds_toArray, List.set_cons_zero, List.set_cons_succ]
              refine wpAnyH_take (i := 13) (v := ?_) (by simp only [List.getElem?_toArray, List.getElem?_cons_succ, List.getElem?_cons_zero]; rfl) (by kernel_rfl) (by kernel_rfl) (by kernel_rfl) (by intro _ _ _ h; exact h) (Or.inl ⟨by rfl, ?hy⟩) (by assumption) ?_
              case hy => (intro W_ hW_; go_simp; first | done | with_reducible rfl)
              try simp only [Act.put, List.setIfInBounds_toArray, List.set_cons_zero, List.set_cons_succ]
              refine wpAnyH_take (i := 14) (v := ?_) (by simp only [List.getElem?_toArray, List.getElem?_cons_succ, List.getElem?_cons_zero]; rfl) (by kernel_rfl) (by kernel_rfl) (by kernel_rfl) (by intro _ _ _ h; exact h) (Or.inl ⟨by rfl, ?hy⟩) (by assumption) ?_
              case hy => (intro W_ hW_; go_simp; first | done | with_reducible rfl)
              try simp only [Act.put, List.setIfInBounds_toArray, List.set_cons_zero, List.set_cons_succ]
              refine wpAnyH_take (i := 15) (v := ?_) (by simp only [List.getElem?_toArray, List.getElem?_cons_succ, List.getElem?_cons_zero]; rfl) (by kernel_rfl) (by kernel_rfl) (by kernel_rfl) (by intro _ _ _ h; exact h) (Or.inl ⟨by rfl, ?hy⟩) (by assumption) ?_
              case hy => (intro W_ hW_; go_simp; first | done | with_reducible rfl)
              try simp only [Act.put, List.setIfInBounds_toArray, List.set_cons_zero, List.set_cons_succ]
              refine wpAnyH_take (i := 16) (v := ?_) (by simp only [List.getElem?_toArray, List.getElem?_cons_succ, List.getElem?_cons_zero]; rfl) (by kernel_rfl) (by kernel_rfl) (by kernel_rfl) (by intro _ _ _ h; exact h) (Or.inl ⟨by rfl, ?hy⟩) (by assumption) ?_
              case hy => (intro W_ hW_; go_simp; first | done | with_reducible rfl)
              try simp only [Act.put, List.setIfInBounds_toArray, List.set_cons_zero, List.set_cons_succ]
              refine wpAnyH_take (i := 18) (v := ?_) (by simp only [List.getElem?_toArray, List.getElem?_cons_succ, List.getElem?_cons_zero]; rfl) (by kernel_rfl) (by kernel_rfl) (by kernel_rfl) (by intro _ _ _ h; exact h) (Or.inl ⟨by rfl, ?hy⟩) (by assumption) ?_
              case hy => (intro W_ hW_; go_simp; first | done | with_reducible rfl)
              try simp only [Act.put, List.setIfInBounds_toArray, List.set_cons_zero, List.set_cons_succ]
              refine wpAnyH_take (i := 19) (v := ?_) (by simp only [List.getElem?_toArray, List.getElem?_cons_succ, List.getElem?_cons_zero]; rfl) (by kernel_rfl) (by kernel_rfl) (by kernel_rfl) (by intro _ _ _ h; exact h) (Or.inl ⟨by rfl, ?hy⟩) (by assumption) ?_
              case hy => (intro W_ hW_; go_simp; first | done | with_reducible rfl)
              try simp only [Act.put, List.setIfInBounds_toArray, List.set_cons_zero, List.set_cons_succ]
              refine wpAnyH_take (i := 20) (v := ?_) (by simp only [List.getElem?_toArray, List.getElem?_cons_succ, List.getElem?_cons_zero]; rfl) (by kernel_rfl) (by kernel_rfl) (by kernel_rfl) (by intro _ _ _ h; exact h) (Or.inl ⟨by rfl, ?hy⟩) (by assumption) ?_
              case hy => (intro W_ hW_; go_simp; first | done | with_reducible rfl)
              try simp only [Act.put, List.setIfInBounds_toArray, List.set_cons_zero, List.set_cons_succ]
              refine wpAnyH_take (i := 21) (v := ?_) (by simp only [List.getElem?_toArray, List.getElem?_cons_succ, List.getElem?_cons_zero]; rfl) (by kernel_rfl) (by kernel_rfl) (by kernel_rfl) (by intro _ _ _ h; exact h) (Or.inl ⟨by rfl, ?hy⟩) (by assumption) ?_
              case hy => (intro W_ hW_; go_simp; first | done | with_reducible rfl)
              try simp only [Act.put, List.setIfInBounds_toArray, List.set_cons_zero, List.set_cons_succ]
              refine wpAnyH_take (i := 22) (v := ?_) (by simp only [List.getElem?_toArray, List.getElem?_cons_succ, List.getElem?_cons_zero]; rfl) (by kernel_rfl) (by kernel_rfl) (by kernel_rfl) (by intro _ _ _ h; exact h) (Or.inl ⟨by rfl, ?hy⟩) (by assumption) ?_
              case hy => (intro W_ hW_; go_simp; first | done | with_reducible rfl)
              try simp only [Act.put, List.setIfInBounds_toArray, List.set_cons_zero, List.set_cons_succ]
              refine wpAnyH_ready (rs := [17]) (by kernel_rfl) (by simp) ?_
              refine AllReadyH.cons (by simp only [List.getElem?_toArray, List.getElem?_cons_succ, List.getElem?_cons_zero]; rfl) (fun K hK => ?_) AllReadyH.nil
              rw [if_pos (by rfl)]
              go_wp2_with fail
              refine (sha_callB q1 (by have := HQ1.out; omega) y1 HY1.out _).mono ?_
              rintro e w6 ⟨rfl, hb6⟩
              refine hK.out _ _ (And.intro (Kd.C_below hHeld.1 hb6) (below_step hHeld.2 hb6)) (fun hHeld2 => ?_)
              clear hK K hHeld
              have hHeld := hHeld2
              clear hHeld2
              try simp only [Act.put, List.setIfInBounds_toArray, List.set_cons_zero, List.set_cons_succ]
              refine wpAnyH_ready (rs := [23]) (by kernel_rfl) (by simp) ?_
              refine AllReadyH.cons (by simp only [List.getElem?_toArray, List.getElem?_cons_succ, List.getElem?_cons_zero]; rfl) (fun K hK => ?_) AllReadyH.nil
              rw [if_pos (by rfl)]
              go_wp2_with fail
              refine (sha_callB q2 (by have := HQ2.out; omega) y2 HY2.out _).mono ?_
              rintro e w7 ⟨rfl, hb7⟩
              refine hK.out _ _ (And.intro (Kd.C_below hHeld.1 hb7) (below_step hHeld.2 hb7)) (fun hHeld2 => ?_)
              clear hK K hHeld
              have hHeld := hHeld2
              clear hHeld2
              try simp only [Act.put, List.setIfInBounds_toArray, List.set_cons_zero, List.set_cons_succ]
              refine wpAnyH_take (i := 24) (v := ?_) (by simp only [List.getElem?_toArray, List.getElem?_cons_succ, List.getElem?_cons_zero]; rfl) (by kernel_rfl) (by kernel_rfl) (by kernel_rfl) (by intro _ _ _ h; exact h) (Or.inl ⟨by rfl, ?hy⟩) (by assumption) ?_
              case hy => (intro W_ hW_; refine Eq.trans (exec_eql_dig y1 y2 HL1.out HL2.out (.tmp 60) (.tmp 66) ?_ ?_ ?_) ?_ <;> (first | with_reducible rfl | rfl))
              try simp only [Act.put, List.setIfInBounds_toArray, List.set_cons_zero, List.set_cons_succ]
              refine wpAnyH_take (i := 25) (v := ?_) (by simp only [List.getElem?_toArray, List.getElem?_cons_succ, List.getElem?_cons_zero]; rfl) (by kernel_rfl) (by kernel_rfl) (by kernel_rfl) (by intro _ _ _ h; exact h) (Or.inl ⟨by rfl, ?hy⟩) (by assumption) ?_
              case hy => (intro W_ hW_; go_simp; first | done | with_reducible rfl)
              try simp only [Act.put, List.setIfInBounds_toArray, List.set_cons_zero, List.set_cons_succ]
              refine wpAnyH_done (by kernel_rfl) ?_ _
              rw [ye]
              go_wp2_with fail
              go_ret
              exact ⟨rfl, hHeld.2⟩
            · have ye : (y1 == y2) = false := by simpa using hyy
              have HYY := Aside0.mk hyy
              clear hqq hyy
              go_wp2_with fail
              refine wp_region_held_drew (S := (fun W => Kd.C k67 W A4 m R ∧ Below w.heap.size w W)) (by kernel_rfl) ((And.intro HR.out (below_drew HB.out))) (fun hHeld => ?_)
              refine wpAnyH_take (i := 0) (v := ?_) (by simp only [List.getElem?_toArray, List.getElem?_cons_succ, List.getElem?_cons_zero]; rfl) (by kernel_rfl) (by kernel_rfl) (by kernel_rfl) (by intro _ _ _ h; exact h) (Or.inl ⟨by rfl, ?hy⟩) (by assumption) ?_
              case hy => (intro W_ hW_; go_simp; first | done | with_reducible rfl)
              try simp only [Act.put, List.setIfInBounds_toArray, List.set_cons_zero, List.set_cons_succ]
              refine wpAnyH_take (i := 1) (v := ?_) (by simp only [List.getElem?_toArray, List.getElem?_cons_succ, List.getElem?_cons_zero]; rfl) (by kernel_rfl) (by kernel_rfl) (by kernel_rfl) (by intro _ _ _ h; exact h) (Or.inl ⟨by rfl, ?hy⟩) (by assumption) ?_
              case hy => (intro W_ hW_; go_simp; first | done | with_reducible rfl)
              try simp only [Act.put, List.setIfInBounds_toArray, List.set_cons_zero, List.set_cons_succ]
              refine wpAnyH_take (i := 2) (v := ?_) (by simp only [List.getElem?_toArray, List.getElem?_cons_succ, List.getElem?_cons_zero]; rfl) (by kernel_rfl) (by kernel_rfl) (by kernel_rfl) (by intro _ _ _ h; exact h) (Or.inl ⟨by rfl, ?hy⟩) (by assumption) ?_
              case hy => (intro W_ hW_; go_simp; first | done | with_reducible rfl)
              try simp only [Act.put, List.setIfInBounds_toArray, List.set_cons_zero, List.set_cons_succ]
              refine wpAnyH_take (i := 3) (v := ?_) (by simp only [List.getElem?_toArray, List.getElem?_cons_succ, List.getElem?_cons_zero]; rfl) (by kernel_rfl) (by kernel_rfl) (by kernel_rfl) (by intro _ _ _ h; exact h) (Or.inl ⟨by rfl, ?hy⟩) (by assumption) ?_
              case hy => (intro W_ hW_; go_simp; first | done | with_reducible rfl)
              try simp only [Act.put, List.setIfInBounds_toArray, List.set_cons_zero, List.set_cons_succ]
              refine wpAnyH_take (i := 4) (v := ?_) (by simp only [List.getElem?_toArray, List.getElem?_cons_succ, List.getElem?_cons_zero]; rfl) (by kernel_rfl) (by kernel_rfl) (by kernel_rfl) (by intro _ _ _ h; exact h) (Or.inl ⟨by rfl, ?hy⟩) (by assumption) ?_
              case hy => (intro W_ hW_; go_simp; first | done | with_reducible rfl)
              try simp only [Act.put, List.setIfInBounds_toArray, List.set_cons_zero, List.set_cons_succ]
              refine wpAnyH_take (i := 5) (v := ?_) (by simp only [List.getElem?_toArray, List.getElem?_cons_succ, List.getElem?_cons_zero]; rfl) (by kernel_rfl) (by kernel_rfl) (by kernel_rfl) (by intro _ _ _ h; exact h) (Or.inl ⟨by rfl, ?hy⟩) (by assumption) ?_
              case hy => (intro W_ hW_; go_simp; first | done | with_reducible rfl)
              try simp only [Act.put, List.setIfInBounds_toArray, List.set_cons_zero, List.set_cons_succ]
              refine wpAnyH_take (i := 6) (v := ?_) (by simp only [List.getElem?_toArray, List.getElem?_cons_succ, List.getElem?_cons_zero]; rfl) (by kernel_rfl) (by kernel_rfl) (by kernel_rfl) (by intro _ _ _ h; exact h) (Or.inl ⟨by rfl, ?hy⟩) (by assumption) ?_
              case hy => (intro W_ hW_; go_simp; first | done | with_reducible rfl)
              try simp only [Act.put, List.setIfInBounds_toArray, List.set_cons_zero, List.set_cons_succ]
              refine wpAnyH_take (i := 7) (v := ?_) (by simp only [List.getElem?_toArray, List.getElem?_cons_succ, List.getElem?_cons_zero]; rfl) (by kernel_rfl) (by kernel_rfl) (by kernel_rfl) (by intro _ _ _ h; exact h) (Or.inl ⟨by rfl, ?hy⟩) (by assumption) ?_
              case hy => (intro W_ hW_; go_simp; first | done | with_reducible rfl)
              try simp only [Act.put, List.setIfInBounds_toArray, List.set_cons_zero, List.set_cons_succ]
              refine wpAnyH_take (i := 8) (v := ?_) (by simp only [List.getElem?_toArray, List.getElem?_cons_succ, List.getElem?_cons_zero]; rfl) (by kernel_rfl) (by kernel_rfl) (by kernel_rfl) (by intro _ _ _ h; exact h) (Or.inl ⟨by rfl, ?hy⟩) (by assumption) ?_
              case hy => (intro W_ hW_; go_simp; first | done | with_reducible rfl)
              try simp only [Act.put, List.setIfInBounds_toArray, List.set_cons_zero, List.set_cons_succ]
              refine wpAnyH_take (i := 9) (v := ?_) (by simp only [List.getElem?_toArray, List.getElem?_cons_succ, List.getElem?_cons_zero]; rfl) (by kernel_rfl) (by kernel_rfl) (by kernel_rfl) (by intro _ _ _ h; exact h) (Or.inl ⟨by rfl, ?hy⟩) (by assumption) ?_
              case hy => (intro W_ hW_; go_simp; first | done | with_reducible rfl)
              try simp only [Act.put, List.setIfInBounds_toArray, List.set_cons_zero, List.set_cons_succ]
              refine wpAnyH_take (i := 10) (v := ?_) (by simp only [List.getElem?_toArray, List.getElem?_cons_succ, List.getElem?_cons_zero]; rfl) (by kernel_rfl) (by kernel_rfl) (by kernel_rfl) (by intro _ _ _ h; exact h) (Or.inl ⟨by rfl, ?hy⟩) (by assumption) ?_
              case hy => (intro W_ hW_; go_simp; first | done | with_reducible rfl)
              try simp only [Act.put, List.setIfInBounds_toArray, List.set_cons_zero, List.set_cons_succ]
              refine wpAnyH_take (i := 11) (v := ?_) (by simp only [List.getElem?_toArray, List.getElem?_cons_succ, List.getElem?_cons_zero]; rfl) (by kernel_rfl) (by kernel_rfl) (by kernel_rfl) (by intro _ _ _ h; exact h) (Or.inl ⟨by rfl, ?hy⟩) (by assumption) ?_
              case hy => (intro W_ hW_; go_simp; first | done | with_reducible rfl)
              try simp only [Act.put, List.setIfInBounds_toArray, List.set_cons_zero, List.set_cons_succ]
              refine wpAnyH_take (i := 12) (v := ?_) (by simp only [List.getElem?_toArray, List.getElem?_cons_succ, List.getElem?_cons_zero]; rfl) (by kernel_rfl) (by kernel_rfl) (by kernel_rfl) (by intro _ _ _ h; exact h) (Or.inl ⟨by rfl, ?hy⟩) (by assumption) ?_
              case hy => (intro W_ hW_; go_simp; first | done | with_reducible rfl)
              try simp only [Act.put, List.setIfInBounds_toArray, List.set_cons_zero, List.set_cons_succ]
              refine wpAnyH_take (i := 13) (v := ?_) (by simp only [List.getElem?_toArray, List.getElem?_cons_succ, List.getElem?_cons_zero]; rfl) (by kernel_rfl) (by kernel_rfl) (by kernel_rfl) (by intro _ _ _ h; exact h) (Or.inl ⟨by rfl, ?hy⟩) (by assumption) ?_
              case hy => (intro W_ hW_; go_simp; first | done | with_reducible rfl)
              try simp only [Act.put, List.setIfInBounds_toArray, List.set_cons_zero, List.set_cons_succ]
              refine wpAnyH_take (i := 14) (v := ?_) (by simp only [List.getElem?_toArray, List.getElem?_cons_succ, List.getElem?_cons_zero]; rfl) (by kernel_rfl) (by kernel_rfl) (by kernel_rfl) (by intro _ _ _ h; exact h) (Or.inl ⟨by rfl, ?hy⟩) (by assumption) ?_
              case hy => (intro W_ hW_; go_simp; first | done | with_reducible rfl)
              try simp only [Act.put, List.setIfInBounds_toArray, List.set_cons_zero, List.set_cons_succ]
              refine wpAnyH_take (i := 15) (v := ?_) (by simp only [List.getElem?_toArray, List.getElem?_cons_succ, List.getElem?_cons_zero]; rfl) (by kernel_rfl) (by kernel_rfl) (by kernel_rfl) (by intro _ _ _ h; exact h) (Or.inl ⟨by rfl, ?hy⟩) (by assumption) ?_
              case hy => (intro W_ hW_; go_simp; first | done | with_reducible rfl)
              try simp only [Act.put, List.setIfInBounds_toArray, List.set_cons_zero, List.set_cons_succ]
              refine wpAnyH_take (i := 16) (v := ?_) (by simp only [List.getElem?_toArray, List.getElem?_cons_succ, List.getElem?_cons_zero]; rfl) (by kernel_rfl) (by kernel_rfl) (by kernel_rfl) (by intro _ _ _ h; exact h) (Or.inl ⟨by rfl, ?hy⟩) (by assumption) ?_
              case hy => (intro W_ hW_; go_simp; first | done | with_reducible rfl)
              try simp only [Act.put, List.setIfInBounds_toArray, List.set_cons_zero, List.set_cons_succ]
              refine wpAnyH_take (i := 18) (v := ?_) (by simp only [List.getElem?_toArray, List.getElem?_cons_succ, List.getElem?_cons_zero]; rfl) (by kernel_rfl) (by kernel_rfl) (by kernel_rfl) (by intro _ _ _ h; exact h) (Or.inl ⟨by rfl, ?hy⟩) (by assumption) ?_
              case hy => (intro W_ hW_; go_simp; first | done | with_reducible rfl)
              try simp only [Act.put, List.setIfInBounds_toArray, List.set_cons_zero, List.set_cons_succ]
              refine wpAnyH_take (i := 19) (v := ?_) (by simp only [List.getElem?_toArray, List.getElem?_cons_succ, List.getElem?_cons_zero]; rfl) (by kernel_rfl) (by kernel_rfl) (by kernel_rfl) (by intro _ _ _ h; exact h) (Or.inl ⟨by rfl, ?hy⟩) (by assumption) ?_
              case hy => (intro W_ hW_; go_simp; first | done | with_reducible rfl)
              try simp only [Act.put, List.setIfInBounds_toArray, List.set_cons_zero, List.set_cons_succ]
              refine wpAnyH_take (i := 20) (v := ?_) (by simp only [List.getElem?_toArray, List.getElem?_cons_succ, List.getElem?_cons_zero]; rfl) (by kernel_rfl) (by kernel_rfl) (by kernel_rfl) (by intro _ _ _ h; exact h) (Or.inl ⟨by rfl, ?hy⟩) (by assumption) ?_
              case hy => (intro W_ hW_; go_simp; first | done | with_reducible rfl)
              try simp only [Act.put, List.setIfInBounds_toArray, List.set_cons_zero, List.set_cons_succ]
              refine wpAnyH_take (i := 21) (v := ?_) (by simp only [List.getElem?_toArray, List.getElem?_cons_succ, List.getElem?_cons_zero]; rfl) (by kernel_rfl) (by kernel_rfl) (by kernel_rfl) (by intro _ _ _ h; exact h) (Or.inl ⟨by rfl, ?hy⟩) (by assumption) ?_
              case hy => (intro W_ hW_; go_simp; first | done | with_reducible rfl)
              try simp only [Act.put, List.setIfInBounds_toArray, List.set_cons_zero, List.set_cons_succ]
              refine wpAnyH_take (i := 22) (v := ?_) (by simp only [List.getElem?_toArray, List.getElem?_cons_succ, List.getElem?_cons_zero]; rfl) (by kernel_rfl) (by kernel_rfl) (by kernel_rfl) (by intro _ _ _ h; exact h) (Or.inl ⟨by rfl, ?hy⟩) (by assumption) ?_
              case hy => (intro W_ hW_; go_simp; first | done | with_reducible rfl)
              try simp only [Act.put, List.setIfInBounds_toArray, List.set_cons_zero, List.set_cons_succ]
              refine wpAnyH_ready (rs := [17]) (by kernel_rfl) (by simp) ?_
              refine AllReadyH.cons (by simp only [List.getElem?_toArray, List.getElem?_cons_succ, List.getElem?_cons_zero]; rfl) (fun K hK => ?_) AllReadyH.nil
              rw [if_pos (by rfl)]
              go_wp2_with fail
              refine (sha_callB q1 (by have := HQ1.out; omega) y1 HY1.out _).mono ?_
              rintro e w6 ⟨rfl, hb6⟩
              refine hK.out _ _ (And.intro (Kd.C_below hHeld.1 hb6) (below_step hHeld.2 hb6)) (fun hHeld2 => ?_)
              clear hK K hHeld
              have hHeld := hHeld2
              clear hHeld2
              try simp only [Act.put, List.setIfInBounds_toArray, List.set_cons_zero, List.set_cons_succ]
              refine wpAnyH_ready (rs := [23]) (by kernel_rfl) (by simp) ?_
              refine AllReadyH.cons (by simp only [List.getElem?_toArray, List.getElem?_cons_succ, List.getElem?_cons_zero]; rfl) (fun K hK => ?_) AllReadyH.nil
              rw [if_pos (by rfl)]
              go_wp2_with fail
              refine (sha_callB q2 (by have := HQ2.out; omega) y2 HY2.out _).mono ?_
              rintro e w7 ⟨rfl, hb7⟩
              refine hK.out _ _ (And.intro (Kd.C_below hHeld.1 hb7) (below_step hHeld.2 hb7)) (fun hHeld2 => ?_)
              clear hK K hHeld
              have hHeld := hHeld2
              clear hHeld2
              try simp only [Act.put, List.setIfInBounds_toArray, List.set_cons_zero, List.set_cons_succ]
              refine wpAnyH_take (i := 24) (v := ?_) (by simp only [List.getElem?_toArray, List.getElem?_cons_succ, List.getElem?_cons_zero]; rfl) (by kernel_rfl) (by kernel_rfl) (by kernel_rfl) (by intro _ _ _ h; exact h) (Or.inl ⟨by rfl, ?hy⟩) (by assumption) ?_
              case hy => (intro W_ hW_; refine Eq.trans (exec_eql_dig y1 y2 HL1.out HL2.out (.tmp 60) (.tmp 66) ?_ ?_ ?_) ?_ <;> (first | with_reducible rfl | rfl))
              try simp only [Act.put, List.setIfInBounds_toArray, List.set_cons_zero, List.set_cons_succ]
              refine wpAnyH_take (i := 25) (v := ?_) (by simp only [List.getElem?_toArray, List.getElem?_cons_succ, List.getElem?_cons_zero]; rfl) (by kernel_rfl) (by kernel_rfl) (by kernel_rfl) (by intro _ _ _ h; exact h) (Or.inl ⟨by rfl, ?hy⟩) (by assumption) ?_
              case hy => (intro W_ hW_; go_simp; first | done | with_reducible rfl)
              try simp only [Act.put, List.setIfInBounds_toArray, List.set_cons_zero, List.set_cons_succ]
              refine wpAnyH_done (by kernel_rfl) ?_ _
              rw [ye]
              go_wp2_with fail
              go_roundg (b.size - c8)
              case measure => have := HK.out; have := HC2.out; omega
              case rel => exact ⟨c8, i + 1, rfl, ⟨by have := HC.out; have := HC2.out; omega, by have := HC2.out; omega⟩, ⟨rfl⟩, ⟨fun i' hi' => by
                by_cases h : i' < i
                · exact HNI.out i' h
                · have : i' = i := by omega
                  subst this
                  intro _ _ h3
                  rw [← HQE1.out, ← HQE2.out, HY1.out, HY2.out] at h3
                  exact absurd h3 HYY.out⟩, ⟨hHeld.1⟩, ⟨hHeld.2⟩⟩
        · have f1 : decide ((c8 : Int) ≤ (b.size : Int)) = false := decide_eq_false (by omega)
          have f2 : decide (c8 ≤ b.size) = false := decide_eq_false hcc
          have HNA : Aside0 (∀ i, NoC b s a i) := ⟨fun i' => by
            by_cases h : i' < i
            · exact HNI.out i' h
            · intro _ hb8 _
              have := HC.out
              omega⟩
          clear hcc hc8
          go_wp2_with fail
          go_roundg (s.size - (a + 1))
          case measure => have := HJ.out; have := HA.out; have := HA8.out; omega
          case rel => exact ⟨a + 1, by simp [ew], ⟨rfl, by have := HA.out; have := HA8.out; omega⟩, ⟨fun a' i' h => by
            by_cases h' : a' < a
            · exact HNC.out a' i' h'
            · have : a' = a := by omega
              subst this
              exact HNA.out i'⟩, HR, HB⟩
    · have e1 : decide ((a8 : Int) ≤ (s.size : Int)) = false := decide_eq_false (by omega)
      have e2 : decide (a8 ≤ s.size) = false := decide_eq_false ha
      have hno : ∀ a' i, NoC b s a' i := fun a' i => by
        by_cases h : a' < a
        · exact HNC.out a' i h
        · intro h8 _ _
          omega
      have hmk := makeF_makes b s H1.out H2.out (fun a' i => hno a' i)
      rw [HRR.out] at hmk
      have HMK := Aside0.mk hmk
      clear ha ha8 hno hmk
      by_cases hm60 : m ≤ 60
      · have hmay : mayL R = true := made_may H1.out HMK.out.2 (by have := HSUM.out; have := H2.out; omega) (by have := HM.out; omega)
        have HAP : Aside0 (applyL b R = (s, true)) := ⟨by rw [applyL_yes hmay (made_fits HMK.out.2), HMK.out.1]⟩
        have HMAY := Aside0.mk hmay
        clear hmay hm60
        go_wp2_with fail
        refine (apply_callB HM.out A4 c4 b _ HR.out HC4.out (by have := HML.out; omega) (by have := H1.out; omega) (s, true) HAP.out).mono ?_
        rintro e w5 ⟨rfl, hb5⟩
        have HB5 := Aside0.mk (below_step HB.out hb5)
        have HR5 := Aside0.mk (Kd.C_below HR.out hb5)
        clear hb5
        go_wp2_with fail
        refine (may_callB HM.out A4 c4 _ HR5.out HC4.out (by have := HML.out; omega) true HMAY.out).mono ?_
        rintro e w6 ⟨rfl, hb6⟩
        have HB6 := Aside0.mk (below_step HB5.out hb6)
        clear hb6
        go_wp2_with fail
        go_ret
        exact ⟨rfl, HB6.out⟩
      · have hmay : mayL R = false := by
          cases hq : mayL R
          · rfl
          · have := ((mayL_iff R).1 hq).2.1
            have := HM.out
            omega
        have HAP : Aside0 (applyL b R = (⟨#[]⟩, false)) := ⟨applyL_no (fun h => by rw [hmay] at h; simp at h)⟩
        have HMAY := Aside0.mk hmay
        have g1 : decide ((m : Int) > 60) = true := decide_eq_true (by omega)
        have g2 : decide (60 < m) = true := decide_eq_true (by omega)
        clear hmay hm60
        go_wp2_with fail
        refine (apply_callB HM.out A4 c4 b _ HR.out HC4.out (by have := HML.out; omega) (by have := H1.out; omega) (⟨#[]⟩, false) HAP.out).mono ?_
        rintro e w5 ⟨rfl, hb5⟩
        have HB5 := Aside0.mk (below_step HB.out hb5)
        have HR5 := Aside0.mk (Kd.C_below HR.out hb5)
        clear hb5
        go_wp2_with fail
        refine (may_callB HM.out A4 c4 _ HR5.out HC4.out (by have := HML.out; omega) false HMAY.out).mono ?_
        rintro e w6 ⟨rfl, hb6⟩
        have HB6 := Aside0.mk (below_step HB5.out hb6)
        clear hb6
        go_wp2_with fail
        go_ret
        exact ⟨rfl, HB6.out⟩
theorem rolodexlaw11_DeltaMakes.walk (a0 : ByteArray) (a1 : ByteArray) (w : World) (w0 : a0.size ≤ 140737488351232) (w1 : a1.size ≤ 140737488351232) :
    Calls Try.prog 16 #[.string a0, .string a1] w fun e w' => e = .returned (.bool true) ∧ Below w.heap.size w w' := by
  by_cases h1 : 200 < a0.size
  · exact dmakes_off0 a0 a1 w h1
  · by_cases h2 : 200 < a1.size
    · exact dmakes_off1 a0 a1 w h1 h2
    · exact dmakes_main a0 a1 w (by omega) (by omega)
end Go.Proofs.Ytchaegfdcdlfaaa.X

/- The row of DeltaMakes, over the walk that is proved by hand. -/
namespace Go.Proofs.Ytchaegfdcdlfaaa.deltaMakes
open Go.ChangeShapes Go.WideShapes Go.ChangeAt Go.RowKit
open Go.ChangeMaps (open_string shut_string)
set_option linter.unusedVariables false
theorem own : ownKnob Try.prog.godebug = none := by kernel_rfl
set_option maxRecDepth 100000 in
theorem lifted (os : Os) (started : os.Started) (H : Type) (enc : TypeId × Value → H) :
    ReturnsInHanded {} Try.checked os 16 .any (Rows.deltaMakesSpec.pre6 enc Try.prog Try.f16 Rows.deltaMakesRow.domain false) (Rows.deltaMakesSpec.post enc Try.prog Try.f16 false true false false) := by
  refine returnsInHanded_of_change_sized (C := Try.checked) own started (by kernel_rfl) Try.func16
    (ChangeSpec.witness6 (enc := enc) (C := Try.checked) false ⟨#[], #[.string ByteArray.empty, .string ByteArray.empty], []⟩ 8 (by kernel_rfl) (by kernel_rfl) (by kernel_rfl) (by kernel_rfl)) ?_
  intro W base args ds gs before hval0 hW hcnd hsz0 _
  have hsz : (DataW.weightsEach Try.prog (Try.f16.params.toList ++ Rows.deltaMakesSpec.plain.varTypes Try.prog) (ds ++ gs)).all (· ≤ reachBytes) = true := hsz0
  have hval : ∀ (j : Nat) t v, Try.f16.params[j]? = some t → args[j]? = some v → Value.okWide Try.prog W .any base t v := hval0
  have hW' := hW
  obtain ⟨p, q, hA0, hV, rfl, hfz, hnd⟩ := hW
  have hA : DataW.TrodAll enc Try.prog W 0 (fun _ => true) true Try.f16.params.toList args.toList ds p := hA0
  rw [Try.params16] at hA hval hsz
  obtain ⟨v0, vs0, d0, ds0, p0, q0, hargs, rfl, rfl, h0, r0⟩ := trodAll_cons hA
  obtain ⟨v1, vs1, d1, ds1, p1, q1, rfl, rfl, rfl, h1, r1⟩ := trodAll_cons r0
  obtain ⟨rfl, rfl, rfl⟩ := trodAll_nil r1
  obtain rfl : args = #[v0, v1] := by cases args; simp_all
  obtain ⟨rfl, rfl⟩ := trodVars_none hV
  obtain ⟨a0, rfl, rfl, rfl, y0⟩ := open_string Try.underlying9 (hval 0 9 v0 rfl rfl) h0
  have w0 : a0.size ≤ 140737488351232 := by
    have z := sized_string hsz (j := 0) (t := 9) rfl rfl
    rw [Array.length_toList] at z
    exact z
  obtain ⟨a1, rfl, rfl, rfl, y1⟩ := open_string Try.underlying9 (hval 1 9 v1 rfl rfl) h1
  have w1 : a1.size ≤ 140737488351232 := by
    have z := sized_string hsz (j := 1) (t := 9) rfl rfl
    rw [Array.length_toList] at z
    exact z
  clear hA0 hval0 hsz0 hsz
  refine (X.rolodexlaw11_DeltaMakes.walk a0 a1 W w0 w1).mono fun e W' ⟨he, bel⟩ => ?_
  subst he
  exact ⟨_, rfl, _, _, _, [], _, [], hW', trodAll_mk1 (shut_bool Try.underlying4 _), (trodAll_cons_mk (shut_string Try.underlying9 y0) (trodAll_cons_mk (shut_string Try.underlying9 y1) trodAll_mk0)), rfl, bel.frame _, fun h => by cases h⟩
theorem clos0 : (J.closT Try.prog 185 [16] []).isSome = true := by kernel_rfl
theorem clos1 : Try.prog.closure 16 = (J.closT Try.prog 185 [16] []).getD [] := J.clos_eq (of_decide_eq_true (by kernel_rfl)) clos0
theorem fact1 : Try.prog.inPlace 16 = ["internal/abi.NoEscape"] := by unfold Program.inPlace; rw [clos1]; kernel_rfl
theorem fact2 : Try.prog.unfollowed 16 = true := by unfold Program.unfollowed; rw [clos1]; kernel_rfl
theorem fact3 : Try.prog.recurses 16 = true := by unfold Program.recurses; rw [fact2]; rfl
theorem fact4 : Try.prog.varsNamed 16 = [] := by unfold Program.varsNamed; rw [clos1]; kernel_rfl
set_option maxRecDepth 100000 in
theorem facts : joinedFacts Try.prog 16 Try.f16 Rows.deltaMakesSpec Rows.deltaMakesRow = true := by
  unfold joinedFacts
  simp only [Bool.and_eq_true]
  repeat' apply And.intro
  all_goals first | (with_reducible exact J.mayEnter) | (rw [J.liftsFinal]; kernel_rfl) | (rw [J.make]; kernel_rfl) | (rw [fact1]; kernel_rfl) | (rw [fact2]; kernel_rfl) | (rw [fact3]; kernel_rfl) | (rw [fact4]; kernel_rfl) | kernel_rfl
theorem over : Rows.deltaMakesRow.holds Try.pinned (OpenSpec.ofChange Rows.deltaMakesSpec) :=
  OpenClaim.holds_of_wide 16 Try.f16 rfl rfl rfl rfl rfl rfl rfl ⟨rfl, rfl, rfl, rfl, rfl⟩ rfl rfl rfl rfl rfl (by kernel_rfl) Try.func16 facts
    (of_decide_eq_true (by kernel_rfl)) (by unfold Func.isWrapper; first | (rw [if_pos (by decide +kernel)]; kernel_rfl) | (rw [if_neg (by decide +kernel)]; exact ⟨rfl, rfl⟩))
    (fun os started H enc _ => lifted os started H enc)
theorem proved : Rows.DeltaMakesSaid := over
#print axioms proved
end Go.Proofs.Ytchaegfdcdlfaaa.deltaMakes
namespace Go.Proofs.Ytchaegfdcdlfaaa
/-- The row, under a short name, for the claim. -/
theorem deltaMakes_holds : Rows.DeltaMakesSaid := deltaMakes.proved
end Go.Proofs.Ytchaegfdcdlfaaa
