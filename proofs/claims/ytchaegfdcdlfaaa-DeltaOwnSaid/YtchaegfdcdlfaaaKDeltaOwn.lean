/- DeltaOwn: the walk, the plain law, the row. -/
import Derived.WalkLawsBesides
import Derived.Test.YtchaegfdcdlfaaaE5
import Derived.Test.YtchaegfdcdlfaaaRows
import Derived.WalkKit
import Derived.ProofKit
import Derived.OpenShut
import Derived.ShutString
import Derived.ChangeOld
import Derived.Below
import Derived.SizedLaws

/- Of a value itself no text is made: the walk. -/
namespace Go.Proofs.Ytchaegfdcdlfaaa.X
set_option linter.unusedVariables false
set_option linter.unusedSimpArgs false
open Go.RowKit Go.Maps Go.Proofs.YtchaegfdcdlfaaaW.PrintWords Go.Proofs.YtchaegfdcdlfaaaW.PrintLast Go.Proofs.YtchaegfdcdlfaaaW.PrintMore

theorem makeF_len (sig : List Sg) (s : ByteArray) (hs : s.size ≤ 1000000) : (makeF sig s.size [] s).length ≤ s.size := by
  obtain ⟨t, h0, h1⟩ := makeF_ind sig (fun l t => l.length + t.size ≤ s.size)
    (by
      intro l t i h h8 _
      have := blockL_len l ((i : Int) * 8)
      simp only [ByteArray.size_extract]
      omega)
    (by
      intro l t h h8 _
      have := litL_len l (t.extract 0 1)
      simp only [ByteArray.size_extract]
      omega)
    s.size [] s (Nat.le_refl _) (by simp)
  omega
theorem makeF_nonneg (sig : List Sg) (s : ByteArray) (hs : s.size ≤ 1000000) : ∀ p ∈ makeF sig s.size [] s, 0 ≤ p.f2 := by
  obtain ⟨t, h0, _, h1⟩ := makeF_ind sig (fun l t => t.size ≤ s.size ∧ ∀ p ∈ l, 0 ≤ p.f2 ∧ p.f2 + (t.size : Int) ≤ (s.size : Int))
    (by
      rintro l t i ⟨ht, h⟩ h8 _
      have e : (t.extract 8 t.size).size = t.size - 8 := by simp only [ByteArray.size_extract]; omega
      rw [e]
      refine ⟨by omega, ?_⟩
      have hnew : (0 : Int) ≤ 8 ∧ (8 : Int) + ((t.size - 8 : Nat) : Int) ≤ (s.size : Int) := by omega
      rcases snoc_cases l with rfl | ⟨m, p, rfl⟩
      · rw [blockL_nil]
        intro q hq
        rw [List.mem_singleton.1 hq]
        exact hnew
      · have hp := h p (by simp)
        rw [blockL_snoc]
        split
        · have ew : IntKind.i64.wrap (p.f2 + 8) = p.f2 + 8 := wrap_ok _ (by omega) (by omega)
          rw [ew]
          intro q hq
          rcases List.mem_append.1 hq with hq | hq
          · have := h q (by simp [hq])
            omega
          · rw [List.mem_singleton.1 hq]
            show 0 ≤ p.f2 + 8 ∧ p.f2 + 8 + _ ≤ _
            omega
        · intro q hq
          rcases List.mem_append.1 hq with hq | hq
          · have := h q hq
            omega
          · rw [List.mem_singleton.1 hq]
            exact hnew)
    (by
      rintro l t ⟨ht, h⟩ h8 _
      have e : (t.extract 1 t.size).size = t.size - 1 := by simp only [ByteArray.size_extract]; omega
      rw [e]
      refine ⟨by omega, ?_⟩
      have hnew : (0 : Int) ≤ 0 ∧ (0 : Int) + ((t.size - 1 : Nat) : Int) ≤ (s.size : Int) := by omega
      rcases snoc_cases l with rfl | ⟨m, p, rfl⟩
      · rw [litL_nil]
        intro q hq
        rw [List.mem_singleton.1 hq]
        exact hnew
      · have hp := h p (by simp)
        rw [litL_snoc]
        split
        · intro q hq
          rcases List.mem_append.1 hq with hq | hq
          · have := h q (by simp [hq])
            omega
          · rw [List.mem_singleton.1 hq]
            show 0 ≤ p.f2 ∧ p.f2 + _ ≤ _
            omega
        · intro q hq
          rcases List.mem_append.1 hq with hq | hq
          · have := h q hq
            omega
          · rw [List.mem_singleton.1 hq]
            exact hnew)
    s.size [] s (Nat.le_refl _) ⟨by omega, by simp⟩
  exact fun p hp => (h1 p hp).1
theorem sum_pos : ∀ {l : List S67}, (∀ p ∈ l, 0 ≤ p.f2) → 0 ≤ sumP l
  | [], _ => by rw [sumP_nil]; omega
  | p :: l, h => by
    rw [sumP_cons]
    have h1 := sum_pos (l := l) (fun q hq => h q (by simp [hq]))
    have h2 := h p (by simp)
    omega
theorem sum_next (R : List S67) (j : Nat) (h : j < R.length) (hn : ∀ p ∈ R, 0 ≤ p.f2) : sumP (R.take (j + 1)) = sumP (R.take j) + ((R.getD j z67).f2 + ((R.getD j z67).f3.size : Int)) ∧ 0 ≤ (R.getD j z67).f2 ∧ 0 ≤ sumP (R.take j) ∧ sumP (R.take j) + ((R.getD j z67).f2 + ((R.getD j z67).f3.size : Int)) ≤ sumP R := by
  have e : sumP (R.take (j + 1)) = sumP (R.take j) + ((R.getD j z67).f2 + ((R.getD j z67).f3.size : Int)) := by rw [take_snocD R j h, sumP_append, sumP_one]
  have h1 : 0 ≤ sumP (R.drop (j + 1)) := sum_pos (fun p hp => hn p (List.mem_of_mem_drop hp))
  have h2 : 0 ≤ sumP (R.take j) := sum_pos (fun p hp => hn p (List.mem_of_mem_take hp))
  have h3 : sumP R = sumP (R.take (j + 1)) + sumP (R.drop (j + 1)) := by rw [← sumP_append, List.take_append_drop]
  refine ⟨e, hn _ ?_, h2, by omega⟩
  rw [List.getD_eq_getElem?_getD, List.getElem?_eq_getElem h]
  exact List.getElem_mem h
set_option maxHeartbeats 4000000 in
set_option maxRecDepth 100000 in
theorem down_off (s : ByteArray) (w : World) (h : 200 < s.size) : Calls Try.prog 18 #[.string s] w fun e w' => e = .returned (.bool true) ∧ Below w.heap.size w w' := by
  have d0 : decide ((s.size : Int) > 200) = true := decide_eq_true (by omega)
  have d1 : decide (200 < s.size) = true := decide_eq_true h
  go_enter Try.func18, Try.ntmps18
  go_wp2_with fail
  refine (awake11_call _).mono ?_
  rintro e w1 ⟨rfl, hb1⟩
  have HB1 := Aside0.mk hb1
  clear hb1
  go_wp2_with fail
  go_ret
  exact ⟨rfl, HB1.out⟩
set_option maxHeartbeats 4000000 in
set_option maxRecDepth 100000 in
theorem down_nil (s : ByteArray) (w : World) (h : s.size = 0) : Calls Try.prog 18 #[.string s] w fun e w' => e = .returned (.bool true) ∧ Below w.heap.size w w' := by
  have d0 : decide ((s.size : Int) > 200) = false := decide_eq_false (by omega)
  have d1 : decide (200 < s.size) = false := decide_eq_false (by omega)
  have g1 : s.toList.isEmpty = true := by rw [toList_nil h]; rfl
  have H := Aside0.mk h
  clear h
  go_enter Try.func18, Try.ntmps18
  go_wp2_with fail
  refine (awake11_call _).mono ?_
  rintro e w1 ⟨rfl, hb1⟩
  have HB1 := Aside0.mk hb1
  clear hb1
  go_wp2_with fail
  refine (make_callB (sig := []) (n := 0) rfl none 0 s _ (sg_nil _) (by simp) (by omega) (by have := H.out; omega) [] (makeF_end _ _ _ _ H.out) 0 rfl).mono ?_
  rintro e w2 ⟨A1, c1, rfl, hc1, hr1, hb2⟩
  have HB2 := Aside0.mk (below_step HB1.out hb2)
  clear hc1 hr1 hb2
  go_wp2_with fail
  go_ret
  exact ⟨rfl, HB2.out⟩
theorem pos_of_sum {l : List S67} {n : Nat} (h : sumP l = (n : Int)) (h0 : 0 < n) : 0 < l.length := by
  cases l with
  | nil => rw [sumP_nil] at h; omega
  | cons a l => simp
theorem pc_one {W : World} {A : Option Addr} {p : S67} (h : Kd.C k67 W A 1 [p]) : ∃ ad, A = some ad ∧ PcAt W ad p := by
  obtain ⟨ad, hA, h0⟩ := pc_at h (i := 0) (by omega) p rfl
  exact ⟨ad, hA, h0⟩
set_option maxHeartbeats 4000000 in
set_option maxRecDepth 100000 in
theorem down_main (s : ByteArray) (w : World) (h0 : 0 < s.size) (h2 : s.size ≤ 200) : Calls Try.prog 18 #[.string s] w fun e w' => e = .returned (.bool true) ∧ Below w.heap.size w w' := by
  have d0 : decide ((s.size : Int) > 200) = false := decide_eq_false (by omega)
  have d1 : decide (200 < s.size) = false := decide_eq_false (by omega)
  have g1 : s.toList.isEmpty = false := toList_cons (by omega)
  obtain ⟨n, hn⟩ : ∃ n, (signOf s).length = n := ⟨_, rfl⟩
  obtain ⟨R, hR⟩ : ∃ R, makeF (signOf s) s.size [] s = R := ⟨_, rfl⟩
  obtain ⟨m, hm⟩ : ∃ m, R.length = m := ⟨_, rfl⟩
  have HN := Aside0.mk hn
  have HRR := Aside0.mk hR
  have HM := Aside0.mk hm
  have HNL : Aside0 (n ≤ 100000) := ⟨by rw [← hn]; unfold signOf; split; simp; rw [blocks_length]; omega⟩
  have HMP : Aside0 (0 < m) := ⟨by rw [← hm, ← hR]; exact pos_of_sum (makeF_least (signOf s) s (by omega)).1 h0⟩
  have HML : Aside0 (m ≤ 1000000) := ⟨by
    rw [← hm, ← hR]
    have h := makeF_len (signOf s) s (by omega)
    omega⟩
  have HCP : Aside0 (24 ≤ s.size → s.size % 8 = 0 → ∀ p ∈ R, p.f0 = true) := ⟨fun a b => by rw [← hR]; exact makeF_own s a b⟩
  have H0 := Aside0.mk h0
  have H2 := Aside0.mk h2
  clear hn hR hm h0 h2
  go_enter Try.func18, Try.ntmps18
  go_wp2_with fail
  refine (awake11_call _).mono ?_
  rintro e w1 ⟨rfl, hb1⟩
  have HB1 := Aside0.mk hb1
  clear hb1
  go_wp2_with fail
  refine (make_callB (sig := []) (n := 0) rfl none 0 s _ (sg_nil _) (by simp) (by omega) (by have := H2.out; omega) [⟨false, 0, 0, s⟩] (makeF_none s H0.out) 1 rfl).mono ?_
  rintro e w2 ⟨A1, c1, rfl, hc1, hr1, hb2⟩
  have HB2 := Aside0.mk (below_step HB1.out hb2)
  obtain ⟨ad, hA, x0, x1, x2, x3⟩ := pc_one hr1
  subst hA
  clear hc1 hr1 hb2 HB1
  dsimp only at x0 x1 x2 x3
  go_wp2_with fail
  refine (sign_callB s (by have := H2.out; omega) (signOf s) rfl n HN.out _).mono ?_
  rintro e w3 ⟨A3, c3, rfl, hc3, hr3, hb3⟩
  have HB3 := Aside0.mk (below_step HB2.out hb3)
  have HR3 := Aside0.mk hr3
  clear hc3 hr3 hb3 HB2 x0 x1 x2 x3
  go_wp2_with fail
  refine (make_callB HN.out A3 c3 s _ HR3.out (signOf_ok s) HNL.out (by have := H2.out; omega) R HRR.out m HM.out).mono ?_
  rintro e w4 ⟨A4, c4, rfl, hc4, hr4, hb4⟩
  have HB4 := Aside0.mk (below_step HB3.out hb4)
  have HR4 := Aside0.mk hr4
  clear hc4 hr4 hb4 HB3 HR3
  go_wp2_with fail
  go_loopg [6] m (fun k v w' => ∃ j : Nat, v = .int .i64 j ∧ Aside0 (k = m - j ∧ j ≤ m) ∧ Aside0 (Kd.C k67 w' A4 m R) ∧ Aside0 (Below w.heap.size w w'))
  case atStart => exact ⟨0, rfl, ⟨by omega, by omega⟩, HR4, HB4⟩
  case round =>
    clear HR4 HB4
    obtain ⟨j, rfl, HJ, HR, HB⟩ := hrel
    have fin1 : decide ((m : Int) ≥ 1) = true := decide_eq_true (by have := HMP.out; omega)
    have fin2 : decide (1 ≤ m) = true := decide_eq_true (by have := HMP.out; omega)
    obtain ⟨r, hr⟩ : ∃ r, s.size % 8 = r := ⟨_, rfl⟩
    have t1 : Int.tmod (s.size : Int) 8 = (r : Int) := by rw [Int.tmod_eq_emod_of_nonneg (by omega)]; omega
    have t2 : IntKind.i64.wrap (r : Int) = (r : Int) := wrap_ok _ (by omega) (by omega)
    by_cases hj : j < m
    · have e1 : decide ((j : Int) < (m : Int)) = true := by simpa using hj
      have e2 : ((j : Int) < (m : Int)) = True := by simpa using hj
      have e3 : (0 ≤ (j : Int)) = True := by simp
      by_cases h24 : 24 ≤ s.size
      · have f1 : decide ((s.size : Int) ≥ 24) = true := decide_eq_true (by omega)
        have f2 : decide (24 ≤ s.size) = true := decide_eq_true h24
        by_cases h8 : r = 0
        · have f3 : ((r : Int) == 0) = true := by rw [h8]; rfl
          have ew : IntKind.i64.wrap ((j : Int) + 1) = ((j + 1 : Nat) : Int) := by have := HML.out; rw [wrap_ok _ (by omega) (by omega)]; omega
          obtain ⟨p, hp⟩ : ∃ p, R.getD j z67 = p := ⟨_, rfl⟩
          have hpf : p.f0 = true := HCP.out h24 (by omega) p (by rw [← hp, List.getD_eq_getElem?_getD, List.getElem?_eq_getElem (by rw [HM.out]; exact hj)]; exact List.getElem_mem _)
          obtain ⟨ad, hA, x0, _⟩ := pc_at HR.out hj p hp
          subst hA
          rw [hpf] at x0
          have HJ2 := Aside0.mk hj
          clear hj hr h24 h8 hp hpf
          go_wp2_with fail
          go_roundg (m - (j + 1))
          case measure => have := HJ.out; have := HJ2.out; omega
          case rel => exact ⟨j + 1, by simp [ew], ⟨rfl, by have := HJ2.out; omega⟩, HR, HB⟩
        · have f3 : ((r : Int) == 0) = false := by simp; omega
          clear hj hr h24 h8
          go_wp2_with fail
          go_ret
          exact ⟨rfl, HB.out⟩
      · have f1 : decide ((s.size : Int) ≥ 24) = false := decide_eq_false (by omega)
        have f2 : decide (24 ≤ s.size) = false := decide_eq_false h24
        clear hj hr h24
        go_wp2_with fail
        go_ret
        exact ⟨rfl, HB.out⟩
    · have e1 : decide ((j : Int) < (m : Int)) = false := by simpa using hj
      have e2 : ((j : Int) < (m : Int)) = False := by simpa using hj
      clear hj hr
      go_wp2_with fail
      go_ret
      exact ⟨rfl, HB.out⟩
theorem rolodexlaw11_DeltaOwn.walk (a0 : ByteArray) (w : World) (w0 : a0.size ≤ 140737488351232) :
    Calls Try.prog 18 #[.string a0] w fun e w' => e = .returned (.bool true) ∧ Below w.heap.size w w' := by
  by_cases h1 : 200 < a0.size
  · exact down_off a0 w h1
  · by_cases h2 : a0.size = 0
    · exact down_nil a0 w h2
    · exact down_main a0 w (by omega) (by omega)
end Go.Proofs.Ytchaegfdcdlfaaa.X

/- The row of DeltaOwn, over the walk that is proved by hand. -/
namespace Go.Proofs.Ytchaegfdcdlfaaa.deltaOwn
open Go.ChangeShapes Go.WideShapes Go.ChangeAt Go.RowKit
open Go.ChangeMaps (open_string shut_string)
set_option linter.unusedVariables false
theorem own : ownKnob Try.prog.godebug = none := by kernel_rfl
set_option maxRecDepth 100000 in
theorem lifted (os : Os) (started : os.Started) (H : Type) (enc : TypeId × Value → H) :
    ReturnsInHanded {} Try.checked os 18 .any (Rows.deltaOwnSpec.pre6 enc Try.prog Try.f18 Rows.deltaOwnRow.domain false) (Rows.deltaOwnSpec.post enc Try.prog Try.f18 false true false false) := by
  refine returnsInHanded_of_change_sized (C := Try.checked) own started (by kernel_rfl) Try.func18
    (ChangeSpec.witness6 (enc := enc) (C := Try.checked) false ⟨#[], #[.string ByteArray.empty], []⟩ 8 (by kernel_rfl) (by kernel_rfl) (by kernel_rfl) (by kernel_rfl)) ?_
  intro W base args ds gs before hval0 hW hcnd hsz0 _
  have hsz : (DataW.weightsEach Try.prog (Try.f18.params.toList ++ Rows.deltaOwnSpec.plain.varTypes Try.prog) (ds ++ gs)).all (· ≤ reachBytes) = true := hsz0
  have hval : ∀ (j : Nat) t v, Try.f18.params[j]? = some t → args[j]? = some v → Value.okWide Try.prog W .any base t v := hval0
  have hW' := hW
  obtain ⟨p, q, hA0, hV, rfl, hfz, hnd⟩ := hW
  have hA : DataW.TrodAll enc Try.prog W 0 (fun _ => true) true Try.f18.params.toList args.toList ds p := hA0
  rw [Try.params18] at hA hval hsz
  obtain ⟨v0, vs0, d0, ds0, p0, q0, hargs, rfl, rfl, h0, r0⟩ := trodAll_cons hA
  obtain ⟨rfl, rfl, rfl⟩ := trodAll_nil r0
  obtain rfl : args = #[v0] := by cases args; simp_all
  obtain ⟨rfl, rfl⟩ := trodVars_none hV
  obtain ⟨a0, rfl, rfl, rfl, y0⟩ := open_string Try.underlying9 (hval 0 9 v0 rfl rfl) h0
  have w0 : a0.size ≤ 140737488351232 := by
    have z := sized_string hsz (j := 0) (t := 9) rfl rfl
    rw [Array.length_toList] at z
    exact z
  clear hA0 hval0 hsz0 hsz
  refine (X.rolodexlaw11_DeltaOwn.walk a0 W w0).mono fun e W' ⟨he, bel⟩ => ?_
  subst he
  exact ⟨_, rfl, _, _, _, [], _, [], hW', trodAll_mk1 (shut_bool Try.underlying4 _), (trodAll_cons_mk (shut_string Try.underlying9 y0) trodAll_mk0), rfl, bel.frame _, fun h => by cases h⟩
theorem clos0 : (J.closT Try.prog 185 [18] []).isSome = true := by kernel_rfl
theorem clos1 : Try.prog.closure 18 = (J.closT Try.prog 185 [18] []).getD [] := J.clos_eq (of_decide_eq_true (by kernel_rfl)) clos0
theorem fact1 : Try.prog.inPlace 18 = ["internal/abi.NoEscape"] := by unfold Program.inPlace; rw [clos1]; kernel_rfl
theorem fact2 : Try.prog.unfollowed 18 = true := by unfold Program.unfollowed; rw [clos1]; kernel_rfl
theorem fact3 : Try.prog.recurses 18 = true := by unfold Program.recurses; rw [fact2]; rfl
theorem fact4 : Try.prog.varsNamed 18 = [] := by unfold Program.varsNamed; rw [clos1]; kernel_rfl
set_option maxRecDepth 100000 in
theorem facts : joinedFacts Try.prog 18 Try.f18 Rows.deltaOwnSpec Rows.deltaOwnRow = true := by
  unfold joinedFacts
  simp only [Bool.and_eq_true]
  repeat' apply And.intro
  all_goals first | (with_reducible exact J.mayEnter) | (rw [J.liftsFinal]; kernel_rfl) | (rw [J.make]; kernel_rfl) | (rw [fact1]; kernel_rfl) | (rw [fact2]; kernel_rfl) | (rw [fact3]; kernel_rfl) | (rw [fact4]; kernel_rfl) | kernel_rfl
theorem over : Rows.deltaOwnRow.holds Try.pinned (OpenSpec.ofChange Rows.deltaOwnSpec) :=
  OpenClaim.holds_of_wide 18 Try.f18 rfl rfl rfl rfl rfl rfl rfl ⟨rfl, rfl, rfl, rfl, rfl⟩ rfl rfl rfl rfl rfl (by kernel_rfl) Try.func18 facts
    (of_decide_eq_true (by kernel_rfl)) (by unfold Func.isWrapper; first | (rw [if_pos (by decide +kernel)]; kernel_rfl) | (rw [if_neg (by decide +kernel)]; exact ⟨rfl, rfl⟩))
    (fun os started H enc _ => lifted os started H enc)
theorem proved : Rows.DeltaOwnSaid := over
#print axioms proved
end Go.Proofs.Ytchaegfdcdlfaaa.deltaOwn
namespace Go.Proofs.Ytchaegfdcdlfaaa
/-- The row, under a short name, for the claim. -/
theorem deltaOwn_holds : Rows.DeltaOwnSaid := deltaOwn.proved
end Go.Proofs.Ytchaegfdcdlfaaa
