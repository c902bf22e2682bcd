/- DeltaNone: the walk, the plain law, the row. -/
import Derived.WalkLawsBesides
import Derived.Test.YtchaegfdcdlfaaaE5
import Derived.Test.YtchaegfdcdlfaaaRows
import Derived.WalkKit
import Derived.ProofKit
import Derived.OpenShut
import Derived.ShutString
import Derived.ChangeOld
import Derived.Below
import Derived.SizedLaws
import Derived.Test.YtchaegfdcdlfaaaWSized

/- No pieces make nothing; a copy of all of a value makes it; one beyond its end makes none: the walk. -/
namespace Go.Proofs.Ytchaegfdcdlfaaa.X
set_option linter.unusedVariables false
set_option linter.unusedSimpArgs false
open Go.RowKit Go.Maps Go.Proofs.YtchaegfdcdlfaaaW.PrintWords Go.Proofs.YtchaegfdcdlfaaaW.PrintLast Go.Proofs.YtchaegfdcdlfaaaW.PrintMore

/-- One piece in a new row. -/
theorem pc_lit (w : World) (p : S67) (fz : Nat × Nat) : Kd.C k67 (w.alloc (.cells #[.bool p.f0, .int .i64 p.f1, .int .i64 p.f2, .string p.f3] 67 fz)) (some ⟨w.heap.size, 0, none⟩) 1 [p] := by
  refine ⟨rfl, by simp, fun h0 => ⟨_, rfl, fun j q hj => ?_⟩⟩
  have hj0 : j = 0 := by
    have := (List.getElem?_eq_some_iff.1 hj).1
    simpa using this
  subst hj0
  have hq : p = q := by simpa using hj
  subst hq
  refine ⟨[.bool p.f0, .int .i64 p.f1, .int .i64 p.f2, .string p.f3], rfl, k67_mk _ p, fun i u hi => ?_⟩
  have hw : (w.alloc (.cells #[.bool p.f0, .int .i64 p.f1, .int .i64 p.f2, .string p.f3] 67 fz)).heap[w.heap.size]? = some (.cells #[.bool p.f0, .int .i64 p.f1, .int .i64 p.f2, .string p.f3] 67 fz) := heap_alloc_new w _
  have ha : (⟨w.heap.size, 0, none⟩ : Addr).add (0 * k67.sz + i) = ⟨w.heap.size, i, none⟩ := by
    unfold Addr.add
    by_cases h : i = 0 <;> simp [h]
  rw [ha]
  simp only [World.cell?, hw]
  simpa using hi
theorem pc_nil (w : World) : Kd.C k67 w none 0 [] := ⟨rfl, by omega, fun h => absurd h (by omega)⟩
set_option maxHeartbeats 4000000 in
set_option maxRecDepth 100000 in
theorem dnone_off0 (s : ByteArray) (m : Int) (w : World) (h : 200 < s.size) : Calls Try.prog 20 #[.string s, .int .i64 m] w fun e w' => e = .returned (.bool true) ∧ Below w.heap.size w w' := by
  have d0 : decide ((s.size : Int) > 200) = true := decide_eq_true (by omega)
  have d1 : decide (200 < s.size) = true := decide_eq_true h
  go_enter Try.func20, Try.ntmps20
  go_wp2_with fail
  refine (awake11_call _).mono ?_
  rintro e w1 ⟨rfl, hb1⟩
  have HB1 := Aside0.mk hb1
  clear hb1
  go_wp2_with fail
  go_ret
  exact ⟨rfl, HB1.out⟩
set_option maxHeartbeats 4000000 in
set_option maxRecDepth 100000 in
theorem dnone_off1 (s : ByteArray) (m : Int) (w : World) (h : ¬ 200 < s.size) (h1 : m < 1) : Calls Try.prog 20 #[.string s, .int .i64 m] w fun e w' => e = .returned (.bool true) ∧ Below w.heap.size w w' := by
  have d0 : decide ((s.size : Int) > 200) = false := decide_eq_false (by omega)
  have d1 : decide (200 < s.size) = false := decide_eq_false h
  have d2 : decide (m < 1) = true := decide_eq_true h1
  go_enter Try.func20, Try.ntmps20
  go_wp2_with fail
  refine (awake11_call _).mono ?_
  rintro e w1 ⟨rfl, hb1⟩
  have HB1 := Aside0.mk hb1
  clear hb1
  go_wp2_with fail
  go_ret
  exact ⟨rfl, HB1.out⟩
set_option maxHeartbeats 4000000 in
set_option maxRecDepth 100000 in
theorem dnone_off2 (s : ByteArray) (m : Int) (w : World) (h : ¬ 200 < s.size) (h1 : ¬ m < 1) (h2 : m > 100) : Calls Try.prog 20 #[.string s, .int .i64 m] w fun e w' => e = .returned (.bool true) ∧ Below w.heap.size w w' := by
  have d0 : decide ((s.size : Int) > 200) = false := decide_eq_false (by omega)
  have d1 : decide (200 < s.size) = false := decide_eq_false h
  have d2 : decide (m < 1) = false := decide_eq_false h1
  have d3 : decide (m > 100) = true := decide_eq_true h2
  have d4 : decide (100 < m) = true := decide_eq_true h2
  go_enter Try.func20, Try.ntmps20
  go_wp2_with fail
  refine (awake11_call _).mono ?_
  rintro e w1 ⟨rfl, hb1⟩
  have HB1 := Aside0.mk hb1
  clear hb1
  go_wp2_with fail
  go_ret
  exact ⟨rfl, HB1.out⟩
set_option maxHeartbeats 4000000 in
set_option maxRecDepth 100000 in
theorem dnone_some (s : ByteArray) (m : Int) (w : World) (h : ¬ 200 < s.size) (h1 : ¬ m < 1) (h2 : ¬ m > 100) (h0 : 0 < s.size) : Calls Try.prog 20 #[.string s, .int .i64 m] w fun e w' => e = .returned (.bool true) ∧ Below w.heap.size w w' := by
  have d0 : decide ((s.size : Int) > 200) = false := decide_eq_false (by omega)
  have d1 : decide (200 < s.size) = false := decide_eq_false h
  have d2 : decide (m < 1) = false := decide_eq_false h1
  have d3 : decide (m > 100) = false := decide_eq_false h2
  have d4 : decide (100 < m) = false := decide_eq_false h2
  have g1 : decide ((s.size : Int) > 0) = true := decide_eq_true (by omega)
  have g2 : decide (0 < s.size) = true := decide_eq_true h0
  have HS : Aside0 (s.size ≤ 140737488351232) := ⟨by omega⟩
  have HW2 : Aside0 (applyL s [⟨true, 0, (s.size : Int), ⟨#[]⟩⟩] = (s, true)) := ⟨by rw [apply_whole s (by omega)]; first | exact if_pos h0 | exact if_neg h0⟩
  obtain ⟨x3, hx3⟩ : ∃ x, applyL s [⟨true, m, (s.size : Int), ⟨#[]⟩⟩] = x := ⟨_, rfl⟩
  have hx32 : x3.2 = false := by rw [← hx3]; exact apply_beyond s m (by omega)
  obtain ⟨t3, b3⟩ := x3
  have hb3 : b3 = false := hx32
  subst hb3
  have HX3 := Aside0.mk hx3
  clear h h1 h2 h0 hx3 hx32
  go_enter Try.func20, Try.ntmps20
  go_wp2_with fail
  refine (awake11_call _).mono ?_
  rintro e w1 ⟨rfl, hb1⟩
  have HB1 := Aside0.mk hb1
  clear hb1
  go_wp2_with fail
  refine (apply_callB (l := []) (n := 0) rfl none 0 s _ (pc_nil _) (Nat.le_refl _) (by omega) HS.out (⟨#[]⟩, true) (apply_nil s)).mono ?_
  rintro e w2 ⟨rfl, hb2⟩
  have HB2 := Aside0.mk (below_step HB1.out hb2)
  clear hb2
  go_wp2_with fail
  refine (apply_callB (l := [⟨true, 0, (s.size : Int), ⟨#[]⟩⟩]) (n := 1) rfl _ 1 s _ (pc_lit w2 ⟨true, 0, (s.size : Int), ⟨#[]⟩⟩ _) (Nat.le_refl _) (by omega) HS.out (s, true) HW2.out).mono ?_
  rintro e w3 ⟨rfl, hb3⟩
  have HB3 := Aside0.mk (below_step (below_alloc HB2.out _) hb3)
  clear hb3
  go_wp2_with fail
  refine (apply_callB (l := [⟨true, m, (s.size : Int), ⟨#[]⟩⟩]) (n := 1) rfl _ 1 s _ (pc_lit w3 ⟨true, m, (s.size : Int), ⟨#[]⟩⟩ _) (Nat.le_refl _) (by omega) HS.out (t3, false) HX3.out).mono ?_
  rintro e w4 ⟨rfl, hb4⟩
  have HB4 := Aside0.mk (below_step (below_alloc HB3.out _) hb4)
  clear hb4
  go_wp2_with fail
  go_ret
  exact ⟨rfl, HB4.out⟩
set_option maxHeartbeats 4000000 in
set_option maxRecDepth 100000 in
theorem dnone_none (s : ByteArray) (m : Int) (w : World) (h : ¬ 200 < s.size) (h1 : ¬ m < 1) (h2 : ¬ m > 100) (h0 : ¬ 0 < s.size) : Calls Try.prog 20 #[.string s, .int .i64 m] w fun e w' => e = .returned (.bool true) ∧ Below w.heap.size w w' := by
  have d0 : decide ((s.size : Int) > 200) = false := decide_eq_false (by omega)
  have d1 : decide (200 < s.size) = false := decide_eq_false h
  have d2 : decide (m < 1) = false := decide_eq_false h1
  have d3 : decide (m > 100) = false := decide_eq_false h2
  have d4 : decide (100 < m) = false := decide_eq_false h2
  have g1 : decide ((s.size : Int) > 0) = false := decide_eq_false (by omega)
  have g2 : decide (0 < s.size) = false := decide_eq_false h0
  have HS : Aside0 (s.size ≤ 140737488351232) := ⟨by omega⟩
  have HW2 : Aside0 (applyL s [⟨true, 0, (s.size : Int), ⟨#[]⟩⟩] = (⟨#[]⟩, false)) := ⟨by rw [apply_whole s (by omega)]; first | exact if_pos h0 | exact if_neg h0⟩
  obtain ⟨x3, hx3⟩ : ∃ x, applyL s [⟨true, m, (s.size : Int), ⟨#[]⟩⟩] = x := ⟨_, rfl⟩
  have hx32 : x3.2 = false := by rw [← hx3]; exact apply_beyond s m (by omega)
  obtain ⟨t3, b3⟩ := x3
  have hb3 : b3 = false := hx32
  subst hb3
  have HX3 := Aside0.mk hx3
  clear h h1 h2 h0 hx3 hx32
  go_enter Try.func20, Try.ntmps20
  go_wp2_with fail
  refine (awake11_call _).mono ?_
  rintro e w1 ⟨rfl, hb1⟩
  have HB1 := Aside0.mk hb1
  clear hb1
  go_wp2_with fail
  refine (apply_callB (l := []) (n := 0) rfl none 0 s _ (pc_nil _) (Nat.le_refl _) (by omega) HS.out (⟨#[]⟩, true) (apply_nil s)).mono ?_
  rintro e w2 ⟨rfl, hb2⟩
  have HB2 := Aside0.mk (below_step HB1.out hb2)
  clear hb2
  go_wp2_with fail
  refine (apply_callB (l := [⟨true, 0, (s.size : Int), ⟨#[]⟩⟩]) (n := 1) rfl _ 1 s _ (pc_lit w2 ⟨true, 0, (s.size : Int), ⟨#[]⟩⟩ _) (Nat.le_refl _) (by omega) HS.out (⟨#[]⟩, false) HW2.out).mono ?_
  rintro e w3 ⟨rfl, hb3⟩
  have HB3 := Aside0.mk (below_step (below_alloc HB2.out _) hb3)
  clear hb3
  go_wp2_with fail
  refine (apply_callB (l := [⟨true, m, (s.size : Int), ⟨#[]⟩⟩]) (n := 1) rfl _ 1 s _ (pc_lit w3 ⟨true, m, (s.size : Int), ⟨#[]⟩⟩ _) (Nat.le_refl _) (by omega) HS.out (t3, false) HX3.out).mono ?_
  rintro e w4 ⟨rfl, hb4⟩
  have HB4 := Aside0.mk (below_step (below_alloc HB3.out _) hb4)
  clear hb4
  go_wp2_with fail
  go_ret
  exact ⟨rfl, HB4.out⟩
theorem rolodexlaw11_DeltaNone.walk (a0 : ByteArray) (a1 : Int) (w : World) (w0 : a0.size ≤ 140737488351232) (w1 : (Lit.int .i64 a1).wf = true) :
    Calls Try.prog 20 #[.string a0, .int .i64 a1] w fun e w' => e = .returned (.bool true) ∧ Below w.heap.size w w' := by
  by_cases h : 200 < a0.size
  · exact dnone_off0 a0 a1 w h
  · by_cases h1 : a1 < 1
    · exact dnone_off1 a0 a1 w h h1
    · by_cases h2 : a1 > 100
      · exact dnone_off2 a0 a1 w h h1 h2
      · by_cases h0 : 0 < a0.size
        · exact dnone_some a0 a1 w h h1 h2 h0
        · exact dnone_none a0 a1 w h h1 h2 h0
end Go.Proofs.Ytchaegfdcdlfaaa.X

/- The row of DeltaNone, over the walk that is proved by hand. -/
namespace Go.Proofs.Ytchaegfdcdlfaaa.deltaNone
open Go.ChangeShapes Go.WideShapes Go.ChangeAt Go.RowKit
open Go.ChangeMaps (open_string shut_string)
set_option linter.unusedVariables false
theorem own : ownKnob Try.prog.godebug = none := by kernel_rfl
theorem laidOut : laidOutB Try.prog = true := by kernel_rfl
def IsRow (k : IntKind) (w : World) (a : Option Addr) (len cap : Nat) (zs : List Int) : Prop :=
  (a = none ∧ len = 0 ∧ cap = 0 ∧ zs = []) ∨
  ∃ x, a = some x ∧ len ≤ cap ∧ cap ≤ maxLen ∧ zs.length = cap ∧ (∀ i, i < zs.length → w.cell? (x.add i) = some (.int k (zs.getD i 0))) ∧ ∀ n ∈ zs, (Lit.int k n).wf = true
set_option maxRecDepth 100000 in
theorem lifted (os : Os) (started : os.Started) (H : Type) (enc : TypeId × Value → H) :
    ReturnsInHanded {} Try.checked os 20 .any (Rows.deltaNoneSpec.pre6 enc Try.prog Try.f20 Rows.deltaNoneRow.domain false) (Rows.deltaNoneSpec.post enc Try.prog Try.f20 false true false false) := by
  refine returnsInHanded_of_change_sized (C := Try.checked) own started (by kernel_rfl) Try.func20
    (ChangeSpec.witness6 (enc := enc) (C := Try.checked) false ⟨#[], #[.string ByteArray.empty, .int .i64 0], []⟩ 8 (by kernel_rfl) (by kernel_rfl) (by kernel_rfl) (by kernel_rfl)) ?_
  intro W base args ds gs before hval0 hW hcnd hsz0 _
  have hsz : (DataW.weightsEach Try.prog (Try.f20.params.toList ++ Rows.deltaNoneSpec.plain.varTypes Try.prog) (ds ++ gs)).all (· ≤ reachBytes) = true := hsz0
  have hval : ∀ (j : Nat) t v, Try.f20.params[j]? = some t → args[j]? = some v → Value.okWide Try.prog W .any base t v := hval0
  have hW' := hW
  obtain ⟨p, q, hA0, hV, rfl, hfz, hnd⟩ := hW
  have hA : DataW.TrodAll enc Try.prog W 0 (fun _ => true) true Try.f20.params.toList args.toList ds p := hA0
  rw [Try.params20] at hA hval hsz
  obtain ⟨v0, vs0, d0, ds0, p0, q0, hargs, rfl, rfl, h0, r0⟩ := trodAll_cons hA
  obtain ⟨v1, vs1, d1, ds1, p1, q1, rfl, rfl, rfl, h1, r1⟩ := trodAll_cons r0
  obtain ⟨rfl, rfl, rfl⟩ := trodAll_nil r1
  obtain rfl : args = #[v0, v1] := by cases args; simp_all
  obtain ⟨rfl, rfl⟩ := trodVars_none hV
  obtain ⟨a0, rfl, rfl, rfl, y0⟩ := open_string Try.underlying9 (hval 0 9 v0 rfl rfl) h0
  have w0 : a0.size ≤ 140737488351232 := by
    have z := sized_string hsz (j := 0) (t := 9) rfl rfl
    rw [Array.length_toList] at z
    exact z
  obtain ⟨a1, rfl, rfl, rfl, w1⟩ := open_int Try.underlying3 (hval 1 3 v1 rfl rfl) h1
  clear hA0 hval0 hsz0 hsz
  refine (X.rolodexlaw11_DeltaNone.walk a0 a1 W w0 w1).mono fun e W' ⟨he, bel⟩ => ?_
  subst he
  exact ⟨_, rfl, _, _, _, [], _, [], hW', trodAll_mk1 (shut_bool Try.underlying4 _), (trodAll_cons_mk (shut_string Try.underlying9 y0) (trodAll_cons_mk (shut_int Try.underlying3 w1) trodAll_mk0)), rfl, bel.frame _, fun h => by cases h⟩
theorem clos0 : (J.closT Try.prog 185 [20] []).isSome = true := by kernel_rfl
theorem clos1 : Try.prog.closure 20 = (J.closT Try.prog 185 [20] []).getD [] := J.clos_eq (of_decide_eq_true (by kernel_rfl)) clos0
theorem fact1 : Try.prog.inPlace 20 = ["internal/abi.NoEscape"] := by unfold Program.inPlace; rw [clos1]; kernel_rfl
theorem fact2 : Try.prog.unfollowed 20 = true := by unfold Program.unfollowed; rw [clos1]; kernel_rfl
theorem fact3 : Try.prog.recurses 20 = true := by unfold Program.recurses; rw [fact2]; rfl
theorem fact4 : Try.prog.varsNamed 20 = [] := by unfold Program.varsNamed; rw [clos1]; kernel_rfl
set_option maxRecDepth 100000 in
theorem facts : joinedFacts Try.prog 20 Try.f20 Rows.deltaNoneSpec Rows.deltaNoneRow = true := by
  unfold joinedFacts
  simp only [Bool.and_eq_true]
  repeat' apply And.intro
  all_goals first | (with_reducible exact J.mayEnter) | (rw [J.liftsFinal]; kernel_rfl) | (rw [J.make]; kernel_rfl) | (rw [fact1]; kernel_rfl) | (rw [fact2]; kernel_rfl) | (rw [fact3]; kernel_rfl) | (rw [fact4]; kernel_rfl) | kernel_rfl
theorem over : Rows.deltaNoneRow.holds Try.pinned (OpenSpec.ofChange Rows.deltaNoneSpec) :=
  OpenClaim.holds_of_wide 20 Try.f20 rfl rfl rfl rfl rfl rfl rfl ⟨rfl, rfl, rfl, rfl, rfl⟩ rfl rfl rfl rfl rfl (by kernel_rfl) Try.func20 facts
    (of_decide_eq_true (by kernel_rfl)) (by unfold Func.isWrapper; first | (rw [if_pos (by decide +kernel)]; kernel_rfl) | (rw [if_neg (by decide +kernel)]; exact ⟨rfl, rfl⟩))
    (fun os started H enc _ => lifted os started H enc)
theorem proved : Rows.DeltaNoneSaid := over
#print axioms proved
end Go.Proofs.Ytchaegfdcdlfaaa.deltaNone
namespace Go.Proofs.Ytchaegfdcdlfaaa
/-- The row, under a short name, for the claim. -/
theorem deltaNone_holds : Rows.DeltaNoneSaid := deltaNone.proved
end Go.Proofs.Ytchaegfdcdlfaaa
