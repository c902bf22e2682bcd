/- SignTells: the walk, the plain law, the row. -/
import Derived.WalkLawsBesides
import Derived.Test.YtchaegfdcdlfaaaG2
import Derived.Test.YtchaegfdcdlfaaaRows
import Derived.WalkKit
import Derived.ProofKit
import Derived.OpenShut
import Derived.ShutString
import Derived.ChangeOld
import Derived.Below
import Derived.SizedLaws
import Derived.Test.YtchaegfdcdlfaaaWSized

/- The page's signatures and the document's, text by text: the walk. -/
namespace Go.Proofs.Ytchaegfdcdlfaaa.X
set_option linter.unusedVariables false
set_option linter.unusedSimpArgs false
open Go.RowKit Go.Maps Go.Proofs.YtchaegfdcdlfaaaW.PrintWords Go.Proofs.YtchaegfdcdlfaaaW.PrintLast Go.Proofs.YtchaegfdcdlfaaaW.PrintMore

theorem refof10_callB (s : ByteArray) (hs : s.size ≤ 1000) (l : List Sg) (hl : signOf s = l) (n : Nat) (hn : l.length = n) (w : World) : Calls Try.prog 34 #[.string s] w fun e w' => ∃ A c, e = .returned (.slice A n c) ∧ n ≤ c ∧ sgK.C w' A n l ∧ Below w.heap.size w w' := by
  subst hl
  subst hn
  refine (refof10_call s w hs).mono ?_
  rintro e w' ⟨v, rfl, hR, hb⟩
  obtain ⟨A, c, rfl, hc, hC⟩ := Kd.R_reads hR
  exact ⟨A, c, rfl, hc, hC, hb⟩
theorem refone_callB (s : ByteArray) (hs : s.size ≤ 1000) (y : Sg) (hy : oneOf s = y) (w : World) : Calls Try.prog 36 #[.string s] w fun e w' => e = .returned (.agg (sgA y)) ∧ Below w.heap.size w w' := by
  subst hy
  exact refone_call s w hs
theorem reffind_callB {l : List Sg} {n : Nat} (hn : l.length = n) (A : Option Addr) (c : Nat) (p : ByteArray) (w : World) (hr : sgK.C w A n l) (hok : ∀ s ∈ l, SgOk s) (hl : n ≤ 100000) (hp : p.size ≤ 1000) (i : Int) (hi : findOf l p = i) :
    Calls Try.prog 38 #[.slice A n c, .string p] w fun e w' => e = .returned (.int .i64 i) ∧ Below w.heap.size w w' := by
  subst hi
  subst hn
  exact reffind_call A c l p w hr hok hl hp
theorem same_callB {l : List Sg} {n : Nat} (hn : l.length = n) (A B : Option Addr) (c d : Nat) (w : World) (ha : sgK.C w A n l) (hb : sgK.C w B n l) (hok : ∀ s ∈ l, SgOk s) (hl : n ≤ 100000) :
    Calls Try.prog 32 #[.slice A n c, .slice B n d] w fun e w' => e = .returned (.bool true) ∧ Below w.heap.size w w' := by
  subst hn
  exact same_call A B c d l w ha hb hok hl

set_option maxHeartbeats 2000000 in
set_option maxRecDepth 100000 in
theorem tells_off0 (s : ByteArray) (A : Option Addr) (n c : Nat) (p : ByteArray) (w : World)  (h : 300 < s.size) : Calls Try.prog 3 #[.string s, .slice A n c, .string p] w fun e w' => e = .returned (.bool true) ∧ Below w.heap.size w w' := by
  have e0 : decide ((s.size : Int) > 300) = true := decide_eq_true (by omega)
  have e0b : decide (300 < s.size) = true := decide_eq_true h
  go_enter Try.func3, Try.ntmps3
  go_wp2_with fail
  refine (awake10_call _).mono ?_
  rintro e w1 ⟨rfl, hb1⟩
  go_wp2_with fail
  go_ret
  exact ⟨rfl, hb1⟩
set_option maxHeartbeats 2000000 in
set_option maxRecDepth 100000 in
theorem tells_off1 (s : ByteArray) (A : Option Addr) (n c : Nat) (p : ByteArray) (w : World) (h0 : ¬ 300 < s.size) (h : 60 < n) : Calls Try.prog 3 #[.string s, .slice A n c, .string p] w fun e w' => e = .returned (.bool true) ∧ Below w.heap.size w w' := by
  have d0 : decide ((s.size : Int) > 300) = false := decide_eq_false (by omega)
  have d0b : decide (300 < s.size) = false := decide_eq_false (by omega)
  have e1 : decide ((n : Int) > 60) = true := decide_eq_true (by omega)
  have e1b : decide (60 < n) = true := decide_eq_true h
  go_enter Try.func3, Try.ntmps3
  go_wp2_with fail
  refine (awake10_call _).mono ?_
  rintro e w1 ⟨rfl, hb1⟩
  go_wp2_with fail
  go_ret
  exact ⟨rfl, hb1⟩
set_option maxHeartbeats 2000000 in
set_option maxRecDepth 100000 in
theorem tells_off2 (s : ByteArray) (A : Option Addr) (n c : Nat) (p : ByteArray) (w : World) (h0 : ¬ 300 < s.size) (h1 : ¬ 60 < n) (h : 300 < p.size) : Calls Try.prog 3 #[.string s, .slice A n c, .string p] w fun e w' => e = .returned (.bool true) ∧ Below w.heap.size w w' := by
  have d0 : decide ((s.size : Int) > 300) = false := decide_eq_false (by omega)
  have d0b : decide (300 < s.size) = false := decide_eq_false (by omega)
  have d1 : decide ((n : Int) > 60) = false := decide_eq_false (by omega)
  have d1b : decide (60 < n) = false := decide_eq_false (by omega)
  have e2 : decide ((p.size : Int) > 300) = true := decide_eq_true (by omega)
  have e2b : decide (300 < p.size) = true := decide_eq_true h
  go_enter Try.func3, Try.ntmps3
  go_wp2_with fail
  refine (awake10_call _).mono ?_
  rintro e w1 ⟨rfl, hb1⟩
  go_wp2_with fail
  go_ret
  exact ⟨rfl, hb1⟩
set_option maxHeartbeats 2000000 in
set_option maxRecDepth 100000 in
theorem tells_on (s : ByteArray) (A : Option Addr) (n c : Nat) (l : List Sg) (p : ByteArray) (w : World) (hn : l.length = n) (hr : sgK.C w A n l) (hok : ∀ s ∈ l, SgOk s) (h0 : ¬ 300 < s.size) (h1 : ¬ 60 < n) (h2 : ¬ 300 < p.size) : Calls Try.prog 3 #[.string s, .slice A n c, .string p] w fun e w' => e = .returned (.bool true) ∧ Below w.heap.size w w' := by
  have d0 : decide ((s.size : Int) > 300) = false := decide_eq_false (by omega)
  have d0b : decide (300 < s.size) = false := decide_eq_false (by omega)
  have d1 : decide ((n : Int) > 60) = false := decide_eq_false (by omega)
  have d1b : decide (60 < n) = false := decide_eq_false (by omega)
  have d2 : decide ((p.size : Int) > 300) = false := decide_eq_false (by omega)
  have d2b : decide (300 < p.size) = false := decide_eq_false (by omega)
  obtain ⟨la, hla⟩ : ∃ l, signOf s = l := ⟨_, rfl⟩
  obtain ⟨m, hm⟩ : ∃ m, la.length = m := ⟨_, rfl⟩
  have hm2 : m ≤ 100000 := by rw [← hm, ← hla]; unfold signOf; split <;> simp [blocks_length]; omega
  have hoka : ∀ s ∈ la, SgOk s := by rw [← hla]; exact signOf_ok s
  obtain ⟨y, hy⟩ : ∃ y, oneOf p = y := ⟨_, rfl⟩
  have hyo : SgOk y := by rw [← hy]; exact oneOf_ok p
  obtain ⟨i, hi⟩ : ∃ i, findOf l p = i := ⟨_, rfl⟩
  have heq := fun W => eql_sg y y hyo hyo W
  have hgu := guardSig
  have hyy : (y == y) = true := by simp
  have hii : (i == i) = true := by simp
  have HLA := Aside0.mk hla
  have HM := Aside0.mk hm
  have HM2 := Aside0.mk hm2
  have HOKA := Aside0.mk hoka
  have HY := Aside0.mk hy
  have HI := Aside0.mk hi
  have HN := Aside0.mk hn
  have HR := Aside0.mk hr
  have HOK := Aside0.mk hok
  have HN60 : Aside0 (n ≤ 100000) := ⟨by omega⟩
  have HSS : Aside0 (s.size ≤ 1000) := ⟨by omega⟩
  have HPS : Aside0 (p.size ≤ 1000) := ⟨by omega⟩
  clear hla hm hm2 hoka hy hyo hi hn hr hok h0 h1 h2
  go_enter Try.func3, Try.ntmps3
  go_wp2_with fail
  refine (awake10_call _).mono ?_
  rintro e w1 ⟨rfl, hb1⟩
  have HB1 := Aside0.mk hb1
  clear hb1
  go_wp2_with fail
  refine (sign_callB s (by have := HSS.out; omega) la HLA.out m HM.out _).mono ?_
  rintro e w2 ⟨A1, c1, rfl, hc1, hr1, hb2⟩
  have HB2 := Aside0.mk (below_step HB1.out hb2)
  have HR1 := Aside0.mk hr1
  clear hr1 hb2
  go_wp2_with fail
  refine (refof10_callB s HSS.out la HLA.out m HM.out _).mono ?_
  rintro e w3 ⟨A2, c2, rfl, hc2, hr2, hb3⟩
  have HB3 := Aside0.mk (below_step HB2.out hb3)
  have HR2 : Aside0 (sgK.C w3 A1 m la ∧ sgK.C w3 A2 m la) := ⟨⟨Kd.C_below HR1.out hb3, hr2⟩⟩
  clear hr2 hb3 HR1
  go_wp2_with fail
  refine (same_callB HM.out A1 A2 c1 c2 _ HR2.out.1 HR2.out.2 HOKA.out HM2.out).mono ?_
  rintro e w4 ⟨rfl, hb4⟩
  have HB4 := Aside0.mk (below_step HB3.out hb4)
  clear hb4 HR2
  go_wp2_with fail
  refine (one_callB p (by have := HPS.out; omega) y HY.out _).mono ?_
  rintro e w5 ⟨rfl, hb5⟩
  have HB5 := Aside0.mk (below_step HB4.out hb5)
  clear hb5
  go_wp2_with fail
  refine (refone_callB p HPS.out y HY.out _).mono ?_
  rintro e w6 ⟨rfl, hb6⟩
  have HB6 := Aside0.mk (below_step HB5.out hb6)
  clear hb6
  go_wp2_with fail
  refine (find_callB HN.out A c p _ (Kd.C_below HR.out HB6.out) HOK.out HN60.out (by have := HPS.out; omega) i HI.out).mono ?_
  rintro e w7 ⟨rfl, hb7⟩
  have HB7 := Aside0.mk (below_step HB6.out hb7)
  clear hb7
  go_wp2_with fail
  refine (reffind_callB HN.out A c p _ (Kd.C_below HR.out HB7.out) HOK.out HN60.out HPS.out i HI.out).mono ?_
  rintro e w8 ⟨rfl, hb8⟩
  have HB8 := Aside0.mk (below_step HB7.out hb8)
  clear hb8
  go_wp2_with fail
  go_ret
  exact ⟨rfl, HB8.out⟩
theorem rolodexlaw10_SignTells.walk (s : ByteArray) (A : Option Addr) (n c : Nat) (l : List Sg) (p : ByteArray) (w : World) (w0 : s.size ≤ 140737488351232) (hn : l.length = n) (hc : n ≤ c) (hr : sgK.C w A n l) (hok : ∀ s ∈ l, SgOk s) (w2 : p.size ≤ 140737488351232) : Calls Try.prog 3 #[.string s, .slice A n c, .string p] w fun e w' => e = .returned (.bool true) ∧ Below w.heap.size w w' := by
  by_cases h0 : 300 < s.size
  · exact tells_off0 s A n c p w h0
  · by_cases h1 : 60 < n
    · exact tells_off1 s A n c p w h0 h1
    · by_cases h2 : 300 < p.size
      · exact tells_off2 s A n c p w h0 h1 h2
      · exact tells_on s A n c l p w hn hr hok h0 h1 h2
end Go.Proofs.Ytchaegfdcdlfaaa.X

/- The row of SignTells, over the walk that is proved by hand. -/
namespace Go.Proofs.Ytchaegfdcdlfaaa.signTells
open Go.ChangeShapes Go.WideShapes Go.ChangeAt Go.RowKit
open Go.ChangeMaps (open_string shut_string)
set_option linter.unusedVariables false
theorem own : ownKnob Try.prog.godebug = none := by kernel_rfl
theorem laidOut : laidOutB Try.prog = true := by kernel_rfl
def IsRow (k : IntKind) (w : World) (a : Option Addr) (len cap : Nat) (zs : List Int) : Prop :=
  (a = none ∧ len = 0 ∧ cap = 0 ∧ zs = []) ∨
  ∃ x, a = some x ∧ len ≤ cap ∧ cap ≤ maxLen ∧ zs.length = cap ∧ (∀ i, i < zs.length → w.cell? (x.add i) = some (.int k (zs.getD i 0))) ∧ ∀ n ∈ zs, (Lit.int k n).wf = true
set_option maxRecDepth 100000 in
theorem lifted (os : Os) (started : os.Started) (H : Type) (enc : TypeId × Value → H) :
    ReturnsInHanded {} Try.checked os 3 .any (Rows.signTellsSpec.pre6 enc Try.prog Try.f3 Rows.signTellsRow.domain false) (Rows.signTellsSpec.post enc Try.prog Try.f3 false true false false) := by
  refine returnsInHanded_of_change_sized (C := Try.checked) own started (by kernel_rfl) Try.func3
    (ChangeSpec.witness6 (enc := enc) (C := Try.checked) false ⟨#[], #[.string ByteArray.empty, .slice none 0 0, .string ByteArray.empty], []⟩ 8 (by kernel_rfl) (by kernel_rfl) (by kernel_rfl) (by kernel_rfl)) ?_
  intro W base args ds gs before hval0 hW hcnd hsz0 _
  have hsz : (DataW.weightsEach Try.prog (Try.f3.params.toList ++ Rows.signTellsSpec.plain.varTypes Try.prog) (ds ++ gs)).all (· ≤ reachBytes) = true := hsz0
  have hval : ∀ (j : Nat) t v, Try.f3.params[j]? = some t → args[j]? = some v → Value.okWide Try.prog W .any base t v := hval0
  have hW' := hW
  obtain ⟨p, q, hA0, hV, rfl, hfz, hnd⟩ := hW
  have hA : DataW.TrodAll enc Try.prog W 0 (fun _ => true) true Try.f3.params.toList args.toList ds p := hA0
  rw [Try.params3] at hA hval hsz
  obtain ⟨v0, vs0, d0, ds0, p0, q0, hargs, rfl, rfl, h0, r0⟩ := trodAll_cons hA
  obtain ⟨v1, vs1, d1, ds1, p1, q1, rfl, rfl, rfl, h1, r1⟩ := trodAll_cons r0
  obtain ⟨v2, vs2, d2, ds2, p2, q2, rfl, rfl, rfl, h2, r2⟩ := trodAll_cons r1
  obtain ⟨rfl, rfl, rfl⟩ := trodAll_nil r2
  obtain rfl : args = #[v0, v1, v2] := by cases args; simp_all
  obtain ⟨rfl, rfl⟩ := trodVars_none hV
  obtain ⟨a0, rfl, rfl, rfl, y0⟩ := open_string Try.underlying9 (hval 0 9 v0 rfl rfl) h0
  have w0 : a0.size ≤ 140737488351232 := by
    have z := sized_string hsz (j := 0) (t := 9) rfl rfl
    rw [Array.length_toList] at z
    exact z
  obtain ⟨a1, len1, cap1, rfl⟩ := okWide_slice Try.underlying22 (hval 1 22 v1 rfl rfl)
  have k1 := h1
  have lt1 : ∀ x ∈ p1, x.block < W.heap.size := by obtain ⟨m, hm⟩ := k1; exact DataW.trod_lt m _ _ _ hm
  obtain ⟨l1, n1, c1, b1, o1⟩ := X.open_sigs h1
  obtain ⟨a2, rfl, rfl, rfl, y2⟩ := open_string Try.underlying9 (hval 2 9 v2 rfl rfl) h2
  have w2 : a2.size ≤ 140737488351232 := by
    have z := sized_string hsz (j := 2) (t := 9) rfl rfl
    rw [Array.length_toList] at z
    exact z
  clear hA0 hval0 hsz0 hsz
  refine (X.rolodexlaw10_SignTells.walk a0 a1 len1 cap1 l1 a2 W w0 n1 c1 b1 o1 w2).mono fun e W' ⟨he, bel⟩ => ?_
  subst he
  exact ⟨_, rfl, _, _, _, [], _, [], hW', trodAll_mk1 (shut_bool Try.underlying4 _), (trodAll_cons_mk (shut_string Try.underlying9 y0) (trodAll_cons_mk (Below.trod laidOut (by kernel_rfl) (of_decide_eq_true (by kernel_rfl)) k1 bel lt1) (trodAll_cons_mk (shut_string Try.underlying9 y2) trodAll_mk0))), rfl, bel.frame _, fun h => by cases h⟩
theorem clos0 : (J.closT Try.prog 185 [3] []).isSome = true := by kernel_rfl
theorem clos1 : Try.prog.closure 3 = (J.closT Try.prog 185 [3] []).getD [] := J.clos_eq (of_decide_eq_true (by kernel_rfl)) clos0
theorem fact1 : Try.prog.inPlace 3 = [] := by unfold Program.inPlace; rw [clos1]; kernel_rfl
theorem fact2 : Try.prog.unfollowed 3 = false := by unfold Program.unfollowed; rw [clos1]; kernel_rfl
theorem fact3 : Try.prog.recurses 3 = false := by unfold Program.recurses; rw [fact2, clos1, Bool.false_or]; exact J.no_back (n := 185) (of_decide_eq_true (by kernel_rfl)) (by kernel_rfl)
theorem fact4 : Try.prog.varsNamed 3 = [] := by unfold Program.varsNamed; rw [clos1]; kernel_rfl
set_option maxRecDepth 100000 in
theorem facts : joinedFacts Try.prog 3 Try.f3 Rows.signTellsSpec Rows.signTellsRow = true := by
  unfold joinedFacts
  simp only [Bool.and_eq_true]
  repeat' apply And.intro
  all_goals first | (with_reducible exact J.mayEnter) | (rw [J.liftsFinal]; kernel_rfl) | (rw [J.make]; kernel_rfl) | (rw [fact1]; kernel_rfl) | (rw [fact2]; kernel_rfl) | (rw [fact3]; kernel_rfl) | (rw [fact4]; kernel_rfl) | kernel_rfl
theorem over : Rows.signTellsRow.holds Try.pinned (OpenSpec.ofChange Rows.signTellsSpec) :=
  OpenClaim.holds_of_wide 3 Try.f3 rfl rfl rfl rfl rfl rfl rfl ⟨rfl, rfl, rfl, rfl, rfl⟩ rfl rfl rfl rfl rfl (by kernel_rfl) Try.func3 facts
    (of_decide_eq_true (by kernel_rfl)) (by unfold Func.isWrapper; first | (rw [if_pos (by decide +kernel)]; kernel_rfl) | (rw [if_neg (by decide +kernel)]; exact ⟨rfl, rfl⟩))
    (fun os started H enc _ => lifted os started H enc)
theorem proved : Rows.SignTellsSaid := over
#print axioms proved
end Go.Proofs.Ytchaegfdcdlfaaa.signTells
namespace Go.Proofs.Ytchaegfdcdlfaaa
/-- The row, under a short name, for the claim. -/
theorem signTells_holds : Rows.SignTellsSaid := signTells.proved
end Go.Proofs.Ytchaegfdcdlfaaa
