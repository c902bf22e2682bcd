/- SignMany: the walk, the plain law, the row. -/
import Derived.WalkLawsBesides
import Derived.Test.YtchaegfdcdlfaaaG2
import Derived.Test.YtchaegfdcdlfaaaRows
import Derived.WalkKit
import Derived.ProofKit
import Derived.OpenShut
import Derived.ShutString
import Derived.ChangeOld
import Derived.Below
import Derived.SizedLaws

/- A value's blocks are as many as its eights, each that of its bytes: the walk. -/
namespace Go.Proofs.Ytchaegfdcdlfaaa.X
set_option linter.unusedVariables false
set_option linter.unusedSimpArgs false
open Go.RowKit Go.Maps Go.Proofs.YtchaegfdcdlfaaaW.PrintWords Go.Proofs.YtchaegfdcdlfaaaW.PrintLast Go.Proofs.YtchaegfdcdlfaaaW.PrintMore

set_option maxHeartbeats 1000000 in
set_option maxRecDepth 100000 in
theorem many_long (s : ByteArray) (w : World) (h : 300 < s.size) : Calls Try.prog 5 #[.string s] w fun e w' => e = .returned (.bool true) ∧ Below w.heap.size w w' := by
  have d1 : decide ((s.size : Int) > 300) = true := decide_eq_true (by omega)
  have d2 : decide (300 < s.size) = true := decide_eq_true h
  go_enter Try.func5, Try.ntmps5
  go_wp2_with fail
  refine (awake10_call _).mono ?_
  rintro e w1 ⟨rfl, hb1⟩
  go_wp2_with fail
  go_ret
  exact ⟨rfl, hb1⟩
set_option maxHeartbeats 1000000 in
set_option maxRecDepth 100000 in
theorem many_short (s : ByteArray) (w : World) (h : s.size < 24) : Calls Try.prog 5 #[.string s] w fun e w' => e = .returned (.bool true) ∧ Below w.heap.size w w' := by
  have d1 : decide ((s.size : Int) > 300) = false := decide_eq_false (by omega)
  have d2 : decide (300 < s.size) = false := decide_eq_false (by omega)
  have d3 : decide ((s.size : Int) < 24) = true := decide_eq_true (by omega)
  have d4 : decide (s.size < 24) = true := decide_eq_true h
  have HL : Aside0 (signOf s = []) := ⟨by unfold signOf; rw [if_pos h]⟩
  go_enter Try.func5, Try.ntmps5
  go_wp2_with fail
  refine (awake10_call _).mono ?_
  rintro e w1 ⟨rfl, hb1⟩
  go_wp2_with fail
  refine (sign_callB s (by omega) [] HL.out 0 rfl _).mono ?_
  rintro e w2 ⟨A, c, rfl, hc, hr, hb2⟩
  go_wp2_with fail
  go_ret
  exact ⟨rfl, below_step hb1 hb2⟩
set_option maxHeartbeats 2000000 in
set_option maxRecDepth 100000 in
theorem many_mid (s : ByteArray) (w : World) (h : 24 ≤ s.size) (h3 : s.size ≤ 300) : Calls Try.prog 5 #[.string s] w fun e w' => e = .returned (.bool true) ∧ Below w.heap.size w w' := by
  have d1 : decide ((s.size : Int) > 300) = false := decide_eq_false (by omega)
  have d2 : decide (300 < s.size) = false := decide_eq_false (by omega)
  have d3 : decide ((s.size : Int) < 24) = false := decide_eq_false (by omega)
  have d4 : decide (s.size < 24) = false := decide_eq_false (by omega)
  obtain ⟨n, hn⟩ : ∃ n, n = s.size / 8 := ⟨_, rfl⟩
  obtain ⟨l, hl⟩ : ∃ l, signOf s = l := ⟨_, rfl⟩
  have HSO : Aside0 (signOf s = l) := ⟨hl⟩
  have HB0 : Aside0 (l = blocks s n) := ⟨by rw [← hl, hn]; unfold signOf; rw [if_neg (by omega)]⟩
  have HLN : Aside0 (l.length = n) := ⟨by rw [HB0.out, blocks_length]⟩
  have dq : Int.tdiv (s.size : Int) 8 = (n : Int) := by rw [Int.tdiv_eq_ediv_of_nonneg (by omega), hn]; omega
  have wq : IntKind.i64.wrap (n : Int) = (n : Int) := by simp [IntKind.wrap, IntKind.bits, IntKind.signed]; omega
  have eq1 : ((n : Int) != (n : Int)) = false := by simp
  have HN := Aside0.mk hn
  have HS3 := Aside0.mk h3
  clear hl hn h h3
  go_enter Try.func5, Try.ntmps5
  go_wp2_with fail
  refine (awake10_call _).mono ?_
  rintro e w1 ⟨rfl, hb1⟩
  have HB1 := Aside0.mk hb1
  clear hb1
  go_wp2_with fail
  refine (sign_callB s (by have := HS3.out; omega) l HSO.out n HLN.out _).mono ?_
  rintro e w2 ⟨A, c, rfl, hc, hr, hb2⟩
  have HB2 := Aside0.mk (below_step HB1.out hb2)
  have HR := Aside0.mk hr
  clear hr hb2
  go_wp2_with fail
  go_loopg [5] n (fun k v w' => ∃ j : Nat, v = .int .i64 j ∧ Aside0 (k = n - j ∧ j ≤ n) ∧ Aside0 (sgK.C w' A n l) ∧ Aside0 (Below w.heap.size w w'))
  case atStart => exact ⟨0, rfl, ⟨by omega, by omega⟩, HR, HB2⟩
  case round =>
    clear HR HB2
    obtain ⟨j, rfl, HJ, HR, HB⟩ := hrel
    by_cases hj : j < n
    · obtain ⟨y, hy⟩ : ∃ y, y = blockAt s j := ⟨_, rfl⟩
      have hyl : l.getD j (0, []) = y := by rw [HB0.out, blocks_get s n j hj, hy]
      obtain ⟨ad, hA, hcell⟩ := sg_at HR.out hj y hyl
      subst hA
      have HC := Aside0.mk hcell
      have HYL := Aside0.mk hyl
      have HY : Aside0 (SgOk y) := ⟨by rw [hy]; exact oneOf_ok _⟩
      obtain ⟨a, ha⟩ : ∃ a : Nat, a = 8 * j := ⟨_, rfl⟩
      obtain ⟨b, hb⟩ : ∃ b : Nat, b = 8 * j + 8 := ⟨_, rfl⟩
      have hbs : b ≤ s.size := by have := HN.out; omega
      have hcut := cut_text s a b (by omega) hbs
      obtain ⟨q, hq⟩ : ∃ q, q = s.extract a b := ⟨_, rfl⟩
      rw [← hq] at hcut
      have HQ8 : Aside0 (q.size = 8) := ⟨by rw [hq]; simp; omega⟩
      have HQ : Aside0 (q.size ≤ 140737488351232) := ⟨by rw [HQ8.out]; omega⟩
      have HQY : Aside0 (oneOf q = y) := ⟨by rw [hq, hy, ha, hb]; rfl⟩
      obtain ⟨x1, hx1⟩ : ∃ x1, roll (bs q) = x1 := ⟨_, rfl⟩
      have HX1 := Aside0.mk hx1
      have HX1b : Aside0 (x1 = y.1) := ⟨by rw [← hx1, ← HQY.out, oneOf_fst]⟩
      have HX2 : Aside0 (shaOf (bytesOf q) = y.2) := ⟨by rw [← HQY.out, oneOf_snd]⟩
      have e1 : decide ((j : Int) < (n : Int)) = true := by simpa using hj
      have e2 : ((j : Int) < (n : Int)) = True := by simpa using hj
      have e3 : (0 ≤ (j : Int)) = True := by simp
      have e4 : IntKind.i64.wrap ((j : Int) + 1) = ((j + 1 : Nat) : Int) := by have := HN.out; have := HS3.out; simp [IntKind.wrap, IntKind.bits, IntKind.signed]; omega
      have e5 : IntKind.i64.wrap (8 * (j : Int)) = (a : Int) := by have := HS3.out; simp [IntKind.wrap, IntKind.bits, IntKind.signed]; omega
      have e6 : IntKind.i64.wrap ((a : Int) + 8) = (b : Int) := by have := HS3.out; simp [IntKind.wrap, IntKind.bits, IntKind.signed]; omega
      have HJ2 := Aside0.mk hj
      clear hj hy hyl hcell ha hb hbs hq hx1
      go_wp2_with fail
      refine wp_region_held_drew (S := (fun W => sgK.C W (some ad) n l ∧ Below w.heap.size w W)) (by kernel_rfl) ((And.intro HR.out (below_drew HB.out))) (fun hHeld => ?_)
      refine wpAnyH_take (i := 0) (v := ?_) (by simp only [List.getElem?_toArray, List.getElem?_cons_succ, List.getElem?_cons_zero]; rfl) (by kernel_rfl) (by kernel_rfl) (by kernel_rfl) (by intro _ _ _ h; exact h) (Or.inl ⟨by rfl, ?hy⟩) (by assumption) ?_
      case hy => (intro W_ hW_; go_simp; first | done | with_reducible rfl)
      try simp only [Act.put, List.setIfInBounds_toArray, List.set_cons_zero, List.set_cons_succ]
      refine wpAnyH_take (i := 1) (v := ?_) (by simp only [List.getElem?_toArray, List.getElem?_cons_succ, List.getElem?_cons_zero]; rfl) (by kernel_rfl) (by kernel_rfl) (by kernel_rfl) (by intro _ _ _ h; exact h) (Or.inl ⟨by rfl, ?hy⟩) (by assumption) ?_
      case hy => (intro W_ hW_; go_simp; first | done | with_reducible rfl)
      try simp only [Act.put, List.setIfInBounds_toArray, List.set_cons_zero, List.set_cons_succ]
      refine wpAnyH_take (i := 2) (v := ?_) (by simp only [List.getElem?_toArray, List.getElem?_cons_succ, List.getElem?_cons_zero]; rfl) (by kernel_rfl) (by kernel_rfl) (by kernel_rfl) (by intro _ _ _ h; exact h) (Or.inl ⟨by rfl, ?hy⟩) (by assumption) ?_
      case hy => (intro W_ hW_; go_simp; first | done | with_reducible rfl)
      try simp only [Act.put, List.setIfInBounds_toArray, List.set_cons_zero, List.set_cons_succ]
      refine wpAnyH_take (i := 3) (v := ?_) (by simp only [List.getElem?_toArray, List.getElem?_cons_succ, List.getElem?_cons_zero]; rfl) (by kernel_rfl) (by kernel_rfl) (by kernel_rfl) (by intro _ _ _ h; exact h) (Or.inl ⟨by rfl, ?hy⟩) (by assumption) ?_
      case hy => (intro W_ hW_; go_simp; first | done | with_reducible rfl)
      try simp only [Act.put, List.setIfInBounds_toArray, List.set_cons_zero, List.set_cons_succ]
      refine wpAnyH_take (i := 4) (v := ?_) (by simp only [List.getElem?_toArray, List.getElem?_cons_succ, List.getElem?_cons_zero]; rfl) (by kernel_rfl) (by kernel_rfl) (by kernel_rfl) (by intro _ _ _ h; exact h) (Or.inl ⟨by rfl, ?hy⟩) (by assumption) ?_
      case hy => (intro W_ hW_; have f_ := (sg_at' hW_.1 HJ2.out y HYL.out).weak; go_simp; first | done | with_reducible rfl)
      try simp only [Act.put, List.setIfInBounds_toArray, List.set_cons_zero, List.set_cons_succ]
      refine wpAnyH_take (i := 5) (v := ?_) (by simp only [List.getElem?_toArray, List.getElem?_cons_succ, List.getElem?_cons_zero]; rfl) (by kernel_rfl) (by kernel_rfl) (by kernel_rfl) (by intro _ _ _ h; exact h) (Or.inl ⟨by rfl, ?hy⟩) (by assumption) ?_
      case hy => (intro W_ hW_; go_simp; first | done | with_reducible rfl)
      try simp only [Act.put, List.setIfInBounds_toArray, List.set_cons_zero, List.set_cons_succ]
      refine wpAnyH_ready (rs := [6]) (by kernel_rfl) (by simp) ?_
      refine AllReadyH.cons (by simp only [List.getElem?_toArray, List.getElem?_cons_succ, List.getElem?_cons_zero]; rfl) (fun K hK => ?_) AllReadyH.nil
      rw [if_pos (by rfl)]
      go_wp2_with fail
      refine (roll_callB q HQ.out x1 HX1.out _).mono ?_
      rintro e w4 ⟨rfl, hb4⟩; rw [HX1b.out]
      refine hK.out _ _ (And.intro (Kd.C_below hHeld.1 hb4) (below_step hHeld.2 hb4)) (fun hHeld2 => ?_)
      clear hK K hHeld
      have hHeld := hHeld2
      clear hHeld2
      try simp only [Act.put, List.setIfInBounds_toArray, List.set_cons_zero, List.set_cons_succ]
      refine wpAnyH_take (i := 7) (v := ?_) (by simp only [List.getElem?_toArray, List.getElem?_cons_succ, List.getElem?_cons_zero]; rfl) (by kernel_rfl) (by kernel_rfl) (by kernel_rfl) (by intro _ _ _ h; exact h) (Or.inl ⟨by rfl, ?hy⟩) (by assumption) ?_
      case hy => (intro W_ hW_; have f_ : (y.1 != y.1) = false := (by simp); go_simp; first | done | with_reducible rfl)
      try simp only [Act.put, List.setIfInBounds_toArray, List.set_cons_zero, List.set_cons_succ]
      refine wpAnyH_take (i := 8) (v := ?_) (by simp only [List.getElem?_toArray, List.getElem?_cons_succ, List.getElem?_cons_zero]; rfl) (by kernel_rfl) (by kernel_rfl) (by kernel_rfl) (by intro _ _ _ h; exact h) (Or.inl ⟨by rfl, ?hy⟩) (by assumption) ?_
      case hy => (intro W_ hW_; go_simp; first | done | with_reducible rfl)
      try simp only [Act.put, List.setIfInBounds_toArray, List.set_cons_zero, List.set_cons_succ]
      refine wpAnyH_take (i := 9) (v := ?_) (by simp only [List.getElem?_toArray, List.getElem?_cons_succ, List.getElem?_cons_zero]; rfl) (by kernel_rfl) (by kernel_rfl) (by kernel_rfl) (by intro _ _ _ h; exact h) (Or.inl ⟨by rfl, ?hy⟩) (by assumption) ?_
      case hy => (intro W_ hW_; go_simp; first | done | with_reducible rfl)
      try simp only [Act.put, List.setIfInBounds_toArray, List.set_cons_zero, List.set_cons_succ]
      refine wpAnyH_take (i := 10) (v := ?_) (by simp only [List.getElem?_toArray, List.getElem?_cons_succ, List.getElem?_cons_zero]; rfl) (by kernel_rfl) (by kernel_rfl) (by kernel_rfl) (by intro _ _ _ h; exact h) (Or.inl ⟨by rfl, ?hy⟩) (by assumption) ?_
      case hy => (intro W_ hW_; go_simp; first | done | with_reducible rfl)
      try simp only [Act.put, List.setIfInBounds_toArray, List.set_cons_zero, List.set_cons_succ]
      refine wpAnyH_take (i := 11) (v := ?_) (by simp only [List.getElem?_toArray, List.getElem?_cons_succ, List.getElem?_cons_zero]; rfl) (by kernel_rfl) (by kernel_rfl) (by kernel_rfl) (by intro _ _ _ h; exact h) (Or.inl ⟨by rfl, ?hy⟩) (by assumption) ?_
      case hy => (intro W_ hW_; go_simp; first | done | with_reducible rfl)
      try simp only [Act.put, List.setIfInBounds_toArray, List.set_cons_zero, List.set_cons_succ]
      refine wpAnyH_take (i := 12) (v := ?_) (by simp only [List.getElem?_toArray, List.getElem?_cons_succ, List.getElem?_cons_zero]; rfl) (by kernel_rfl) (by kernel_rfl) (by kernel_rfl) (by intro _ _ _ h; exact h) (Or.inl ⟨by rfl, ?hy⟩) (by assumption) ?_
      case hy => (intro W_ hW_; go_simp; first | done | with_reducible rfl)
      try simp only [Act.put, List.setIfInBounds_toArray, List.set_cons_zero, List.set_cons_succ]
      refine wpAnyH_take (i := 13) (v := ?_) (by simp only [List.getElem?_toArray, List.getElem?_cons_succ, List.getElem?_cons_zero]; rfl) (by kernel_rfl) (by kernel_rfl) (by kernel_rfl) (by intro _ _ _ h; exact h) (Or.inl ⟨by rfl, ?hy⟩) (by assumption) ?_
      case hy => (intro W_ hW_; refine Eq.trans (exec_load_cells 28 (.tmp 55) ?_ ((ad.add (j * 33)).add 1) ?_ (cells8 y.2) _ (sg_at' hW_.1 HJ2.out y HYL.out).dig Try.underlying28 rfl (infoDig HY.out.len)) ?_ <;> (first | with_reducible rfl | rfl))
      try simp only [Act.put, List.setIfInBounds_toArray, List.set_cons_zero, List.set_cons_succ]
      refine wpAnyH_take (i := 14) (v := ?_) (by simp only [List.getElem?_toArray, List.getElem?_cons_succ, List.getElem?_cons_zero]; rfl) (by kernel_rfl) (by kernel_rfl) (by kernel_rfl) (by intro _ _ _ h; exact h) (Or.inl ⟨by rfl, ?hy⟩) (by assumption) ?_
      case hy => (intro W_ hW_; go_simp; first | done | with_reducible rfl)
      try simp only [Act.put, List.setIfInBounds_toArray, List.set_cons_zero, List.set_cons_succ]
      refine wpAnyH_ready (rs := [15]) (by kernel_rfl) (by simp) ?_
      refine AllReadyH.cons (by simp only [List.getElem?_toArray, List.getElem?_cons_succ, List.getElem?_cons_zero]; rfl) (fun K hK => ?_) AllReadyH.nil
      rw [if_pos (by rfl)]
      go_wp2_with fail
      refine (sha_callB q (by have := HQ.out; have := HQ8.out; omega) y.2 HX2.out _).mono ?_
      rintro e w5 ⟨rfl, hb5⟩
      refine hK.out _ _ (And.intro (Kd.C_below hHeld.1 hb5) (below_step hHeld.2 hb5)) (fun hHeld2 => ?_)
      clear hK K hHeld
      have hHeld := hHeld2
      clear hHeld2
      try simp only [Act.put, List.setIfInBounds_toArray, List.set_cons_zero, List.set_cons_succ]
      refine wpAnyH_take (i := 16) (v := ?_) (by simp only [List.getElem?_toArray, List.getElem?_cons_succ, List.getElem?_cons_zero]; rfl) (by kernel_rfl) (by kernel_rfl) (by kernel_rfl) (by intro _ _ _ h; exact h) (Or.inl ⟨by rfl, ?hy⟩) (by assumption) ?_
      case hy => (intro W_ hW_; refine Eq.trans (exec_neq_dig y.2 y.2 HY.out.len HY.out.len (.tmp 56) (.tmp 58) ?_ ?_ ?_) ?_ <;> (first | with_reducible rfl | rfl | simp))
      try simp only [Act.put, List.setIfInBounds_toArray, List.set_cons_zero, List.set_cons_succ]
      refine wpAnyH_take (i := 17) (v := ?_) (by simp only [List.getElem?_toArray, List.getElem?_cons_succ, List.getElem?_cons_zero]; rfl) (by kernel_rfl) (by kernel_rfl) (by kernel_rfl) (by intro _ _ _ h; exact h) (Or.inl ⟨by rfl, ?hy⟩) (by assumption) ?_
      case hy => (intro W_ hW_; go_simp; first | done | with_reducible rfl)
      try simp only [Act.put, List.setIfInBounds_toArray, List.set_cons_zero, List.set_cons_succ]
      refine wpAnyH_done (by kernel_rfl) ?_ _
      go_wp2_with fail
      go_roundg (n - (j + 1))
      case measure => have := HJ.out; have := HJ2.out; omega
      case rel => exact ⟨j + 1, by simp [e4], ⟨rfl, by have := HJ2.out; omega⟩, ⟨hHeld.1⟩, ⟨hHeld.2⟩⟩
    · have e1 : decide ((j : Int) < (n : Int)) = false := by simpa using hj
      have e2 : ((j : Int) < (n : Int)) = False := by simpa using hj
      go_wp2_with fail
      go_ret
      exact ⟨rfl, HB.out⟩
theorem rolodexlaw10_SignMany.walk (a0 : ByteArray) (w : World) (w0 : a0.size ≤ 140737488351232) :
    Calls Try.prog 5 #[.string a0] w fun e w' => e = .returned (.bool true) ∧ Below w.heap.size w w' := by
  by_cases h1 : 300 < a0.size
  · exact many_long a0 w h1
  · by_cases h2 : a0.size < 24
    · exact many_short a0 w h2
    · exact many_mid a0 w (by omega) (by omega)
end Go.Proofs.Ytchaegfdcdlfaaa.X

/- The row of SignMany, over the walk that is proved by hand. -/
namespace Go.Proofs.Ytchaegfdcdlfaaa.signMany
open Go.ChangeShapes Go.WideShapes Go.ChangeAt Go.RowKit
open Go.ChangeMaps (open_string shut_string)
set_option linter.unusedVariables false
theorem own : ownKnob Try.prog.godebug = none := by kernel_rfl
set_option maxRecDepth 100000 in
theorem lifted (os : Os) (started : os.Started) (H : Type) (enc : TypeId × Value → H) :
    ReturnsInHanded {} Try.checked os 5 .any (Rows.signManySpec.pre6 enc Try.prog Try.f5 Rows.signManyRow.domain false) (Rows.signManySpec.post enc Try.prog Try.f5 false true false false) := by
  refine returnsInHanded_of_change_sized (C := Try.checked) own started (by kernel_rfl) Try.func5
    (ChangeSpec.witness6 (enc := enc) (C := Try.checked) false ⟨#[], #[.string ByteArray.empty], []⟩ 8 (by kernel_rfl) (by kernel_rfl) (by kernel_rfl) (by kernel_rfl)) ?_
  intro W base args ds gs before hval0 hW hcnd hsz0 _
  have hsz : (DataW.weightsEach Try.prog (Try.f5.params.toList ++ Rows.signManySpec.plain.varTypes Try.prog) (ds ++ gs)).all (· ≤ reachBytes) = true := hsz0
  have hval : ∀ (j : Nat) t v, Try.f5.params[j]? = some t → args[j]? = some v → Value.okWide Try.prog W .any base t v := hval0
  have hW' := hW
  obtain ⟨p, q, hA0, hV, rfl, hfz, hnd⟩ := hW
  have hA : DataW.TrodAll enc Try.prog W 0 (fun _ => true) true Try.f5.params.toList args.toList ds p := hA0
  rw [Try.params5] at hA hval hsz
  obtain ⟨v0, vs0, d0, ds0, p0, q0, hargs, rfl, rfl, h0, r0⟩ := trodAll_cons hA
  obtain ⟨rfl, rfl, rfl⟩ := trodAll_nil r0
  obtain rfl : args = #[v0] := by cases args; simp_all
  obtain ⟨rfl, rfl⟩ := trodVars_none hV
  obtain ⟨a0, rfl, rfl, rfl, y0⟩ := open_string Try.underlying9 (hval 0 9 v0 rfl rfl) h0
  have w0 : a0.size ≤ 140737488351232 := by
    have z := sized_string hsz (j := 0) (t := 9) rfl rfl
    rw [Array.length_toList] at z
    exact z
  clear hA0 hval0 hsz0 hsz
  refine (X.rolodexlaw10_SignMany.walk a0 W w0).mono fun e W' ⟨he, bel⟩ => ?_
  subst he
  exact ⟨_, rfl, _, _, _, [], _, [], hW', trodAll_mk1 (shut_bool Try.underlying4 _), (trodAll_cons_mk (shut_string Try.underlying9 y0) trodAll_mk0), rfl, bel.frame _, fun h => by cases h⟩
theorem clos0 : (J.closT Try.prog 185 [5] []).isSome = true := by kernel_rfl
theorem clos1 : Try.prog.closure 5 = (J.closT Try.prog 185 [5] []).getD [] := J.clos_eq (of_decide_eq_true (by kernel_rfl)) clos0
theorem fact1 : Try.prog.inPlace 5 = [] := by unfold Program.inPlace; rw [clos1]; kernel_rfl
theorem fact2 : Try.prog.unfollowed 5 = false := by unfold Program.unfollowed; rw [clos1]; kernel_rfl
theorem fact3 : Try.prog.recurses 5 = false := by unfold Program.recurses; rw [fact2, clos1, Bool.false_or]; exact J.no_back (n := 185) (of_decide_eq_true (by kernel_rfl)) (by kernel_rfl)
theorem fact4 : Try.prog.varsNamed 5 = [] := by unfold Program.varsNamed; rw [clos1]; kernel_rfl
set_option maxRecDepth 100000 in
theorem facts : joinedFacts Try.prog 5 Try.f5 Rows.signManySpec Rows.signManyRow = true := by
  unfold joinedFacts
  simp only [Bool.and_eq_true]
  repeat' apply And.intro
  all_goals first | (with_reducible exact J.mayEnter) | (rw [J.liftsFinal]; kernel_rfl) | (rw [J.make]; kernel_rfl) | (rw [fact1]; kernel_rfl) | (rw [fact2]; kernel_rfl) | (rw [fact3]; kernel_rfl) | (rw [fact4]; kernel_rfl) | kernel_rfl
theorem over : Rows.signManyRow.holds Try.pinned (OpenSpec.ofChange Rows.signManySpec) :=
  OpenClaim.holds_of_wide 5 Try.f5 rfl rfl rfl rfl rfl rfl rfl ⟨rfl, rfl, rfl, rfl, rfl⟩ rfl rfl rfl rfl rfl (by kernel_rfl) Try.func5 facts
    (of_decide_eq_true (by kernel_rfl)) (by unfold Func.isWrapper; first | (rw [if_pos (by decide +kernel)]; kernel_rfl) | (rw [if_neg (by decide +kernel)]; exact ⟨rfl, rfl⟩))
    (fun os started H enc _ => lifted os started H enc)
theorem proved : Rows.SignManySaid := over
#print axioms proved
end Go.Proofs.Ytchaegfdcdlfaaa.signMany
namespace Go.Proofs.Ytchaegfdcdlfaaa
/-- The row, under a short name, for the claim. -/
theorem signMany_holds : Rows.SignManySaid := signMany.proved
end Go.Proofs.Ytchaegfdcdlfaaa
