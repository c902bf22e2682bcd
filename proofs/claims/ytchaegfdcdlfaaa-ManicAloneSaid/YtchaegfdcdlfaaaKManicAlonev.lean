/- ManicAlone: the walk, the plain law, the row. -/
import Derived.Test.YtchaegfdcdlfaaaM6v
import Derived.Test.YtchaegfdcdlfaaaRows
import Derived.WalkKit
import Derived.ProofKit
import Derived.OpenShut
import Derived.ShutString
import Derived.ChangeOld
import Derived.Below
import Derived.SizedLaws
import Derived.Test.YtchaegfdcdlfaaaVSized

/- ManicAlone, walked: function 25. -/
namespace Go.Proofs.Ytchaegfdcdlfaaa.X
set_option linter.unusedVariables false
set_option linter.unusedSimpArgs false
open Go.RowKit Go.Proofs.YtchaegfdcdlfaaaW.PrintWords Go.Proofs.YtchaegfdcdlfaaaW.PrintLast Go.Proofs.YtchaegfdcdlfaaaW.PrintMore
open Go.Proofs.Ytchaegfdcdlfaaa.Y (Bytes RdB put put_range put_length put_length_pos word word_length word_bytes rdb_below rdb_drewN put_call word_call row_slice conv0 strs_inj bytes_of_wf)
attribute [local go_sem] max2_int min2_int max_two min_two max_three min_three max_four min_four
abbrev AlS (w0 : World) (ms ns : Array Value) (B1 : Option Addr) (l1 : List Int) (B2 : Option Addr) (l2 : List Int) (W : World) : Prop :=
  W.heap[w0.heap.size]? = some (.cells ms 71 (0, 0)) ∧ W.heap[w0.heap.size + 1]? = some (.cells ns 71 (0, 0)) ∧ RdB W B1 l1.length l1 ∧ RdB W B2 l2.length l2 ∧ Below w0.heap.size w0 W
theorem AlS.step {w0 : World} {ms ns : Array Value} {B1 : Option Addr} {l1 : List Int} {B2 : Option Addr} {l2 : List Int} {W W1 : World} (h : AlS w0 ms ns B1 l1 B2 l2 W) (hb : Below W.heap.size W W1) : AlS w0 ms ns B1 l1 B2 l2 W1 :=
  ⟨blk_below h.1 hb, blk_below h.2.1 hb, rdb_below h.2.2.1 hb, rdb_below h.2.2.2.1 hb, below_step h.2.2.2.2 hb⟩
set_option maxHeartbeats 4000000 in
set_option maxRecDepth 100000 in
theorem rolodexlaw13_ManicAlone.walk (m : Man) (A : Option Addr) (c : Nat) (n : Man) (B : Option Addr) (d : Nat) (w : World) (ok : ManOk m) (hc : m.l.length ≤ c) (hC : Kd.C linK w A m.l.length m.l) (ok2 : ManOk n) (hd : n.l.length ≤ d) (hD : Kd.C linK w B n.l.length n.l) :
    Calls Try.prog 25 #[.agg (manC m A c).toArray, .agg (manC n B d).toArray] w fun e w' => e = .returned (.bool true) ∧ Below w.heap.size w w' := by
  have HFEW1 : Aside0 (∀ W : World, Below w.heap.size w W → Calls Try.prog 63 #[.agg (manC m A c).toArray] W fun e w' => e = .returned (.bool (fewM m)) ∧ Below W.heap.size W w') := ⟨fun W hW => few_call m A c W ok.base.1 hc (Kd.C_below hC hW)⟩
  have HFEW2 : Aside0 (∀ W : World, Below w.heap.size w W → Calls Try.prog 63 #[.agg (manC n B d).toArray] W fun e w' => e = .returned (.bool (fewM n)) ∧ Below W.heap.size W w') := ⟨fun W hW => few_call n B d W ok2.base.1 hd (Kd.C_below hD hW)⟩
  have HPUT1 := Aside0.mk (fun (W : World) (hW : Below w.heap.size w W) => putm_call m A c W ok.byt hc (Kd.C_below hC hW))
  have HPUT2 := Aside0.mk (fun (W : World) (hW : Below w.heap.size w W) => putm_call n B d W ok2.byt hd (Kd.C_below hD hW))
  have HSAME := Aside0.mk (fun (W : World) (hW : Below w.heap.size w W) => samem_call m n A B c d W ok.base.1 ok2.base.1 (Kd.C_below hC hW) (Kd.C_below hD hW) ok.ok ok2.ok)
  have HI1 := Aside0.mk (manInfo (m := m) ok.base.1 A c)
  have HI2 := Aside0.mk (manInfo (m := n) ok2.base.1 B d)
  have HBY := Aside0.mk (And.intro (putM_bytes ok.byt) (putM_bytes ok2.byt))
  have HINJ : Aside0 (mayM m = true → mayM n = true → (putM m).1 = (putM n).1 → m = n) := ⟨fun h1 h2 he => putM_inj h1 ok.byt h2 ok2.byt (by unfold putM at he; rwa [if_pos h1, if_pos h2] at he)⟩
  obtain ⟨l1, hl1⟩ : ∃ l1, (putM m).1 = l1 := ⟨_, rfl⟩
  obtain ⟨l2, hl2⟩ : ∃ l2, (putM n).1 = l2 := ⟨_, rfl⟩
  have HL1 := Aside0.mk hl1
  have HL2 := Aside0.mk hl2
  rw [hl1] at HPUT1
  rw [hl2] at HPUT2
  obtain ⟨ms, hms⟩ : ∃ ms, (manC m A c).toArray = ms := ⟨_, rfl⟩
  obtain ⟨ns, hns⟩ : ∃ ns, (manC n B d).toArray = ns := ⟨_, rfl⟩
  rw [hms] at HFEW1 HPUT1 HSAME HI1 ⊢
  rw [hns] at HFEW2 HPUT2 HSAME HI2 ⊢
  have HT := Aside0.mk (TwoS.begin w 71 ms ns)
  clear ok ok2 hc hd hC hD hms hns hl1 hl2
  go_enter Try.func25, Try.ntmps25
  go_wp2_with fail
  refine (awake13_call _).mono ?_
  rintro e_ w1 ⟨rfl, hb1⟩
  have H1 := Aside0.mk (HT.out.step hb1)
  clear hb1
  go_wp2_with (first
    | ((with_reducible refine gate_dst (N := 13) rfl ?_); refine wpList_load_row rfl 71 (.tmp 2) rfl w.heap.size rfl 71 ms (0, 0) _ H1.out.1 Try.underlying71 rfl HI1.out ?_)
    | fail)
  refine (HFEW1.out _ H1.out.2.2).mono ?_
  rintro e_ w2 ⟨rfl, hb2⟩
  have H2 := Aside0.mk (H1.out.step hb2)
  clear hb2
  go_wp2_with (first
    | ((with_reducible refine gate_dst (N := 15) rfl ?_); refine wpList_load_row rfl 71 (.tmp 3) rfl (w.heap.size + 1) rfl 71 ns (0, 0) _ H2.out.2.1 Try.underlying71 rfl HI2.out ?_)
    | fail)
  refine (HFEW2.out _ H2.out.2.2).mono ?_
  rintro e_ w3 ⟨rfl, hb3⟩
  have H3 := Aside0.mk (H2.out.step hb3)
  clear hb3
  go_wp2_with (first
    | ((with_reducible refine gate_dst (N := 18) rfl ?_); refine wpList_load_row rfl 71 (.tmp 2) rfl w.heap.size rfl 71 ms (0, 0) _ H3.out.1 Try.underlying71 rfl HI1.out ?_)
    | fail)
  refine (HPUT1.out _ H3.out.2.2).mono ?_
  rintro e_ w4 ⟨⟨B1, c1, rfl, hc1, hr1⟩, hb4⟩
  have H4 := Aside0.mk (H3.out.step hb4)
  have HR1 := Aside0.mk hr1
  clear hb4 hr1 hc1
  go_wp2_with (first
    | ((with_reducible refine gate_dst (N := 23) rfl ?_); refine wpList_load_row rfl 71 (.tmp 3) rfl (w.heap.size + 1) rfl 71 ns (0, 0) _ H4.out.2.1 Try.underlying71 rfl HI2.out ?_)
    | fail)
  refine (HPUT2.out _ H4.out.2.2).mono ?_
  rintro e_ w5 ⟨⟨B2, c2, rfl, hc2, hr2⟩, hb5⟩
  have H5 := Aside0.mk (H4.out.step hb5)
  have H6 : Aside0 (AlS w ms ns B1 l1 B2 l2 w5) := ⟨H5.out.1, H5.out.2.1, rdb_below HR1.out hb5, hr2, H5.out.2.2⟩
  clear hb5 hr2 hc2
  cases hf1 : fewM m
  · go_wp2_with fail
    go_ret
    exact ⟨rfl, H5.out.2.2⟩
  cases hf2 : fewM n
  · go_wp2_with fail
    go_ret
    exact ⟨rfl, H5.out.2.2⟩
  cases hm1 : mayM m
  · go_wp2_with fail
    go_ret
    exact ⟨rfl, H5.out.2.2⟩
  cases hm2 : mayM n
  · go_wp2_with fail
    go_ret
    exact ⟨rfl, H5.out.2.2⟩
  have HRES : Aside0 (((strOfNums l1).toList == (strOfNums l2).toList) = sameM m n) := ⟨by
    have e1 := strs_inj HBY.out.1 HBY.out.2
    rw [HL1.out, HL2.out] at e1
    have hinj := HINJ.out hm1 hm2
    rw [HL1.out, HL2.out] at hinj
    by_cases h : m = n
    · rw [sameM_eq.2 h]
      rw [beq_iff_eq, e1, ← HL1.out, ← HL2.out, h]
    · have h1 : sameM m n = false := by
        cases hs : sameM m n
        · rfl
        · exact absurd (sameM_eq.1 hs) h
      rw [h1, beq_eq_false_iff_ne]
      exact fun hc => h (hinj (e1.1 hc))⟩
  clear hf1 hf2 hm1 hm2
  go_wp2_with fail
  refine wp_region_held_drew (S := (fun W => AlS w ms ns B1 l1 B2 l2 W)) (by kernel_rfl) (AlS.step H6.out (below_drew (Below.refl _ _))) (fun hHeld => ?_)
  refine tq (i := 0) (v := ?_) ?hy ?_
  case hy => (intro W_ hW_; go_simp; first | done | with_reducible rfl)
  try simp only [Act.put, List.setIfInBounds_toArray, List.set_cons_zero, List.set_cons_succ]
  refine tq (i := 1) (v := ?_) ?hy ?_
  case hy => (intro W_ hW_; have f1 := conv0 hW_.2.2.1 c1; go_simp; first | done | with_reducible rfl)
  try simp only [Act.put, List.setIfInBounds_toArray, List.set_cons_zero, List.set_cons_succ]
  refine tq (i := 2) (v := ?_) ?hy ?_
  case hy => (intro W_ hW_; go_simp; first | done | with_reducible rfl)
  try simp only [Act.put, List.setIfInBounds_toArray, List.set_cons_zero, List.set_cons_succ]
  refine tq (i := 3) (v := ?_) ?hy ?_
  case hy => (intro W_ hW_; have f3 := conv0 hW_.2.2.2.1 c2; go_simp; first | done | with_reducible rfl)
  try simp only [Act.put, List.setIfInBounds_toArray, List.set_cons_zero, List.set_cons_succ]
  refine tq (i := 4) (v := ?_) ?hy ?_
  case hy => (intro W_ hW_; go_simp; first | done | with_reducible rfl)
  try simp only [Act.put, List.setIfInBounds_toArray, List.set_cons_zero, List.set_cons_succ]
  refine tq (i := 5) (v := ?_) ?hy ?_
  case hy => (intro W_ hW_; refine Eq.trans (exec_load_row 71 (.tmp 2) ?_ w.heap.size ?_ 71 ms (0, 0) _ hW_.1 Try.underlying71 rfl HI1.out) ?_ <;> (first | with_reducible rfl | rfl))
  try simp only [Act.put, List.setIfInBounds_toArray, List.set_cons_zero, List.set_cons_succ]
  refine tq (i := 6) (v := ?_) ?hy ?_
  case hy => (intro W_ hW_; refine Eq.trans (exec_load_row 71 (.tmp 3) ?_ (w.heap.size + 1) ?_ 71 ns (0, 0) _ hW_.2.1 Try.underlying71 rfl HI2.out) ?_ <;> (first | with_reducible rfl | rfl))
  try simp only [Act.put, List.setIfInBounds_toArray, List.set_cons_zero, List.set_cons_succ]
  refine wpAnyH_ready (rs := [7]) (by kernel_rfl) (by simp) ?_
  refine AllReadyH.cons (by simp only [List.getElem?_toArray, List.getElem?_cons_succ, List.getElem?_cons_zero]; rfl) (fun K hK => ?_) AllReadyH.nil
  rw [if_pos (by rfl)]
  go_wp2_with fail
  refine (HSAME.out _ hHeld.2.2.2.2).mono ?_
  rintro e_ wq ⟨rfl, hbq⟩
  refine hK.out _ _ (AlS.step hHeld hbq) (fun hHeld2 => ?_)
  clear hK K hHeld
  have hHeld := hHeld2
  clear hHeld2
  try simp only [Act.put, List.setIfInBounds_toArray, List.set_cons_zero, List.set_cons_succ]
  refine tq (i := 8) (v := ?_) ?hy ?_
  case hy => (intro W_ hW_; go_simp; first | done | with_reducible rfl)
  try simp only [Act.put, List.setIfInBounds_toArray, List.set_cons_zero, List.set_cons_succ]
  refine tq (i := 9) (v := ?_) ?hy ?_
  case hy => (intro W_ hW_; go_simp; first | done | with_reducible rfl)
  try simp only [Act.put, List.setIfInBounds_toArray, List.set_cons_zero, List.set_cons_succ]
  refine wpAnyH_done (by kernel_rfl) ?_ _
  have HB9 := Aside0.mk hHeld.2.2.2.2
  clear hHeld
  rw [HRES.out]
  go_wp2_with fail
  go_ret
  exact ⟨by simp, HB9.out⟩
end Go.Proofs.Ytchaegfdcdlfaaa.X

/- The row of ManicAlone, over the walk that is proved by hand. -/
namespace Go.Proofs.Ytchaegfdcdlfaaa.manicAlone
open Go.ChangeShapes Go.WideShapes Go.ChangeAt Go.RowKit
open Go.ChangeMaps (open_string shut_string)
set_option linter.unusedVariables false
theorem own : ownKnob Try.prog.godebug = none := by kernel_rfl
theorem laidOut : laidOutB Try.prog = true := by kernel_rfl
def IsRow (k : IntKind) (w : World) (a : Option Addr) (len cap : Nat) (zs : List Int) : Prop :=
  (a = none ∧ len = 0 ∧ cap = 0 ∧ zs = []) ∨
  ∃ x, a = some x ∧ len ≤ cap ∧ cap ≤ maxLen ∧ zs.length = cap ∧ (∀ i, i < zs.length → w.cell? (x.add i) = some (.int k (zs.getD i 0))) ∧ ∀ n ∈ zs, (Lit.int k n).wf = true
set_option maxRecDepth 100000 in
theorem lifted (os : Os) (started : os.Started) (H : Type) (enc : TypeId × Value → H) :
    ReturnsInHanded {} Try.checked os 25 .any (Rows.manicAloneSpec.pre6 enc Try.prog Try.f25 Rows.manicAloneRow.domain false) (Rows.manicAloneSpec.post enc Try.prog Try.f25 false true false false) := by
  refine returnsInHanded_of_change_sized (C := Try.checked) own started (by kernel_rfl) Try.func25
    (ChangeSpec.witness6 (enc := enc) (C := Try.checked) false ⟨#[], #[.agg #[.int .u8 0, .int .u8 0, .int .u8 0, .int .u8 0, .int .u8 0, .int .u8 0, .int .u8 0, .int .u8 0, .int .u8 0, .int .u8 0, .int .u8 0, .int .u8 0, .int .u8 0, .int .u8 0, .int .u8 0, .int .u8 0, .int .u8 0, .int .u8 0, .int .u8 0, .int .u8 0, .int .u8 0, .int .u8 0, .int .u8 0, .int .u8 0, .int .u8 0, .int .u8 0, .int .u8 0, .int .u8 0, .int .u8 0, .int .u8 0, .int .u8 0, .int .u8 0, .slice none 0 0], .agg #[.int .u8 0, .int .u8 0, .int .u8 0, .int .u8 0, .int .u8 0, .int .u8 0, .int .u8 0, .int .u8 0, .int .u8 0, .int .u8 0, .int .u8 0, .int .u8 0, .int .u8 0, .int .u8 0, .int .u8 0, .int .u8 0, .int .u8 0, .int .u8 0, .int .u8 0, .int .u8 0, .int .u8 0, .int .u8 0, .int .u8 0, .int .u8 0, .int .u8 0, .int .u8 0, .int .u8 0, .int .u8 0, .int .u8 0, .int .u8 0, .int .u8 0, .int .u8 0, .slice none 0 0]], []⟩ 8 (by kernel_rfl) (by kernel_rfl) (by kernel_rfl) (by kernel_rfl)) ?_
  intro W base args ds gs before hval0 hW hcnd hsz0 _
  have hsz : (DataW.weightsEach Try.prog (Try.f25.params.toList ++ Rows.manicAloneSpec.plain.varTypes Try.prog) (ds ++ gs)).all (· ≤ reachBytes) = true := hsz0
  have hval : ∀ (j : Nat) t v, Try.f25.params[j]? = some t → args[j]? = some v → Value.okWide Try.prog W .any base t v := hval0
  have hW' := hW
  obtain ⟨p, q, hA0, hV, rfl, hfz, hnd⟩ := hW
  have hA : DataW.TrodAll enc Try.prog W 0 (fun _ => true) true Try.f25.params.toList args.toList ds p := hA0
  rw [Try.params25] at hA hval hsz
  obtain ⟨v0, vs0, d0, ds0, p0, q0, hargs, rfl, rfl, h0, r0⟩ := trodAll_cons hA
  obtain ⟨v1, vs1, d1, ds1, p1, q1, rfl, rfl, rfl, h1, r1⟩ := trodAll_cons r0
  obtain ⟨rfl, rfl, rfl⟩ := trodAll_nil r1
  obtain rfl : args = #[v0, v1] := by cases args; simp_all
  obtain ⟨rfl, rfl⟩ := trodVars_none hV
  have k0 := h0
  have lt0 : ∀ x ∈ p0, x.block < W.heap.size := by obtain ⟨m, hm⟩ := k0; exact DataW.trod_lt m _ _ _ hm
  obtain ⟨l0, a0, c0, rfl, o0, n0, b0⟩ := X.open_man (hval 0 71 v0 rfl rfl) h0
  have k1 := h1
  have lt1 : ∀ x ∈ p1, x.block < W.heap.size := by obtain ⟨m, hm⟩ := k1; exact DataW.trod_lt m _ _ _ hm
  obtain ⟨l1, a1, c1, rfl, o1, n1, b1⟩ := X.open_man (hval 1 71 v1 rfl rfl) h1
  clear hA0 hval0 hsz0 hsz
  refine (X.rolodexlaw13_ManicAlone.walk l0 a0 c0 l1 a1 c1 W o0 n0 b0 o1 n1 b1).mono fun e W' ⟨he, bel⟩ => ?_
  subst he
  exact ⟨_, rfl, _, _, _, [], _, [], hW', trodAll_mk1 (shut_bool Try.underlying4 _), (trodAll_cons_mk (Below.trod laidOut (by kernel_rfl) (of_decide_eq_true (by kernel_rfl)) k0 bel lt0) (trodAll_cons_mk (Below.trod laidOut (by kernel_rfl) (of_decide_eq_true (by kernel_rfl)) k1 bel lt1) trodAll_mk0)), rfl, bel.frame _, fun h => by cases h⟩
theorem clos0 : (J.closT Try.prog 185 [25] []).isSome = true := by kernel_rfl
theorem clos1 : Try.prog.closure 25 = (J.closT Try.prog 185 [25] []).getD [] := J.clos_eq (of_decide_eq_true (by kernel_rfl)) clos0
theorem fact1 : Try.prog.inPlace 25 = ["internal/bytealg.Compare"] := by unfold Program.inPlace; rw [clos1]; kernel_rfl
theorem fact2 : Try.prog.unfollowed 25 = true := by unfold Program.unfollowed; rw [clos1]; kernel_rfl
theorem fact3 : Try.prog.recurses 25 = true := by unfold Program.recurses; rw [fact2]; rfl
theorem fact4 : Try.prog.varsNamed 25 = [] := by unfold Program.varsNamed; rw [clos1]; kernel_rfl
set_option maxRecDepth 100000 in
theorem facts : joinedFacts Try.prog 25 Try.f25 Rows.manicAloneSpec Rows.manicAloneRow = true := by
  unfold joinedFacts
  simp only [Bool.and_eq_true]
  repeat' apply And.intro
  all_goals first | (with_reducible exact J.mayEnter) | (rw [J.liftsFinal]; kernel_rfl) | (rw [J.make]; kernel_rfl) | (rw [fact1]; kernel_rfl) | (rw [fact2]; kernel_rfl) | (rw [fact3]; kernel_rfl) | (rw [fact4]; kernel_rfl) | kernel_rfl
theorem over : Rows.manicAloneRow.holds Try.pinned (OpenSpec.ofChange Rows.manicAloneSpec) :=
  OpenClaim.holds_of_wide 25 Try.f25 rfl rfl rfl rfl rfl rfl rfl ⟨rfl, rfl, rfl, rfl, rfl⟩ rfl rfl rfl rfl rfl (by kernel_rfl) Try.func25 facts
    (of_decide_eq_true (by kernel_rfl)) (by unfold Func.isWrapper; first | (rw [if_pos (by decide +kernel)]; kernel_rfl) | (rw [if_neg (by decide +kernel)]; exact ⟨rfl, rfl⟩))
    (fun os started H enc _ => lifted os started H enc)
theorem proved : Rows.ManicAloneSaid := over
#print axioms proved
end Go.Proofs.Ytchaegfdcdlfaaa.manicAlone
namespace Go.Proofs.Ytchaegfdcdlfaaa
/-- The row, under a short name, for the claim. -/
theorem manicAlone_holds : Rows.ManicAloneSaid := manicAlone.proved
end Go.Proofs.Ytchaegfdcdlfaaa
