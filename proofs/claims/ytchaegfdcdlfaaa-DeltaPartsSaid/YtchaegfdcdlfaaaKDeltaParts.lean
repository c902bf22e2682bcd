/- DeltaParts: the walk, the plain law, the row. -/
import Derived.Test.YtchaegfdcdlfaaaQ1
import Derived.Test.YtchaegfdcdlfaaaRows
import Derived.Test.YtchaegfdcdlfaaaE5
import Derived.WalkKit
import Derived.ProofKit
import Derived.OpenShut
import Derived.ShutString
import Derived.ChangeOld
import Derived.Below
import Derived.SizedLaws
import Derived.Test.YtchaegfdcdlfaaaWSized

/- Pieces one behind the other make what each of both makes, one behind the other: the law in plain lists, and the walk. -/
namespace Go.Proofs.Ytchaegfdcdlfaaa.X
set_option linter.unusedVariables false
set_option linter.unusedSimpArgs false
open Go.RowKit Go.Maps Go.Proofs.YtchaegfdcdlfaaaW.PrintWords Go.Proofs.YtchaegfdcdlfaaaW.PrintLast Go.Proofs.YtchaegfdcdlfaaaW.PrintMore

theorem Apply_eq (k : Nat) (base : ByteArray) (l : List S67) (hl : l.length ≤ 1000000000) (hb : base.size ≤ 140737488351232) : delta_Apply.f k base l = some (applyL base l) := by
  unfold delta_Apply.f
  rw [if_pos ⟨hl, hb⟩]
theorem parts_pure (a0 : ByteArray) (l1 l2 : List S67) (h0 : a0.size ≤ 140737488351232) : ∃ k, rolodexlaw11_DeltaParts.f k a0 l1 l2 = some true := by
  refine ⟨200, ?_⟩
  unfold rolodexlaw11_DeltaParts.f rolodexlaw11_awake.f
  rw [Option.bind_some, Few_eq l1 200 (by omega), Option.bind_some, Few_eq l2 200 (by omega), Option.bind_some, if_pos rfl]
  have off : rolodexlaw11_DeltaParts.j0 200 a0 l1 l2 true true [] = some true := by rw [rolodexlaw11_DeltaParts.j0, if_pos rfl]
  cases hf1 : fewL l1
  · rw [if_neg (by simp), off]
  · rw [if_pos rfl]
    cases hf2 : fewL l2
    · rw [if_neg (by simp), off]
    · rw [if_pos rfl]
      by_cases g1 : (a0.size : Int) > 300
      · rw [decide_eq_true g1, off]
      · have k1 := fewL_le hf1
        have k2 := fewL_le hf2
        rw [decide_eq_false g1, rolodexlaw11_DeltaParts.j0, if_neg (by simp), Apply_eq _ _ _ (by omega) h0, Option.bind_some, Apply_eq _ _ _ (by omega) h0, Option.bind_some, if_pos (by simp; omega), Option.bind_some, List.nil_append, if_pos (by omega), Apply_eq _ _ _ (by rw [List.length_append]; omega) h0, Option.bind_some]
        cases hx : (applyL a0 l1).2
        · rw [if_neg (by simp), rolodexlaw11_DeltaParts.j1, if_pos rfl, apply_parts_no (.inl hx), if_neg (by simp)]
          dsimp only
          rw [toList_empty]
          rfl
        · rw [if_pos rfl]
          cases hy : (applyL a0 l2).2
          · rw [rolodexlaw11_DeltaParts.j1, if_pos (by rfl), apply_parts_no (.inr hy), if_neg (by simp)]
            dsimp only
            rw [toList_empty]
            rfl
          · have z1 := (applyL_true hx)
            have z2 := (applyL_true hy)
            have s1 := outL_size a0 ((mayL_iff l1).1 z1.1).1 z1.2.1
            have s2 := outL_size a0 ((mayL_iff l2).1 z2.1).1 z2.2.1
            have m1 := ((mayL_iff l1).1 z1.1).2.2
            have m2 := ((mayL_iff l2).1 z2.1).2.2
            have e1 : (applyL a0 l1).1.size ≤ 200 := by rw [z1.2.2]; show (outL a0 l1).size ≤ 200; omega
            have e2 : (applyL a0 l2).1.size ≤ 200 := by rw [z2.2.2]; show (outL a0 l2).size ≤ 200; omega
            rw [rolodexlaw11_DeltaParts.j1, if_neg (by simp), apply_parts hx hy]
            have w1 : wrap64 (((applyL a0 l1).1.size : Int) + ((applyL a0 l2).1.size : Int)) = ((applyL a0 l1).1.size : Int) + ((applyL a0 l2).1.size : Int) := by unfold wrap64; omega
            have w2 : wrap64 ((l1.length : Int) + (l2.length : Int)) = (l1.length : Int) + (l2.length : Int) := by unfold wrap64; omega
            rw [w1, w2]
            clear w1 w2
            by_cases g2 : ((applyL a0 l1).1.size : Int) + ((applyL a0 l2).1.size : Int) > 200
            · have hc : (applyL a0 l1).1.size + (applyL a0 l2).1.size > 200 ∨ l1.length + l2.length > 60 := .inl (by omega)
              rw [if_pos hc, if_pos g2]
              rfl
            · by_cases g3 : (l1.length : Int) + (l2.length : Int) > 60
              · have hc : (applyL a0 l1).1.size + (applyL a0 l2).1.size > 200 ∨ l1.length + l2.length > 60 := .inr (by omega)
                rw [if_pos hc, if_neg g2, if_pos g3]
                rfl
              · have hc : ¬ ((applyL a0 l1).1.size + (applyL a0 l2).1.size > 200 ∨ l1.length + l2.length > 60) := by omega
                rw [if_neg hc, if_neg g2, if_neg g3, if_pos rfl, if_pos (by omega)]
                simp
theorem rolodexlaw11_DeltaParts.walk (a0 : ByteArray) (a1 : Option Addr) (len1 cap1 : Nat) (l1 : List S67) (a2 : Option Addr) (len2 cap2 : Nat) (l2 : List S67) (w : World) (w0 : a0.size ≤ 140737488351232)
    (n1 : l1.length = len1) (c1 : len1 ≤ cap1) (b1 : Kd.C k67 w a1 len1 l1) (o1 : ∀ s ∈ l1, PcOk s) (n2 : l2.length = len2) (c2 : len2 ≤ cap2) (b2 : Kd.C k67 w a2 len2 l2) (o2 : ∀ s ∈ l2, PcOk s) :
    Calls Try.prog 17 #[.string a0, .slice a1 len1 cap1, .slice a2 len2 cap2] w fun e w' => e = .returned (.bool true) ∧ Below w.heap.size w w' := by
  subst n1
  subst n2
  obtain ⟨k, h⟩ := parts_pure a0 l1 l2 w0
  exact rolodexlaw11_DeltaParts.calls k a0 a1 cap1 l1 a2 cap2 l2 true w b1 c1 b2 c2 h
end Go.Proofs.Ytchaegfdcdlfaaa.X

/- The row of DeltaParts, over the walk that is proved by hand. -/
namespace Go.Proofs.Ytchaegfdcdlfaaa.deltaParts
open Go.ChangeShapes Go.WideShapes Go.ChangeAt Go.RowKit
open Go.ChangeMaps (open_string shut_string)
set_option linter.unusedVariables false
theorem own : ownKnob Try.prog.godebug = none := by kernel_rfl
theorem laidOut : laidOutB Try.prog = true := by kernel_rfl
def IsRow (k : IntKind) (w : World) (a : Option Addr) (len cap : Nat) (zs : List Int) : Prop :=
  (a = none ∧ len = 0 ∧ cap = 0 ∧ zs = []) ∨
  ∃ x, a = some x ∧ len ≤ cap ∧ cap ≤ maxLen ∧ zs.length = cap ∧ (∀ i, i < zs.length → w.cell? (x.add i) = some (.int k (zs.getD i 0))) ∧ ∀ n ∈ zs, (Lit.int k n).wf = true
set_option maxRecDepth 100000 in
theorem lifted (os : Os) (started : os.Started) (H : Type) (enc : TypeId × Value → H) :
    ReturnsInHanded {} Try.checked os 17 .any (Rows.deltaPartsSpec.pre6 enc Try.prog Try.f17 Rows.deltaPartsRow.domain false) (Rows.deltaPartsSpec.post enc Try.prog Try.f17 false true false false) := by
  refine returnsInHanded_of_change_sized (C := Try.checked) own started (by kernel_rfl) Try.func17
    (ChangeSpec.witness6 (enc := enc) (C := Try.checked) false ⟨#[], #[.string ByteArray.empty, .slice none 0 0, .slice none 0 0], []⟩ 8 (by kernel_rfl) (by kernel_rfl) (by kernel_rfl) (by kernel_rfl)) ?_
  intro W base args ds gs before hval0 hW hcnd hsz0 _
  have hsz : (DataW.weightsEach Try.prog (Try.f17.params.toList ++ Rows.deltaPartsSpec.plain.varTypes Try.prog) (ds ++ gs)).all (· ≤ reachBytes) = true := hsz0
  have hval : ∀ (j : Nat) t v, Try.f17.params[j]? = some t → args[j]? = some v → Value.okWide Try.prog W .any base t v := hval0
  have hW' := hW
  obtain ⟨p, q, hA0, hV, rfl, hfz, hnd⟩ := hW
  have hA : DataW.TrodAll enc Try.prog W 0 (fun _ => true) true Try.f17.params.toList args.toList ds p := hA0
  rw [Try.params17] at hA hval hsz
  obtain ⟨v0, vs0, d0, ds0, p0, q0, hargs, rfl, rfl, h0, r0⟩ := trodAll_cons hA
  obtain ⟨v1, vs1, d1, ds1, p1, q1, rfl, rfl, rfl, h1, r1⟩ := trodAll_cons r0
  obtain ⟨v2, vs2, d2, ds2, p2, q2, rfl, rfl, rfl, h2, r2⟩ := trodAll_cons r1
  obtain ⟨rfl, rfl, rfl⟩ := trodAll_nil r2
  obtain rfl : args = #[v0, v1, v2] := by cases args; simp_all
  obtain ⟨rfl, rfl⟩ := trodVars_none hV
  obtain ⟨a0, rfl, rfl, rfl, y0⟩ := open_string Try.underlying9 (hval 0 9 v0 rfl rfl) h0
  have w0 : a0.size ≤ 140737488351232 := by
    have z := sized_string hsz (j := 0) (t := 9) rfl rfl
    rw [Array.length_toList] at z
    exact z
  obtain ⟨a1, len1, cap1, rfl⟩ := okWide_slice Try.underlying55 (hval 1 55 v1 rfl rfl)
  have k1 := h1
  have lt1 : ∀ x ∈ p1, x.block < W.heap.size := by obtain ⟨m, hm⟩ := k1; exact DataW.trod_lt m _ _ _ hm
  obtain ⟨l1, n1, c1, b1, o1⟩ := X.open_pieces h1
  obtain ⟨a2, len2, cap2, rfl⟩ := okWide_slice Try.underlying55 (hval 2 55 v2 rfl rfl)
  have k2 := h2
  have lt2 : ∀ x ∈ p2, x.block < W.heap.size := by obtain ⟨m, hm⟩ := k2; exact DataW.trod_lt m _ _ _ hm
  obtain ⟨l2, n2, c2, b2, o2⟩ := X.open_pieces h2
  clear hA0 hval0 hsz0 hsz
  refine (X.rolodexlaw11_DeltaParts.walk a0 a1 len1 cap1 l1 a2 len2 cap2 l2 W w0 n1 c1 b1 o1 n2 c2 b2 o2).mono fun e W' ⟨he, bel⟩ => ?_
  subst he
  exact ⟨_, rfl, _, _, _, [], _, [], hW', trodAll_mk1 (shut_bool Try.underlying4 _), (trodAll_cons_mk (shut_string Try.underlying9 y0) (trodAll_cons_mk (Below.trod laidOut (by kernel_rfl) (of_decide_eq_true (by kernel_rfl)) k1 bel lt1) (trodAll_cons_mk (Below.trod laidOut (by kernel_rfl) (of_decide_eq_true (by kernel_rfl)) k2 bel lt2) trodAll_mk0))), rfl, bel.frame _, fun h => by cases h⟩
theorem clos0 : (J.closT Try.prog 185 [17] []).isSome = true := by kernel_rfl
theorem clos1 : Try.prog.closure 17 = (J.closT Try.prog 185 [17] []).getD [] := J.clos_eq (of_decide_eq_true (by kernel_rfl)) clos0
theorem fact1 : Try.prog.inPlace 17 = ["internal/abi.NoEscape"] := by unfold Program.inPlace; rw [clos1]; kernel_rfl
theorem fact2 : Try.prog.unfollowed 17 = true := by unfold Program.unfollowed; rw [clos1]; kernel_rfl
theorem fact3 : Try.prog.recurses 17 = true := by unfold Program.recurses; rw [fact2]; rfl
theorem fact4 : Try.prog.varsNamed 17 = [] := by unfold Program.varsNamed; rw [clos1]; kernel_rfl
set_option maxRecDepth 100000 in
theorem facts : joinedFacts Try.prog 17 Try.f17 Rows.deltaPartsSpec Rows.deltaPartsRow = true := by
  unfold joinedFacts
  simp only [Bool.and_eq_true]
  repeat' apply And.intro
  all_goals first | (with_reducible exact J.mayEnter) | (rw [J.liftsFinal]; kernel_rfl) | (rw [J.make]; kernel_rfl) | (rw [fact1]; kernel_rfl) | (rw [fact2]; kernel_rfl) | (rw [fact3]; kernel_rfl) | (rw [fact4]; kernel_rfl) | kernel_rfl
theorem over : Rows.deltaPartsRow.holds Try.pinned (OpenSpec.ofChange Rows.deltaPartsSpec) :=
  OpenClaim.holds_of_wide 17 Try.f17 rfl rfl rfl rfl rfl rfl rfl ⟨rfl, rfl, rfl, rfl, rfl⟩ rfl rfl rfl rfl rfl (by kernel_rfl) Try.func17 facts
    (of_decide_eq_true (by kernel_rfl)) (by unfold Func.isWrapper; first | (rw [if_pos (by decide +kernel)]; kernel_rfl) | (rw [if_neg (by decide +kernel)]; exact ⟨rfl, rfl⟩))
    (fun os started H enc _ => lifted os started H enc)
theorem proved : Rows.DeltaPartsSaid := over
#print axioms proved
end Go.Proofs.Ytchaegfdcdlfaaa.deltaParts
namespace Go.Proofs.Ytchaegfdcdlfaaa
/-- The row, under a short name, for the claim. -/
theorem deltaParts_holds : Rows.DeltaPartsSaid := deltaParts.proved
end Go.Proofs.Ytchaegfdcdlfaaa
