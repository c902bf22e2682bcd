/- DeltaBack: the walk, the plain law, the row. -/
import Derived.Test.YtchaegfdcdlfaaaF3v
import Derived.Test.YtchaegfdcdlfaaaF1v
import Derived.Test.YtchaegfdcdlfaaaRows
import Derived.Test.YtchaegfdcdlfaaaE5v
import Derived.WalkKit
import Derived.ProofKit
import Derived.OpenShut
import Derived.ShutString
import Derived.ChangeOld
import Derived.Below
import Derived.SizedLaws
import Derived.Test.YtchaegfdcdlfaaaVSized

/- What is put is got, and what is got is put as the same bytes: the law in plain lists, and the walk. -/
namespace Go.Proofs.Ytchaegfdcdlfaaa.X
set_option linter.unusedVariables false
set_option linter.unusedSimpArgs false
open Go.Proofs.Ytchaegfdcdlfaaa.Y (IsGet Bytes put put_range put_length put_length_pos)
open Go.RowKit Go.Maps Go.Proofs.YtchaegfdcdlfaaaW.PrintWords Go.Proofs.YtchaegfdcdlfaaaW.PrintLast Go.Proofs.YtchaegfdcdlfaaaW.PrintMore

theorem byte_lit {n : Int} (h : (Lit.int .u8 n).wf = true) : 0 ≤ n ∧ n ≤ 255 := by
  have := (Go.Proofs.Ytchaegfdcdlfaaa.Y.bytes_of_wf (l := [n]) (fun x hx => by rw [List.mem_singleton.1 hx]; exact h)) n (by simp)
  exact this
theorem putL_len {l : List S67} (h : mayL l = true) : (putL l).length ≤ 18100 := by
  have hi := (mayL_iff l).1 h
  have h1 := piecesB_length (may_shape h)
  have h2 := put_length l.length (by omega)
  unfold putL
  rw [List.length_append]
  omega
theorem back_j1 (b : List Int) (hb : Bytes b) (hl : b.length ≤ 400) : rolodexlaw11_DeltaBack.j1 99999 b = some true := by
  rw [rolodexlaw11_DeltaBack.j1, DGet_eq b hb (by omega) 99998 (by omega), Option.bind_some]
  rcases getP_is b hb (by omega) with h | ⟨l, rest, rfl, hm, h⟩
  · rw [h]
    dsimp only
    rw [if_neg (by simp), if_pos (by rfl)]
    rfl
  · rw [h]
    dsimp only
    rw [if_pos rfl, DPut_eq hm 99998 (by omega), Option.bind_some]
    dsimp only
    rw [if_pos rfl, if_pos (by rw [List.length_append]; omega), if_pos (by omega), Int.toNat_natCast, List.take_left]
    simp
theorem back_pure (l : List S67) (b : List Int) (hb : Bytes b) : ∃ k, rolodexlaw11_DeltaBack.f k l b = some true := by
  refine ⟨100000, ?_⟩
  unfold rolodexlaw11_DeltaBack.f rolodexlaw11_awake.f
  rw [Option.bind_some, Few_eq l 100000 (by omega), Option.bind_some, if_pos rfl]
  have off : rolodexlaw11_DeltaBack.j0 100000 l b true true [] = some true := by rw [rolodexlaw11_DeltaBack.j0, if_pos rfl]
  cases hf : fewL l
  · rw [if_neg (by simp), off]
  · rw [if_pos rfl]
    by_cases g1 : (b.length : Int) > 400
    · rw [decide_eq_true g1, off]
    · have k1 := fewL_le hf
      rw [decide_eq_false g1, rolodexlaw11_DeltaBack.j0, if_neg (by simp)]
      cases hm : mayL l
      · rw [DPut_no hm 99999 (by omega) (by omega), Option.bind_some, May_eq l (by omega) 99999 (by omega), hm, Option.bind_some]
        dsimp only
        rw [if_neg (by simp), if_neg (by simp)]
        exact back_j1 b hb (by omega)
      · have hp := putL_len hm
        rw [DPut_eq hm 99999 (by omega), Option.bind_some, May_eq l (by omega) 99999 (by omega), hm, Option.bind_some]
        dsimp only
        rw [if_neg (by simp), if_pos rfl, if_pos (by simp; omega), Option.bind_some, List.nil_append, if_pos (by omega)]
        rw [DGet_eq (putL l ++ b) (bytes_app (putL_bytes l) hb) (by rw [List.length_append]; omega) 99999 (by rw [List.length_append]; omega), Option.bind_some, getP_put hm b hb (by omega)]
        dsimp only
        rw [if_pos rfl, DSame_eq l l (by omega) 99999 (by omega), sameL_refl, Option.bind_some, if_pos rfl, if_pos rfl]
        exact back_j1 b hb (by omega)
theorem rolodexlaw11_DeltaBack.walk (a0 : Option Addr) (len0 cap0 : Nat) (l0 : List S67) (a1 : Option Addr) (len1 cap1 : Nat) (z1 : List Int) (w : World)
    (n0 : l0.length = len0) (c0 : len0 ≤ cap0) (b0 : Kd.C k67 w a0 len0 l0) (o0 : ∀ s ∈ l0, PcOk s)
    (w1 : (a1 = none ∧ len1 = 0 ∧ cap1 = 0 ∧ z1 = []) ∨ ∃ x, a1 = some x ∧ len1 ≤ cap1 ∧ cap1 ≤ maxLen ∧ z1.length = cap1 ∧ (∀ i, i < z1.length → w.cell? (x.add i) = some (.int .u8 (z1.getD i 0))) ∧ ∀ n ∈ z1, (Lit.int .u8 n).wf = true) (y1 : len1 * 1 ≤ 140737488351232) :
    Calls Try.prog 22 #[.slice a0 len0 cap0, .slice a1 len1 cap1] w fun e w' => e = .returned (.bool true) ∧ Below w.heap.size w w' := by
  subst n0
  obtain ⟨l1, hl1, hr1, hm1, hw1, hc1⟩ := ReadsInt.ofRowC w1
  obtain ⟨k, h⟩ := back_pure l0 l1 (fun x hx => byte_lit (hw1 x hx))
  have hr := Kd.C_of_reads (d := (0 : Int)) (h1 := fun _ => rfl) hr1
  subst hl1
  exact rolodexlaw11_DeltaBack.calls k a0 cap0 l0 a1 cap1 l1 true w b0 c0 hr hc1 h
end Go.Proofs.Ytchaegfdcdlfaaa.X

/- The row of DeltaBack, over the walk that is proved by hand. -/
namespace Go.Proofs.Ytchaegfdcdlfaaa.deltaBack
open Go.ChangeShapes Go.WideShapes Go.ChangeAt Go.RowKit
open Go.ChangeMaps (open_string shut_string)
set_option linter.unusedVariables false
theorem own : ownKnob Try.prog.godebug = none := by kernel_rfl
theorem laidOut : laidOutB Try.prog = true := by kernel_rfl
def IsRow (k : IntKind) (w : World) (a : Option Addr) (len cap : Nat) (zs : List Int) : Prop :=
  (a = none ∧ len = 0 ∧ cap = 0 ∧ zs = []) ∨
  ∃ x, a = some x ∧ len ≤ cap ∧ cap ≤ maxLen ∧ zs.length = cap ∧ (∀ i, i < zs.length → w.cell? (x.add i) = some (.int k (zs.getD i 0))) ∧ ∀ n ∈ zs, (Lit.int k n).wf = true
set_option maxRecDepth 100000 in
theorem lifted (os : Os) (started : os.Started) (H : Type) (enc : TypeId × Value → H) :
    ReturnsInHanded {} Try.checked os 22 .any (Rows.deltaBackSpec.pre6 enc Try.prog Try.f22 Rows.deltaBackRow.domain false) (Rows.deltaBackSpec.post enc Try.prog Try.f22 false true false false) := by
  refine returnsInHanded_of_change_sized (C := Try.checked) own started (by kernel_rfl) Try.func22
    (ChangeSpec.witness6 (enc := enc) (C := Try.checked) false ⟨#[], #[.slice none 0 0, .slice none 0 0], []⟩ 8 (by kernel_rfl) (by kernel_rfl) (by kernel_rfl) (by kernel_rfl)) ?_
  intro W base args ds gs before hval0 hW hcnd hsz0 _
  have hsz : (DataW.weightsEach Try.prog (Try.f22.params.toList ++ Rows.deltaBackSpec.plain.varTypes Try.prog) (ds ++ gs)).all (· ≤ reachBytes) = true := hsz0
  have hval : ∀ (j : Nat) t v, Try.f22.params[j]? = some t → args[j]? = some v → Value.okWide Try.prog W .any base t v := hval0
  have hW' := hW
  obtain ⟨p, q, hA0, hV, rfl, hfz, hnd⟩ := hW
  have hA : DataW.TrodAll enc Try.prog W 0 (fun _ => true) true Try.f22.params.toList args.toList ds p := hA0
  rw [Try.params22] at hA hval hsz
  obtain ⟨v0, vs0, d0, ds0, p0, q0, hargs, rfl, rfl, h0, r0⟩ := trodAll_cons hA
  obtain ⟨v1, vs1, d1, ds1, p1, q1, rfl, rfl, rfl, h1, r1⟩ := trodAll_cons r0
  obtain ⟨rfl, rfl, rfl⟩ := trodAll_nil r1
  obtain rfl : args = #[v0, v1] := by cases args; simp_all
  obtain ⟨rfl, rfl⟩ := trodVars_none hV
  obtain ⟨a0, len0, cap0, rfl⟩ := okWide_slice Try.underlying55 (hval 0 55 v0 rfl rfl)
  have k0 := h0
  have lt0 : ∀ x ∈ p0, x.block < W.heap.size := by obtain ⟨m, hm⟩ := k0; exact DataW.trod_lt m _ _ _ hm
  obtain ⟨l0, n0, c0, b0, o0⟩ := X.open_pieces h0
  obtain ⟨a1, len1, cap1, rfl⟩ := okWide_slice Try.underlying40 (hval 1 40 v1 rfl rfl)
  have k1 := h1
  have lt1 : ∀ x ∈ p1, x.block < W.heap.size := by obtain ⟨m, hm⟩ := k1; exact DataW.trod_lt m _ _ _ hm
  obtain ⟨z1, w1⟩ : ∃ zs, IsRow .u8 W a1 len1 cap1 zs := by
    obtain ⟨fuel, hf⟩ := h1
    rcases open_ints Try.underlying40 Try.underlying5 (by kernel_rfl) hf with ⟨hcs, _⟩ | ⟨x, l, c, zs, hcs, _, hl, hm, hz, _, hcell, hwz⟩
    · simp [Value.cells] at hcs
      obtain ⟨rfl, rfl, rfl⟩ := hcs
      exact ⟨[], .inl ⟨rfl, rfl, rfl, rfl⟩⟩
    · simp [Value.cells] at hcs
      obtain ⟨rfl, rfl, rfl⟩ := hcs
      exact ⟨zs, .inr ⟨_, rfl, hl, hm, by simpa using hz, hcell, hwz⟩⟩
  have y1 : len1 * 1 ≤ 140737488351232 := Go.Proofs.YtchaegfdcdlfaaaW.PrintWords.sized_ints hsz (j := 1) (t := 40) rfl rfl Try.underlying40 Try.underlying5 (by kernel_rfl) (by kernel_rfl) h1
  clear hA0 hval0 hsz0 hsz
  refine (X.rolodexlaw11_DeltaBack.walk a0 len0 cap0 l0 a1 len1 cap1 z1 W n0 c0 b0 o0 w1 y1).mono fun e W' ⟨he, bel⟩ => ?_
  subst he
  exact ⟨_, rfl, _, _, _, [], _, [], hW', trodAll_mk1 (shut_bool Try.underlying4 _), (trodAll_cons_mk (Below.trod laidOut (by kernel_rfl) (of_decide_eq_true (by kernel_rfl)) k0 bel lt0) (trodAll_cons_mk (Below.trod laidOut (by kernel_rfl) (of_decide_eq_true (by kernel_rfl)) k1 bel lt1) trodAll_mk0)), rfl, bel.frame _, fun h => by cases h⟩
theorem clos0 : (J.closT Try.prog 185 [22] []).isSome = true := by kernel_rfl
theorem clos1 : Try.prog.closure 22 = (J.closT Try.prog 185 [22] []).getD [] := J.clos_eq (of_decide_eq_true (by kernel_rfl)) clos0
theorem fact1 : Try.prog.inPlace 22 = ["internal/abi.NoEscape"] := by unfold Program.inPlace; rw [clos1]; kernel_rfl
theorem fact2 : Try.prog.unfollowed 22 = true := by unfold Program.unfollowed; rw [clos1]; kernel_rfl
theorem fact3 : Try.prog.recurses 22 = true := by unfold Program.recurses; rw [fact2]; rfl
theorem fact4 : Try.prog.varsNamed 22 = [] := by unfold Program.varsNamed; rw [clos1]; kernel_rfl
set_option maxRecDepth 100000 in
theorem facts : joinedFacts Try.prog 22 Try.f22 Rows.deltaBackSpec Rows.deltaBackRow = true := by
  unfold joinedFacts
  simp only [Bool.and_eq_true]
  repeat' apply And.intro
  all_goals first | (with_reducible exact J.mayEnter) | (rw [J.liftsFinal]; kernel_rfl) | (rw [J.make]; kernel_rfl) | (rw [fact1]; kernel_rfl) | (rw [fact2]; kernel_rfl) | (rw [fact3]; kernel_rfl) | (rw [fact4]; kernel_rfl) | kernel_rfl
theorem over : Rows.deltaBackRow.holds Try.pinned (OpenSpec.ofChange Rows.deltaBackSpec) :=
  OpenClaim.holds_of_wide 22 Try.f22 rfl rfl rfl rfl rfl rfl rfl ⟨rfl, rfl, rfl, rfl, rfl⟩ rfl rfl rfl rfl rfl (by kernel_rfl) Try.func22 facts
    (of_decide_eq_true (by kernel_rfl)) (by unfold Func.isWrapper; first | (rw [if_pos (by decide +kernel)]; kernel_rfl) | (rw [if_neg (by decide +kernel)]; exact ⟨rfl, rfl⟩))
    (fun os started H enc _ => lifted os started H enc)
theorem proved : Rows.DeltaBackSaid := over
#print axioms proved
end Go.Proofs.Ytchaegfdcdlfaaa.deltaBack
namespace Go.Proofs.Ytchaegfdcdlfaaa
/-- The row, under a short name, for the claim. -/
theorem deltaBack_holds : Rows.DeltaBackSaid := deltaBack.proved
end Go.Proofs.Ytchaegfdcdlfaaa
