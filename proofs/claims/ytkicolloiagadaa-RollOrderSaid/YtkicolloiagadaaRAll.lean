import Derived.RangeFuncNested
import Derived.RangeFuncBound
import Derived.RangeFuncCalls
import Derived.RangeFuncLeaves
import Derived.RangeFuncBox
import Derived.Shelf.Abstract
import Derived.Shelf.RegionOpen
import Derived.WalkKit
import Derived.OwnWalkIn
import Derived.TacticsInMore
import Derived.LoopNIn
import Derived.LoopIn
import Derived.StillTailTactics
import Derived.Test.YtkicolloiagadaaCap
import Derived.Test.YtkicolloiagadaaXa
namespace Go.Proofs.Ytkicolloiagadaa.X
open Go.RowKit Go.Shelf Go.Proofs.YtkicolloiagadaaW.PrintWords Go.Proofs.YtkicolloiagadaaW.PrintLast Go.Proofs.YtkicolloiagadaaW.PrintMore
set_option linter.unusedVariables false
set_option linter.unusedSimpArgs false

attribute [local go_sem] Oper.semAt_some

def nxt (a b c d : Int) : Int := (roll_Next.f a b c d).getD 0
theorem next_some (a b c d : Int) : roll_Next.f a b c d = some (nxt a b c d) := rfl

/-- The check that is handed on in round j. -/
def sumAt (s : ByteArray) (many s0 : Int) : Nat → Int
  | 0 => s0
  | j + 1 => nxt (sumAt s many s0 j) many (bt s j) (bt s (j + many))
def upto (f : Nat → Int) (k : Nat) : List Int := (List.range k).map f
theorem upto_succ (f : Nat → Int) (k : Nat) : upto f (k + 1) = upto f k ++ [f k] := by simp [upto, List.range_succ]
theorem upto_length (f : Nat → Int) (k : Nat) : (upto f k).length = k := by simp [upto]

def roll_All.f (k : Nat) (a0 : ByteArray) (a1 : Int) : Option (List Int) :=
  if a1 < 1 then some [] else if (a0.size : Int) < a1 then some [] else
    (roll_Sum.f k (a0.extract 0 a1.toNat)).bind fun s0 => if a0.size < 35184372088000 then some (upto (sumAt a0 a1 s0) (a0.size - a1.toNat + 1)) else none
theorem roll_All.mono : ∀ a0 a1 k, LeO (roll_All.f k a0 a1) (roll_All.f (k + 1) a0 a1) := by
  intro a0 a1 k
  unfold roll_All.f
  refine LeO.ite (LeO.refl _) (LeO.ite (LeO.refl _) (LeO.bind (roll_Sum.mono _ _) fun _ => LeO.refl _))

/-- The blocks from b0 on, below n₀, lie as they lay. -/
def KeepRange (b0 n₀ : Nat) (W W' : World) : Prop := ∀ b, b0 ≤ b → b < n₀ → W'.heap[b]? = W.heap[b]?
theorem keepRange_t {b0 n₀ : Nat} {A B C : World} (h : KeepRange b0 n₀ A B) (k : KeepRange b0 n₀ B C) : KeepRange b0 n₀ A C := fun b h1 h2 => (k b h1 h2).trans (h b h1 h2)
theorem keepRange_b {b0 n₀ : Nat} {w : World} (hn : n₀ ≤ w.heap.size) (W : World) (l : Nat) (o o' : Obj) (hl : w.heap.size ≤ l) (_ : W.heap[l]? = some o) (_ : o.isCells = false) (_ : o.isWalk = false) : KeepRange b0 n₀ W (W.putObj l o') :=
  fun b _ h2 => World.putObj_heap_other (by omega)
theorem owns_lower {W : World} {base base' e size n : Nat} {v : Value} {xs : List Value} (h : W.ownsRow base e size v n xs) (hb : base' ≤ base) : W.ownsRow base' e size v n xs := by
  rcases h with ⟨h1, h2 | ⟨g, cap, cur, h3, h4, h5⟩⟩
  · exact ⟨h1, .inl h2⟩
  · exact ⟨h1, .inr ⟨g, cap, cur, h3, Nat.le_trans hb h4, h5⟩⟩
theorem owns_ge {W : World} {base e size n : Nat} {v : Value} {xs : List Value} (h : W.ownsRow base e size v n xs) (k : Nat) (hk : v.ownBlock = some k) : base ≤ k := by
  rcases h.2 with ⟨rfl, _⟩ | ⟨g, cap, cur, rfl, h4, _⟩
  · simp [Value.ownBlock] at hk
  · simp [Value.ownBlock] at hk; omega
theorem boxed_drewN {w : World} {B t : Nat} {v : Value} (h : Boxed w B t v) (m : Nat) : Boxed (w.drewN m) B t v := h

set_option maxHeartbeats 4000000 in
set_option maxRecDepth 100000 in
theorem parts_calls (k : Nat) (a0 : ByteArray) (a1 : Int) (h0 : 0 ≤ a1) (h1 : a1 ≤ (a0.size : Int)) (r : Int) (w : World) (h : roll_Sum.f k (a0.extract 0 a1.toNat) = some r) :
    Calls Try.prog 17 #[.string a0, .int .i64 a1] w fun e w' =>
      e = .returned (.func (.func 20) #[] #[.pointer (some ⟨w.heap.size + 1, 0, none⟩), .pointer (some ⟨w.heap.size + 2, 0, none⟩), .pointer (some ⟨w.heap.size, 0, none⟩)]) ∧
      Below w.heap.size w w' ∧ Boxed w' w.heap.size 9 (.string a0) ∧ Boxed w' (w.heap.size + 1) 3 (.int .i64 a1) ∧ Boxed w' (w.heap.size + 2) 22 (.int .u32 r) ∧ w'.heap.size = w.heap.size + 3 := by
  have A6 := Aside0.mk h
  clear h
  have c1 := eq_true h0
  have c2 := eq_true h1
  go_enter Try.func17, Try.ntmps17
  go_wp2_with (go_at_call 13; refine (roll_Sum.calls k _ r _ A6.out).mono ?_; rintro e w' ⟨rfl, ⟨nd, rfl⟩⟩)
  go_ret
  have b1 := Boxed.new w 9 (.string a0)
  have b2 := Boxed.new (w.alloc (.cells #[.string a0] 9)) 3 (.int .i64 a1)
  have b3 := Boxed.new (((w.alloc (.cells #[.string a0] 9)).alloc (.cells #[.int .i64 a1] 3)).drewN nd) 22 (.int .u32 r)
  refine ⟨rfl, below_alloc (pw_below_drewN (below_alloc (below_alloc (Below.refl _ _) _) _) _) _, (boxed_drewN (b1.alloc _) nd).alloc _, ?_, ?_, by simp⟩
  · rw [World.size_alloc] at b2
    exact (boxed_drewN b2 nd).alloc _
  · simpa using b3

set_option maxHeartbeats 4000000 in
set_option maxRecDepth 100000 in
/-- The iterator: for every body that keeps what lay below n₀. -/
theorem parts1_in (l Bm Bs Bt b0 n₀ : Nat) (a0 : ByteArray) (a1 s0 : Int) (h0 : 0 ≤ a1) (h1 : a1 ≤ (a0.size : Int)) (hs : a0.size ≤ 140737488351232)
    (hbm : b0 ≤ Bm ∧ Bm < n₀) (hbs : b0 ≤ Bs ∧ Bs < n₀) (hbt : b0 ≤ Bt ∧ Bt < n₀) (hms : Bm ≠ Bs) (hts : Bt ≠ Bs) (J : List Int → World → Prop) (hJ : AbidesAt Bs J)
    (hY : ∀ pre x W, J pre W → pre.length < a0.size - a1.toNat + 1 → YieldAt Fence.wide 6 Try.prog l #[.int .u32 x] W fun e W' => e = .returned (.bool true) ∧ J (pre ++ [x]) W' ∧ KeepRange b0 n₀ W W')
    (W : World) (cm : Boxed W Bm 3 (.int .i64 a1)) (cs : Boxed W Bs 22 (.int .u32 s0)) (ct : Boxed W Bt 9 (.string a0)) (hj : J [] W) :
    CallsIn Fence.wide 7 Try.prog 20 #[.func (.yield l) #[] #[], .pointer (some ⟨Bm, 0, none⟩), .pointer (some ⟨Bs, 0, none⟩), .pointer (some ⟨Bt, 0, none⟩)] W fun e W' => (∃ v, e = .returned v) ∧
      ∃ xs, xs = upto (sumAt a0 a1 s0) (a0.size - a1.toNat + 1) ∧ J xs W' := by
  refine callsIn_of_wp Try.func20 rfl trivial ?_ rfl
  simp only [Try.ntmps20, List.size_toArray, List.length_cons, List.length_nil, Nat.reduceAdd, Nat.reduceSub, Array.replicate_succ, Array.replicate_zero, List.push_toArray, List.append_toArray, List.nil_append, List.cons_append]
  have cm0 := cm.cell
  gi_wp2
  clear cm0
  gi_loopw [5] (fun i wr => ∃ k : Nat, (k : Int) + a1 ≤ a0.size ∧ i = .int .i64 (k + a1) ∧ J (upto (sumAt a0 a1 s0) k) wr ∧ Boxed wr Bm 3 (.int .i64 a1) ∧ Boxed wr Bs 22 (.int .u32 (sumAt a0 a1 s0 k)) ∧ Boxed wr Bt 9 (.string a0))
    (fun i _ => a0.size + 1 - (intOf i).toNat)
  case atStart => exact ⟨0, by omega, by simp, hj, cm, cs, ct⟩
  case round =>
    obtain ⟨k, hk, rfl, hJs, cm, cs, ct⟩ := hrel
    obtain ⟨fn, tmps, assign, body, hy, hR⟩ := hY _ (sumAt a0 a1 s0 k) wr hJs (by rw [upto_length]; omega)
    have cm1 := cm.cell
    have cs1 := cs.cell
    have ct1 := ct.cell
    gi_wp2
    refine hR.mono ?_
    rintro e W3 ⟨rfl, hJ3, hk3⟩
    clear hy hR cm1 cs1 ct1
    have cm3 : Boxed W3 Bm 3 (.int .i64 a1) := (hk3 _ hbm.1 hbm.2).trans cm
    have cs3 : Boxed W3 Bs 22 (.int .u32 (sumAt a0 a1 s0 k)) := (hk3 _ hbs.1 hbs.2).trans cs
    have ct3 : Boxed W3 Bt 9 (.string a0) := (hk3 _ hbt.1 hbt.2).trans ct
    clear hk3 cm cs ct
    have cm1 := cm3.cell
    have cs1 := cs3.cell
    have ct1 := ct3.cell
    have cs2 := cs3.frozen
    by_cases hlt : (k : Int) + a1 < (a0.size : Int)
    · have c1 : decide ((k : Int) + a1 < (a0.size : Int)) = true := decide_eq_true hlt
      have hx1 : ∀ h : k < a0.size, ((a0[k]'h).toNat : Int) = bt a0 k := fun h => bt_at a0 k h
      have hx2 := bt_at a0 ((k : Int) + a1)
      have hw : IntKind.i64.wrap (k : Int) = (k : Int) := IntWalk.i64_in _ (by omega)
      have p2 : (k : Int) < (a0.size : Int) := by omega
      have p5 : k < a0.size := by omega
      have p3 : 0 ≤ (k : Int) + a1 := by omega
      replace p2 := eq_true p2
      replace p3 := eq_true p3
      have p4 := eq_true hlt
      gi_wp2
      refine wpIn_wide.2 ?_
      go_still_tail 10, (by kernel_rfl)
      show wpList _ _ _ _ _ W3.drew
      have cs4 : W3.drew.cell? ⟨Bs, 0, none⟩ = some (.int .u32 (sumAt a0 a1 s0 k)) := cs1
      have cs5 : W3.drew.frozen? ⟨Bs, 0, none⟩ = false := cs2
      go_wp2_with (go_at_call 15; refine (roll_Next.calls _ _ _ _ _ _ (next_some _ _ _ _)).mono ?_; rintro e w' ⟨rfl, ⟨nd, rfl⟩⟩)
      gi_wp2
      go_roundw
      case rel =>
        have g1 : W3.grownBy (W3.drewN (1 + nd)) none := ⟨rfl, rfl, rfl, Nat.le_refl _, fun _ _ _ => rfl⟩
        refine ⟨k + 1, by omega, by congr 1; omega, ?_, ?_, ?_, ?_⟩
        · rw [upto_succ]
          exact hJ _ _ _ (some Bs) (hJ _ _ _ none hJ3 g1 (fun r e => by cases e)) (grownBy_setCell' _ _ _) (fun r e => by cases e; rfl)
        · exact (boxed_drewN cm3 _).kept (grownBy_setCell' _ _ _) (fun e => hms (by cases e; rfl))
        · exact (boxed_drewN cs3 _).set _
        · exact (boxed_drewN ct3 _).kept (grownBy_setCell' _ _ _) (fun e => hts (by cases e; rfl))
      case measure => simp [intOf]; omega
    · have c1 : decide ((k : Int) + a1 < (a0.size : Int)) = false := decide_eq_false hlt
      gi_wp2
      obtain rfl : k = a0.size - a1.toNat := by omega
      go_end0
      exact ⟨⟨_, rfl⟩, _, rfl, by rw [upto_succ]; exact hJ3⟩

set_option maxHeartbeats 4000000 in
set_option maxRecDepth 100000 in
theorem roll_All.calls (k : Nat) (a0 : ByteArray) (a1 : Int) (r : List Int) (w : World) (h : roll_All.f k a0 a1 = some r) :
    Calls Try.prog 11 #[.string a0, .int .i64 a1] w fun e w' => ∃ v0_ : Value, e = .returned (v0_) ∧ Kd.R (Kd.int .u32) 22 w' w.heap.size (fun _ => True) v0_ r ∧ Below w.heap.size w w' := by
  unfold roll_All.f at h
  by_cases c3 : a1 < 1
  · rw [if_pos c3] at h
    have c3b0 : decide (a1 < 1) = true := decide_eq_true c3
    clear c3
    obtain rfl := Option.some.inj h
    clear h
    go_enter Try.func11, Try.ntmps11
    go_wp2
    go_ret
    exact ⟨_, rfl, Kd.R_nil _ _ _ _ _, Below.refl _ _⟩
  rw [if_neg c3] at h
  have c3b0 : decide (a1 < 1) = false := decide_eq_false c3
  by_cases c4 : (a0.size : Int) < a1
  · rw [if_pos c4] at h
    have c4b0 : decide ((a0.size : Int) < a1) = true := decide_eq_true c4
    clear c4 c3
    obtain rfl := Option.some.inj h
    clear h
    go_enter Try.func11, Try.ntmps11
    go_wp2
    go_ret
    exact ⟨_, rfl, Kd.R_nil _ _ _ _ _, Below.refl _ _⟩
  rw [if_neg c4] at h
  have c4b0 : decide ((a0.size : Int) < a1) = false := decide_eq_false c4
  obtain ⟨s0, hs0, h'⟩ := Option.bind_eq_some_iff.mp h
  clear h
  by_cases c5 : ¬ a0.size < 35184372088000
  · rw [if_neg c5] at h'; cases h'
  replace c5 : a0.size < 35184372088000 := by omega
  rw [if_pos c5] at h'
  obtain rfl := Option.some.inj h'
  clear h'
  have HS := Aside0.mk hs0
  clear hs0
  have h1 : 0 ≤ a1 := by omega
  have h2 : a1 ≤ (a0.size : Int) := by omega
  have h3 : 1 ≤ a1 := by omega
  clear c3 c4
  obtain ⟨i0, hi, hz0, hz1, hz2⟩ := info_parts info22
  refine (callsIn_wide (n := 8)).1 ?_
  refine callsIn_of_wp_marks Try.func11 rfl trivial ?_ rfl
  simp only [Try.ntmps11, List.size_toArray, List.length_cons, List.length_nil, Nat.reduceAdd, Nat.reduceSub, Array.replicate_succ, Array.replicate_zero, List.push_toArray, List.append_toArray, List.nil_append, List.cons_append]
  gi_wp2_with (refine ⟨trivial, ?_⟩; gi_at_call 17; refine (callsIn_wide.2 (parts_calls k _ _ h1 h2 s0 _ HS.out)).mono ?_; rintro e w1 ⟨rfl, hB1, b1, b2, b3, hz⟩)
  rw [World.size_alloc] at hB1 b1 b2 b3 hz
  have bO : Boxed w1 w.heap.size 25 (.slice none 0 0) := (hB1.block _ (by omega)).trans (Boxed.new w 25 (.slice none 0 0))
  have hB0 : Below w.heap.size w w1 := ((Below.refl _ w).alloc (Nat.le_refl _) _).trans (hB1.mono (by omega))
  refine wpIn_rangeFunc_cap rfl (by omega) (gf := 20) (lb := #[.pointer (some ⟨w.heap.size + 1 + 1, 0, none⟩), .pointer (some ⟨w.heap.size + 1 + 2, 0, none⟩), .pointer (some ⟨w.heap.size + 1, 0, none⟩)]) rfl trivial (enters_of Try.func20 (by kernel_rfl) rfl)
    (α := Int) (encs := fun x => #[.int .u32 x]) (Kp := KeepRange (w.heap.size + 1) w1.heap.size) (S := fun xs => xs = upto (sumAt a0 a1 s0) (a0.size - a1.toNat + 1)) (N := a0.size - a1.toNat + 1) (C := w.heap.size + 1 + 2) (w0 := w1)
    (fun l J W hW hJ hY hj => parts1_in l _ _ _ (w.heap.size + 1) w1.heap.size a0 a1 s0 h1 h2 (by omega) (by omega) (by omega) (by omega) (by omega) (by omega) J hJ hY W ((hW.block _ b2.lt).trans b2) ((hW.block _ b3.lt).trans b3) ((hW.block _ b1.lt).trans b1) hj)
    (by omega) keepRange_t (keepRange_b (Nat.le_refl _)) (Below.refl _ _) (fun _ => rfl)
    (fun (pre : List Int) W => (∃ v, Boxed W w.heap.size 25 v ∧ W.ownsRow w1.heap.size 22 1 v pre.length (pre.map (Value.int .u32)) ∧ True) ∧ Below w.heap.size w W ∧ w1.heap.size ≤ W.heap.size)
    (OwnFrom.and (Own.from (holdsRow_own w1.heap.size w.heap.size 25 22 1 (fun (pre : List Int) => pre.length) (fun pre => pre.map (Value.int .u32)) (fun _ _ => True)) _) (OwnFrom.and (ownFrom_below (Nat.le_refl _) (by omega)) (fun _ _ _ _ h hg _ => Nat.le_trans h hg.size)))
    ?abides ⟨⟨_, bO, World.ownsRow_nil _ _ _ _, trivial⟩, hB0, Nat.le_refl _⟩
    (fun x => { tmps := #[.string a0, .int .i64 a1, undef, undef, .slice none 0 0, .pointer (some ⟨w.heap.size, 0, none⟩), .int .u32 x, .int .i64 a1, .bool false, .bool false, .int .i64 a1, .string a0, .int .i64 a0.size, .bool false, .bool false, .string a0, .int .i64 a1, .func (.func 20) #[] #[.pointer (some ⟨w.heap.size + 1 + 1, 0, none⟩), .pointer (some ⟨w.heap.size + 1 + 2, 0, none⟩), .pointer (some ⟨w.heap.size + 1, 0, none⟩)], .int .u32 x, undef, undef, undef, undef, undef], defers := [] }) ?assign ?body ?done
  case abides =>
    rintro s A B row ⟨⟨v, hv, hr, _⟩, hb, hsz⟩ hg hrow
    refine ⟨⟨v, hv.kept hg (fun e => by have := hrow _ e.symm; omega), hr.kept hg ?_, trivial⟩, hb.grown hg hb.size (fun k e => by have := hrow _ e; omega), Nat.le_trans hsz hg.size⟩
    cases hv' : v.ownBlock with
    | none => exact .inl rfl
    | some g =>
      refine .inr fun e => ?_
      have := owns_ge hr g hv'
      have := hrow g e.symm
      omega
  case assign =>
    intro l x W K hK
    gi_wp2
    exact hK
  case body =>
    rintro l pre x W ⟨⟨v, hv, hrow, _⟩, hB, hwz⟩ hlt
    have hc := hv.cell
    have hsz := hB.size
    have hle : w.heap.size ≤ w1.heap.size := hB0.size
    gi_wp2_with (gi_at_builtin; refine wpListIn_append_own _ rfl _ _ 25 rfl w1.heap.size 22 i0 (.int .u32 0) 1 4 Try.underlying25 hi hz0 hz1 hz2 rfl (by decide) _ _ _ rfl (hrow.alloc _) ⟨W.heap.size, 0, none⟩ 1 1 [.int .u32 x] rfl rfl (cell_one_new _ _ _) (by simp [Value.oneCell']) (by simp only [maxLen]; omega) (by omega) (by simp; omega) ?_; intro v' w2 hown' hgrow _; obtain ⟨g', cap', rfl⟩ := ownsRow_succ hown'; obtain ⟨hv1, hv2, hr2, hk2, hb2⟩ := hv.appended (by decide) (owns_lower hrow hle) hsz (Nat.le_refl _) (owns_lower hown' hle) hgrow; have hc1 := hv1.cell; have hf1 := hv1.frozen)
    refine ⟨hk2.from _, ?_, ⟨_, hv2, ?_, trivial⟩, hB.trans hb2, ?_⟩
    · intro b hb3 hb4
      refine (Below.heap_setCell _ _ _ b (by simp; omega)).trans ((hgrow.block b (by simp; omega) (fun e => by have := owns_ge hrow b e.symm; omega)).trans ?_)
      exact Below.heap_alloc _ _ _ (by omega)
    · have := hown'.kept (grownBy_setCell' w2 w.heap.size (.slice (some ⟨g', 0, none⟩) (pre.length + 1) cap')) (.inr (hv1.not_row (by decide) hown').symm)
      simpa using this
    · have := hgrow.size
      simp at this ⊢
      omega
  case done =>
    rintro D ys W hD rfl ⟨⟨v, hv, hrow, _⟩, hB, hwz⟩ hK
    have hc := hv.cell
    gi_wp2
    refine ⟨by simp, .inl ⟨_, _, rfl, run_takeDeferred hK, ?_⟩⟩
    exact ⟨_, results_tmp rfl _ _ _, v, rfl, Kd.R_of_own (owns_lower (by simpa [encs] using ownsRow_putObj hrow _ hK rfl) (by omega)) (fun _ _ => trivial), hB.trans (belowK_b (w := w) (Nat.le_refl _) W D _ _ (by omega) hK rfl rfl)⟩

end Go.Proofs.Ytkicolloiagadaa.X
