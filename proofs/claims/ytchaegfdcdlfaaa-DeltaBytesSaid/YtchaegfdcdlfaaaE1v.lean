/- Texts of this claim, one behind the other: Xx0, SArr, Xx8, Xx9, XxSha, SRot, SSch, STake, STools, SSum, SEq, SLess, GKd, GFill, Xx21, Xx3, Xx4, XxRoll, GRoll, GSign, GFind, GOf, GRow, GBase. -/
import Derived.Test.YtchaegfdcdlfaaaProg
import Derived.Below
import Derived.Deep.Draws
import Derived.Deep.AppendLies
import Derived.Maps.AppendAt
import Derived.OwnWalk
import Derived.Laws.BytesArg
import Derived.Laws.MakeOwn
import Derived.Laws.OwnMore
import Derived.Deep.OwnRows
import Derived.Tactics
import Derived.Lib.ConvBytes
import Derived.Laws.Slices
import Derived.WalkKit
import Derived.KernelRfl
import Derived.RowKit3
import Derived.Deep.LoopGhost
import Derived.Deep.QuietTactic
import Derived.BigQuiet
import Derived.WideLaws
import Derived.Deep.DeepCutAuto
import Derived.Deep.CutBlock
import Derived.Deep.RegionHeld3
import Derived.Laws.Rows
import Derived.Lib.AppendStr
import Derived.ArgAppend
import Derived.Laws.IdiomCopy
import Derived.OrdersHeld
import Derived.Laws.BitsLemmas
import Derived.RowKit
import Derived.WalkMore
import Derived.Test.YtchaegfdcdlfaaaVWords
import Derived.Test.YtchaegfdcdlfaaaVLast
import Derived.Test.YtchaegfdcdlfaaaVTab
import Derived.Test.YtchaegfdcdlfaaaVFour
import Derived.Test.YtchaegfdcdlfaaaVQPut
import Derived.Test.YtchaegfdcdlfaaaVApart
import Derived.Test.YtchaegfdcdlfaaaVArr
import Derived.Test.YtchaegfdcdlfaaaVZeros
import Derived.Test.YtchaegfdcdlfaaaVFoot
import Derived.Test.YtchaegfdcdlfaaaVKept
import Derived.Test.YtchaegfdcdlfaaaVShare
import Derived.Test.YtchaegfdcdlfaaaVN
import Derived.Test.YtchaegfdcdlfaaaVFootNe
import Derived.Test.YtchaegfdcdlfaaaVAt
import Derived.Test.YtchaegfdcdlfaaaVEqStruct
import Derived.Test.YtchaegfdcdlfaaaVRepsOne
import Derived.Test.YtchaegfdcdlfaaaVInv
import Derived.Test.YtchaegfdcdlfaaaVInvWords
import Derived.Test.YtchaegfdcdlfaaaVGuard
import Derived.Test.YtchaegfdcdlfaaaVNEv
import Derived.Test.YtchaegfdcdlfaaaVMore
import Derived.Laws.Tables
import Derived.StillTailTactics
import Derived.Deep.RegionHeld
import Derived.Laws.CopyOwn
import Derived.WalkLawsBesides
import Derived.Lib.LazyBuf
import Derived.ChangeKeysEq
import Derived.Lib.BytesEntry
import Derived.Lib.Bytealg
import Derived.DeepKeys4
import Derived.Maps.OwnSet
import Derived.Great.BuildSlice
import Derived.ProofKit
import Derived.OpenShut
import Derived.Deep.Slices

namespace Go.Proofs.Ytchaegfdcdlfaaa.X
open Go.RowKit Go.Proofs.YtchaegfdcdlfaaaW.PrintWords Go.Proofs.YtchaegfdcdlfaaaW.PrintLast Go.Proofs.YtchaegfdcdlfaaaW.PrintMore
attribute [local go_sem] max2_int min2_int max_two min_two max_three min_three max_four min_four   -- for this text's walks alone
set_option linter.unusedVariables false
set_option linter.unusedSimpArgs false



def errW : Option Int → Value
  | none => .nilIface
  | some c => .iface 0 (.int .i64 c)
theorem errW_none : errW none = .nilIface := rfl
theorem errW_some (c : Int) : errW (some c) = .iface 0 (.int .i64 c) := rfl

theorem info3 : (Try.prog.info? 3).map (fun i => (i.zero, i.size, i.bytes)) = some (some (.int .i64 0), 1, 8) := by kernel_rfl
theorem info5 : (Try.prog.info? 5).map (fun i => (i.zero, i.size, i.bytes)) = some (some (.int .u8 0), 1, 1) := by kernel_rfl
theorem info26 : (Try.prog.info? 26).map (fun i => (i.zero, i.size, i.bytes)) = some (some (.int .u32 0), 1, 4) := by kernel_rfl
theorem info40 : (Try.prog.info? 40).map (fun i => (i.zero, i.size, i.bytes)) = some (some (.slice none 0 0), 1, 24) := by kernel_rfl
theorem info67 : (Try.prog.info? 67).map (fun i => (i.zero, i.size, i.bytes)) = some (some (.agg #[(.bool false), (.int .i64 0), (.int .i64 0), (.string ⟨#[]⟩)]), 4, 40) := by kernel_rfl
-- the values' own types
def rd_L2 (xs : List (List Int)) (i : Int) : (List Int) := xs.getD i.toNat ([] : List Int)
theorem at_L2 {w : World} {A : Option Addr} {n : Nat} {xs : List (List Int)} (h : Kd.C (Kd.slice 5 (Kd.int .u8)) w A n xs) (i : Int) (h0 : 0 ≤ i) (h1 : i < n) : ∃ ad A0 c0, A = some ad ∧ w.cell? (ad.add i.toNat) = some (.slice A0 (rd_L2 xs i).length c0) ∧ (rd_L2 xs i).length ≤ c0 ∧ (Kd.int .u8).C w A0 (rd_L2 xs i).length (rd_L2 xs i) := by
  obtain ⟨ad, c, e, _, hK, hc0⟩ := Kd.C_get h ([] : List Int) i h0 h1
  have hc : ∀ j u, c[j]? = some u → w.cell? (ad.add (i.toNat * 1 + j)) = some u := hc0
  obtain ⟨A0, c0, rfl, l0, g0⟩ := hK
  exact ⟨ad, A0, c0, e, by have hq := hc 0 _ rfl; rwa [Nat.mul_one, Nat.add_zero] at hq, l0, g0⟩

/-! #### struct type 67 -/
structure S67 where
  f0 : Bool
  f1 : Int
  f2 : Int
  f3 : ByteArray
def z67 : S67 := ⟨false, (0 : Int), (0 : Int), (⟨#[]⟩ : ByteArray)⟩
def k67 : Kd S67 := Kd.iso (Kd.pair Kd.bool (Kd.pair (Kd.int .i64) (Kd.pair (Kd.int .i64) Kd.string))) (fun x : S67 => (x.f0, x.f1, x.f2, x.f3))
theorem k67_heap : Kd.Heap k67 := Kd.heap_iso _ (Kd.heap_pair Kd.heap_bool (Kd.heap_pair (Kd.heap_int .i64) (Kd.heap_pair (Kd.heap_int .i64) Kd.heap_string)))
theorem k67_open {w : World} {x : S67} {cs : List Value} (h : k67.K w x cs) : cs = [.bool x.f0, .int .i64 x.f1, .int .i64 x.f2, .string x.f3] := by
  obtain ⟨_, _, rfl, rfl, ⟨_, _, rfl, rfl, ⟨_, _, rfl, rfl, rfl⟩⟩⟩ := h
  exact rfl
theorem k67_openM {w : World} {base : Nat} {ok : Nat → Prop} {x : S67} {cs : List Value} (h : k67.M w base ok x cs) : cs = [.bool x.f0, .int .i64 x.f1, .int .i64 x.f2, .string x.f3] := by
  obtain ⟨_, _, rfl, rfl, ⟨_, _, rfl, rfl, ⟨_, _, rfl, rfl, rfl⟩⟩⟩ := h
  exact rfl
theorem k67_mk (w : World) (x : S67)  : k67.K w x [.bool x.f0, .int .i64 x.f1, .int .i64 x.f2, .string x.f3] := ⟨[.bool x.f0], [.int .i64 x.f1, .int .i64 x.f2, .string x.f3], rfl, rfl, ⟨[.int .i64 x.f1], [.int .i64 x.f2, .string x.f3], rfl, rfl, ⟨[.int .i64 x.f2], [.string x.f3], rfl, rfl, rfl⟩⟩⟩
theorem k67_mkM (w : World) (base : Nat) (ok : Nat → Prop) (x : S67)  : k67.M w base ok x [.bool x.f0, .int .i64 x.f1, .int .i64 x.f2, .string x.f3] := ⟨[.bool x.f0], [.int .i64 x.f1, .int .i64 x.f2, .string x.f3], rfl, rfl, ⟨[.int .i64 x.f1], [.int .i64 x.f2, .string x.f3], rfl, rfl, ⟨[.int .i64 x.f2], [.string x.f3], rfl, rfl, rfl⟩⟩⟩
theorem k67_mkF (W : World) (ok : Nat → Prop) (x : S67) : Kd.FK k67 W ok x [.bool x.f0, .int .i64 x.f1, .int .i64 x.f2, .string x.f3] := fun W2 _ => k67_mk W2 x
def rd_T67 (xs : List S67) (i : Int) : S67 := xs.getD i.toNat z67
theorem at_T67 {w : World} {A : Option Addr} {n : Nat} {xs : List S67} (h : Kd.C k67 w A n xs) (i : Int) (h0 : 0 ≤ i) (h1 : i < n) : ∃ ad , A = some ad ∧ w.cell? (ad.add (i.toNat * 4)) = some (.bool (rd_T67 xs i).f0) ∧ w.cell? ⟨(ad.add (i.toNat * 4)).block, (ad.add (i.toNat * 4)).off + 1, none⟩ = some (.int .i64 (rd_T67 xs i).f1) ∧ w.cell? ⟨(ad.add (i.toNat * 4)).block, (ad.add (i.toNat * 4)).off + 2, none⟩ = some (.int .i64 (rd_T67 xs i).f2) ∧ w.cell? ⟨(ad.add (i.toNat * 4)).block, (ad.add (i.toNat * 4)).off + 3, none⟩ = some (.string (rd_T67 xs i).f3) := by
  obtain ⟨ad, c, e, _, hK, hc0⟩ := Kd.C_get h z67 i h0 h1
  have hc : ∀ j u, c[j]? = some u → w.cell? (ad.add (i.toNat * 4 + j)) = some u := hc0
  obtain rfl := k67_open hK
  exact ⟨ad, e, hc 0 _ rfl, by rw [← add_field _ _ 1 (by omega)]; exact hc 1 _ rfl, by rw [← add_field _ _ 2 (by omega)]; exact hc 2 _ rfl, by rw [← add_field _ _ 3 (by omega)]; exact hc 3 _ rfl⟩

end Go.Proofs.Ytchaegfdcdlfaaa.X

/- Arrays that a call lays: the beginning state, the roots. -/
namespace Go.Proofs.Ytchaegfdcdlfaaa.X
set_option linter.unusedVariables false
set_option linter.unusedSimpArgs false
open Go.RowKit Go.Proofs.YtchaegfdcdlfaaaW.PrintWords Go.Proofs.YtchaegfdcdlfaaaW.PrintLast Go.Proofs.YtchaegfdcdlfaaaW.PrintMore

/-- The state that begins, the roots, as numbers. -/
def begunL : List Int := [1779033703, 3144134277, 1013904242, 2773480762, 1359893119, 2600822924, 528734635, 1541459225]
def rootsL : List Int := [1116352408, 1899447441, 3049323471, 3921009573, 961987163, 1508970993, 2453635748, 2870763221, 3624381080, 310598401, 607225278, 1426881987, 1925078388, 2162078206, 2614888103, 3248222580, 3835390401, 4022224774, 264347078, 604807628, 770255983, 1249150122, 1555081692, 1996064986, 2554220882, 2821834349, 2952996808, 3210313671, 3336571891, 3584528711, 113926993, 338241895, 666307205, 773529912, 1294757372, 1396182291, 1695183700, 1986661051, 2177026350, 2456956037, 2730485921, 2820302411, 3259730800, 3345764771, 3516065817, 3600352804, 4094571909, 275423344, 430227734, 506948616, 659060556, 883997877, 958139571, 1322822218, 1537002063, 1747873779, 1955562222, 2024104815, 2227730452, 2361852424, 2428436474, 2756734187, 3204031479, 3329325298]
/-- An array of words. -/
def wordsV (l : List Int) : Value := .agg (l.map (Value.int .u32)).toArray

/-- The roots' cells. -/
def rootsA : Array Value := (rootsL.map (Value.int .u32)).toArray
theorem rootsA_size : rootsA.size = 64 := by kernel_rfl
/-- A function's one result, a variable that holds an array. -/
theorem results_one {P : Program} {fn : Func} {p : Tmp} {ty : TypeId} (h : fn.results = #[.cell p ty]) (tmps : Array Value) (w : World) :
    (results fn tmps).run P w = ((asAddr (tmps.getD p undef)).run P w).andThen fun a w₁ => (loadVar ty a).run P w₁ := by
  simp only [results, h]
  simp [Sem.run_bind, Result.andThen]
theorem setRow_alloc (w : World) (old cs : Array Value) (t : TypeId) : (w.alloc (.cells old t (0, 0))).setRow w.heap.size cs = w.alloc (.cells cs t (0, 0)) := by
  unfold World.setRow World.alloc
  congr 1
  apply Array.ext
  · simp
  · intro k h1 h2
    simp only [Array.getElem_modify, Array.getElem_push]
    simp at h1
    by_cases hk : k < w.heap.size
    · rw [if_neg (by omega), dif_pos hk, dif_pos hk]
    · rw [if_pos (by omega), dif_neg hk, dif_neg hk]
/-- An array's cells, laid into a block that is new. -/
theorem store_new (w : World) (old cs : Array Value) (t : TypeId) (hs : old.size = cs.size) (h1 : cs.all (·.oneCell') = true) :
    (storeCells ⟨w.heap.size, 0, none⟩ cs.toList).run Try.prog (w.alloc (.cells old t (0, 0))) = .ok () (w.alloc (.cells cs t (0, 0))) := by
  have := run_storeCells_from (P := Try.prog) w.heap.size t cs.toList 0 old (w.alloc (.cells old t (0, 0))) (by show (w.heap.push _)[w.heap.size]? = _; simp) (by simp; omega) (fun v hv => (Array.all_eq_true_iff_forall_mem.1 h1) v (by simpa using hv))
  simp only [List.take_zero, List.nil_append, Array.toArray_toList] at this
  rw [setRow_alloc] at this
  exact this
set_option maxHeartbeats 1000000 in
set_option maxRecDepth 100000 in
theorem roots_call (w : World) : Calls Try.prog 138 #[] w fun e w' => e = .returned (.agg rootsA) ∧ Below w.heap.size w w' := by
  have hst := store_new w #[.int .u32 0, .int .u32 0, .int .u32 0, .int .u32 0, .int .u32 0, .int .u32 0, .int .u32 0, .int .u32 0, .int .u32 0, .int .u32 0, .int .u32 0, .int .u32 0, .int .u32 0, .int .u32 0, .int .u32 0, .int .u32 0, .int .u32 0, .int .u32 0, .int .u32 0, .int .u32 0, .int .u32 0, .int .u32 0, .int .u32 0, .int .u32 0, .int .u32 0, .int .u32 0, .int .u32 0, .int .u32 0, .int .u32 0, .int .u32 0, .int .u32 0, .int .u32 0, .int .u32 0, .int .u32 0, .int .u32 0, .int .u32 0, .int .u32 0, .int .u32 0, .int .u32 0, .int .u32 0, .int .u32 0, .int .u32 0, .int .u32 0, .int .u32 0, .int .u32 0, .int .u32 0, .int .u32 0, .int .u32 0, .int .u32 0, .int .u32 0, .int .u32 0, .int .u32 0, .int .u32 0, .int .u32 0, .int .u32 0, .int .u32 0, .int .u32 0, .int .u32 0, .int .u32 0, .int .u32 0, .int .u32 0, .int .u32 0, .int .u32 0, .int .u32 0] rootsA 189 (by kernel_rfl) (by kernel_rfl)
  go_enter Try.func138, Try.ntmps138
  go_wp2_with (first
    | ((with_reducible refine gate_dst (N := 1) rfl ?_); refine wpList_build rfl 189 _ rfl (by kernel_rfl) ?_; generalize hX : (Program.built _ _ _).getD #[] = X; obtain rfl : X = rootsA := hX.symm.trans (by kernel_rfl); clear hX)
    | fail)
  go_wp2_with fail
  refine bodyPost_ret (v := .agg rootsA) ?_ rfl ⟨rfl, ?_⟩
  · have hl := run_loadVar_row (P := Try.prog) (w.alloc (.cells rootsA 189)) w.heap.size 189 189 rootsA (0, 0) _ (by show (w.heap.push _)[w.heap.size]? = _; simp) (by rfl) (by kernel_rfl) (by kernel_rfl)
    rw [results_one (P := Try.prog) Try.results138]
    exact hl
  · exact below_alloc (Below.refl _ _) _

set_option maxHeartbeats 4000000 in
set_option maxRecDepth 100000 in
theorem begun_call (w : World) : Calls Try.prog 137 #[] w fun e w' => e = .returned (wordsV begunL) ∧ Below w.heap.size w w' := by
  go_enter Try.func137, Try.ntmps137
  go_wp2_with fail
  refine bodyPost_ret (v := wordsV begunL) ?_ rfl ⟨rfl, ?_⟩
  · simp [results, Try.results137, go_sem, wordsV, begunL]
  · exact below_alloc (Below.refl _ _) _

end Go.Proofs.Ytchaegfdcdlfaaa.X

namespace Go.Proofs.Ytchaegfdcdlfaaa.X
open Go.RowKit Go.Proofs.YtchaegfdcdlfaaaW.PrintWords Go.Proofs.YtchaegfdcdlfaaaW.PrintLast Go.Proofs.YtchaegfdcdlfaaaW.PrintMore
attribute [local go_sem] max2_int min2_int max_two min_two max_three min_three max_four min_four   -- for this text's walks alone
set_option linter.unusedVariables false
set_option linter.unusedSimpArgs false

/-! ### bits_RotateLeft32: function 181 -/
def bits_RotateLeft32.f (a0 : Int) (a1 : Int) : Option (Int) := if 0 ≤ (Go.bits .and .u64 (IntKind.u64.wrap (a1)) 31) then (if 0 ≤ (IntKind.u64.wrap (32 - (Go.bits .and .u64 (IntKind.u64.wrap (a1)) 31))) then (some (Go.bits .or .u32 (shl .u32 a0 (Go.bits .and .u64 (IntKind.u64.wrap (a1)) 31)) (shr .u32 a0 (IntKind.u64.wrap (32 - (Go.bits .and .u64 (IntKind.u64.wrap (a1)) 31)))))) else (none)) else (none)
set_option maxHeartbeats 8000000 in
set_option maxRecDepth 100000 in
theorem bits_RotateLeft32.calls (a0 : Int) (a1 : Int) (r : Int) (w : World) (h : bits_RotateLeft32.f a0 a1 = some r) :
    Calls Try.prog 181 #[.int .u32 a0, .int .i64 a1] w fun e w' => e = .returned (.int .u32 r) ∧ Drawn0 w w' := by
  have H : (if 0 ≤ (Go.bits .and .u64 (IntKind.u64.wrap (a1)) 31) then (if 0 ≤ (IntKind.u64.wrap (32 - (Go.bits .and .u64 (IntKind.u64.wrap (a1)) 31))) then (some (Go.bits .or .u32 (shl .u32 a0 (Go.bits .and .u64 (IntKind.u64.wrap (a1)) 31)) (shr .u32 a0 (IntKind.u64.wrap (32 - (Go.bits .and .u64 (IntKind.u64.wrap (a1)) 31)))))) else (none)) else (none)) = some r := h
  clear h
  obtain ⟨ji3, hji3⟩ : ∃ j_ : Int, (Go.bits .and .u64 (IntKind.u64.wrap (a1)) 31) = j_ := ⟨_, rfl⟩
  replace H : (if 0 ≤ (ji3) then (if 0 ≤ (IntKind.u64.wrap (32 - (ji3))) then (some (Go.bits .or .u32 (shl .u32 a0 (ji3)) (shr .u32 a0 (IntKind.u64.wrap (32 - (ji3)))))) else (none)) else (none)) = some r := by first | (rw [hji3] at H; exact H) | (simp only [hji3] at H ⊢; exact H)
  by_cases c4 : 0 ≤ (ji3)
  · rw [if_pos c4] at H
    have c4b0 := eq_true c4
    have c4b1 : decide (0 ≤ (ji3)) = true := decide_eq_true c4
    clear c4
    obtain ⟨ji5, hji5⟩ : ∃ j_ : Int, (shl .u32 a0 (ji3)) = j_ := ⟨_, rfl⟩
    replace H : (if 0 ≤ (IntKind.u64.wrap (32 - (ji3))) then (some (Go.bits .or .u32 (ji5) (shr .u32 a0 (IntKind.u64.wrap (32 - (ji3)))))) else (none)) = some r := by first | (rw [hji5] at H; exact H) | (simp only [hji5] at H ⊢; exact H)
    have hji5_ : (IntKind.u32.wrap (a0 * 2 ^ min (ji3).toNat 32)) = ji5 := hji5
    have hji5z : (ji3) ≤ 32 → (IntKind.u32.wrap (a0 * 2 ^ (ji3).toNat)) = ji5 := shl_small hji5
    obtain ⟨ji6, hji6⟩ : ∃ j_ : Int, (IntKind.u64.wrap (32 - (ji3))) = j_ := ⟨_, rfl⟩
    replace H : (if 0 ≤ (ji6) then (some (Go.bits .or .u32 (ji5) (shr .u32 a0 (ji6)))) else (none)) = some r := by first | (rw [hji6] at H; exact H) | (simp only [hji6] at H ⊢; exact H)
    by_cases c7 : 0 ≤ (ji6)
    · rw [if_pos c7] at H
      have c7b0 := eq_true c7
      have c7b1 : decide (0 ≤ (ji6)) = true := decide_eq_true c7
      clear c7
      obtain ⟨ji8, hji8⟩ : ∃ j_ : Int, (shr .u32 a0 (ji6)) = j_ := ⟨_, rfl⟩
      replace H : (some (Go.bits .or .u32 (ji5) (ji8))) = some r := by first | (rw [hji8] at H; exact H) | (simp only [hji8] at H ⊢; exact H)
      have hji8_ : (a0 / 2 ^ min (ji6).toNat 32) = ji8 := hji8
      have hji8z : (ji6) ≤ 32 → (a0 / 2 ^ (ji6).toNat) = ji8 := shr_small hji8
      obtain rfl := Option.some.inj H
      go_enter Try.func181, Try.ntmps181
      go_wp2
      go_ret
      exact ⟨by first | rfl | (simp; done) | (simp only [← hji3, ← hji5, ← hji6, ← hji8] <;> (first | rfl | simp)) | (simp [*]; done), by repeat (first | exact Drawn0.refl _ | apply Drawn0.step)⟩
    · rw [if_neg c7] at H
      exact absurd H (by simp)
  · rw [if_neg c4] at H
    exact absurd H (by simp)

end Go.Proofs.Ytchaegfdcdlfaaa.X

namespace Go.Proofs.Ytchaegfdcdlfaaa.X
open Go.RowKit Go.Proofs.YtchaegfdcdlfaaaW.PrintWords Go.Proofs.YtchaegfdcdlfaaaW.PrintLast Go.Proofs.YtchaegfdcdlfaaaW.PrintMore
attribute [local go_sem] max2_int min2_int max_two min_two max_three min_three max_four min_four   -- for this text's walks alone
set_option linter.unusedVariables false
set_option linter.unusedSimpArgs false

/-! ### sha_right: function 169 -/
def sha_right.f (a0 : Int) (a1 : Int) : Option (Int) := (bits_RotateLeft32.f a0 (wrap64 (-a1))).bind fun t105 => (some t105)
set_option maxHeartbeats 8000000 in
set_option maxRecDepth 100000 in
theorem sha_right.calls (a0 : Int) (a1 : Int) (r : Int) (w : World) (h : sha_right.f a0 a1 = some r) :
    Calls Try.prog 169 #[.int .u32 a0, .int .i64 a1] w fun e w' => e = .returned (.int .u32 r) ∧ Drawn0 w w' := by
  have H : ((bits_RotateLeft32.f a0 (wrap64 (-a1))).bind fun t105 => (some t105)) = some r := h
  clear h
  replace H := Option.bind_eq_some_iff.mp H
  obtain ⟨t105, A30, H⟩ := H
  replace H : (some t105) = some r := H
  have A3 := Aside0.mk A30
  clear A30
  obtain rfl := Option.some.inj H
  go_enter Try.func169, Try.ntmps169
  go_wp2_with (first | ((with_reducible refine gate_callee (f := 181) rfl ?_); refine goesL_ (some 8) rfl rfl Try.func181 (by kernel_rfl) rfl #[.int .u32 a0, .int .i64 (wrap64 (-a1))] rfl (by (try simp only [List.map_toArray, List.map_cons, List.map_nil]); first | done | rfl | (simp only [List.length_drop, List.length_take]; rfl)) ?_; (with_reducible refine (bits_RotateLeft32.calls a0 (wrap64 (-a1)) t105 _ A3.out).mono ?_); rintro e w' ⟨rfl, ⟨nd, rfl⟩⟩; refine ⟨_, rfl, ?_⟩))
  go_ret
  exact ⟨by first | rfl | (simp; done) | (simp [*]; done), by repeat (first | exact Drawn0.refl _ | apply Drawn0.step)⟩

end Go.Proofs.Ytchaegfdcdlfaaa.X

/- Turning a word right: what the printed form gives. -/
namespace Go.Proofs.Ytchaegfdcdlfaaa.X
set_option linter.unusedVariables false
set_option linter.unusedSimpArgs false
open Go.RowKit Go.Proofs.YtchaegfdcdlfaaaW.PrintWords Go.Proofs.YtchaegfdcdlfaaaW.PrintLast Go.Proofs.YtchaegfdcdlfaaaW.PrintMore

/-- x turned right by n. -/
def rotr (x n : Int) : Int := Go.bits .or .u32 (shl .u32 x (32 - n)) (shr .u32 x n)
theorem right_2 (x : Int) : sha_right.f x 2 = some (rotr x 2) := by
  unfold sha_right.f bits_RotateLeft32.f rotr
  have h1 : Go.bits .and .u64 (IntKind.u64.wrap (wrap64 (-2))) 31 = 30 := by decide +kernel
  have h2 : IntKind.u64.wrap (32 - 30) = 2 := by decide +kernel
  rw [h1, h2, if_pos (by decide), if_pos (by decide)]
  rfl
theorem right_6 (x : Int) : sha_right.f x 6 = some (rotr x 6) := by
  unfold sha_right.f bits_RotateLeft32.f rotr
  have h1 : Go.bits .and .u64 (IntKind.u64.wrap (wrap64 (-6))) 31 = 26 := by decide +kernel
  have h2 : IntKind.u64.wrap (32 - 26) = 6 := by decide +kernel
  rw [h1, h2, if_pos (by decide), if_pos (by decide)]
  rfl
theorem right_7 (x : Int) : sha_right.f x 7 = some (rotr x 7) := by
  unfold sha_right.f bits_RotateLeft32.f rotr
  have h1 : Go.bits .and .u64 (IntKind.u64.wrap (wrap64 (-7))) 31 = 25 := by decide +kernel
  have h2 : IntKind.u64.wrap (32 - 25) = 7 := by decide +kernel
  rw [h1, h2, if_pos (by decide), if_pos (by decide)]
  rfl
theorem right_11 (x : Int) : sha_right.f x 11 = some (rotr x 11) := by
  unfold sha_right.f bits_RotateLeft32.f rotr
  have h1 : Go.bits .and .u64 (IntKind.u64.wrap (wrap64 (-11))) 31 = 21 := by decide +kernel
  have h2 : IntKind.u64.wrap (32 - 21) = 11 := by decide +kernel
  rw [h1, h2, if_pos (by decide), if_pos (by decide)]
  rfl
theorem right_13 (x : Int) : sha_right.f x 13 = some (rotr x 13) := by
  unfold sha_right.f bits_RotateLeft32.f rotr
  have h1 : Go.bits .and .u64 (IntKind.u64.wrap (wrap64 (-13))) 31 = 19 := by decide +kernel
  have h2 : IntKind.u64.wrap (32 - 19) = 13 := by decide +kernel
  rw [h1, h2, if_pos (by decide), if_pos (by decide)]
  rfl
theorem right_17 (x : Int) : sha_right.f x 17 = some (rotr x 17) := by
  unfold sha_right.f bits_RotateLeft32.f rotr
  have h1 : Go.bits .and .u64 (IntKind.u64.wrap (wrap64 (-17))) 31 = 15 := by decide +kernel
  have h2 : IntKind.u64.wrap (32 - 15) = 17 := by decide +kernel
  rw [h1, h2, if_pos (by decide), if_pos (by decide)]
  rfl
theorem right_18 (x : Int) : sha_right.f x 18 = some (rotr x 18) := by
  unfold sha_right.f bits_RotateLeft32.f rotr
  have h1 : Go.bits .and .u64 (IntKind.u64.wrap (wrap64 (-18))) 31 = 14 := by decide +kernel
  have h2 : IntKind.u64.wrap (32 - 14) = 18 := by decide +kernel
  rw [h1, h2, if_pos (by decide), if_pos (by decide)]
  rfl
theorem right_19 (x : Int) : sha_right.f x 19 = some (rotr x 19) := by
  unfold sha_right.f bits_RotateLeft32.f rotr
  have h1 : Go.bits .and .u64 (IntKind.u64.wrap (wrap64 (-19))) 31 = 13 := by decide +kernel
  have h2 : IntKind.u64.wrap (32 - 13) = 19 := by decide +kernel
  rw [h1, h2, if_pos (by decide), if_pos (by decide)]
  rfl
theorem right_22 (x : Int) : sha_right.f x 22 = some (rotr x 22) := by
  unfold sha_right.f bits_RotateLeft32.f rotr
  have h1 : Go.bits .and .u64 (IntKind.u64.wrap (wrap64 (-22))) 31 = 10 := by decide +kernel
  have h2 : IntKind.u64.wrap (32 - 10) = 22 := by decide +kernel
  rw [h1, h2, if_pos (by decide), if_pos (by decide)]
  rfl
theorem right_25 (x : Int) : sha_right.f x 25 = some (rotr x 25) := by
  unfold sha_right.f bits_RotateLeft32.f rotr
  have h1 : Go.bits .and .u64 (IntKind.u64.wrap (wrap64 (-25))) 31 = 7 := by decide +kernel
  have h2 : IntKind.u64.wrap (32 - 7) = 25 := by decide +kernel
  rw [h1, h2, if_pos (by decide), if_pos (by decide)]
  rfl
end Go.Proofs.Ytchaegfdcdlfaaa.X

/- The schedule of a chunk: the walk. -/
namespace Go.Proofs.Ytchaegfdcdlfaaa.X
set_option linter.unusedVariables false
set_option linter.unusedSimpArgs false
open Go.RowKit Go.Proofs.YtchaegfdcdlfaaaW.PrintWords Go.Proofs.YtchaegfdcdlfaaaW.PrintLast Go.Proofs.YtchaegfdcdlfaaaW.PrintMore

/-- An array of words in a block of its own. -/
def Blk (w : World) (g : Nat) (t : TypeId) (xs : List Int) : Prop := w.heap[g]? = some (.cells (xs.map (Value.int .u32)).toArray t (0, 0))
theorem Blk.cell {w : World} {g : Nat} {t : TypeId} {xs : List Int} (h : Blk w g t xs) {i : Nat} (hi : i < xs.length) : w.cell? ⟨g, i, none⟩ = some (.int .u32 (xs.getD i 0)) := by
  rw [cell_of_row w g i _ t (0, 0) h]
  simp [hi]
theorem Blk.set {w : World} {g : Nat} {t : TypeId} {xs : List Int} (h : Blk w g t xs) (i : Nat) (v : Int) : Blk (w.setCell ⟨g, i, none⟩ (.int .u32 v)) g t (xs.set i v) := by
  rw [setCell_eq_setRow w g i _ t (0, 0) _ h]
  unfold Blk
  rw [setRow_heap w g _ _ t (0, 0) h]
  congr 2
  simp [List.map_set]

/-- The word that stands in four bytes, as the code has it. -/
def be4 (l : List Int) (i : Nat) : Int :=
  bits BinOp.or IntKind.u32 (bits BinOp.or IntKind.u32 (bits BinOp.or IntKind.u32 (rd l (4 * (i : Int)) % 4294967296 * 16777216 % 4294967296) (rd l (4 * (i : Int) + 1) % 4294967296 * 65536 % 4294967296))
    (rd l (4 * (i : Int) + 2) % 4294967296 * 256 % 4294967296)) (rd l (4 * (i : Int) + 3) % 4294967296)
theorem Blk.cell_set {w : World} {g : Nat} {t : TypeId} {xs : List Int} (h : Blk w g t xs) {i z : Nat} {v : Int} (hz : z < xs.length) (hne : i ≠ z) : (w.setCell ⟨g, i, none⟩ (.int .u32 v)).cell? ⟨g, z, none⟩ = some (.int .u32 (xs.getD z 0)) := by
  rw [(h.set i v).cell (by simpa using hz)]
  simp [List.getElem?_set_ne hne]
theorem Blk.drewN {w : World} {g : Nat} {t : TypeId} {xs : List Int} (h : Blk w g t xs) (n : Nat) : Blk (w.drewN n) g t xs := h
theorem Blk.drew {w : World} {g : Nat} {t : TypeId} {xs : List Int} (h : Blk w g t xs) : Blk w.drew g t xs := h
/-- A later word of the schedule. -/
def mix0 (x : Int) : Int := bits .xor .u32 (bits .xor .u32 (rotr x 7) (rotr x 18)) (x / 8)
def mix1 (y : Int) : Int := bits .xor .u32 (bits .xor .u32 (rotr y 17) (rotr y 19)) (y / 1024)
def later (xs : List Int) (i : Nat) : Int :=
  (xs.getD (i - 16) 0 + xs.getD (i - 7) 0 + mix0 (xs.getD (i - 15) 0) + mix1 (xs.getD (i - 2) 0)) % 4294967296
def schedAt (l : List Int) : Nat → List Int
  | 0 => List.replicate 64 0
  | i + 1 => (schedAt l i).set i (if i < 16 then be4 l i else later (schedAt l i) i)
theorem schedAt_length (l : List Int) : ∀ i, (schedAt l i).length = 64
  | 0 => by simp [schedAt]
  | i + 1 => by simp [schedAt, schedAt_length l i]
theorem Blk.free {w : World} {g : Nat} {t : TypeId} {xs : List Int} (h : Blk w g t xs) (i : Nat) : w.frozen? ⟨g, i, none⟩ = false := by
  unfold Blk at h
  simp [World.frozen?, h]

set_option maxHeartbeats 1000000 in
set_option maxRecDepth 100000 in
theorem sched_call (A : Option Addr) (c : Nat) (l : List Int) (w : World) (hr : Kd.C (Kd.int .u8) w A l.length l) (hc : 64 ≤ c) (hlen : l.length = 64) :
    Calls Try.prog 168 #[.slice A 64 c] w fun e w' => e = .returned (.agg ((schedAt l 64).map (Value.int .u32)).toArray) ∧ Below w.heap.size w w' := by
  have HR := Aside0.mk hr
  have HL64 : Aside0 (l.length = 64) := ⟨hlen⟩
  clear hr hlen
  go_enter Try.func168, Try.ntmps168
  go_wp2_with fail
  go_loopg [7] 64 (fun k v7 w' => ∃ (i : Nat), v7 = .int .i64 (i : Int) ∧ Aside0 (k = 64 - i ∧ i ≤ 64) ∧ Aside0 (Blk w' (w.heap.size + 1) 189 (schedAt l i)) ∧ Aside0 (Blk w' w.heap.size 189 (List.replicate 64 0)) ∧ Aside0 (Below w.heap.size w w'))
  case atStart =>
    refine ⟨0, rfl, ⟨by omega, by omega⟩, ⟨?_⟩, ⟨?_⟩, ⟨?_⟩⟩
    · exact heap_alloc2_new w _ _
    · exact heap_alloc2_old w _ _
    · exact below_alloc (below_alloc (Below.refl _ _) _) _
  case round =>
    obtain ⟨i, rfl, HI, HB, HZ, HL⟩ := hrel
    by_cases hi : i < 64
    · have d1 : decide (i < 64) = true := decide_eq_true hi
      have d2 : decide ((i : Int) < 64) = true := decide_eq_true (by omega)
      by_cases h16 : i < 16
      · have d3 : decide (i < 16) = true := decide_eq_true h16
        have d4 : decide ((i : Int) < 16) = true := decide_eq_true (by omega)
        obtain ⟨z0, h0⟩ : ∃ z : Int, z = 4 * (i : Int) := ⟨_, rfl⟩
        have M0 : Aside0 (IntKind.i64.wrap (4 * (i : Int)) = z0) := by refine ⟨?_⟩; rw [i64_w, h0]; unfold wrap64; omega
        obtain ⟨z1, h1⟩ : ∃ z : Int, z = z0 + 1 := ⟨_, rfl⟩
        have M1 : Aside0 (IntKind.i64.wrap (z0 + 1) = z1) := by refine ⟨?_⟩; rw [i64_w, h1, h0]; unfold wrap64; omega
        obtain ⟨z2, h2⟩ : ∃ z : Int, z = z0 + 2 := ⟨_, rfl⟩
        have M2 : Aside0 (IntKind.i64.wrap (z0 + 2) = z2) := by refine ⟨?_⟩; rw [i64_w, h2, h0]; unfold wrap64; omega
        obtain ⟨z3, h3⟩ : ∃ z : Int, z = z0 + 3 := ⟨_, rfl⟩
        have M3 : Aside0 (IntKind.i64.wrap (z0 + 3) = z3) := by refine ⟨?_⟩; rw [i64_w, h3, h0]; unfold wrap64; omega
        obtain ⟨ad0, e0, x0⟩ := Kd.at_int HR.out z0 (by omega) (by rw [HL64.out]; omega)
        cases e0
        replace x0 := (HL.out.cell (World.block_lt_of_cell? w _ x0)).trans x0
        obtain ⟨b0, hb0⟩ : ∃ b, b = rd l z0 := ⟨_, rfl⟩
        rw [← hb0] at x0
        have p0 : (0 ≤ z0) = True := eq_true (by omega)
        have q0 : (z0 < 64) = True := eq_true (by omega)
        obtain ⟨ad1, e1, x1⟩ := Kd.at_int HR.out z1 (by omega) (by rw [HL64.out]; omega)
        obtain rfl : ad0 = ad1 := (by injection e1)
        replace x1 := (HL.out.cell (World.block_lt_of_cell? w _ x1)).trans x1
        obtain ⟨b1, hb1⟩ : ∃ b, b = rd l z1 := ⟨_, rfl⟩
        rw [← hb1] at x1
        have p1 : (0 ≤ z1) = True := eq_true (by omega)
        have q1 : (z1 < 64) = True := eq_true (by omega)
        obtain ⟨ad2, e2, x2⟩ := Kd.at_int HR.out z2 (by omega) (by rw [HL64.out]; omega)
        obtain rfl : ad0 = ad2 := (by injection e2)
        replace x2 := (HL.out.cell (World.block_lt_of_cell? w _ x2)).trans x2
        obtain ⟨b2, hb2⟩ : ∃ b, b = rd l z2 := ⟨_, rfl⟩
        rw [← hb2] at x2
        have p2 : (0 ≤ z2) = True := eq_true (by omega)
        have q2 : (z2 < 64) = True := eq_true (by omega)
        obtain ⟨ad3, e3, x3⟩ := Kd.at_int HR.out z3 (by omega) (by rw [HL64.out]; omega)
        obtain rfl : ad0 = ad3 := (by injection e3)
        replace x3 := (HL.out.cell (World.block_lt_of_cell? w _ x3)).trans x3
        obtain ⟨b3, hb3⟩ : ∃ b, b = rd l z3 := ⟨_, rfl⟩
        rw [← hb3] at x3
        have p3 : (0 ≤ z3) = True := eq_true (by omega)
        have q3 : (z3 < 64) = True := eq_true (by omega)
        have m0 := M0.out
        have m1 := M1.out
        have m2 := M2.out
        have m3 := M3.out
        have HE : Aside0 (bits BinOp.or IntKind.u32 (bits BinOp.or IntKind.u32 (bits BinOp.or IntKind.u32 (b0 % 4294967296 * 16777216 % 4294967296) (b1 % 4294967296 * 65536 % 4294967296)) (b2 % 4294967296 * 256 % 4294967296)) (b3 % 4294967296) = be4 l i) := ⟨by
          rw [hb0, hb1, hb2, hb3, h1, h2, h3, h0]; rfl⟩
        clear h0 h1 h2 h3 M0 M1 M2 M3 hb0 hb1 hb2 hb3
        have hwr : IntKind.i64.wrap ((i : Int) + 1) = ((i + 1 : Nat) : Int) := by rw [i64_w]; unfold wrap64; omega
        have pi : (0 ≤ (i : Int)) = True := eq_true (by omega)
        have qi : ((i : Int) < 64) = True := eq_true (by omega)
        have y1 : wr.drew.cell? ⟨w.heap.size + 1, i, none⟩ = _ := HB.out.cell (i := i) (by rw [schedAt_length]; omega)
        have y2 : wr.drew.frozen? ⟨w.heap.size + 1, i, none⟩ = false := HB.out.free i
        have y1' : wr.cell? ⟨w.heap.size + 1, i, none⟩ = _ := HB.out.cell (i := i) (by rw [schedAt_length]; omega)
        have y2' : wr.frozen? ⟨w.heap.size + 1, i, none⟩ = false := HB.out.free i
        go_wp2_with fail
        go_still_tail 35, (by kernel_rfl)
        go_wp2_with fail
        go_roundg (64 - (i + 1))
        case measure => have := HI.out; omega
        case rel =>
          refine ⟨i + 1, by simp, ⟨rfl, by omega⟩, ⟨?_⟩, ⟨?_⟩, ⟨?_⟩⟩
          · have := HB.out.set i (be4 l i)
            rw [HE.out]
            simp only [schedAt, if_pos h16]
            exact this
          · unfold Blk
            rw [heap_drew, heap_setCell_other _ _ _ _ (by simp)]
            exact HZ.out
          · exact below_drew (below_set HL.out (by omega))
      · have d3 : decide (i < 16) = false := decide_eq_false h16
        have d4 : decide ((i : Int) < 16) = false := decide_eq_false (by omega)
        obtain ⟨z16, h16'⟩ : ∃ z : Nat, z = i - 16 := ⟨_, rfl⟩
        obtain ⟨z7, h7⟩ : ∃ z : Nat, z = i - 7 := ⟨_, rfl⟩
        have m16 : IntKind.i64.wrap ((i : Int) - 16) = (z16 : Int) := by rw [i64_w, h16']; unfold wrap64; omega
        have m7 : IntKind.i64.wrap ((i : Int) - 7) = (z7 : Int) := by rw [i64_w, h7]; unfold wrap64; omega
        have p16 : ((z16 : Int) < 64) = True := eq_true (by omega)
        have p7 : ((z7 : Int) < 64) = True := eq_true (by omega)
        have n16 : (z16 < 64) = True := eq_true (by omega)
        have n7 : (z7 < 64) = True := eq_true (by omega)
        have pi : (0 ≤ (i : Int)) = True := eq_true (by omega)
        have qi : ((i : Int) < 64) = True := eq_true (by omega)
        have hwr : IntKind.i64.wrap ((i : Int) + 1) = ((i + 1 : Nat) : Int) := by rw [i64_w]; unfold wrap64; omega
        have H16 := Aside0.mk h16'
        have H7 := Aside0.mk h7
        clear h16' h7
        obtain ⟨z15, h15⟩ : ∃ z : Nat, z = i - 15 := ⟨_, rfl⟩
        obtain ⟨z2, h2⟩ : ∃ z : Nat, z = i - 2 := ⟨_, rfl⟩
        have m15 : IntKind.i64.wrap ((i : Int) - 15) = (z15 : Int) := by rw [i64_w, h15]; unfold wrap64; omega
        have m2 : IntKind.i64.wrap ((i : Int) - 2) = (z2 : Int) := by rw [i64_w, h2]; unfold wrap64; omega
        have p15 : ((z15 : Int) < 64) = True := eq_true (by omega)
        have p2 : ((z2 : Int) < 64) = True := eq_true (by omega)
        have n15 : (z15 < 64) = True := eq_true (by omega)
        have n2 : (z2 < 64) = True := eq_true (by omega)
        have y15 : wr.drew.cell? ⟨w.heap.size + 1, z15, none⟩ = _ := HB.out.cell (i := z15) (by rw [schedAt_length]; omega)
        have y2 : wr.drew.cell? ⟨w.heap.size + 1, z2, none⟩ = _ := HB.out.cell (i := z2) (by rw [schedAt_length]; omega)
        have x15 : wr.cell? ⟨w.heap.size + 1, z15, none⟩ = _ := HB.out.cell (i := z15) (by rw [schedAt_length]; omega)
        have x2 : wr.cell? ⟨w.heap.size + 1, z2, none⟩ = _ := HB.out.cell (i := z2) (by rw [schedAt_length]; omega)
        have H15 := Aside0.mk h15
        have H2 := Aside0.mk h2
        clear h15 h2
        go_wp2_with fail
        go_still_tail 9, (by kernel_rfl)
        go_wp2_with fail
        clear y15 y2 x15 x2
        refine wp_region_held_drew (S := (fun W => W.cell? ⟨w.heap.size + 1, z16, none⟩ = some (.int .u32 ((schedAt l i).getD z16 0)) ∧ W.cell? ⟨w.heap.size + 1, z7, none⟩ = some (.int .u32 ((schedAt l i).getD z7 0)))) (by kernel_rfl) (And.intro (Blk.cell HB.out (by rw [schedAt_length]; exact of_eq_true n16)) (Blk.cell HB.out (by rw [schedAt_length]; exact of_eq_true n7))) (fun hHeld => ?_)
        refine wpAnyH_take (i := 0) (v := ?_) (by simp only [List.getElem?_toArray, List.getElem?_cons_succ, List.getElem?_cons_zero]; rfl) (by kernel_rfl) (by kernel_rfl) (by kernel_rfl) (by intro _ _ _ h; exact h) (Or.inl ⟨by rfl, ?hy⟩) (by assumption) ?_
        case hy => (intro W_ hW_; go_simp; first | done | with_reducible rfl)
        try simp only [Act.put, List.setIfInBounds_toArray, List.set_cons_zero, List.set_cons_succ]
        refine wpAnyH_take (i := 1) (v := ?_) (by simp only [List.getElem?_toArray, List.getElem?_cons_succ, List.getElem?_cons_zero]; rfl) (by kernel_rfl) (by kernel_rfl) (by kernel_rfl) (by intro _ _ _ h; exact h) (Or.inl ⟨by rfl, ?hy⟩) (by assumption) ?_
        case hy => (intro W_ hW_; go_simp; first | done | with_reducible rfl)
        try simp only [Act.put, List.setIfInBounds_toArray, List.set_cons_zero, List.set_cons_succ]
        refine wpAnyH_take (i := 2) (v := ?_) (by simp only [List.getElem?_toArray, List.getElem?_cons_succ, List.getElem?_cons_zero]; rfl) (by kernel_rfl) (by kernel_rfl) (by kernel_rfl) (by intro _ _ _ h; exact h) (Or.inl ⟨by rfl, ?hy⟩) (by assumption) ?_
        case hy => (intro W_ hW_; go_simp; first | done | with_reducible rfl)
        try simp only [Act.put, List.setIfInBounds_toArray, List.set_cons_zero, List.set_cons_succ]
        refine wpAnyH_take (i := 3) (v := ?_) (by simp only [List.getElem?_toArray, List.getElem?_cons_succ, List.getElem?_cons_zero]; rfl) (by kernel_rfl) (by kernel_rfl) (by kernel_rfl) (by intro _ _ _ h; exact h) (Or.inl ⟨by rfl, ?hy⟩) (by assumption) ?_
        case hy => (intro W_ hW_; go_simp; first | done | with_reducible rfl)
        try simp only [Act.put, List.setIfInBounds_toArray, List.set_cons_zero, List.set_cons_succ]
        refine wpAnyH_take (i := 4) (v := ?_) (by simp only [List.getElem?_toArray, List.getElem?_cons_succ, List.getElem?_cons_zero]; rfl) (by kernel_rfl) (by kernel_rfl) (by kernel_rfl) (by intro _ _ _ h; exact h) (Or.inl ⟨by rfl, ?hy⟩) (by assumption) ?_
        case hy => (intro W_ hW_; have f_ := hW_.1; go_simp; first | done | with_reducible rfl)
        try simp only [Act.put, List.setIfInBounds_toArray, List.set_cons_zero, List.set_cons_succ]
        refine wpAnyH_take (i := 5) (v := ?_) (by simp only [List.getElem?_toArray, List.getElem?_cons_succ, List.getElem?_cons_zero]; rfl) (by kernel_rfl) (by kernel_rfl) (by kernel_rfl) (by intro _ _ _ h; exact h) (Or.inl ⟨by rfl, ?hy⟩) (by assumption) ?_
        case hy => (intro W_ hW_; go_simp; first | done | with_reducible rfl)
        try simp only [Act.put, List.setIfInBounds_toArray, List.set_cons_zero, List.set_cons_succ]
        refine wpAnyH_take (i := 6) (v := ?_) (by simp only [List.getElem?_toArray, List.getElem?_cons_succ, List.getElem?_cons_zero]; rfl) (by kernel_rfl) (by kernel_rfl) (by kernel_rfl) (by intro _ _ _ h; exact h) (Or.inl ⟨by rfl, ?hy⟩) (by assumption) ?_
        case hy => (intro W_ hW_; go_simp; first | done | with_reducible rfl)
        try simp only [Act.put, List.setIfInBounds_toArray, List.set_cons_zero, List.set_cons_succ]
        refine wpAnyH_take (i := 7) (v := ?_) (by simp only [List.getElem?_toArray, List.getElem?_cons_succ, List.getElem?_cons_zero]; rfl) (by kernel_rfl) (by kernel_rfl) (by kernel_rfl) (by intro _ _ _ h; exact h) (Or.inl ⟨by rfl, ?hy⟩) (by assumption) ?_
        case hy => (intro W_ hW_; go_simp; first | done | with_reducible rfl)
        try simp only [Act.put, List.setIfInBounds_toArray, List.set_cons_zero, List.set_cons_succ]
        refine wpAnyH_take (i := 8) (v := ?_) (by simp only [List.getElem?_toArray, List.getElem?_cons_succ, List.getElem?_cons_zero]; rfl) (by kernel_rfl) (by kernel_rfl) (by kernel_rfl) (by intro _ _ _ h; exact h) (Or.inl ⟨by rfl, ?hy⟩) (by assumption) ?_
        case hy => (intro W_ hW_; have f_ := hW_.2; go_simp; first | done | with_reducible rfl)
        try simp only [Act.put, List.setIfInBounds_toArray, List.set_cons_zero, List.set_cons_succ]
        refine wpAnyH_take (i := 9) (v := ?_) (by simp only [List.getElem?_toArray, List.getElem?_cons_succ, List.getElem?_cons_zero]; rfl) (by kernel_rfl) (by kernel_rfl) (by kernel_rfl) (by intro _ _ _ h; exact h) (Or.inl ⟨by rfl, ?hy⟩) (by assumption) ?_
        case hy => (intro W_ hW_; go_simp; first | done | with_reducible rfl)
        try simp only [Act.put, List.setIfInBounds_toArray, List.set_cons_zero, List.set_cons_succ]
        refine wpAnyH_take (i := 10) (v := ?_) (by simp only [List.getElem?_toArray, List.getElem?_cons_succ, List.getElem?_cons_zero]; rfl) (by kernel_rfl) (by kernel_rfl) (by kernel_rfl) (by intro _ _ _ h; exact h) (Or.inl ⟨by rfl, ?hy⟩) (by assumption) ?_
        case hy => (intro W_ hW_; go_simp; first | done | with_reducible rfl)
        try simp only [Act.put, List.setIfInBounds_toArray, List.set_cons_zero, List.set_cons_succ]
        refine wpAnyH_take (i := 12) (v := ?_) (by simp only [List.getElem?_toArray, List.getElem?_cons_succ, List.getElem?_cons_zero]; rfl) (by kernel_rfl) (by kernel_rfl) (by kernel_rfl) (by intro _ _ _ h; exact h) (Or.inl ⟨by rfl, ?hy⟩) (by assumption) ?_
        case hy => (intro W_ hW_; go_simp; first | done | with_reducible rfl)
        try simp only [Act.put, List.setIfInBounds_toArray, List.set_cons_zero, List.set_cons_succ]
        refine wpAnyH_take (i := 15) (v := ?_) (by simp only [List.getElem?_toArray, List.getElem?_cons_succ, List.getElem?_cons_zero]; rfl) (by kernel_rfl) (by kernel_rfl) (by kernel_rfl) (by intro _ _ _ h; exact h) (Or.inl ⟨by rfl, ?hy⟩) (by assumption) ?_
        case hy => (intro W_ hW_; go_simp; first | done | with_reducible rfl)
        try simp only [Act.put, List.setIfInBounds_toArray, List.set_cons_zero, List.set_cons_succ]
        refine wpAnyH_take (i := 16) (v := ?_) (by simp only [List.getElem?_toArray, List.getElem?_cons_succ, List.getElem?_cons_zero]; rfl) (by kernel_rfl) (by kernel_rfl) (by kernel_rfl) (by intro _ _ _ h; exact h) (Or.inl ⟨by rfl, ?hy⟩) (by assumption) ?_
        case hy => (intro W_ hW_; go_simp; first | done | with_reducible rfl)
        try simp only [Act.put, List.setIfInBounds_toArray, List.set_cons_zero, List.set_cons_succ]
        refine wpAnyH_take (i := 19) (v := ?_) (by simp only [List.getElem?_toArray, List.getElem?_cons_succ, List.getElem?_cons_zero]; rfl) (by kernel_rfl) (by kernel_rfl) (by kernel_rfl) (by intro _ _ _ h; exact h) (Or.inl ⟨by rfl, ?hy⟩) (by assumption) ?_
        case hy => (intro W_ hW_; go_simp; first | done | with_reducible rfl)
        try simp only [Act.put, List.setIfInBounds_toArray, List.set_cons_zero, List.set_cons_succ]
        refine wpAnyH_take (i := 21) (v := ?_) (by simp only [List.getElem?_toArray, List.getElem?_cons_succ, List.getElem?_cons_zero]; rfl) (by kernel_rfl) (by kernel_rfl) (by kernel_rfl) (by intro _ _ _ h; exact h) (Or.inl ⟨by rfl, ?hy⟩) (by assumption) ?_
        case hy => (intro W_ hW_; go_simp; first | done | with_reducible rfl)
        try simp only [Act.put, List.setIfInBounds_toArray, List.set_cons_zero, List.set_cons_succ]
        refine wpAnyH_take (i := 24) (v := ?_) (by simp only [List.getElem?_toArray, List.getElem?_cons_succ, List.getElem?_cons_zero]; rfl) (by kernel_rfl) (by kernel_rfl) (by kernel_rfl) (by intro _ _ _ h; exact h) (Or.inl ⟨by rfl, ?hy⟩) (by assumption) ?_
        case hy => (intro W_ hW_; go_simp; first | done | with_reducible rfl)
        try simp only [Act.put, List.setIfInBounds_toArray, List.set_cons_zero, List.set_cons_succ]
        refine wpAnyH_take (i := 25) (v := ?_) (by simp only [List.getElem?_toArray, List.getElem?_cons_succ, List.getElem?_cons_zero]; rfl) (by kernel_rfl) (by kernel_rfl) (by kernel_rfl) (by intro _ _ _ h; exact h) (Or.inl ⟨by rfl, ?hy⟩) (by assumption) ?_
        case hy => (intro W_ hW_; go_simp; first | done | with_reducible rfl)
        try simp only [Act.put, List.setIfInBounds_toArray, List.set_cons_zero, List.set_cons_succ]
        refine wpAnyH_ready (rs := [11]) (by kernel_rfl) (by simp) ?_
        refine AllReadyH.cons (by simp only [List.getElem?_toArray, List.getElem?_cons_succ, List.getElem?_cons_zero]; rfl) (fun K hK => ?_) AllReadyH.nil
        rw [if_pos (by rfl)]
        go_wp2_with fail
        refine (sha_right.calls _ _ _ _ (right_7 _)).mono ?_
        rintro e w2 ⟨rfl, ⟨q_, rfl⟩⟩
        refine hK.out _ _ (hHeld) (fun hHeld2 => ?_)
        clear hK K hHeld
        have hHeld := hHeld2
        clear hHeld2
        try simp only [Act.put, List.setIfInBounds_toArray, List.set_cons_zero, List.set_cons_succ]
        refine wpAnyH_ready (rs := [13]) (by kernel_rfl) (by simp) ?_
        refine AllReadyH.cons (by simp only [List.getElem?_toArray, List.getElem?_cons_succ, List.getElem?_cons_zero]; rfl) (fun K hK => ?_) AllReadyH.nil
        rw [if_pos (by rfl)]
        go_wp2_with fail
        refine (sha_right.calls _ _ _ _ (right_18 _)).mono ?_
        rintro e w2 ⟨rfl, ⟨q_, rfl⟩⟩
        refine hK.out _ _ (hHeld) (fun hHeld2 => ?_)
        clear hK K hHeld
        have hHeld := hHeld2
        clear hHeld2
        try simp only [Act.put, List.setIfInBounds_toArray, List.set_cons_zero, List.set_cons_succ]
        refine wpAnyH_take (i := 14) (v := ?_) (by simp only [List.getElem?_toArray, List.getElem?_cons_succ, List.getElem?_cons_zero]; rfl) (by kernel_rfl) (by kernel_rfl) (by kernel_rfl) (by intro _ _ _ h; exact h) (Or.inl ⟨by rfl, ?hy⟩) (by assumption) ?_
        case hy => (intro W_ hW_; go_simp; first | done | with_reducible rfl)
        try simp only [Act.put, List.setIfInBounds_toArray, List.set_cons_zero, List.set_cons_succ]
        refine wpAnyH_take (i := 17) (v := ?_) (by simp only [List.getElem?_toArray, List.getElem?_cons_succ, List.getElem?_cons_zero]; rfl) (by kernel_rfl) (by kernel_rfl) (by kernel_rfl) (by intro _ _ _ h; exact h) (Or.inl ⟨by rfl, ?hy⟩) (by assumption) ?_
        case hy => (intro W_ hW_; go_simp; first | done | with_reducible rfl)
        try simp only [Act.put, List.setIfInBounds_toArray, List.set_cons_zero, List.set_cons_succ]
        refine wpAnyH_take (i := 18) (v := ?_) (by simp only [List.getElem?_toArray, List.getElem?_cons_succ, List.getElem?_cons_zero]; rfl) (by kernel_rfl) (by kernel_rfl) (by kernel_rfl) (by intro _ _ _ h; exact h) (Or.inl ⟨by rfl, ?hy⟩) (by assumption) ?_
        case hy => (intro W_ hW_; go_simp; first | done | with_reducible rfl)
        try simp only [Act.put, List.setIfInBounds_toArray, List.set_cons_zero, List.set_cons_succ]
        refine wpAnyH_ready (rs := [20]) (by kernel_rfl) (by simp) ?_
        refine AllReadyH.cons (by simp only [List.getElem?_toArray, List.getElem?_cons_succ, List.getElem?_cons_zero]; rfl) (fun K hK => ?_) AllReadyH.nil
        rw [if_pos (by rfl)]
        go_wp2_with fail
        refine (sha_right.calls _ _ _ _ (right_17 _)).mono ?_
        rintro e w2 ⟨rfl, ⟨q_, rfl⟩⟩
        refine hK.out _ _ (hHeld) (fun hHeld2 => ?_)
        clear hK K hHeld
        have hHeld := hHeld2
        clear hHeld2
        try simp only [Act.put, List.setIfInBounds_toArray, List.set_cons_zero, List.set_cons_succ]
        refine wpAnyH_ready (rs := [22]) (by kernel_rfl) (by simp) ?_
        refine AllReadyH.cons (by simp only [List.getElem?_toArray, List.getElem?_cons_succ, List.getElem?_cons_zero]; rfl) (fun K hK => ?_) AllReadyH.nil
        rw [if_pos (by rfl)]
        go_wp2_with fail
        refine (sha_right.calls _ _ _ _ (right_19 _)).mono ?_
        rintro e w2 ⟨rfl, ⟨q_, rfl⟩⟩
        refine hK.out _ _ (hHeld) (fun hHeld2 => ?_)
        clear hK K hHeld
        have hHeld := hHeld2
        clear hHeld2
        try simp only [Act.put, List.setIfInBounds_toArray, List.set_cons_zero, List.set_cons_succ]
        refine wpAnyH_take (i := 23) (v := ?_) (by simp only [List.getElem?_toArray, List.getElem?_cons_succ, List.getElem?_cons_zero]; rfl) (by kernel_rfl) (by kernel_rfl) (by kernel_rfl) (by intro _ _ _ h; exact h) (Or.inl ⟨by rfl, ?hy⟩) (by assumption) ?_
        case hy => (intro W_ hW_; go_simp; first | done | with_reducible rfl)
        try simp only [Act.put, List.setIfInBounds_toArray, List.set_cons_zero, List.set_cons_succ]
        refine wpAnyH_take (i := 26) (v := ?_) (by simp only [List.getElem?_toArray, List.getElem?_cons_succ, List.getElem?_cons_zero]; rfl) (by kernel_rfl) (by kernel_rfl) (by kernel_rfl) (by intro _ _ _ h; exact h) (Or.inl ⟨by rfl, ?hy⟩) (by assumption) ?_
        case hy => (intro W_ hW_; go_simp; first | done | with_reducible rfl)
        try simp only [Act.put, List.setIfInBounds_toArray, List.set_cons_zero, List.set_cons_succ]
        refine wpAnyH_take (i := 27) (v := ?_) (by simp only [List.getElem?_toArray, List.getElem?_cons_succ, List.getElem?_cons_zero]; rfl) (by kernel_rfl) (by kernel_rfl) (by kernel_rfl) (by intro _ _ _ h; exact h) (Or.inl ⟨by rfl, ?hy⟩) (by assumption) ?_
        case hy => (intro W_ hW_; go_simp; first | done | with_reducible rfl)
        try simp only [Act.put, List.setIfInBounds_toArray, List.set_cons_zero, List.set_cons_succ]
        refine wpAnyH_take (i := 28) (v := ?_) (by simp only [List.getElem?_toArray, List.getElem?_cons_succ, List.getElem?_cons_zero]; rfl) (by kernel_rfl) (by kernel_rfl) (by kernel_rfl) (by intro _ _ _ h; exact h) (Or.inl ⟨by rfl, ?hy⟩) (by assumption) ?_
        case hy => (intro W_ hW_; go_simp; first | done | with_reducible rfl)
        try simp only [Act.put, List.setIfInBounds_toArray, List.set_cons_zero, List.set_cons_succ]
        refine wpAnyH_ready (rs := [29]) (by kernel_rfl) (by simp) ?_
        refine AllReadyH.cons (by simp only [List.getElem?_toArray, List.getElem?_cons_succ, List.getElem?_cons_zero]; rfl) (fun K hK => ?_) AllReadyH.nil
        rw [if_pos (by rfl)]
        have y1_ := Blk.cell HB.out (i := i) (by rw [schedAt_length]; exact hi); have y2_ := Blk.free HB.out i
        go_wp2_with fail
        refine hK.out _ _ (And.intro (by exact Blk.cell_set HB.out (by rw [schedAt_length]; exact of_eq_true n16) (by have := H16.out; omega)) (by exact Blk.cell_set HB.out (by rw [schedAt_length]; exact of_eq_true n7) (by have := H7.out; omega))) (fun hHeld2 => ?_)
        clear hK K hHeld
        have hHeld := hHeld2
        clear hHeld2
        try simp only [Act.put, List.setIfInBounds_toArray, List.set_cons_zero, List.set_cons_succ]
        refine wpAnyH_done (by kernel_rfl) ?_ _
        have HE : Aside0 (later (schedAt l i) i = ((schedAt l i)[z16]?.getD 0 + (schedAt l i)[z7]?.getD 0 + bits BinOp.xor IntKind.u32 (bits BinOp.xor IntKind.u32 (rotr ((schedAt l i)[z15]?.getD 0) 7) (rotr ((schedAt l i)[z15]?.getD 0) 18)) ((schedAt l i)[z15]?.getD 0 / 8) + bits BinOp.xor IntKind.u32 (bits BinOp.xor IntKind.u32 (rotr ((schedAt l i)[z2]?.getD 0) 17) (rotr ((schedAt l i)[z2]?.getD 0) 19)) ((schedAt l i)[z2]?.getD 0 / 1024)) % 4294967296) := ⟨by
          rw [H16.out, H7.out, H15.out, H2.out]; rfl⟩
        clear H16 H7 H15 H2
        go_wp2_with fail
        go_roundg (64 - (i + 1))
        case measure => have := HI.out; omega
        case rel =>
          refine ⟨i + 1, by simp, ⟨rfl, by omega⟩, ⟨?_⟩, ⟨?_⟩, ⟨?_⟩⟩
          · rw [← HE.out]
            simp only [schedAt, if_neg h16]
            exact Blk.set HB.out i _
          · unfold Blk
            rw [heap_setCell_other _ _ _ _ (by simp)]
            exact HZ.out
          · exact below_set (pw_below_drewN HL.out _) (by omega)
    · have d1 : decide (i < 64) = false := decide_eq_false hi
      have d2 : decide ((i : Int) < 64) = false := decide_eq_false (by omega)
      obtain rfl : i = 64 := by have := HI.out; omega
      have hsz : ((schedAt l 64).map (Value.int .u32)).toArray.size = 64 := by simp [schedAt_length]
      have hall : ((schedAt l 64).map (Value.int .u32)).toArray.all (·.oneCell') = true := by simp [Value.oneCell']
      have hB := HB.out
      unfold Blk at hB
      obtain ⟨cs, hcs⟩ : ∃ cs, cs = ((schedAt l 64).map (Value.int .u32)).toArray := ⟨_, rfl⟩
      rw [← hcs] at hB hsz hall
      have HCS := Aside0.mk hcs
      clear hcs
      have HBB := Aside0.mk hB
      have HSZ := Aside0.mk hsz
      have HALL := Aside0.mk hall
      have hst : (storeCells ⟨w.heap.size, 0, none⟩ cs.toList).run Try.prog wr = .ok () (wr.setRow w.heap.size cs) := by
        have := run_storeCells_from (P := Try.prog) w.heap.size 189 cs.toList 0 _ wr HZ.out (by simp [hsz]) (fun v hv => (Array.all_eq_true_iff_forall_mem.1 hall) v (by simpa using hv))
        simpa using this
      have HROW := Aside0.mk (setRow_heap wr w.heap.size _ cs 189 (0, 0) HZ.out)
      have HBL : Aside0 (Below w.heap.size w (wr.setRow w.heap.size cs)) := ⟨⟨HL.out.os, HL.out.tape, HL.out.output, by rw [setRow_size]; exact HL.out.size, fun k hk => by rw [setRow_other _ _ _ _ (by omega)]; exact HL.out.block k hk⟩⟩
      clear hB hall
      go_wp2_with (first
        | ((with_reducible refine gate_dst (N := 85) rfl ?_); refine wpList_load_row rfl 189 (.tmp 3) rfl (w.heap.size + 1) rfl 189 cs (0, 0) _ HBB.out rfl (by kernel_rfl) (by rw [HSZ.out]; kernel_rfl) ?_)
        | fail)
      refine bodyPost_ret (v := .agg cs) ?_ rfl ⟨by rw [HCS.out], HBL.out⟩
      exact results_cell_row (P := Try.prog) Try.results168 _ _ w.heap.size 189 cs (0, 0) _ rfl HROW.out rfl (by kernel_rfl) (by rw [hsz]; kernel_rfl)

end Go.Proofs.Ytchaegfdcdlfaaa.X

/- A chunk taken: the walk. -/
namespace Go.Proofs.Ytchaegfdcdlfaaa.X
set_option linter.unusedVariables false
set_option linter.unusedSimpArgs false
open Go.RowKit Go.Proofs.YtchaegfdcdlfaaaW.PrintWords Go.Proofs.YtchaegfdcdlfaaaW.PrintLast Go.Proofs.YtchaegfdcdlfaaaW.PrintMore

theorem Blk.below {B : Nat} {w w' : World} {g : Nat} {t : TypeId} {xs : List Int} (h : Blk w g t xs) (hb : Below B w w') (hg : g < B) : Blk w' g t xs := (hb.block g hg).trans h
theorem Blk.lt {w : World} {g : Nat} {t : TypeId} {xs : List Int} (h : Blk w g t xs) : g < w.heap.size := (Array.getElem?_eq_some_iff.1 h).1
/-- An array's cells. -/
def cellsOf (xs : List Int) : Array Value := (xs.map (Value.int .u32)).toArray
theorem cellsOf_size (xs : List Int) : (cellsOf xs).size = xs.length := by simp [cellsOf]
theorem cellsOf_all (xs : List Int) : (cellsOf xs).all (·.oneCell') = true := by simp [cellsOf, Value.oneCell']
theorem info38s : (Try.prog.info? 26).map (·.size) = some 1 := by kernel_rfl
theorem take7_get {xs : List Int} {j : Nat} {v : Value} (h : ((xs.take 7).map (Value.int .u32))[j]? = some v) : j < 7 ∧ v = Value.int .u32 (xs.getD j 0) := by
  rw [List.getElem?_map] at h
  by_cases hj : j < 7
  · refine ⟨hj, ?_⟩
    rw [List.getElem?_take_of_lt hj] at h
    obtain ⟨z, hz, rfl⟩ := Option.map_eq_some_iff.1 h
    simp [hz]
  · rw [List.getElem?_take_eq_none (by omega)] at h
    cases h
theorem splice_map {α β : Type} (f : α → β) (L : List α) (k : Nat) (cs : List α) : (splice L k cs).map f = splice (L.map f) k (cs.map f) := by
  simp [splice, List.map_take, List.map_drop]
theorem Blk.other {w : World} {g : Nat} {t : TypeId} {xs : List Int} (h : Blk w g t xs) (a : Addr) (v : Value) (hne : g ≠ a.block) : Blk (w.setCell a v) g t xs := by
  unfold Blk
  rw [heap_setCell_other _ _ _ _ hne]
  exact h
def shaT (xs : List Int) (k v : Int) : Int :=
  xs.getD 7 0 + bits .xor .u32 (bits .xor .u32 (rotr (xs.getD 4 0) 6) (rotr (xs.getD 4 0) 11)) (rotr (xs.getD 4 0) 25) + bits .xor .u32 (bits .and .u32 (xs.getD 4 0) (xs.getD 5 0)) (bits .and .u32 (bits .xor .u32 IntKind.u32.max (xs.getD 4 0)) (xs.getD 6 0)) + k + v
def shaU (xs : List Int) : Int :=
  bits .xor .u32 (bits .xor .u32 (rotr (xs.getD 0 0) 2) (rotr (xs.getD 0 0) 13)) (rotr (xs.getD 0 0) 22) + bits .xor .u32 (bits .xor .u32 (bits .and .u32 (xs.getD 0 0) (xs.getD 1 0)) (bits .and .u32 (xs.getD 0 0) (xs.getD 2 0))) (bits .and .u32 (xs.getD 1 0) (xs.getD 2 0))
def shaRound (xs : List Int) (k v : Int) : List Int :=
  ((splice xs 1 (xs.take 7)).set 0 ((shaT xs k v + shaU xs) % 4294967296)).set 4 (((splice xs 1 (xs.take 7)).getD 4 0 + shaT xs k v) % 4294967296)
def addUp (ss xs : List Int) : Nat → List Int
  | 0 => ss
  | j + 1 => (addUp ss xs j).set j (((addUp ss xs j).getD j 0 + xs.getD j 0) % 4294967296)
theorem addUp_length (ss xs : List Int) : ∀ j, (addUp ss xs j).length = ss.length
  | 0 => rfl
  | j + 1 => by simp [addUp, addUp_length ss xs j]
theorem grown_below {w w1 : World} {r : Option Nat} (h : Below w.heap.size w w1) : w.grownBy w1 r := ⟨h.os, h.tape, h.output, h.size, fun k hk _ => h.block k hk⟩
theorem grown_drew {w w1 : World} {r : Option Nat} (h : w.grownBy w1 r) : w.grownBy w1.drew r := ⟨h.os, h.tape, h.output, h.size, h.block⟩
theorem grown_set {w w1 : World} {g : Nat} (h : w.grownBy w1 (some g)) (i : Nat) (v : Value) : w.grownBy (w1.setCell ⟨g, i, none⟩ v) (some g) :=
  ⟨h.os, h.tape, h.output, by rw [show (w1.setCell ⟨g, i, none⟩ v).heap.size = w1.heap.size from by simp [World.setCell]]; exact h.size, fun k hk hne => by rw [heap_setCell_other _ _ _ _ (by intro e; exact hne (by rw [e]))]; exact h.block k hk hne⟩
def shaRounds (ss ws ks : List Int) : Nat → List Int
  | 0 => ss
  | i + 1 => shaRound (shaRounds ss ws ks i) (ks.getD i 0) (ws.getD i 0)

set_option maxHeartbeats 4000000 in
set_option maxRecDepth 100000 in
theorem take_call (gs gq : Nat) (A : Option Addr) (c : Nat) (l ss ks : List Int) (w : World) (hs : Blk w gs 187 ss) (hsl : ss.length = 8) (hk : Blk w gq 189 ks) (hkl : ks.length = 64) (hne : gs ≠ gq)
    (hr : Kd.C (Kd.int .u8) w A l.length l) (hc : 64 ≤ c) (hlen : l.length = 64) :
    Calls Try.prog 139 #[.pointer (some ⟨gs, 0, none⟩), .slice A 64 c, .pointer (some ⟨gq, 0, none⟩)] w fun e w' => e = .returned (.tuple #[]) ∧ Blk w' gs 187 (addUp ss (shaRounds ss (schedAt l 64) ks 64) 8) ∧ w.grownBy w' (some gs) := by
  obtain ⟨ws, hws⟩ : ∃ ws, schedAt l 64 = ws := ⟨_, rfl⟩
  have HWL : Aside0 (ws.length = 64) := ⟨by rw [← hws]; exact schedAt_length _ _⟩
  have HSC : Aside0 (∀ W, Kd.C (Kd.int .u8) W A l.length l → Calls Try.prog 168 #[.slice A 64 c] W fun e w' => e = .returned (.agg (cellsOf ws)) ∧ Below W.heap.size W w') := ⟨fun W h => by rw [← hws]; exact sched_call A c l W h hc hlen⟩
  rw [hws]
  clear hws hlen
  have HR := Aside0.mk hr
  have HSL := Aside0.mk hsl
  have HKL := Aside0.mk hkl
  have HS0 := Aside0.mk hs
  have HK0 := Aside0.mk hk
  have HNE := Aside0.mk hne
  clear hr hs hk hsl hkl hne
  go_enter Try.func139, Try.ntmps139
  go_wp2_with fail
  refine (HSC.out _ HR.out).mono ?_
  rintro e w1 ⟨rfl, hb1⟩
  have HB1 := Aside0.mk hb1
  clear hb1
  have hst := store_new w1 #[.int .u32 0, .int .u32 0, .int .u32 0, .int .u32 0, .int .u32 0, .int .u32 0, .int .u32 0, .int .u32 0, .int .u32 0, .int .u32 0, .int .u32 0, .int .u32 0, .int .u32 0, .int .u32 0, .int .u32 0, .int .u32 0, .int .u32 0, .int .u32 0, .int .u32 0, .int .u32 0, .int .u32 0, .int .u32 0, .int .u32 0, .int .u32 0, .int .u32 0, .int .u32 0, .int .u32 0, .int .u32 0, .int .u32 0, .int .u32 0, .int .u32 0, .int .u32 0, .int .u32 0, .int .u32 0, .int .u32 0, .int .u32 0, .int .u32 0, .int .u32 0, .int .u32 0, .int .u32 0, .int .u32 0, .int .u32 0, .int .u32 0, .int .u32 0, .int .u32 0, .int .u32 0, .int .u32 0, .int .u32 0, .int .u32 0, .int .u32 0, .int .u32 0, .int .u32 0, .int .u32 0, .int .u32 0, .int .u32 0, .int .u32 0, .int .u32 0, .int .u32 0, .int .u32 0, .int .u32 0, .int .u32 0, .int .u32 0, .int .u32 0, .int .u32 0] (cellsOf ws) 189 (by rw [cellsOf_size, HWL.out]; kernel_rfl) (cellsOf_all ws)
  have hz64 : (cellsOf ws).size = 64 := by rw [cellsOf_size, HWL.out]
  have hz8 : (cellsOf ss).size = 8 := by rw [cellsOf_size, HSL.out]
  obtain ⟨A1, hA1⟩ : ∃ A1, A1 = Obj.cells (cellsOf ws) 189 (0, 0) := ⟨_, rfl⟩
  rw [← hA1] at hst
  have HA1 := Aside0.mk hA1
  clear hA1
  have hst2 : (storeCells ⟨w1.heap.size + 1, 0, none⟩ (cellsOf ss).toList).run Try.prog ((w1.alloc A1).alloc (.cells #[.int .u32 0, .int .u32 0, .int .u32 0, .int .u32 0, .int .u32 0, .int .u32 0, .int .u32 0, .int .u32 0] 187 (0, 0))) = .ok () ((w1.alloc A1).alloc (.cells (cellsOf ss) 187 (0, 0))) := by
    have h_ := store_new (w1.alloc A1) #[.int .u32 0, .int .u32 0, .int .u32 0, .int .u32 0, .int .u32 0, .int .u32 0, .int .u32 0, .int .u32 0] (cellsOf ss) 187 (by rw [cellsOf_size, HSL.out]; kernel_rfl) (cellsOf_all ss)
    rw [show (w1.alloc A1).heap.size = w1.heap.size + 1 from Array.size_push ..] at h_
    exact h_
  have HS1 : Aside0 ((w1.alloc A1).heap[gs]? = some (.cells (cellsOf ss) 187 (0, 0))) := ⟨(Below.heap_alloc w1 A1 _ (Nat.lt_of_lt_of_le (Blk.lt HS0.out) HB1.out.size)).trans ((Blk.below HS0.out HB1.out (Blk.lt HS0.out)))⟩
  go_wp2_with (first
    | ((with_reducible refine gate_dst (N := 18) rfl ?_); refine wpList_load_row rfl 187 (.tmp 17) rfl gs rfl 187 (cellsOf ss) (0, 0) _ HS1.out rfl (by kernel_rfl) (by rw [cellsOf_size, HSL.out]; kernel_rfl) ?_)
    | fail)
  have HX0 : Aside0 (Blk ((w1.alloc A1).alloc (Obj.cells (cellsOf ss) 187)) (w1.heap.size + 1) 187 ss) := ⟨heap_alloc2_new w1 _ _⟩
  have HW0 : Aside0 (Blk ((w1.alloc A1).alloc (Obj.cells (cellsOf ss) 187)) w1.heap.size 189 ws) := ⟨by unfold Blk; rw [heap_alloc2_old w1, HA1.out]; rfl⟩
  have HB2 : Aside0 (Below w.heap.size w ((w1.alloc A1).alloc (Obj.cells (cellsOf ss) 187))) := ⟨below_alloc (below_alloc HB1.out _) _⟩
  clear hst hst2 HS1
  go_loopg [19] 64 (fun k v19 wr => ∃ (i : Nat) (xs : List Int), v19 = .int .i64 (i : Int) ∧ Aside0 (k = 64 - i ∧ i ≤ 64) ∧ Aside0 (xs = shaRounds ss ws ks i) ∧ Aside0 (xs.length = 8) ∧ Aside0 (Blk wr (w1.heap.size + 1) 187 xs) ∧ Aside0 (Blk wr w1.heap.size 189 ws) ∧ Aside0 (Below w.heap.size w wr))
  case atStart => exact ⟨0, ss, rfl, ⟨by omega, by omega⟩, ⟨rfl⟩, HSL, HX0, HW0, HB2⟩
  case round =>
    clear HX0 HW0 HB2
    obtain ⟨i, xs, rfl, HI, HXE, HXL, HX, HW, HL⟩ := hrel
    by_cases hi : i < 64
    · have d1 : decide (i < 64) = true := decide_eq_true hi
      have d2 : decide ((i : Int) < 64) = true := decide_eq_true (by omega)
      have pi : (0 ≤ (i : Int)) = True := eq_true (by omega)
      have qi : ((i : Int) < 64) = True := eq_true (by omega)
      have hwr : IntKind.i64.wrap ((i : Int) + 1) = ((i + 1 : Nat) : Int) := by rw [i64_w]; unfold wrap64; omega
      have HK : Aside0 (Blk wr gq 189 ks) := ⟨Blk.below HK0.out HL.out (Blk.lt HK0.out)⟩
      go_wp2_with fail
      refine wp_region_held_drew (S := (fun W => Blk W (w1.heap.size + 1) 187 xs ∧ Blk W w1.heap.size 189 ws ∧ Blk W gq 189 ks)) (by kernel_rfl) ((And.intro HX.out (And.intro HW.out HK.out))) (fun hHeld => ?_)
      refine wpAnyH_take (i := 0) (v := ?_) (by simp only [List.getElem?_toArray, List.getElem?_cons_succ, List.getElem?_cons_zero]; rfl) (by kernel_rfl) (by kernel_rfl) (by kernel_rfl) (by intro _ _ _ h; exact h) (Or.inl ⟨by rfl, ?hy⟩) (by assumption) ?_
      case hy => (intro W_ hW_; go_simp; first | done | with_reducible rfl)
      try simp only [Act.put, List.setIfInBounds_toArray, List.set_cons_zero, List.set_cons_succ]
      refine wpAnyH_take (i := 1) (v := ?_) (by simp only [List.getElem?_toArray, List.getElem?_cons_succ, List.getElem?_cons_zero]; rfl) (by kernel_rfl) (by kernel_rfl) (by kernel_rfl) (by intro _ _ _ h; exact h) (Or.inl ⟨by rfl, ?hy⟩) (by assumption) ?_
      case hy => (intro W_ hW_; have f_ := hW_.1.cell (i := 0) (by rw [HXL.out]; decide); go_simp; first | done | with_reducible rfl)
      try simp only [Act.put, List.setIfInBounds_toArray, List.set_cons_zero, List.set_cons_succ]
      refine wpAnyH_take (i := 2) (v := ?_) (by simp only [List.getElem?_toArray, List.getElem?_cons_succ, List.getElem?_cons_zero]; rfl) (by kernel_rfl) (by kernel_rfl) (by kernel_rfl) (by intro _ _ _ h; exact h) (Or.inl ⟨by rfl, ?hy⟩) (by assumption) ?_
      case hy => (intro W_ hW_; go_simp; first | done | with_reducible rfl)
      try simp only [Act.put, List.setIfInBounds_toArray, List.set_cons_zero, List.set_cons_succ]
      refine wpAnyH_take (i := 3) (v := ?_) (by simp only [List.getElem?_toArray, List.getElem?_cons_succ, List.getElem?_cons_zero]; rfl) (by kernel_rfl) (by kernel_rfl) (by kernel_rfl) (by intro _ _ _ h; exact h) (Or.inl ⟨by rfl, ?hy⟩) (by assumption) ?_
      case hy => (intro W_ hW_; have f_ := hW_.1.cell (i := 4) (by rw [HXL.out]; decide); go_simp; first | done | with_reducible rfl)
      try simp only [Act.put, List.setIfInBounds_toArray, List.set_cons_zero, List.set_cons_succ]
      refine wpAnyH_take (i := 4) (v := ?_) (by simp only [List.getElem?_toArray, List.getElem?_cons_succ, List.getElem?_cons_zero]; rfl) (by kernel_rfl) (by kernel_rfl) (by kernel_rfl) (by intro _ _ _ h; exact h) (Or.inl ⟨by rfl, ?hy⟩) (by assumption) ?_
      case hy => (intro W_ hW_; go_simp; first | done | with_reducible rfl)
      try simp only [Act.put, List.setIfInBounds_toArray, List.set_cons_zero, List.set_cons_succ]
      refine wpAnyH_take (i := 5) (v := ?_) (by simp only [List.getElem?_toArray, List.getElem?_cons_succ, List.getElem?_cons_zero]; rfl) (by kernel_rfl) (by kernel_rfl) (by kernel_rfl) (by intro _ _ _ h; exact h) (Or.inl ⟨by rfl, ?hy⟩) (by assumption) ?_
      case hy => (intro W_ hW_; go_simp; first | done | with_reducible rfl)
      try simp only [Act.put, List.setIfInBounds_toArray, List.set_cons_zero, List.set_cons_succ]
      refine wpAnyH_done (by kernel_rfl) ?_ _
      go_wp2_with fail
      refine wp_region_held_drew (S := (fun W => Blk W (w1.heap.size + 1) 187 xs ∧ Blk W w1.heap.size 189 ws ∧ Blk W gq 189 ks)) (by kernel_rfl) (hHeld) (fun hHeld => ?_)
      refine wpAnyH_take (i := 0) (v := ?_) (by simp only [List.getElem?_toArray, List.getElem?_cons_succ, List.getElem?_cons_zero]; rfl) (by kernel_rfl) (by kernel_rfl) (by kernel_rfl) (by intro _ _ _ h; exact h) (Or.inl ⟨by rfl, ?hy⟩) (by assumption) ?_
      case hy => (intro W_ hW_; go_simp; first | done | with_reducible rfl)
      try simp only [Act.put, List.setIfInBounds_toArray, List.set_cons_zero, List.set_cons_succ]
      refine wpAnyH_take (i := 1) (v := ?_) (by simp only [List.getElem?_toArray, List.getElem?_cons_succ, List.getElem?_cons_zero]; rfl) (by kernel_rfl) (by kernel_rfl) (by kernel_rfl) (by intro _ _ _ h; exact h) (Or.inl ⟨by rfl, ?hy⟩) (by assumption) ?_
      case hy => (intro W_ hW_; have f_ := hW_.1.cell (i := 7) (by rw [HXL.out]; decide); go_simp; first | done | with_reducible rfl)
      try simp only [Act.put, List.setIfInBounds_toArray, List.set_cons_zero, List.set_cons_succ]
      refine wpAnyH_take (i := 2) (v := ?_) (by simp only [List.getElem?_toArray, List.getElem?_cons_succ, List.getElem?_cons_zero]; rfl) (by kernel_rfl) (by kernel_rfl) (by kernel_rfl) (by intro _ _ _ h; exact h) (Or.inl ⟨by rfl, ?hy⟩) (by assumption) ?_
      case hy => (intro W_ hW_; go_simp; first | done | with_reducible rfl)
      try simp only [Act.put, List.setIfInBounds_toArray, List.set_cons_zero, List.set_cons_succ]
      refine wpAnyH_take (i := 4) (v := ?_) (by simp only [List.getElem?_toArray, List.getElem?_cons_succ, List.getElem?_cons_zero]; rfl) (by kernel_rfl) (by kernel_rfl) (by kernel_rfl) (by intro _ _ _ h; exact h) (Or.inl ⟨by rfl, ?hy⟩) (by assumption) ?_
      case hy => (intro W_ hW_; go_simp; first | done | with_reducible rfl)
      try simp only [Act.put, List.setIfInBounds_toArray, List.set_cons_zero, List.set_cons_succ]
      refine wpAnyH_take (i := 7) (v := ?_) (by simp only [List.getElem?_toArray, List.getElem?_cons_succ, List.getElem?_cons_zero]; rfl) (by kernel_rfl) (by kernel_rfl) (by kernel_rfl) (by intro _ _ _ h; exact h) (Or.inl ⟨by rfl, ?hy⟩) (by assumption) ?_
      case hy => (intro W_ hW_; go_simp; first | done | with_reducible rfl)
      try simp only [Act.put, List.setIfInBounds_toArray, List.set_cons_zero, List.set_cons_succ]
      refine wpAnyH_take (i := 11) (v := ?_) (by simp only [List.getElem?_toArray, List.getElem?_cons_succ, List.getElem?_cons_zero]; rfl) (by kernel_rfl) (by kernel_rfl) (by kernel_rfl) (by intro _ _ _ h; exact h) (Or.inl ⟨by rfl, ?hy⟩) (by assumption) ?_
      case hy => (intro W_ hW_; go_simp; first | done | with_reducible rfl)
      try simp only [Act.put, List.setIfInBounds_toArray, List.set_cons_zero, List.set_cons_succ]
      refine wpAnyH_take (i := 12) (v := ?_) (by simp only [List.getElem?_toArray, List.getElem?_cons_succ, List.getElem?_cons_zero]; rfl) (by kernel_rfl) (by kernel_rfl) (by kernel_rfl) (by intro _ _ _ h; exact h) (Or.inl ⟨by rfl, ?hy⟩) (by assumption) ?_
      case hy => (intro W_ hW_; go_simp; first | done | with_reducible rfl)
      try simp only [Act.put, List.setIfInBounds_toArray, List.set_cons_zero, List.set_cons_succ]
      refine wpAnyH_take (i := 13) (v := ?_) (by simp only [List.getElem?_toArray, List.getElem?_cons_succ, List.getElem?_cons_zero]; rfl) (by kernel_rfl) (by kernel_rfl) (by kernel_rfl) (by intro _ _ _ h; exact h) (Or.inl ⟨by rfl, ?hy⟩) (by assumption) ?_
      case hy => (intro W_ hW_; have f_ := hW_.1.cell (i := 5) (by rw [HXL.out]; decide); go_simp; first | done | with_reducible rfl)
      try simp only [Act.put, List.setIfInBounds_toArray, List.set_cons_zero, List.set_cons_succ]
      refine wpAnyH_take (i := 14) (v := ?_) (by simp only [List.getElem?_toArray, List.getElem?_cons_succ, List.getElem?_cons_zero]; rfl) (by kernel_rfl) (by kernel_rfl) (by kernel_rfl) (by intro _ _ _ h; exact h) (Or.inl ⟨by rfl, ?hy⟩) (by assumption) ?_
      case hy => (intro W_ hW_; go_simp; first | done | with_reducible rfl)
      try simp only [Act.put, List.setIfInBounds_toArray, List.set_cons_zero, List.set_cons_succ]
      refine wpAnyH_take (i := 15) (v := ?_) (by simp only [List.getElem?_toArray, List.getElem?_cons_succ, List.getElem?_cons_zero]; rfl) (by kernel_rfl) (by kernel_rfl) (by kernel_rfl) (by intro _ _ _ h; exact h) (Or.inl ⟨by rfl, ?hy⟩) (by assumption) ?_
      case hy => (intro W_ hW_; go_simp; first | done | with_reducible rfl)
      try simp only [Act.put, List.setIfInBounds_toArray, List.set_cons_zero, List.set_cons_succ]
      refine wpAnyH_take (i := 16) (v := ?_) (by simp only [List.getElem?_toArray, List.getElem?_cons_succ, List.getElem?_cons_zero]; rfl) (by kernel_rfl) (by kernel_rfl) (by kernel_rfl) (by intro _ _ _ h; exact h) (Or.inl ⟨by rfl, ?hy⟩) (by assumption) ?_
      case hy => (intro W_ hW_; go_simp; first | done | with_reducible rfl)
      try simp only [Act.put, List.setIfInBounds_toArray, List.set_cons_zero, List.set_cons_succ]
      refine wpAnyH_take (i := 17) (v := ?_) (by simp only [List.getElem?_toArray, List.getElem?_cons_succ, List.getElem?_cons_zero]; rfl) (by kernel_rfl) (by kernel_rfl) (by kernel_rfl) (by intro _ _ _ h; exact h) (Or.inl ⟨by rfl, ?hy⟩) (by assumption) ?_
      case hy => (intro W_ hW_; go_simp; first | done | with_reducible rfl)
      try simp only [Act.put, List.setIfInBounds_toArray, List.set_cons_zero, List.set_cons_succ]
      refine wpAnyH_take (i := 18) (v := ?_) (by simp only [List.getElem?_toArray, List.getElem?_cons_succ, List.getElem?_cons_zero]; rfl) (by kernel_rfl) (by kernel_rfl) (by kernel_rfl) (by intro _ _ _ h; exact h) (Or.inl ⟨by rfl, ?hy⟩) (by assumption) ?_
      case hy => (intro W_ hW_; have f_ := hW_.1.cell (i := 6) (by rw [HXL.out]; decide); go_simp; first | done | with_reducible rfl)
      try simp only [Act.put, List.setIfInBounds_toArray, List.set_cons_zero, List.set_cons_succ]
      refine wpAnyH_take (i := 19) (v := ?_) (by simp only [List.getElem?_toArray, List.getElem?_cons_succ, List.getElem?_cons_zero]; rfl) (by kernel_rfl) (by kernel_rfl) (by kernel_rfl) (by intro _ _ _ h; exact h) (Or.inl ⟨by rfl, ?hy⟩) (by assumption) ?_
      case hy => (intro W_ hW_; go_simp; first | done | with_reducible rfl)
      try simp only [Act.put, List.setIfInBounds_toArray, List.set_cons_zero, List.set_cons_succ]
      refine wpAnyH_take (i := 20) (v := ?_) (by simp only [List.getElem?_toArray, List.getElem?_cons_succ, List.getElem?_cons_zero]; rfl) (by kernel_rfl) (by kernel_rfl) (by kernel_rfl) (by intro _ _ _ h; exact h) (Or.inl ⟨by rfl, ?hy⟩) (by assumption) ?_
      case hy => (intro W_ hW_; go_simp; first | done | with_reducible rfl)
      try simp only [Act.put, List.setIfInBounds_toArray, List.set_cons_zero, List.set_cons_succ]
      refine wpAnyH_take (i := 22) (v := ?_) (by simp only [List.getElem?_toArray, List.getElem?_cons_succ, List.getElem?_cons_zero]; rfl) (by kernel_rfl) (by kernel_rfl) (by kernel_rfl) (by intro _ _ _ h; exact h) (Or.inl ⟨by rfl, ?hy⟩) (by assumption) ?_
      case hy => (intro W_ hW_; go_simp; first | done | with_reducible rfl)
      try simp only [Act.put, List.setIfInBounds_toArray, List.set_cons_zero, List.set_cons_succ]
      refine wpAnyH_take (i := 23) (v := ?_) (by simp only [List.getElem?_toArray, List.getElem?_cons_succ, List.getElem?_cons_zero]; rfl) (by kernel_rfl) (by kernel_rfl) (by kernel_rfl) (by intro _ _ _ h; exact h) (Or.inl ⟨by rfl, ?hy⟩) (by assumption) ?_
      case hy => (intro W_ hW_; go_simp; first | done | with_reducible rfl)
      try simp only [Act.put, List.setIfInBounds_toArray, List.set_cons_zero, List.set_cons_succ]
      refine wpAnyH_take (i := 24) (v := ?_) (by simp only [List.getElem?_toArray, List.getElem?_cons_succ, List.getElem?_cons_zero]; rfl) (by kernel_rfl) (by kernel_rfl) (by kernel_rfl) (by intro _ _ _ h; exact h) (Or.inl ⟨by rfl, ?hy⟩) (by assumption) ?_
      case hy => (intro W_ hW_; go_simp; first | done | with_reducible rfl)
      try simp only [Act.put, List.setIfInBounds_toArray, List.set_cons_zero, List.set_cons_succ]
      refine wpAnyH_take (i := 25) (v := ?_) (by simp only [List.getElem?_toArray, List.getElem?_cons_succ, List.getElem?_cons_zero]; rfl) (by kernel_rfl) (by kernel_rfl) (by kernel_rfl) (by intro _ _ _ h; exact h) (Or.inl ⟨by rfl, ?hy⟩) (by assumption) ?_
      case hy => (intro W_ hW_; go_simp; first | done | with_reducible rfl)
      try simp only [Act.put, List.setIfInBounds_toArray, List.set_cons_zero, List.set_cons_succ]
      refine wpAnyH_take (i := 26) (v := ?_) (by simp only [List.getElem?_toArray, List.getElem?_cons_succ, List.getElem?_cons_zero]; rfl) (by kernel_rfl) (by kernel_rfl) (by kernel_rfl) (by intro _ _ _ h; exact h) (Or.inl ⟨by rfl, ?hy⟩) (by assumption) ?_
      case hy => (intro W_ hW_; have f_ := hW_.2.2.cell (i := i) (by rw [HKL.out]; exact hi); go_simp; first | done | with_reducible rfl)
      try simp only [Act.put, List.setIfInBounds_toArray, List.set_cons_zero, List.set_cons_succ]
      refine wpAnyH_take (i := 28) (v := ?_) (by simp only [List.getElem?_toArray, List.getElem?_cons_succ, List.getElem?_cons_zero]; rfl) (by kernel_rfl) (by kernel_rfl) (by kernel_rfl) (by intro _ _ _ h; exact h) (Or.inl ⟨by rfl, ?hy⟩) (by assumption) ?_
      case hy => (intro W_ hW_; go_simp; first | done | with_reducible rfl)
      try simp only [Act.put, List.setIfInBounds_toArray, List.set_cons_zero, List.set_cons_succ]
      refine wpAnyH_take (i := 29) (v := ?_) (by simp only [List.getElem?_toArray, List.getElem?_cons_succ, List.getElem?_cons_zero]; rfl) (by kernel_rfl) (by kernel_rfl) (by kernel_rfl) (by intro _ _ _ h; exact h) (Or.inl ⟨by rfl, ?hy⟩) (by assumption) ?_
      case hy => (intro W_ hW_; go_simp; first | done | with_reducible rfl)
      try simp only [Act.put, List.setIfInBounds_toArray, List.set_cons_zero, List.set_cons_succ]
      refine wpAnyH_take (i := 30) (v := ?_) (by simp only [List.getElem?_toArray, List.getElem?_cons_succ, List.getElem?_cons_zero]; rfl) (by kernel_rfl) (by kernel_rfl) (by kernel_rfl) (by intro _ _ _ h; exact h) (Or.inl ⟨by rfl, ?hy⟩) (by assumption) ?_
      case hy => (intro W_ hW_; have f_ := hW_.2.1.cell (i := i) (by rw [HWL.out]; exact hi); go_simp; first | done | with_reducible rfl)
      try simp only [Act.put, List.setIfInBounds_toArray, List.set_cons_zero, List.set_cons_succ]
      refine wpAnyH_ready (rs := [3]) (by kernel_rfl) (by simp) ?_
      refine AllReadyH.cons (by simp only [List.getElem?_toArray, List.getElem?_cons_succ, List.getElem?_cons_zero]; rfl) (fun K hK => ?_) AllReadyH.nil
      rw [if_pos (by rfl)]
      go_wp2_with fail
      refine (sha_right.calls _ _ _ _ (right_6 _)).mono ?_
      rintro e w2 ⟨rfl, ⟨q_, rfl⟩⟩
      refine hK.out _ _ (hHeld) (fun hHeld2 => ?_)
      clear hK K hHeld
      have hHeld := hHeld2
      clear hHeld2
      try simp only [Act.put, List.setIfInBounds_toArray, List.set_cons_zero, List.set_cons_succ]
      refine wpAnyH_ready (rs := [5]) (by kernel_rfl) (by simp) ?_
      refine AllReadyH.cons (by simp only [List.getElem?_toArray, List.getElem?_cons_succ, List.getElem?_cons_zero]; rfl) (fun K hK => ?_) AllReadyH.nil
      rw [if_pos (by rfl)]
      go_wp2_with fail
      refine (sha_right.calls _ _ _ _ (right_11 _)).mono ?_
      rintro e w2 ⟨rfl, ⟨q_, rfl⟩⟩
      refine hK.out _ _ (hHeld) (fun hHeld2 => ?_)
      clear hK K hHeld
      have hHeld := hHeld2
      clear hHeld2
      try simp only [Act.put, List.setIfInBounds_toArray, List.set_cons_zero, List.set_cons_succ]
      refine wpAnyH_take (i := 6) (v := ?_) (by simp only [List.getElem?_toArray, List.getElem?_cons_succ, List.getElem?_cons_zero]; rfl) (by kernel_rfl) (by kernel_rfl) (by kernel_rfl) (by intro _ _ _ h; exact h) (Or.inl ⟨by rfl, ?hy⟩) (by assumption) ?_
      case hy => (intro W_ hW_; go_simp; first | done | with_reducible rfl)
      try simp only [Act.put, List.setIfInBounds_toArray, List.set_cons_zero, List.set_cons_succ]
      refine wpAnyH_ready (rs := [8]) (by kernel_rfl) (by simp) ?_
      refine AllReadyH.cons (by simp only [List.getElem?_toArray, List.getElem?_cons_succ, List.getElem?_cons_zero]; rfl) (fun K hK => ?_) AllReadyH.nil
      rw [if_pos (by rfl)]
      go_wp2_with fail
      refine (sha_right.calls _ _ _ _ (right_25 _)).mono ?_
      rintro e w2 ⟨rfl, ⟨q_, rfl⟩⟩
      refine hK.out _ _ (hHeld) (fun hHeld2 => ?_)
      clear hK K hHeld
      have hHeld := hHeld2
      clear hHeld2
      try simp only [Act.put, List.setIfInBounds_toArray, List.set_cons_zero, List.set_cons_succ]
      refine wpAnyH_take (i := 9) (v := ?_) (by simp only [List.getElem?_toArray, List.getElem?_cons_succ, List.getElem?_cons_zero]; rfl) (by kernel_rfl) (by kernel_rfl) (by kernel_rfl) (by intro _ _ _ h; exact h) (Or.inl ⟨by rfl, ?hy⟩) (by assumption) ?_
      case hy => (intro W_ hW_; go_simp; first | done | with_reducible rfl)
      try simp only [Act.put, List.setIfInBounds_toArray, List.set_cons_zero, List.set_cons_succ]
      refine wpAnyH_take (i := 10) (v := ?_) (by simp only [List.getElem?_toArray, List.getElem?_cons_succ, List.getElem?_cons_zero]; rfl) (by kernel_rfl) (by kernel_rfl) (by kernel_rfl) (by intro _ _ _ h; exact h) (Or.inl ⟨by rfl, ?hy⟩) (by assumption) ?_
      case hy => (intro W_ hW_; go_simp; first | done | with_reducible rfl)
      try simp only [Act.put, List.setIfInBounds_toArray, List.set_cons_zero, List.set_cons_succ]
      refine wpAnyH_take (i := 21) (v := ?_) (by simp only [List.getElem?_toArray, List.getElem?_cons_succ, List.getElem?_cons_zero]; rfl) (by kernel_rfl) (by kernel_rfl) (by kernel_rfl) (by intro _ _ _ h; exact h) (Or.inl ⟨by rfl, ?hy⟩) (by assumption) ?_
      case hy => (intro W_ hW_; go_simp; first | done | with_reducible rfl)
      try simp only [Act.put, List.setIfInBounds_toArray, List.set_cons_zero, List.set_cons_succ]
      refine wpAnyH_take (i := 27) (v := ?_) (by simp only [List.getElem?_toArray, List.getElem?_cons_succ, List.getElem?_cons_zero]; rfl) (by kernel_rfl) (by kernel_rfl) (by kernel_rfl) (by intro _ _ _ h; exact h) (Or.inl ⟨by rfl, ?hy⟩) (by assumption) ?_
      case hy => (intro W_ hW_; go_simp; first | done | with_reducible rfl)
      try simp only [Act.put, List.setIfInBounds_toArray, List.set_cons_zero, List.set_cons_succ]
      refine wpAnyH_take (i := 31) (v := ?_) (by simp only [List.getElem?_toArray, List.getElem?_cons_succ, List.getElem?_cons_zero]; rfl) (by kernel_rfl) (by kernel_rfl) (by kernel_rfl) (by intro _ _ _ h; exact h) (Or.inl ⟨by rfl, ?hy⟩) (by assumption) ?_
      case hy => (intro W_ hW_; go_simp; first | done | with_reducible rfl)
      try simp only [Act.put, List.setIfInBounds_toArray, List.set_cons_zero, List.set_cons_succ]
      refine wpAnyH_take (i := 32) (v := ?_) (by simp only [List.getElem?_toArray, List.getElem?_cons_succ, List.getElem?_cons_zero]; rfl) (by kernel_rfl) (by kernel_rfl) (by kernel_rfl) (by intro _ _ _ h; exact h) (Or.inl ⟨by rfl, ?hy⟩) (by assumption) ?_
      case hy => (intro W_ hW_; go_simp; first | done | with_reducible rfl)
      try simp only [Act.put, List.setIfInBounds_toArray, List.set_cons_zero, List.set_cons_succ]
      refine wpAnyH_done (by kernel_rfl) ?_ _
      go_wp2_with fail
      refine wp_region_held_drew (S := (fun W => Blk W (w1.heap.size + 1) 187 xs ∧ Blk W w1.heap.size 189 ws ∧ Blk W gq 189 ks)) (by kernel_rfl) (hHeld) (fun hHeld => ?_)
      refine wpAnyH_take (i := 0) (v := ?_) (by simp only [List.getElem?_toArray, List.getElem?_cons_succ, List.getElem?_cons_zero]; rfl) (by kernel_rfl) (by kernel_rfl) (by kernel_rfl) (by intro _ _ _ h; exact h) (Or.inl ⟨by rfl, ?hy⟩) (by assumption) ?_
      case hy => (intro W_ hW_; go_simp; first | done | with_reducible rfl)
      try simp only [Act.put, List.setIfInBounds_toArray, List.set_cons_zero, List.set_cons_succ]
      refine wpAnyH_take (i := 2) (v := ?_) (by simp only [List.getElem?_toArray, List.getElem?_cons_succ, List.getElem?_cons_zero]; rfl) (by kernel_rfl) (by kernel_rfl) (by kernel_rfl) (by intro _ _ _ h; exact h) (Or.inl ⟨by rfl, ?hy⟩) (by assumption) ?_
      case hy => (intro W_ hW_; go_simp; first | done | with_reducible rfl)
      try simp only [Act.put, List.setIfInBounds_toArray, List.set_cons_zero, List.set_cons_succ]
      refine wpAnyH_take (i := 5) (v := ?_) (by simp only [List.getElem?_toArray, List.getElem?_cons_succ, List.getElem?_cons_zero]; rfl) (by kernel_rfl) (by kernel_rfl) (by kernel_rfl) (by intro _ _ _ h; exact h) (Or.inl ⟨by rfl, ?hy⟩) (by assumption) ?_
      case hy => (intro W_ hW_; go_simp; first | done | with_reducible rfl)
      try simp only [Act.put, List.setIfInBounds_toArray, List.set_cons_zero, List.set_cons_succ]
      refine wpAnyH_take (i := 8) (v := ?_) (by simp only [List.getElem?_toArray, List.getElem?_cons_succ, List.getElem?_cons_zero]; rfl) (by kernel_rfl) (by kernel_rfl) (by kernel_rfl) (by intro _ _ _ h; exact h) (Or.inl ⟨by rfl, ?hy⟩) (by assumption) ?_
      case hy => (intro W_ hW_; go_simp; first | done | with_reducible rfl)
      try simp only [Act.put, List.setIfInBounds_toArray, List.set_cons_zero, List.set_cons_succ]
      refine wpAnyH_take (i := 9) (v := ?_) (by simp only [List.getElem?_toArray, List.getElem?_cons_succ, List.getElem?_cons_zero]; rfl) (by kernel_rfl) (by kernel_rfl) (by kernel_rfl) (by intro _ _ _ h; exact h) (Or.inl ⟨by rfl, ?hy⟩) (by assumption) ?_
      case hy => (intro W_ hW_; go_simp; first | done | with_reducible rfl)
      try simp only [Act.put, List.setIfInBounds_toArray, List.set_cons_zero, List.set_cons_succ]
      refine wpAnyH_take (i := 10) (v := ?_) (by simp only [List.getElem?_toArray, List.getElem?_cons_succ, List.getElem?_cons_zero]; rfl) (by kernel_rfl) (by kernel_rfl) (by kernel_rfl) (by intro _ _ _ h; exact h) (Or.inl ⟨by rfl, ?hy⟩) (by assumption) ?_
      case hy => (intro W_ hW_; have f_ := hW_.1.cell (i := 1) (by rw [HXL.out]; decide); go_simp; first | done | with_reducible rfl)
      try simp only [Act.put, List.setIfInBounds_toArray, List.set_cons_zero, List.set_cons_succ]
      refine wpAnyH_take (i := 11) (v := ?_) (by simp only [List.getElem?_toArray, List.getElem?_cons_succ, List.getElem?_cons_zero]; rfl) (by kernel_rfl) (by kernel_rfl) (by kernel_rfl) (by intro _ _ _ h; exact h) (Or.inl ⟨by rfl, ?hy⟩) (by assumption) ?_
      case hy => (intro W_ hW_; go_simp; first | done | with_reducible rfl)
      try simp only [Act.put, List.setIfInBounds_toArray, List.set_cons_zero, List.set_cons_succ]
      refine wpAnyH_take (i := 12) (v := ?_) (by simp only [List.getElem?_toArray, List.getElem?_cons_succ, List.getElem?_cons_zero]; rfl) (by kernel_rfl) (by kernel_rfl) (by kernel_rfl) (by intro _ _ _ h; exact h) (Or.inl ⟨by rfl, ?hy⟩) (by assumption) ?_
      case hy => (intro W_ hW_; go_simp; first | done | with_reducible rfl)
      try simp only [Act.put, List.setIfInBounds_toArray, List.set_cons_zero, List.set_cons_succ]
      refine wpAnyH_take (i := 13) (v := ?_) (by simp only [List.getElem?_toArray, List.getElem?_cons_succ, List.getElem?_cons_zero]; rfl) (by kernel_rfl) (by kernel_rfl) (by kernel_rfl) (by intro _ _ _ h; exact h) (Or.inl ⟨by rfl, ?hy⟩) (by assumption) ?_
      case hy => (intro W_ hW_; go_simp; first | done | with_reducible rfl)
      try simp only [Act.put, List.setIfInBounds_toArray, List.set_cons_zero, List.set_cons_succ]
      refine wpAnyH_take (i := 14) (v := ?_) (by simp only [List.getElem?_toArray, List.getElem?_cons_succ, List.getElem?_cons_zero]; rfl) (by kernel_rfl) (by kernel_rfl) (by kernel_rfl) (by intro _ _ _ h; exact h) (Or.inl ⟨by rfl, ?hy⟩) (by assumption) ?_
      case hy => (intro W_ hW_; have f_ := hW_.1.cell (i := 2) (by rw [HXL.out]; decide); go_simp; first | done | with_reducible rfl)
      try simp only [Act.put, List.setIfInBounds_toArray, List.set_cons_zero, List.set_cons_succ]
      refine wpAnyH_take (i := 15) (v := ?_) (by simp only [List.getElem?_toArray, List.getElem?_cons_succ, List.getElem?_cons_zero]; rfl) (by kernel_rfl) (by kernel_rfl) (by kernel_rfl) (by intro _ _ _ h; exact h) (Or.inl ⟨by rfl, ?hy⟩) (by assumption) ?_
      case hy => (intro W_ hW_; go_simp; first | done | with_reducible rfl)
      try simp only [Act.put, List.setIfInBounds_toArray, List.set_cons_zero, List.set_cons_succ]
      refine wpAnyH_take (i := 16) (v := ?_) (by simp only [List.getElem?_toArray, List.getElem?_cons_succ, List.getElem?_cons_zero]; rfl) (by kernel_rfl) (by kernel_rfl) (by kernel_rfl) (by intro _ _ _ h; exact h) (Or.inl ⟨by rfl, ?hy⟩) (by assumption) ?_
      case hy => (intro W_ hW_; go_simp; first | done | with_reducible rfl)
      try simp only [Act.put, List.setIfInBounds_toArray, List.set_cons_zero, List.set_cons_succ]
      refine wpAnyH_take (i := 17) (v := ?_) (by simp only [List.getElem?_toArray, List.getElem?_cons_succ, List.getElem?_cons_zero]; rfl) (by kernel_rfl) (by kernel_rfl) (by kernel_rfl) (by intro _ _ _ h; exact h) (Or.inl ⟨by rfl, ?hy⟩) (by assumption) ?_
      case hy => (intro W_ hW_; go_simp; first | done | with_reducible rfl)
      try simp only [Act.put, List.setIfInBounds_toArray, List.set_cons_zero, List.set_cons_succ]
      refine wpAnyH_take (i := 18) (v := ?_) (by simp only [List.getElem?_toArray, List.getElem?_cons_succ, List.getElem?_cons_zero]; rfl) (by kernel_rfl) (by kernel_rfl) (by kernel_rfl) (by intro _ _ _ h; exact h) (Or.inl ⟨by rfl, ?hy⟩) (by assumption) ?_
      case hy => (intro W_ hW_; have f_ := hW_.1.cell (i := 1) (by rw [HXL.out]; decide); go_simp; first | done | with_reducible rfl)
      try simp only [Act.put, List.setIfInBounds_toArray, List.set_cons_zero, List.set_cons_succ]
      refine wpAnyH_take (i := 19) (v := ?_) (by simp only [List.getElem?_toArray, List.getElem?_cons_succ, List.getElem?_cons_zero]; rfl) (by kernel_rfl) (by kernel_rfl) (by kernel_rfl) (by intro _ _ _ h; exact h) (Or.inl ⟨by rfl, ?hy⟩) (by assumption) ?_
      case hy => (intro W_ hW_; go_simp; first | done | with_reducible rfl)
      try simp only [Act.put, List.setIfInBounds_toArray, List.set_cons_zero, List.set_cons_succ]
      refine wpAnyH_take (i := 20) (v := ?_) (by simp only [List.getElem?_toArray, List.getElem?_cons_succ, List.getElem?_cons_zero]; rfl) (by kernel_rfl) (by kernel_rfl) (by kernel_rfl) (by intro _ _ _ h; exact h) (Or.inl ⟨by rfl, ?hy⟩) (by assumption) ?_
      case hy => (intro W_ hW_; have f_ := hW_.1.cell (i := 2) (by rw [HXL.out]; decide); go_simp; first | done | with_reducible rfl)
      try simp only [Act.put, List.setIfInBounds_toArray, List.set_cons_zero, List.set_cons_succ]
      refine wpAnyH_take (i := 21) (v := ?_) (by simp only [List.getElem?_toArray, List.getElem?_cons_succ, List.getElem?_cons_zero]; rfl) (by kernel_rfl) (by kernel_rfl) (by kernel_rfl) (by intro _ _ _ h; exact h) (Or.inl ⟨by rfl, ?hy⟩) (by assumption) ?_
      case hy => (intro W_ hW_; go_simp; first | done | with_reducible rfl)
      try simp only [Act.put, List.setIfInBounds_toArray, List.set_cons_zero, List.set_cons_succ]
      refine wpAnyH_take (i := 22) (v := ?_) (by simp only [List.getElem?_toArray, List.getElem?_cons_succ, List.getElem?_cons_zero]; rfl) (by kernel_rfl) (by kernel_rfl) (by kernel_rfl) (by intro _ _ _ h; exact h) (Or.inl ⟨by rfl, ?hy⟩) (by assumption) ?_
      case hy => (intro W_ hW_; go_simp; first | done | with_reducible rfl)
      try simp only [Act.put, List.setIfInBounds_toArray, List.set_cons_zero, List.set_cons_succ]
      refine wpAnyH_ready (rs := [1]) (by kernel_rfl) (by simp) ?_
      refine AllReadyH.cons (by simp only [List.getElem?_toArray, List.getElem?_cons_succ, List.getElem?_cons_zero]; rfl) (fun K hK => ?_) AllReadyH.nil
      rw [if_pos (by rfl)]
      go_wp2_with fail
      refine (sha_right.calls _ _ _ _ (right_2 _)).mono ?_
      rintro e w2 ⟨rfl, ⟨q_, rfl⟩⟩
      refine hK.out _ _ (hHeld) (fun hHeld2 => ?_)
      clear hK K hHeld
      have hHeld := hHeld2
      clear hHeld2
      try simp only [Act.put, List.setIfInBounds_toArray, List.set_cons_zero, List.set_cons_succ]
      refine wpAnyH_ready (rs := [3]) (by kernel_rfl) (by simp) ?_
      refine AllReadyH.cons (by simp only [List.getElem?_toArray, List.getElem?_cons_succ, List.getElem?_cons_zero]; rfl) (fun K hK => ?_) AllReadyH.nil
      rw [if_pos (by rfl)]
      go_wp2_with fail
      refine (sha_right.calls _ _ _ _ (right_13 _)).mono ?_
      rintro e w2 ⟨rfl, ⟨q_, rfl⟩⟩
      refine hK.out _ _ (hHeld) (fun hHeld2 => ?_)
      clear hK K hHeld
      have hHeld := hHeld2
      clear hHeld2
      try simp only [Act.put, List.setIfInBounds_toArray, List.set_cons_zero, List.set_cons_succ]
      refine wpAnyH_take (i := 4) (v := ?_) (by simp only [List.getElem?_toArray, List.getElem?_cons_succ, List.getElem?_cons_zero]; rfl) (by kernel_rfl) (by kernel_rfl) (by kernel_rfl) (by intro _ _ _ h; exact h) (Or.inl ⟨by rfl, ?hy⟩) (by assumption) ?_
      case hy => (intro W_ hW_; go_simp; first | done | with_reducible rfl)
      try simp only [Act.put, List.setIfInBounds_toArray, List.set_cons_zero, List.set_cons_succ]
      refine wpAnyH_ready (rs := [6]) (by kernel_rfl) (by simp) ?_
      refine AllReadyH.cons (by simp only [List.getElem?_toArray, List.getElem?_cons_succ, List.getElem?_cons_zero]; rfl) (fun K hK => ?_) AllReadyH.nil
      rw [if_pos (by rfl)]
      go_wp2_with fail
      refine (sha_right.calls _ _ _ _ (right_22 _)).mono ?_
      rintro e w2 ⟨rfl, ⟨q_, rfl⟩⟩
      refine hK.out _ _ (hHeld) (fun hHeld2 => ?_)
      clear hK K hHeld
      have hHeld := hHeld2
      clear hHeld2
      try simp only [Act.put, List.setIfInBounds_toArray, List.set_cons_zero, List.set_cons_succ]
      refine wpAnyH_take (i := 7) (v := ?_) (by simp only [List.getElem?_toArray, List.getElem?_cons_succ, List.getElem?_cons_zero]; rfl) (by kernel_rfl) (by kernel_rfl) (by kernel_rfl) (by intro _ _ _ h; exact h) (Or.inl ⟨by rfl, ?hy⟩) (by assumption) ?_
      case hy => (intro W_ hW_; go_simp; first | done | with_reducible rfl)
      try simp only [Act.put, List.setIfInBounds_toArray, List.set_cons_zero, List.set_cons_succ]
      refine wpAnyH_take (i := 23) (v := ?_) (by simp only [List.getElem?_toArray, List.getElem?_cons_succ, List.getElem?_cons_zero]; rfl) (by kernel_rfl) (by kernel_rfl) (by kernel_rfl) (by intro _ _ _ h; exact h) (Or.inl ⟨by rfl, ?hy⟩) (by assumption) ?_
      case hy => (intro W_ hW_; go_simp; first | done | with_reducible rfl)
      try simp only [Act.put, List.setIfInBounds_toArray, List.set_cons_zero, List.set_cons_succ]
      refine wpAnyH_take (i := 24) (v := ?_) (by simp only [List.getElem?_toArray, List.getElem?_cons_succ, List.getElem?_cons_zero]; rfl) (by kernel_rfl) (by kernel_rfl) (by kernel_rfl) (by intro _ _ _ h; exact h) (Or.inl ⟨by rfl, ?hy⟩) (by assumption) ?_
      case hy => (intro W_ hW_; go_simp; first | done | with_reducible rfl)
      try simp only [Act.put, List.setIfInBounds_toArray, List.set_cons_zero, List.set_cons_succ]
      refine wpAnyH_done (by kernel_rfl) ?_ _
      go_wp2_with fail
      clear hHeld
      go_still_tail 2, (by kernel_rfl)
      have hxl : (xs.map (Value.int .u32)).length = 8 := by rw [List.length_map]; exact HXL.out
      refine wpList_copy_splice rfl (.tmp 82) (.tmp 83) 225 225 rfl 26 Try.underlying225 info38s (some ⟨w1.heap.size + 1, 1, none⟩) (some ⟨w1.heap.size + 1, 0, none⟩) 7 7 7 8 (by rfl) (by rfl) (w1.heap.size + 1) 1 (xs.map (Value.int .u32)) 187 (by exact HX.out) ((xs.take 7).map (Value.int .u32)) ?c1 ?c2 ?c3 ?c4 (w1.heap.size + 1) _ (Below.refl _ _) (Nat.le_refl _) ?c5
      case c1 => rw [List.length_map, List.length_take, HXL.out]; rfl
      case c2 =>
        intro _
        refine ⟨rfl, _, rfl, fun j v hj => ?_⟩
        obtain ⟨hj7, rfl⟩ := take7_get hj
        have := HX.out.cell (i := j) (by rw [HXL.out]; omega)
        rw [show (⟨w1.heap.size + 1, 0, none⟩ : Addr).add j = ⟨w1.heap.size + 1, j, none⟩ from by simp [Addr.add]; intro h; exact h.symm]
        exact this
      case c3 => rw [List.length_map, List.length_take, HXL.out, hxl]; decide
      case c4 => intro v hv; simp only [List.mem_map] at hv; obtain ⟨z, _, rfl⟩ := hv; rfl
      case c5 =>
        intro w3 hh hb3
        obtain ⟨ys, hys⟩ : ∃ ys, ys = splice xs 1 (xs.take 7) := ⟨_, rfl⟩
        have HYE := Aside0.mk hys
        have HYL : Aside0 (ys.length = 8) := ⟨by rw [hys, length_splice _ _ _ (by rw [List.length_take, HXL.out]; decide)]; exact HXL.out⟩
        have HY : Aside0 (Blk w3 (w1.heap.size + 1) 187 ys) := ⟨by unfold Blk; rw [hys, splice_map]; exact hh⟩
        have HW3 : Aside0 (Blk w3 w1.heap.size 189 ws) := ⟨Blk.below (by exact HW.out) hb3 (Nat.lt_succ_self _)⟩
        have HL3 : Aside0 (Below w.heap.size w w3) := ⟨Below.trans (by exact ⟨HL.out.os, HL.out.tape, HL.out.output, HL.out.size, HL.out.block⟩) (hb3.mono (Nat.le_succ_of_le HB1.out.size))⟩
        have c0 := HY.out.cell (i := 0) (by rw [HYL.out]; decide)
        have c4 := HY.out.cell (i := 4) (by rw [HYL.out]; decide)
        have f0 := HY.out.free 0
        have f4 := HY.out.free 4
        clear hh hb3 hys hxl
        go_wp2_with fail
        go_roundg (64 - (i + 1))
        case measure => have := HI.out; omega
        case rel =>
          refine ⟨i + 1, shaRound xs (ks.getD i 0) (ws.getD i 0), by simp, ⟨rfl, by omega⟩, ⟨by rw [HXE.out]; rfl⟩, ⟨?_⟩, ⟨?_⟩, ⟨?_⟩, ⟨?_⟩⟩
          · unfold shaRound
            rw [← HYE.out, List.length_set, List.length_set]
            exact HYL.out
          · unfold shaRound
            rw [← HYE.out]
            exact (HY.out.set 0 _).set 4 _
          · exact Blk.other (Blk.other HW3.out _ _ (Nat.ne_of_lt (Nat.lt_succ_self _))) _ _ (Nat.ne_of_lt (Nat.lt_succ_self _))
          · exact below_set (below_set HL3.out (Nat.le_succ_of_le HB1.out.size)) (Nat.le_succ_of_le HB1.out.size)
    · have d1 : decide (i < 64) = false := decide_eq_false hi
      have d2 : decide ((i : Int) < 64) = false := decide_eq_false (by omega)
      obtain rfl : i = 64 := by have := HI.out; omega
      clear HI hi
      go_wp2_with fail
      go_loopg [95] 8 (fun k v95 w2 => ∃ (j : Nat), v95 = .int .i64 (j : Int) ∧ Aside0 (k = 8 - j ∧ j ≤ 8) ∧ Aside0 (Blk w2 gs 187 (addUp ss xs j)) ∧ Aside0 (Blk w2 (w1.heap.size + 1) 187 xs) ∧ Aside0 (w.grownBy w2 (some gs)))
      case atStart => exact ⟨0, rfl, ⟨by omega, by omega⟩, ⟨Blk.below HS0.out HL.out (Blk.lt HS0.out)⟩, HX, ⟨grown_below HL.out⟩⟩
      case round =>
        have HGX : Aside0 (w1.heap.size + 1 ≠ gs) := ⟨by have := Blk.lt HS0.out; have := HB1.out.size; omega⟩
        clear HX HW HL d1 d2
        obtain ⟨j, rfl, HJ, HS, HX, HG⟩ := hrel
        by_cases hj : j < 8
        · have d1 : decide (j < 8) = true := decide_eq_true hj
          have d2 : decide ((j : Int) < 8) = true := decide_eq_true (by omega)
          have pi : (0 ≤ (j : Int)) = True := eq_true (by omega)
          have qi : ((j : Int) < 8) = True := eq_true (by omega)
          have hwr : IntKind.i64.wrap ((j : Int) + 1) = ((j + 1 : Nat) : Int) := by rw [i64_w]; unfold wrap64; omega
          have y1 : wr.drew.cell? ⟨gs, j, none⟩ = _ := HS.out.cell (i := j) (by rw [addUp_length, HSL.out]; exact hj)
          have y2 : wr.cell? ⟨gs, j, none⟩ = _ := HS.out.cell (i := j) (by rw [addUp_length, HSL.out]; exact hj)
          have z1 : wr.drew.cell? ⟨w1.heap.size + 1, j, none⟩ = _ := HX.out.cell (i := j) (by rw [HXL.out]; exact hj)
          have z2 : wr.cell? ⟨w1.heap.size + 1, j, none⟩ = _ := HX.out.cell (i := j) (by rw [HXL.out]; exact hj)
          have y3 : wr.drew.frozen? ⟨gs, j, none⟩ = false := HS.out.free j
          have y4 : wr.frozen? ⟨gs, j, none⟩ = false := HS.out.free j
          go_wp2_with fail
          go_still_tail 11, (by kernel_rfl)
          go_wp2_with fail
          go_roundg (8 - (j + 1))
          case measure => have := HJ.out; omega
          case rel =>
            refine ⟨j + 1, by simp, ⟨rfl, by omega⟩, ⟨?_⟩, ⟨?_⟩, ⟨?_⟩⟩
            · exact HS.out.set j _
            · exact Blk.other HX.out _ _ HGX.out
            · exact grown_drew (grown_set HG.out j _)
        · have d1 : decide (j < 8) = false := decide_eq_false hj
          have d2 : decide ((j : Int) < 8) = false := decide_eq_false (by omega)
          obtain rfl : j = 8 := by have := HJ.out; omega
          go_wp2_with fail
          go_end0
          exact ⟨rfl, by rw [← HXE.out]; exact HS.out, HG.out⟩

end Go.Proofs.Ytchaegfdcdlfaaa.X

/- Rows of bytes, arrays of bytes: small tools; bytes.Clone by hand. -/
namespace Go.Proofs.Ytchaegfdcdlfaaa.X
set_option linter.unusedVariables false
set_option linter.unusedSimpArgs false
open Go.RowKit Go.Proofs.YtchaegfdcdlfaaaW.PrintWords Go.Proofs.YtchaegfdcdlfaaaW.PrintLast Go.Proofs.YtchaegfdcdlfaaaW.PrintMore

theorem hinfo5 : (Try.prog.info? 5).map (fun i => (i.zero, i.size, i.bytes)) = some (some (.int .u8 0), 1, 1) := by kernel_rfl
/-- A slice that reads as a list, whoever owns it. -/
abbrev RdB (w : World) (A : Option Addr) (n : Nat) (l : List Int) : Prop := Kd.C (Kd.int .u8) w A n l
theorem row_slice {w : World} {base : Nat} {ok : Nat → Prop} {v : Value} {l : List Int} (h : Kd.R (Kd.int .u8) 5 w base ok v l) : ∃ A c, v = .slice A l.length c ∧ l.length ≤ c ∧ RdB w A l.length l := Kd.R_reads h
theorem rdb_take {w : World} {A : Option Addr} {l : List Int} (h : RdB w A l.length l) (m : Nat) (hm : m ≤ l.length) : RdB w A m (l.take m) := by
  obtain ⟨i0, hi0, _, hsz0, _⟩ := info_parts hinfo5
  obtain ⟨_, hA, _⟩ := print_take_of (P := Try.prog) (Value.int .u8) 0 40 5 .i64 Try.underlying40 hi0 hsz0 A l.length l (m : Int) (by omega) (by omega) (Nat.le_refl _)
  have := hA w (Kd.reads_of_C h)
  simp only [Int.toNat_natCast] at this
  rw [List.length_take, Nat.min_eq_left hm] at this
  exact Kd.C_of_reads (h1 := fun _ => rfl) this
theorem rdb_drop (A : Option Addr) (c : Nat) (l : List Int) (m : Nat) (hm : m ≤ l.length) (hc : l.length ≤ c) :
    ∃ A' : Option Addr, (∀ W : World, (Instr.slice 40 (.slice A l.length c) (some (.int .i64 (m : Int))) none none).run Try.prog W = .ok (.slice A' (l.length - m) (c - m)) W) ∧ (∀ w : World, RdB w A l.length l → RdB w A' (l.length - m) (l.drop m)) ∧ l.length - m ≤ c - m := by
  obtain ⟨i0, hi0, _, hsz0, _⟩ := info_parts hinfo5
  obtain ⟨A', hcut, hA, hC⟩ := print_drop_of (P := Try.prog) (Value.int .u8) 0 40 5 .i64 Try.underlying40 hi0 hsz0 A c l (m : Int) (by omega) (by omega) hc
  simp only [Int.toNat_natCast, List.length_drop] at hcut hA hC
  exact ⟨A', hcut, fun w h => Kd.C_of_reads (h1 := fun _ => rfl) (hA w (Kd.reads_of_C h)), hC⟩
theorem rdb_cut (A : Option Addr) (c : Nat) (l : List Int) (m : Nat) (hm : m ≤ l.length) (hc : l.length ≤ c) :
    ∀ W : World, (Instr.slice 40 (.slice A l.length c) none (some (.int .i64 (m : Int))) none).run Try.prog W = .ok (.slice A m c) W := by
  obtain ⟨i0, hi0, _, hsz0, _⟩ := info_parts hinfo5
  obtain ⟨h, _, _⟩ := print_take_of (P := Try.prog) (Value.int .u8) 0 40 5 .i64 Try.underlying40 hi0 hsz0 A c l (m : Int) (by omega) (by omega) hc
  simp only [Int.toNat_natCast, List.length_take, Nat.min_eq_left hm] at h
  exact h
theorem rdb_below {w w' : World} {A : Option Addr} {n : Nat} {l : List Int} (h : RdB w A n l) (hb : Below w.heap.size w w') : RdB w' A n l := Kd.C_below h hb
theorem rdb_drewN {w : World} {A : Option Addr} {n : Nat} {l : List Int} (h : RdB w A n l) (q : Nat) : RdB (w.drewN q) A n l := Kd.C_drewN h q
theorem rdb_nil {w : World} {n : Nat} {l : List Int} (h : RdB w none n l) : n = 0 := by
  rcases Nat.eq_zero_or_pos n with h0 | h0
  · exact h0
  · obtain ⟨ad, e, _⟩ := Kd.at_int h 0 (by omega) (by omega)
    cases e
theorem own_row {w : World} {base n : Nat} {v : Value} {l : List Int} (h : w.ownsRow base 5 1 v n (nums .u8 l)) : ∃ A c, v = .slice A n c ∧ n ≤ c ∧ RdB w A n l := by
  have hn : n = l.length := by have := h.1; simp [nums] at this; omega
  subst hn
  exact row_slice (Kd.R_of_own (ok := fun _ => True) h (fun _ _ => trivial))

/-- An array of bytes in a block of its own. -/
def Blk8 (w : World) (g : Nat) (t : TypeId) (xs : List Int) : Prop := w.heap[g]? = some (.cells (xs.map (Value.int .u8)).toArray t (0, 0))
theorem Blk8.cell {w : World} {g : Nat} {t : TypeId} {xs : List Int} (h : Blk8 w g t xs) {i : Nat} (hi : i < xs.length) : w.cell? ⟨g, i, none⟩ = some (.int .u8 (xs.getD i 0)) := by
  rw [cell_of_row w g i _ t (0, 0) h]
  simp [hi]
theorem Blk8.set {w : World} {g : Nat} {t : TypeId} {xs : List Int} (h : Blk8 w g t xs) (i : Nat) (v : Int) : Blk8 (w.setCell ⟨g, i, none⟩ (.int .u8 v)) g t (xs.set i v) := by
  rw [setCell_eq_setRow w g i _ t (0, 0) _ h]
  unfold Blk8
  rw [setRow_heap w g _ _ t (0, 0) h]
  congr 2
  simp [List.map_set]
theorem Blk8.free {w : World} {g : Nat} {t : TypeId} {xs : List Int} (h : Blk8 w g t xs) (i : Nat) : w.frozen? ⟨g, i, none⟩ = false := by
  unfold Blk8 at h
  simp [World.frozen?, h]
theorem Blk8.below {B : Nat} {w w' : World} {g : Nat} {t : TypeId} {xs : List Int} (h : Blk8 w g t xs) (hb : Below B w w') (hg : g < B) : Blk8 w' g t xs := (hb.block g hg).trans h
theorem Blk8.lt {w : World} {g : Nat} {t : TypeId} {xs : List Int} (h : Blk8 w g t xs) : g < w.heap.size := (Array.getElem?_eq_some_iff.1 h).1
def cells8 (xs : List Int) : Array Value := (xs.map (Value.int .u8)).toArray
theorem cells8_size (xs : List Int) : (cells8 xs).size = xs.length := by simp [cells8]
theorem cells8_all (xs : List Int) : (cells8 xs).all (·.oneCell') = true := by simp [cells8, Value.oneCell']

theorem setRow_alloc2 (w : World) (old cs : Array Value) (t : TypeId) (B : Obj) : ((w.alloc (.cells old t (0, 0))).alloc B).setRow w.heap.size cs = (w.alloc (.cells cs t (0, 0))).alloc B := by
  unfold World.setRow World.alloc
  congr 1
  apply Array.ext
  · simp
  · intro k h1 h2
    simp only [Array.getElem_modify, Array.getElem_push]
    simp at h1
    by_cases hk : k < w.heap.size
    · rw [if_neg (by omega)]
      simp [hk, Nat.lt_succ_of_lt hk]
    · by_cases hk2 : k = w.heap.size
      · subst hk2
        simp
      · rw [if_neg (by omega)]
        simp [hk, show ¬ k < w.heap.size + 1 by omega]
/-- An array's cells, laid into the last block but one. -/
theorem store_new2 (w : World) (old cs : Array Value) (t : TypeId) (B : Obj) (hs : old.size = cs.size) (h1 : cs.all (·.oneCell') = true) :
    (storeCells ⟨w.heap.size, 0, none⟩ cs.toList).run Try.prog ((w.alloc (.cells old t (0, 0))).alloc B) = .ok () ((w.alloc (.cells cs t (0, 0))).alloc B) := by
  have := run_storeCells_from (P := Try.prog) w.heap.size t cs.toList 0 old ((w.alloc (.cells old t (0, 0))).alloc B) (heap_alloc2_old w _ _) (by simp; omega) (fun v hv => (Array.all_eq_true_iff_forall_mem.1 h1) v (by simpa using hv))
  simp only [List.take_zero, List.nil_append, Array.toArray_toList] at this
  rw [setRow_alloc2] at this
  exact this
theorem begun_call' (w : World) : Calls Try.prog 137 #[] w fun e w' => e = .returned (.agg (cellsOf begunL)) ∧ Below w.heap.size w w' := begun_call w
theorem roots_call' (w : World) : Calls Try.prog 138 #[] w fun e w' => e = .returned (.agg (cellsOf rootsL)) ∧ Below w.heap.size w w' := roots_call w
/-- A chunk's state; all chunks'. -/
def nextState (ss l : List Int) : List Int := addUp ss (shaRounds ss (schedAt l 64) rootsL 64) 8
def stateAt (m : List Int) : Nat → List Int
  | 0 => begunL
  | j + 1 => nextState (stateAt m j) ((m.drop (64 * j)).take 64)
theorem stateAt_length (m : List Int) : ∀ j, (stateAt m j).length = 8
  | 0 => rfl
  | j + 1 => by rw [stateAt, nextState, addUp_length]; exact stateAt_length m j
theorem reads_lit (W : World) (y : Int) : ReadsInt (W.alloc (.cells #[.int .u8 y] 5)) .u8 (some ⟨W.heap.size, 0, none⟩) 1 [y] := by
  refine ⟨rfl, by decide, fun _ => ⟨_, rfl, fun j hj => ?_⟩⟩
  obtain rfl : j = 0 := by omega
  rw [add_plain, cell_of_row _ _ _ _ _ _ (heap_alloc_new W _)]
  rfl
/-- 'all = append(all, y)' of a row of bytes. -/
theorem app_one {w0 W : World} {ops : Array Oper} {rest : List Oper} {o : Oper} {a : Act} {Q : Exit → Act → World → Prop} (base : Nat) (hgd : o.guard = none) (s x : Operand)
    (ho : o.op = .call { callee := .builtin .append, args := #[s, x], argTypes := #[40, 40] }) (v : Value) (xs : List Int) (y : Int) (hs : a.eval s = v) (hx : a.eval x = .slice (some ⟨W.heap.size, 0, none⟩) 1 1)
    (HO : W.ownsRow base 5 1 v xs.length (nums .u8 xs)) (HB : Below base w0 W) (hbase : base ≤ W.heap.size) (hl : xs.length ≤ 1000000000)
    (h : ∀ v1 w1, Aside0 (w1.ownsRow base 5 1 v1 (xs ++ [y]).length (nums .u8 (xs ++ [y]))) → Aside0 (Below base w0 w1) → wpList Try.prog ops Q rest (a.put o.dst v1) w1) :
    wpList Try.prog ops Q (o :: rest) a (W.alloc (.cells #[.int .u8 y] 5)) :=
  print_append_row (w0 := w0) base hgd s x 40 5 .u8 1 ho Try.underlying40 hinfo5 (by decide) v xs [y] (some ⟨W.heap.size, 0, none⟩) 1 1 hs hx (own_alloc HO _) (reads_lit W y) (HB.alloc hbase _) (by simp; omega) (by omega)
    fun v1 w1 h1 h2 _ _ => h v1 w1 ⟨h1⟩ ⟨h2⟩
set_option maxHeartbeats 1000000 in
set_option maxRecDepth 100000 in
theorem clone_some (ad : Addr) (c : Nat) (l : List Int) (w : World) (hr : RdB w (some ad) l.length l) (hc : l.length ≤ c) (hl : l.length ≤ 1000000000) :
    Calls Try.prog 90 #[.slice (some ad) l.length c] w fun e w' => ∃ v, e = .returned v ∧ Aside0 (w'.ownsRow w.heap.size 5 1 v l.length (nums .u8 l)) ∧ Aside0 (Below w.heap.size w w') := by
  have heq : ∀ W : World, (binOp .eql 40 (.slice (some ad) l.length c) (.slice none 0 0)).run Try.prog W = .ok (.bool false) W := fun W => run_eql_slice_nil W 40 5 _ _ _ Try.underlying40
  have HR := Aside0.mk hr
  clear hr
  go_enter Try.func90, Try.ntmps90
  go_wp2_with (first
    | ((with_reducible refine gate_builtin (b := .append) (xs := #[.tmp 5, .tmp 6]) rfl ?_); at_builtin; refine print_append_row (w0 := w) w.heap.size rfl _ _ 40 5 .u8 1 rfl Try.underlying40 hinfo5 (by decide) _ [] l (some ad) l.length c rfl rfl (by exact own_lit w w.heap.size 5 .u8 [] (Nat.le_refl _) (by decide)) (Kd.reads_of_C (rdb_below HR.out (below_alloc (Below.refl _ _) _))) (below_alloc (Below.refl _ _) _) (by simp) (by simp; omega) ?_; intro v1 w3 ho3 hB3 hg3 _)
    | fail)
  go_ret
  exact ⟨_, rfl, ⟨by simpa using ho3⟩, ⟨hB3⟩⟩
theorem clone_none (c : Nat) (w : World) :
    Calls Try.prog 90 #[.slice none 0 c] w fun e w' => ∃ v, e = .returned v ∧ Aside0 (w'.ownsRow w.heap.size 5 1 v 0 (nums .u8 [])) ∧ Aside0 (Below w.heap.size w w') := by
  have heq : ∀ W : World, (binOp .eql 40 (.slice none 0 c) (.slice none 0 0)).run Try.prog W = .ok (.bool true) W := fun W => run_eql_slice_nil W 40 5 _ _ _ Try.underlying40
  go_enter Try.func90, Try.ntmps90
  go_wp2_with fail
  go_ret
  exact ⟨_, rfl, ⟨own_nil _ _ _ _⟩, ⟨Below.refl _ _⟩⟩
theorem clone_call (A : Option Addr) (c : Nat) (l : List Int) (w : World) (hr : RdB w A l.length l) (hc : l.length ≤ c) (hl : l.length ≤ 1000000000) :
    Calls Try.prog 90 #[.slice A l.length c] w fun e w' => ∃ v, e = .returned v ∧ Aside0 (w'.ownsRow w.heap.size 5 1 v l.length (nums .u8 l)) ∧ Aside0 (Below w.heap.size w w') := by
  cases A with
  | some ad => exact clone_some ad c l w hr hc hl
  | none =>
    have h0 := rdb_nil hr
    obtain rfl : l = [] := List.eq_nil_of_length_eq_zero h0
    exact clone_none c w

end Go.Proofs.Ytchaegfdcdlfaaa.X

/- The digest of bytes: the walk. -/
namespace Go.Proofs.Ytchaegfdcdlfaaa.X
set_option linter.unusedVariables false
set_option linter.unusedSimpArgs false
open Go.RowKit Go.Proofs.YtchaegfdcdlfaaaW.PrintWords Go.Proofs.YtchaegfdcdlfaaaW.PrintLast Go.Proofs.YtchaegfdcdlfaaaW.PrintMore

/-- How many zeros. -/
def padN (n : Nat) : Nat := (119 - n % 64) % 64
theorem padN_at (n : Nat) : (n + 1 + padN n) % 64 = 56 := by unfold padN; omega
theorem padN_lt (n : Nat) : padN n < 64 := by unfold padN; omega
theorem padN_not (n j : Nat) (h : j < padN n) : (n + 1 + j) % 64 ≠ 56 := by unfold padN at h; omega
def msg1 (l : List Int) (j : Nat) : List Int := (l ++ [128]) ++ List.replicate j 0
theorem msg1_length (l : List Int) (j : Nat) : (msg1 l j).length = l.length + 1 + j := by simp [msg1]; omega
theorem msg1_snoc (l : List Int) (j : Nat) : msg1 l j ++ [0] = msg1 l (j + 1) := by simp [msg1, List.replicate_succ']
def lenByte (n i : Nat) : Int := (n : Int) * 8 / 2 ^ (8 * (7 - i)) % 256
/-- A digest's byte. -/
def outByte (st : List Int) (i : Nat) : Int := st.getD (i / 4) 0 / 2 ^ (24 - 8 * (i % 4)) % 256
def outAt (st : List Int) : Nat → List Int
  | 0 => List.replicate 32 0
  | i + 1 => (outAt st i).set i (outByte st i)
theorem outAt_length (st : List Int) : ∀ i, (outAt st i).length = 32
  | 0 => by simp [outAt]
  | i + 1 => by simp [outAt, outAt_length st i]
def msg2 (l : List Int) (j : Nat) : List Int := msg1 l (padN l.length) ++ (List.range j).map (lenByte l.length)
theorem msg2_length (l : List Int) (j : Nat) : (msg2 l j).length = l.length + 1 + padN l.length + j := by simp [msg2, msg1_length]
theorem msg2_snoc (l : List Int) (j : Nat) : msg2 l j ++ [lenByte l.length j] = msg2 l (j + 1) := by simp [msg2, List.range_succ]
/-- The digest. -/
def shaOf (l : List Int) : List Int := outAt (stateAt (msg2 l 8) ((msg2 l 8).length / 64)) 32

set_option maxHeartbeats 4000000 in
set_option maxRecDepth 100000 in
theorem sum_call (A : Option Addr) (c : Nat) (l : List Int) (w : World) (hr : RdB w A l.length l) (hc : l.length ≤ c) (hl : l.length ≤ 100000000) :
    Calls Try.prog 82 #[.slice A l.length c] w fun e w' => e = .returned (.agg (cells8 (shaOf l))) ∧ Below w.heap.size w w' := by
  have HR := Aside0.mk hr
  clear hr
  go_enter Try.func82, Try.ntmps82
  go_wp2_with fail
  refine (clone_call A c l _ (rdb_below HR.out (below_alloc (Below.refl _ _) _)) hc (by omega)).mono ?_
  rintro e w1 ⟨v, rfl, HO, HB⟩
  have HBw : Aside0 (Below w.heap.size w w1) := ⟨(below_alloc (Below.refl _ _) _).trans (HB.out.mono (by simp))⟩
  have HZ : Aside0 (Blk8 w1 w.heap.size 28 (List.replicate 32 0)) := ⟨Blk8.below (w := w.alloc _) (heap_alloc_new w _) HB.out (by simp)⟩
  have HO1 : Aside0 (w1.ownsRow (w.heap.size + 1) 5 1 v l.length (nums .u8 l)) := ⟨by simpa using HO.out⟩
  have HS1 : Aside0 (w.heap.size + 1 ≤ w1.heap.size) := ⟨by simpa using HB.out.size⟩
  clear HB HO
  go_wp2_with (first
    | ((with_reducible refine gate_builtin (b := .append) (xs := #[.tmp 10, .tmp 11]) rfl ?_); at_builtin; refine app_one (w0 := w1) (w.heap.size + 1) rfl (.tmp 10) (.tmp 11) rfl v l 128 (by rfl) (by rfl) HO1.out (Below.refl _ _) HS1.out (by omega) ?_; intro v2 w2 HO2 HB2)
    | fail)
  clear HO1
  go_loopg [3] (padN l.length) (fun k v3 w' => ∃ (j m : Nat), Aside0 (k = padN l.length - j ∧ j ≤ padN l.length) ∧ Aside0 (m = l.length + 1 + j) ∧ Aside0 (w'.ownsRow (w.heap.size + 1) 5 1 v3 m (nums .u8 (msg1 l j))) ∧ Aside0 (Below (w.heap.size + 1) w1 w'))
  case atStart => exact ⟨0, l.length + 1, ⟨by omega, by omega⟩, ⟨by omega⟩, ⟨by simpa [msg1] using HO2.out⟩, HB2⟩
  case round =>
    clear HO2 HB2
    obtain ⟨j, m, HJ, HM, HO, HB⟩ := hrel
    obtain ⟨A3, c3, rfl⟩ := own_slice HO.out
    have hm : m ≤ 200000000 := by have := HM.out; have := HJ.out; have := padN_lt l.length; omega
    by_cases hj : j < padN l.length
    · have e1 : ((m : Int) % 64 != 56) = true := by
        have := padN_not l.length j hj
        have := HM.out
        simp only [bne_iff_ne, ne_eq]
        omega
      have HML : Aside0 ((msg1 l j).length = m) := ⟨by rw [msg1_length]; exact HM.out.symm⟩
      go_wp2_with (first
        | ((with_reducible refine gate_builtin (b := .append) (xs := #[.tmp 17, .tmp 18]) rfl ?_); at_builtin; refine app_one (w0 := w1) (w.heap.size + 1) rfl (.tmp 17) (.tmp 18) rfl _ (msg1 l j) 0 (by rfl) (by rfl) (by rw [HML.out]; exact HO.out) HB.out (Nat.le_trans HS1.out HB.out.size) (by rw [HML.out]; omega) ?_; intro v4 w4 HO4 HB4)
        | fail)
      go_roundg (padN l.length - (j + 1))
      case measure => have := HJ.out; omega
      case rel => exact ⟨j + 1, m + 1, ⟨rfl, by omega⟩, ⟨by have := HM.out; omega⟩, ⟨by have h_ := HO4.out; rw [msg1_snoc, msg1_length] at h_; have h2_ := HM.out; rw [show m + 1 = l.length + 1 + (j + 1) by omega]; exact h_⟩, HB4⟩
    · obtain rfl : j = padN l.length := by have := HJ.out; omega
      have e1 : ((m : Int) % 64 != 56) = false := by
        have := padN_at l.length
        have := HM.out
        simp only [bne_eq_false_iff_eq]
        omega
      clear hj
      go_wp2_with fail
      go_loopg [3, 20] 8 (fun k v3 v20 w' => ∃ (i p : Nat), v20 = .int .i64 (i : Int) ∧ Aside0 (k = 8 - i ∧ i ≤ 8) ∧ Aside0 (p = m + i) ∧ Aside0 (w'.ownsRow (w.heap.size + 1) 5 1 v3 p (nums .u8 (msg2 l i))) ∧ Aside0 (Below (w.heap.size + 1) w1 w'))
      case atStart => exact ⟨0, m, rfl, ⟨by omega, by omega⟩, ⟨rfl⟩, ⟨by simpa [msg2] using HO.out⟩, HB⟩
      case round =>
        clear HO HB e1
        obtain ⟨i, p, rfl, HI, HP, HO, HB⟩ := hrel
        obtain ⟨A4, c4, rfl⟩ := own_slice HO.out
        by_cases hi : i < 8
        · have d1 : decide (i < 8) = true := decide_eq_true hi
          have d2 : decide ((i : Int) < 8) = true := decide_eq_true (by omega)
          have HML : Aside0 ((msg2 l i).length = p) := ⟨by rw [msg2_length, HP.out, HM.out]⟩
          have hp : p ≤ 300000000 := by have := HP.out; omega
          have b0 : 0 ≤ (i : Int) := by omega
          have b1 : (i : Int) < 8 := by omega
          have hwr : IntKind.i64.wrap ((i : Int) + 1) = ((i + 1 : Nat) : Int) := by rw [i64_w]; unfold wrap64; omega
          go_wp2_with (first
            | ((with_reducible refine gate_builtin (b := .append) (xs := #[.tmp 23, .tmp 33]) rfl ?_); at_builtin; refine app_one (w0 := w1) (w.heap.size + 1) rfl (.tmp 23) (.tmp 33) rfl _ (msg2 l i) (lenByte l.length i) (by rfl) (by rfl) (by rw [HML.out]; exact HO.out) HB.out (Nat.le_trans HS1.out HB.out.size) (by rw [HML.out]; omega) ?_; intro v4 w4 HO4 HB4)
            | fail)
          go_roundg (8 - (i + 1))
          case measure => have := HI.out; omega
          case rel => exact ⟨i + 1, p + 1, by simp, ⟨rfl, by omega⟩, ⟨by have := HP.out; omega⟩, ⟨by have h_ := HO4.out; rw [msg2_snoc, msg2_length] at h_; have h2_ := HM.out; have h3_ := HP.out; rw [show p + 1 = l.length + 1 + padN l.length + (i + 1) by omega]; exact h_⟩, HB4⟩
        · have d1 : decide (i < 8) = false := decide_eq_false hi
          have d2 : decide ((i : Int) < 8) = false := decide_eq_false (by omega)
          obtain rfl : i = 8 := by have := HI.out; omega
          have HN : Aside0 (p % 64 = 0) := ⟨by have := HP.out; have := HM.out; have := padN_at l.length; omega⟩
          have HPL : Aside0 ((msg2 l 8).length = p) := ⟨by rw [msg2_length, HP.out, HM.out]⟩
          obtain ⟨msg, hmsg⟩ : ∃ msg, msg2 l 8 = msg := ⟨_, rfl⟩
          rw [hmsg] at HPL HO
          have HMSG := Aside0.mk hmsg
          clear hmsg hi HI
          obtain ⟨A5, c5, he5, hc5, hR5⟩ := own_row HO.out
          obtain ⟨rfl, rfl⟩ : A4 = A5 ∧ c4 = c5 := by injection he5 with h1 _ h3; exact ⟨h1, h3⟩
          have HR5 := Aside0.mk hR5
          clear he5 hR5 HO
          go_wp2_with fail
          refine (begun_call' _).mono ?_
          rintro e w5 ⟨rfl, hb5⟩
          have HB5 := Aside0.mk hb5
          clear hb5
          go_wp2_with fail
          refine (roots_call' _).mono ?_
          rintro e w6 ⟨rfl, hb6⟩
          have HB6 : Aside0 (Below (w.heap.size + 1) w1 w6) := ⟨(HB.out.trans (HB5.out.mono (Nat.le_trans HS1.out HB.out.size))).trans (hb6.mono (Nat.le_trans (Nat.le_trans HS1.out HB.out.size) HB5.out.size))⟩
          have HR6 : Aside0 (RdB w6 A4 p msg) := ⟨rdb_below (rdb_below HR5.out HB5.out) hb6⟩
          clear hb6 HB5 HR5
          have hz8 : (cellsOf begunL).size = 8 := by kernel_rfl
          have hz64 : (cellsOf rootsL).size = 64 := by kernel_rfl
          have hst1 := store_new2 w6 #[.int .u32 0, .int .u32 0, .int .u32 0, .int .u32 0, .int .u32 0, .int .u32 0, .int .u32 0, .int .u32 0] (cellsOf begunL) 187 (.cells #[.int .u32 0, .int .u32 0, .int .u32 0, .int .u32 0, .int .u32 0, .int .u32 0, .int .u32 0, .int .u32 0, .int .u32 0, .int .u32 0, .int .u32 0, .int .u32 0, .int .u32 0, .int .u32 0, .int .u32 0, .int .u32 0, .int .u32 0, .int .u32 0, .int .u32 0, .int .u32 0, .int .u32 0, .int .u32 0, .int .u32 0, .int .u32 0, .int .u32 0, .int .u32 0, .int .u32 0, .int .u32 0, .int .u32 0, .int .u32 0, .int .u32 0, .int .u32 0, .int .u32 0, .int .u32 0, .int .u32 0, .int .u32 0, .int .u32 0, .int .u32 0, .int .u32 0, .int .u32 0, .int .u32 0, .int .u32 0, .int .u32 0, .int .u32 0, .int .u32 0, .int .u32 0, .int .u32 0, .int .u32 0, .int .u32 0, .int .u32 0, .int .u32 0, .int .u32 0, .int .u32 0, .int .u32 0, .int .u32 0, .int .u32 0, .int .u32 0, .int .u32 0, .int .u32 0, .int .u32 0, .int .u32 0, .int .u32 0, .int .u32 0, .int .u32 0] 189 (0, 0)) (by rw [hz8]; kernel_rfl) (cellsOf_all _)
          have hst2 : (storeCells ⟨w6.heap.size + 1, 0, none⟩ (cellsOf rootsL).toList).run Try.prog ((w6.alloc (.cells (cellsOf begunL) 187 (0, 0))).alloc (.cells #[.int .u32 0, .int .u32 0, .int .u32 0, .int .u32 0, .int .u32 0, .int .u32 0, .int .u32 0, .int .u32 0, .int .u32 0, .int .u32 0, .int .u32 0, .int .u32 0, .int .u32 0, .int .u32 0, .int .u32 0, .int .u32 0, .int .u32 0, .int .u32 0, .int .u32 0, .int .u32 0, .int .u32 0, .int .u32 0, .int .u32 0, .int .u32 0, .int .u32 0, .int .u32 0, .int .u32 0, .int .u32 0, .int .u32 0, .int .u32 0, .int .u32 0, .int .u32 0, .int .u32 0, .int .u32 0, .int .u32 0, .int .u32 0, .int .u32 0, .int .u32 0, .int .u32 0, .int .u32 0, .int .u32 0, .int .u32 0, .int .u32 0, .int .u32 0, .int .u32 0, .int .u32 0, .int .u32 0, .int .u32 0, .int .u32 0, .int .u32 0, .int .u32 0, .int .u32 0, .int .u32 0, .int .u32 0, .int .u32 0, .int .u32 0, .int .u32 0, .int .u32 0, .int .u32 0, .int .u32 0, .int .u32 0, .int .u32 0, .int .u32 0, .int .u32 0] 189 (0, 0))) = .ok () ((w6.alloc (.cells (cellsOf begunL) 187 (0, 0))).alloc (.cells (cellsOf rootsL) 189 (0, 0))) := by
            have h_ := store_new (w6.alloc (.cells (cellsOf begunL) 187 (0, 0))) #[.int .u32 0, .int .u32 0, .int .u32 0, .int .u32 0, .int .u32 0, .int .u32 0, .int .u32 0, .int .u32 0, .int .u32 0, .int .u32 0, .int .u32 0, .int .u32 0, .int .u32 0, .int .u32 0, .int .u32 0, .int .u32 0, .int .u32 0, .int .u32 0, .int .u32 0, .int .u32 0, .int .u32 0, .int .u32 0, .int .u32 0, .int .u32 0, .int .u32 0, .int .u32 0, .int .u32 0, .int .u32 0, .int .u32 0, .int .u32 0, .int .u32 0, .int .u32 0, .int .u32 0, .int .u32 0, .int .u32 0, .int .u32 0, .int .u32 0, .int .u32 0, .int .u32 0, .int .u32 0, .int .u32 0, .int .u32 0, .int .u32 0, .int .u32 0, .int .u32 0, .int .u32 0, .int .u32 0, .int .u32 0, .int .u32 0, .int .u32 0, .int .u32 0, .int .u32 0, .int .u32 0, .int .u32 0, .int .u32 0, .int .u32 0, .int .u32 0, .int .u32 0, .int .u32 0, .int .u32 0, .int .u32 0, .int .u32 0, .int .u32 0, .int .u32 0] (cellsOf rootsL) 189 (by rw [hz64]; kernel_rfl) (cellsOf_all _)
            rw [show (w6.alloc (.cells (cellsOf begunL) 187 (0, 0))).heap.size = w6.heap.size + 1 from Array.size_push ..] at h_
            exact h_
          go_wp2_with fail
          clear hst1 hst2 hz8 hz64
          have HS7 : Aside0 (Blk ((w6.alloc (.cells (cellsOf begunL) 187 (0, 0))).alloc (.cells (cellsOf rootsL) 189 (0, 0))) w6.heap.size 187 begunL) := ⟨heap_alloc2_old w6 _ _⟩
          have HK7 : Aside0 (Blk ((w6.alloc (.cells (cellsOf begunL) 187 (0, 0))).alloc (.cells (cellsOf rootsL) 189 (0, 0))) (w6.heap.size + 1) 189 rootsL) := ⟨heap_alloc2_new w6 _ _⟩
          have HB7 : Aside0 (Below w6.heap.size w6 ((w6.alloc (.cells (cellsOf begunL) 187 (0, 0))).alloc (.cells (cellsOf rootsL) 189 (0, 0)))) := ⟨below_alloc (below_alloc (Below.refl _ _) _) _⟩
          go_loopg [3] (p / 64) (fun k v3 w' => ∃ (j n : Nat) (q : List Int) (A : Option Addr) (c : Nat), v3 = .slice A n c ∧ Aside0 (k = p / 64 - j ∧ j ≤ p / 64) ∧ Aside0 (n ≤ c) ∧ Aside0 (n = p - 64 * j) ∧ Aside0 (q = msg.drop (64 * j)) ∧ Aside0 (q.length = n) ∧ Aside0 (RdB w6 A n q) ∧ Aside0 (Blk w' w6.heap.size 187 (stateAt msg j)) ∧ Aside0 (Blk w' (w6.heap.size + 1) 189 rootsL) ∧ Aside0 (Below w6.heap.size w6 w'))
          case atStart => exact ⟨0, p, msg, A4, c4, rfl, ⟨by omega, by omega⟩, ⟨hc5⟩, ⟨by omega⟩, ⟨by simp⟩, HPL, HR6, HS7, HK7, HB7⟩
          case round =>
            clear HS7 HK7 HB7 d1 d2 hc5 HR6
            obtain ⟨j, n, q, A, c, rfl, HJ3, HC, HN3, HQ, HQL, HR, HS, HK, HL⟩ := hrel
            have hn : n ≤ 300000000 := by have := HN3.out; have := HP.out; omega
            by_cases hj : j < p / 64
            · have hn64 : 64 ≤ n := by have := HN3.out; have := HN.out; omega
              have d1 : decide (0 < n) = true := decide_eq_true (by omega)
              have d2 : decide (0 < (n : Int)) = true := decide_eq_true (by omega)
              have hcut := rdb_cut A c q 64 (by rw [HQL.out]; exact hn64) (by rw [HQL.out]; exact HC.out)
              obtain ⟨A', hdrop, hA', hc'⟩ := rdb_drop A c q 64 (by rw [HQL.out]; exact hn64) (by rw [HQL.out]; exact HC.out)
              rw [HQL.out] at hcut hdrop hc'
              replace hcut : ∀ W : World, (Instr.slice 40 (.slice A n c) none (some (.int .i64 64)) none).run Try.prog W = .ok (.slice A 64 c) W := hcut
              replace hdrop : ∀ W : World, (Instr.slice 40 (.slice A n c) (some (.int .i64 64)) none none).run Try.prog W = .ok (.slice A' (n - 64) (c - 64)) W := hdrop
              have HA' : Aside0 (RdB w6 A' (n - 64) (q.drop 64)) := ⟨by have := hA' w6 (by rw [HQL.out]; exact HR.out); rw [HQL.out] at this; exact this⟩
              have HT : Aside0 (RdB w6 A 64 (q.take 64)) := ⟨rdb_take (by rw [HQL.out]; exact HR.out) 64 (by rw [HQL.out]; exact hn64)⟩
              have HTL : Aside0 ((q.take 64).length = 64) := ⟨by rw [List.length_take, HQL.out]; omega⟩
              clear hA'
              have HC' := Aside0.mk hc'
              clear hc'
              go_wp2_with fail
              refine (take_call w6.heap.size (w6.heap.size + 1) A c (q.take 64) (stateAt msg j) rootsL _ HS.out (stateAt_length _ _) HK.out rfl (by omega) (by rw [HTL.out]; exact rdb_below HT.out HL.out) (by have := HC.out; omega) HTL.out).mono ?_
              rintro e w8 ⟨rfl, hs8, hg8⟩
              have HS8 := Aside0.mk hs8
              have HK8 : Aside0 (Blk w8 (w6.heap.size + 1) 189 rootsL) := ⟨(hg8.block _ (Blk.lt HK.out) (by simp)).trans HK.out⟩
              have HL8 : Aside0 (Below w6.heap.size w6 w8) := ⟨pw_below_grown HL.out _ HL.out.size hg8 (by intro k hk; injection hk with hk; omega)⟩
              clear hs8 hg8
              go_wp2_with fail
              go_roundg (p / 64 - (j + 1))
              case measure => have := HJ3.out; omega
              case rel =>
                refine ⟨j + 1, n - 64, q.drop 64, A', c - 64, rfl, ⟨rfl, by omega⟩, HC', ⟨by have := HN3.out; omega⟩, ⟨by rw [HQ.out, List.drop_drop]; congr 1⟩, ⟨by rw [List.length_drop, HQL.out]⟩, HA', ⟨?_⟩, HK8, HL8⟩
                have := HS8.out
                rw [HQ.out] at this
                exact this
            · obtain rfl : j = p / 64 := by have := HJ3.out; omega
              obtain rfl : n = 0 := by have := HN3.out; have := HN.out; omega
              have HST : Aside0 ((stateAt msg (p / 64)).length = 8) := ⟨stateAt_length _ _⟩
              obtain ⟨st, hst⟩ : ∃ st, st = stateAt msg (p / 64) := ⟨_, rfl⟩
              have HSTE := Aside0.mk hst
              rw [← hst] at HS HST
              have HB8 : Aside0 (Below (w.heap.size + 1) w1 wr) := ⟨HB6.out.trans (HL.out.mono (Nat.le_trans HS1.out HB6.out.size))⟩
              have HSZ8 : Aside0 (w6.heap.size < wr.heap.size) := ⟨Blk.lt HS.out⟩
              clear hst hj HJ3 hn HN3
              go_wp2_with fail
              obtain ⟨wo, rfl⟩ : ∃ wo : World, wo = wr := ⟨_, rfl⟩
              go_loopg [46] 32 (fun k v46 w' => ∃ (i : Nat), v46 = .int .i64 (i : Int) ∧ Aside0 (k = 32 - i ∧ i ≤ 32) ∧ Aside0 (Blk8 w' wo.heap.size 28 (outAt st i)) ∧ Aside0 (Blk w' w6.heap.size 187 st) ∧ Aside0 (Below (w.heap.size + 1) w1 w'))
              case atStart => exact ⟨0, rfl, ⟨by omega, by omega⟩, ⟨heap_alloc_new wo _⟩, ⟨Blk.below HS.out (below_alloc (Below.refl _ _) _) HSZ8.out⟩, ⟨HB8.out.alloc (Nat.le_trans HS1.out HB8.out.size) _⟩⟩
              case round =>
                clear HS HK HL HB8
                obtain ⟨i, rfl, HI, HO, HS, HB⟩ := hrel
                by_cases hi : i < 32
                · have d1 : decide (i < 32) = true := decide_eq_true hi
                  have d2 : decide ((i : Int) < 32) = true := decide_eq_true (by omega)
                  have hwr : IntKind.i64.wrap ((i : Int) + 1) = ((i + 1 : Nat) : Int) := by rw [i64_w]; unfold wrap64; omega
                  have b0 : 0 ≤ (i : Int) := by omega
                  have b1 : (i : Int) < 32 := by omega
                  have pi : (0 ≤ (i : Int)) = True := eq_true (by omega)
                  have qi : ((i : Int) < 32) = True := eq_true (by omega)
                  have y1 : wr.drew.cell? ⟨w6.heap.size, i / 4, none⟩ = _ := HS.out.cell (i := i / 4) (by rw [HST.out]; omega)
                  have y2 : wr.cell? ⟨w6.heap.size, i / 4, none⟩ = _ := HS.out.cell (i := i / 4) (by rw [HST.out]; omega)
                  have y3 : wr.cell? ⟨wo.heap.size, i, none⟩ = _ := HO.out.cell (i := i) (by rw [outAt_length]; exact hi)
                  have y4 : wr.frozen? ⟨wo.heap.size, i, none⟩ = false := HO.out.free i
                  clear y1
                  go_wp2_with fail
                  go_roundg (32 - (i + 1))
                  case measure => have := HI.out; omega
                  case rel =>
                    refine ⟨i + 1, by simp, ⟨rfl, by omega⟩, ⟨?_⟩, ⟨?_⟩, ⟨?_⟩⟩
                    · exact HO.out.set i (outByte st i)
                    · exact Blk.other HS.out _ _ (Nat.ne_of_lt HSZ8.out)
                    · exact HB.out.setCell (Nat.le_trans HS1.out (Nat.le_trans HB6.out.size (Nat.le_of_lt HSZ8.out))) _
                · obtain rfl : i = 32 := by have := HI.out; omega
                  have d1 : decide (32 < 32) = false := by decide
                  have HZ2 : Aside0 (Blk8 wr w.heap.size 28 (List.replicate 32 0)) := ⟨Blk8.below HZ.out HB.out (Nat.lt_succ_self _)⟩
                  obtain ⟨cs, hcs⟩ : ∃ cs, cs = cells8 (outAt st 32) := ⟨_, rfl⟩
                  have hsz : cs.size = 32 := by rw [hcs, cells8_size, outAt_length]
                  have hall : cs.all (·.oneCell') = true := by rw [hcs]; exact cells8_all _
                  have hB : wr.heap[wo.heap.size]? = some (.cells cs 28 (0, 0)) := by rw [hcs]; exact HO.out
                  have HCS : Aside0 (cs = cells8 (shaOf l)) := ⟨by rw [hcs]; unfold shaOf; rw [HMSG.out, HPL.out, ← HSTE.out]⟩
                  clear hcs
                  have HBB := Aside0.mk hB
                  have HSZ := Aside0.mk hsz
                  have HALL := Aside0.mk hall
                  have hst : (storeCells ⟨w.heap.size, 0, none⟩ cs.toList).run Try.prog wr = .ok () (wr.setRow w.heap.size cs) := by
                    have := run_storeCells_from (P := Try.prog) w.heap.size 28 cs.toList 0 _ wr HZ2.out (by simp [hsz]) (fun v hv => (Array.all_eq_true_iff_forall_mem.1 hall) v (by simpa using hv))
                    simpa using this
                  have HROW := Aside0.mk (setRow_heap wr w.heap.size _ cs 28 (0, 0) HZ2.out)
                  have HBL : Aside0 (Below w.heap.size w (wr.setRow w.heap.size cs)) := ⟨(HBw.out.trans (HB.out.mono (Nat.le_succ _))).trans ⟨rfl, rfl, rfl, by rw [setRow_size]; exact Nat.le_refl _, fun k hk => by rw [setRow_other _ _ _ _ (by omega)]⟩⟩
                  clear hB hall hi
                  go_wp2_with (first
                    | ((with_reducible refine gate_dst (N := 62) rfl ?_); refine wpList_load_row rfl 28 (.tmp 7) rfl wo.heap.size rfl 28 cs (0, 0) _ HBB.out rfl (by kernel_rfl) (by rw [HSZ.out]; kernel_rfl) ?_)
                    | fail)
                  refine bodyPost_ret (v := .agg cs) ?_ rfl ⟨by rw [HCS.out], HBL.out⟩
                  exact results_cell_row (P := Try.prog) Try.results82 _ _ w.heap.size 28 cs (0, 0) _ rfl HROW.out rfl (by kernel_rfl) (by rw [hsz]; kernel_rfl)

end Go.Proofs.Ytchaegfdcdlfaaa.X

/- Arrays of bytes compared; bytes that an entry of the library's reads. -/
namespace Go.Proofs.Ytchaegfdcdlfaaa.X
set_option linter.unusedVariables false
set_option linter.unusedSimpArgs false
open Go.RowKit Go.Proofs.YtchaegfdcdlfaaaW.PrintWords Go.Proofs.YtchaegfdcdlfaaaW.PrintLast Go.Proofs.YtchaegfdcdlfaaaW.PrintMore

theorem part8 {P : Program} {w : World} {e : TypeId} (he : P.underlying e = some (.int .u8)) {a : List Int} {j : Nat} (hj : j < a.length) : (part e (cells8 a) (j * 1)).run P w = .ok (.int .u8 (a.getD j 0)) w := by
  simp [part, isAgg, run_underlying he, cells8, hj]
theorem eqItems8 {P : Program} {w : World} (d : Nat) {e : TypeId} (he : P.underlying e = some (.int .u8)) (hc : P.cellsOf e = 1) (a b : List Int) (n : Nat) (ha : a.length = n) (hb : b.length = n) :
    ∀ js : List Nat, (∀ j ∈ js, j < n) → (Op.eqItems (d + 1) e (P.cellsOf e) (cells8 a) (cells8 b) js).run P w = .ok (js.all fun j => a.getD j 0 == b.getD j 0) w := by
  intro js
  induction js with
  | nil => intro _; simp [Op.eqItems]
  | cons j js ih =>
    intro h
    have hj := h j (by simp)
    simp only [Op.eqItems, Sem.run_bind, hc]
    rw [part8 he (by omega), Result.andThen_ok, part8 he (by omega), Result.andThen_ok, run_equalIn_int w d e .u8 .u8 _ _ he, Result.andThen_ok]
    have h2 := ih (fun k hk => h k (by simp [hk]))
    rw [hc] at h2
    cases hq : (a.getD j 0 == b.getD j 0)
    · rw [List.all_cons, hq]; simp
    · rw [List.all_cons, hq, Bool.true_and, ← h2]; simp
theorem all_eq (a b : List Int) (n : Nat) (ha : a.length = n) (hb : b.length = n) : ((List.range n).all fun j => a.getD j 0 == b.getD j 0) = (a == b) := by
  rw [Bool.eq_iff_iff, List.all_eq_true, beq_iff_eq]
  constructor
  · intro h
    apply List.ext_getElem (by omega)
    intro i h1 h2
    have := h i (by simp; omega)
    simpa [h1, h2] using this
  · rintro rfl
    simp
theorem equal8 {P : Program} {w : World} {t e : TypeId} {n : Nat} {i : TypeInfo} (hu : P.underlying t = some (.array n e)) (hi : P.info? e = some i) (he : P.underlying e = some (.int .u8)) (hc : P.cellsOf e = 1) (a b : List Int) (ha : a.length = n) (hb : b.length = n) :
    (Op.equalIn 10000 t (.agg (cells8 a)) (.agg (cells8 b))).run P w = .ok (a == b) w := by
  rw [run_equalIn_array w 9999 _ _ hu hi, eqItems8 9998 he hc a b n ha hb _ (fun j hj => List.mem_range.1 hj), all_eq a b n ha hb]
theorem eql8 {P : Program} {w : World} {t e : TypeId} {n : Nat} {i : TypeInfo} (hu : P.underlying t = some (.array n e)) (hi : P.info? e = some i) (he : P.underlying e = some (.int .u8)) (hc : P.cellsOf e = 1) (a b : List Int) (ha : a.length = n) (hb : b.length = n) :
    (binOp .eql t (.agg (cells8 a)) (.agg (cells8 b))).run P w = .ok (.bool (a == b)) w := by
  rw [run_eql_struct, equal8 hu hi he hc a b ha hb]; rfl
theorem neq8 {P : Program} {w : World} {t e : TypeId} {n : Nat} {i : TypeInfo} (hu : P.underlying t = some (.array n e)) (hi : P.info? e = some i) (he : P.underlying e = some (.int .u8)) (hc : P.cellsOf e = 1) (a b : List Int) (ha : a.length = n) (hb : b.length = n) :
    (binOp .neq t (.agg (cells8 a)) (.agg (cells8 b))).run P w = .ok (.bool (!(a == b))) w := by
  rw [run_neq_struct, equal8 hu hi he hc a b ha hb]; rfl

end Go.Proofs.Ytchaegfdcdlfaaa.X

/- Digests compared: the walks. -/
namespace Go.Proofs.Ytchaegfdcdlfaaa.X
set_option linter.unusedVariables false
set_option linter.unusedSimpArgs false
open Go.RowKit Go.Proofs.YtchaegfdcdlfaaaW.PrintWords Go.Proofs.YtchaegfdcdlfaaaW.PrintLast Go.Proofs.YtchaegfdcdlfaaaW.PrintMore

theorem Blk8.load {P : Program} {w : World} {g : Nat} {t : TypeId} {xs : List Int} (h : Blk8 w g t xs) (n : Nat) (hn : xs.length = n) : (loadCellsFrom ⟨g, 0, none⟩ 0 n #[]).run P w = .ok (cells8 xs) w := by
  have := run_loadCells_list (P := P) w ⟨g, 0, none⟩ (cells8 xs).toList (fun j v hv => by
    rw [add_plain, cell_of_row w g j _ t (0, 0) h]
    simpa [cells8] using hv)
  simpa [loadCells, cells8, hn] using this
theorem Blk8.reads {w : World} {g : Nat} {t : TypeId} {xs : List Int} (h : Blk8 w g t xs) (hm : xs.length ≤ 1000000000) : RdB w (some ⟨g, 0, none⟩) xs.length xs :=
  Kd.C_of_reads (d := (0 : Int)) (h1 := fun _ => rfl) ⟨rfl, by omega, fun _ => ⟨_, rfl, fun j hj => by rw [add_plain]; exact h.cell hj⟩⟩
theorem rdb_bytes {P : Program} {w : World} {A : Option Addr} {l : List Int} (h : RdB w A l.length l) (c : Nat) : (Extern.Bytes.bytesOf (.slice A l.length c)).run P w = .ok ⟨(Lib.bytesOf l).toArray⟩ w := by
  cases A with
  | none =>
    have h0 := rdb_nil h
    obtain rfl : l = [] := List.eq_nil_of_length_eq_zero h0
    simp [Extern.Bytes.bytesOf, Lib.bytesOf]
    rfl
  | some ad =>
    have := Lib.run_loadBytesX (P := P) w l ad .empty (fun j x hj => by
      have hjl : j < l.length := (List.getElem?_eq_some_iff.1 hj).1
      obtain ⟨ad2, e, hc⟩ := Kd.at_int h (j : Int) (by omega) (by omega)
      obtain rfl : ad = ad2 := by injection e
      rw [Int.toNat_natCast] at hc
      rw [hc]
      simp [rd, hj])
    simp only [Extern.Bytes.bytesOf]
    rw [this]
    simp [show ByteArray.empty.data = #[] from rfl]
theorem exec_load_row {P : Program} {a : Act} {o : Oper} {W : World} (ty : TypeId) (x : Operand) (ho : o.op = .load ty x) (g : Nat) (hx : a.eval x = .pointer (some ⟨g, 0, none⟩)) (t : TypeId) (cs : Array Value) (fr : Nat × Nat) (d : TypeDesc) (hg : W.heap[g]? = some (.cells cs t fr))
    (hu : P.underlying ty = some d) (hd : (match d with | .struct _ | .array _ _ => true | _ => false) = true) (hi : (P.info? ty).map (·.size) = some cs.size) : (execOp a.eval o).run P W = .ok (.value (.agg cs)) W := by
  have h := run_loadVar_row (P := P) W g t ty cs fr d hg hu hd hi
  simp only [execOp, ho, hx, Instr.loadAt, Instr.sureAddr, Sem.run_bind, Sem.run_pure, Result.andThen_ok, h]
theorem wpList_load_row_g {P : Program} {ops : Array Oper} {rest : List Oper} {o : Oper} {a : Act} {w : World} {Q : Exit → Act → World → Prop} (hgd : Region.wanted o (yielded ops a.tmps) = true) (ty : TypeId) (x : Operand) (ho : o.op = .load ty x)
    (g : Nat) (hx : a.eval x = .pointer (some ⟨g, 0, none⟩)) (t : TypeId) (cs : Array Value) (fr : Nat × Nat) (d : TypeDesc) (hg : w.heap[g]? = some (.cells cs t fr))
    (hu : P.underlying ty = some d) (hd : (match d with | .struct _ | .array _ _ => true | _ => false) = true) (hi : (P.info? ty).map (·.size) = some cs.size)
    (h : wpList P ops Q rest (a.put o.dst (.agg cs)) w) : wpList P ops Q (o :: rest) a w := by
  unfold wpList
  rw [if_pos hgd]
  exact .inl (wp_load_row ty x ho g hx t cs fr d hg hu hd hi h)
theorem exec_load24 {a : Act} {o : Oper} {W : World} (x : Operand) (ho : o.op = .load 28 x) (g : Nat) (hx : a.eval x = .pointer (some ⟨g, 0, none⟩)) (xs : List Int) (hl : xs.length = 32) (h : Blk8 W g 28 xs) : (execOp a.eval o).run Try.prog W = .ok (.value (.agg (cells8 xs))) W :=
  exec_load_row 28 x ho g hx 28 (cells8 xs) (0, 0) _ h Try.underlying28 rfl (by rw [cells8_size, hl]; kernel_rfl)
def cmpL (a b : List Int) : Int := Lib.compareBytes (Lib.bytesOf a) (Lib.bytesOf b)
def lessL (a b : List Int) : Bool := !(a == b) && decide (cmpL a b < 0)

set_option maxHeartbeats 1000000 in
set_option maxRecDepth 100000 in
theorem compare_call (A B : Option Addr) (c d : Nat) (a b : List Int) (w : World) (ha : RdB w A a.length a) (hb : RdB w B b.length b) :
    Calls Try.prog 151 #[.slice A a.length c, .slice B b.length d] w fun e w' => e = .returned (.int .i64 (cmpL a b)) ∧ w = w' := by
  have hrun : (Extern.BytealgCompare.compare #[.slice A a.length c, .slice B b.length d]).run Try.prog w = .ok (.int .i64 (cmpL a b)) w := by
    change Sem.run Try.prog (do pure (goInt (Extern.BytealgCompare.cmp (← Extern.Bytes.bytesOf (.slice A a.length c)) (← Extern.Bytes.bytesOf (.slice B b.length d))))) w = _
    simp only [Sem.run_bind, rdb_bytes ha, rdb_bytes hb, Sem.run_pure, Result.andThen]
    rw [Lib.cmp_eq]
    rfl
  have HRUN := Aside0.mk hrun
  clear hrun ha hb
  go_enter Try.func151, Try.ntmps151
  go_wp2
  rw [run_callFunc_extern Try.func175 (by kernel_rfl) (by kernel_rfl) (by kernel_rfl) (e := Extern.BytealgCompare.compare) (by kernel_rfl), HRUN.out]
  simp only [Result.andThen]
  rw [Oper.upon_value]
  go_wp2
  go_ret
  exact ⟨rfl, rfl⟩

theorem cells5 : Try.prog.cellsOf 5 = 1 := by kernel_rfl
theorem Try.info5i : Try.prog.info? 5 = some Try.t5 := by kernel_rfl
theorem guard24 : Try.prog.eqGuardType Try.prog.depth 28 = false := by kernel_rfl
theorem cmp32_call (g h : Nat) (a b : List Int) (w : World) (ha : Blk8 w g 28 a) (hb : Blk8 w h 28 b) (hal : a.length = 32) (hbl : b.length = 32) :
    Calls Try.prog 151 #[.slice (some ⟨g, 0, none⟩) 32 32, .slice (some ⟨h, 0, none⟩) 32 32] w fun e w' => e = .returned (.int .i64 (cmpL a b)) ∧ w = w' := by
  have := compare_call (some ⟨g, 0, none⟩) (some ⟨h, 0, none⟩) 32 32 a b w (ha.reads (by omega)) (hb.reads (by omega))
  rw [hal, hbl] at this
  exact this
theorem shaOf_length (l : List Int) : (shaOf l).length = 32 := outAt_length _ _
theorem store8 {w : World} {g : Nat} {t : TypeId} {old xs : List Int} (h : Blk8 w g t old) (hl : old.length = xs.length) : (storeCells ⟨g, 0, none⟩ (cells8 xs).toList).run Try.prog w = .ok () (w.setRow g (cells8 xs)) := by
  have := run_storeCells_from (P := Try.prog) g t (cells8 xs).toList 0 _ w h (by simp [cells8, hl]) (fun v hv => (Array.all_eq_true_iff_forall_mem.1 (cells8_all xs)) v (by simpa using hv))
  simpa using this
theorem below_row {w W : World} {g : Nat} {cs : Array Value} (h : Below w.heap.size w W) (hg : w.heap.size ≤ g) : Below w.heap.size w (W.setRow g cs) :=
  h.trans ⟨rfl, rfl, rfl, by rw [setRow_size]; exact Nat.le_refl _, fun k hk => by rw [setRow_other _ _ _ _ (by omega)]⟩
set_option maxHeartbeats 1000000 in
set_option maxRecDepth 100000 in
theorem of_call (s : ByteArray) (w : World) (hs : s.size ≤ 100000000) :
    Calls Try.prog 40 #[.string s] w fun e w' => e = .returned (.agg (cells8 (shaOf (bytesOf s)))) ∧ Below w.heap.size w w' := by
  have hcv := fun W => print_bytes (P := Try.prog) 9 40 5 Try.underlying9 Try.underlying40 Try.underlying5 s W
  have hz : (cells8 (shaOf (bytesOf s))).size = 32 := by rw [cells8_size, shaOf_length]
  obtain ⟨d, hd⟩ : ∃ d, d = shaOf (bytesOf s) := ⟨_, rfl⟩
  rw [← hd] at hz ⊢
  have HD : Aside0 (shaOf (bytesOf s) = d) := ⟨hd.symm⟩
  clear hd
  go_enter Try.func40, Try.ntmps40
  go_wp2_with fail
  obtain ⟨wA, hwA⟩ : ∃ wA : World, wA = Lib.bytesWorld (w.alloc (.cells #[.int .u8 0, .int .u8 0, .int .u8 0, .int .u8 0, .int .u8 0, .int .u8 0, .int .u8 0, .int .u8 0, .int .u8 0, .int .u8 0, .int .u8 0, .int .u8 0, .int .u8 0, .int .u8 0, .int .u8 0, .int .u8 0, .int .u8 0, .int .u8 0, .int .u8 0, .int .u8 0, .int .u8 0, .int .u8 0, .int .u8 0, .int .u8 0, .int .u8 0, .int .u8 0, .int .u8 0, .int .u8 0, .int .u8 0, .int .u8 0, .int .u8 0, .int .u8 0] 28 (0, 0))) 5 s := ⟨_, rfl⟩
  have HZA : Aside0 (Blk8 wA w.heap.size 28 (List.replicate 32 0)) := ⟨by rw [hwA]; unfold Blk8; rw [Lib.bytesWorld_at_old _ _ _ _ (by simp)]; exact heap_alloc_new w _⟩
  have HBA : Aside0 (Below w.heap.size w wA) := ⟨by rw [hwA]; exact bytes_below (below_alloc (Below.refl _ _) _) (by simp) _ _⟩
  have HRA : Aside0 (RdB wA (some ⟨w.heap.size + 1, 0, none⟩) s.size (bytesOf s)) := ⟨by rw [hwA]; have h_ := bytes_reads (w.alloc (.cells #[.int .u8 0, .int .u8 0, .int .u8 0, .int .u8 0, .int .u8 0, .int .u8 0, .int .u8 0, .int .u8 0, .int .u8 0, .int .u8 0, .int .u8 0, .int .u8 0, .int .u8 0, .int .u8 0, .int .u8 0, .int .u8 0, .int .u8 0, .int .u8 0, .int .u8 0, .int .u8 0, .int .u8 0, .int .u8 0, .int .u8 0, .int .u8 0, .int .u8 0, .int .u8 0, .int .u8 0, .int .u8 0, .int .u8 0, .int .u8 0, .int .u8 0, .int .u8 0] 28 (0, 0))) 5 s (by omega); rw [show (w.alloc (.cells #[.int .u8 0, .int .u8 0, .int .u8 0, .int .u8 0, .int .u8 0, .int .u8 0, .int .u8 0, .int .u8 0, .int .u8 0, .int .u8 0, .int .u8 0, .int .u8 0, .int .u8 0, .int .u8 0, .int .u8 0, .int .u8 0, .int .u8 0, .int .u8 0, .int .u8 0, .int .u8 0, .int .u8 0, .int .u8 0, .int .u8 0, .int .u8 0, .int .u8 0, .int .u8 0, .int .u8 0, .int .u8 0, .int .u8 0, .int .u8 0, .int .u8 0, .int .u8 0] 28 (0, 0))).heap.size = w.heap.size + 1 from Array.size_push ..] at h_; exact Kd.C_of_reads (h1 := fun _ => rfl) h_⟩
  rw [← hwA]
  clear hwA
  obtain ⟨cc, hcc⟩ : ∃ cc, cc = grownCap (w.alloc (.cells #[.int .u8 0, .int .u8 0, .int .u8 0, .int .u8 0, .int .u8 0, .int .u8 0, .int .u8 0, .int .u8 0, .int .u8 0, .int .u8 0, .int .u8 0, .int .u8 0, .int .u8 0, .int .u8 0, .int .u8 0, .int .u8 0, .int .u8 0, .int .u8 0, .int .u8 0, .int .u8 0, .int .u8 0, .int .u8 0, .int .u8 0, .int .u8 0, .int .u8 0, .int .u8 0, .int .u8 0, .int .u8 0, .int .u8 0, .int .u8 0, .int .u8 0, .int .u8 0] 28 (0, 0))) s.size 0 5 := ⟨_, rfl⟩
  have HCC : Aside0 (s.size ≤ cc) := ⟨by rw [hcc]; exact grownCap_ge _ _ _ _⟩
  rw [← hcc]
  clear hcc
  have hsum := sum_call (some ⟨w.heap.size + 1, 0, none⟩) cc (bytesOf s) wA (by rw [bytesOf_length]; exact HRA.out) (by rw [bytesOf_length]; exact HCC.out) (by rw [bytesOf_length]; exact hs)
  rw [bytesOf_length, HD.out] at hsum
  refine hsum.mono ?_
  clear hsum
  rintro e w2 ⟨rfl, hb2⟩
  have HZ2 : Aside0 (Blk8 w2 w.heap.size 28 (List.replicate 32 0)) := ⟨Blk8.below HZA.out hb2 (Blk8.lt HZA.out)⟩
  have HB2 : Aside0 (Below w.heap.size w w2) := ⟨below_step HBA.out hb2⟩
  have HL2 : Aside0 (d.length = 32) := ⟨by rw [← HD.out, shaOf_length]⟩
  have hst := store8 (xs := d) HZ2.out (by rw [HL2.out]; rfl)
  clear hb2
  go_wp2_with fail
  refine bodyPost_ret (v := .agg (cells8 d)) ?_ rfl ⟨rfl, below_row HB2.out (Nat.le_refl _)⟩
  exact results_cell_row (P := Try.prog) Try.results40 _ _ w.heap.size 28 (cells8 d) (0, 0) _ rfl (setRow_heap _ _ _ _ _ _ HZ2.out) rfl (by kernel_rfl) (by rw [hz]; kernel_rfl)

end Go.Proofs.Ytchaegfdcdlfaaa.X

/- Arrays of bytes as a kind; block signatures: their cells, their load, when two are the same, what a map's key reads as. -/
namespace Go.Proofs.Ytchaegfdcdlfaaa.X
set_option linter.unusedVariables false
set_option linter.unusedSimpArgs false
open Go.RowKit Go.Maps Go.Proofs.YtchaegfdcdlfaaaW.PrintWords Go.Proofs.YtchaegfdcdlfaaaW.PrintLast Go.Proofs.YtchaegfdcdlfaaaW.PrintMore

/-- An array of n bytes. -/
def arrK (n : Nat) : Kd (List Int) where
  sz := n
  E := []
  K := fun _ x cs => cs = nums .u8 x ∧ x.length = n
  M := fun _ _ _ x cs => cs = nums .u8 x ∧ x.length = n
  K_len := fun h => by rw [h.1]; simp [nums, h.2]
  K_one := fun h u hu => by
    rw [h.1] at hu
    simp only [nums, List.mem_map] at hu
    obtain ⟨q, _, rfl⟩ := hu
    rfl
  K_below := fun _ h => h
  K_of_M := fun h => h
  M_mono := fun _ h => h
  M_bound := fun h => h
  M_move := fun _ h => h
  M_lower := fun _ h => h

/-- A block's signature: its rolling check, its digest. -/
abbrev Sg := Int × List Int
def sgL (s : Sg) : List Value := .int .u32 s.1 :: nums .u8 s.2
def sgA (s : Sg) : Array Value := (sgL s).toArray
structure SgOk (s : Sg) : Prop where
  len : s.2.length = 32
  wf8 : ∀ x ∈ s.2, (Lit.int .u8 x).wf = true
  wf32 : (Lit.int .u32 s.1).wf = true
def sgK : Kd Sg := Kd.pair (Kd.int .u32) (arrK 32)
theorem sgK_sz : sgK.sz = 33 := rfl
theorem sgL_length {s : Sg} (h : s.2.length = 32) : (sgL s).length = 33 := by simp [sgL, nums, h]
theorem sgK_K {w : World} {s : Sg} {cs : List Value} : sgK.K w s cs ↔ cs = sgL s ∧ s.2.length = 32 := by
  constructor
  · rintro ⟨c0, c1, rfl, h0, h1, h2⟩
    obtain rfl : c0 = [.int .u32 s.1] := h0
    subst h1
    exact ⟨rfl, h2⟩
  · rintro ⟨rfl, h⟩
    exact ⟨[.int .u32 s.1], _, rfl, rfl, rfl, h⟩
theorem sgK_M {w : World} {base : Nat} {ok : Nat → Prop} {s : Sg} (h : s.2.length = 32) : sgK.M w base ok s (sgL s) := ⟨[.int .u32 s.1], _, rfl, rfl, rfl, h⟩

/-- A struct's or an array's load, out of the cells at its place. -/
theorem run_loadVar_cells {P : Program} (w : World) (a : Addr) (ty : TypeId) (cs : Array Value) (d : TypeDesc) (hc : ∀ j v, cs[j]? = some v → w.cell? (a.add j) = some v)
    (hu : P.underlying ty = some d) (hd : (match d with | .struct _ | .array _ _ => true | _ => false) = true) (hi : (P.info? ty).map (·.size) = some cs.size) :
    (loadVar ty a).run P w = .ok (.agg cs) w := by
  have hl := run_loadCells_list (P := P) w a cs.toList (fun j v hv => hc j v (by simpa using hv))
  simp only [Array.length_toList, Array.toArray_toList] at hl
  cases hq : P.info? ty with
  | none => simp [hq] at hi
  | some i =>
    have hs : i.size = cs.size := by simpa [hq] using hi
    have hagg : (isAgg ty).run P w = .ok true w := by
      unfold isAgg
      rw [Sem.run_bind, run_underlying hu w]
      cases d <;> simp_all
    simp [loadVar, Sem.run_bind, hagg, sizeOf, typeInfo, hq, hs, hl]
theorem wp_load_cells {P : Program} {o : Oper} {a : Act} {w : World} {K : Act → World → Prop} {Q : Exit → Act → World → Prop} (ty : TypeId) (x : Operand) (ho : o.op = .load ty x)
    (ad : Addr) (hx : a.eval x = .pointer (some ad)) (cs : Array Value) (d : TypeDesc) (hc : ∀ j v, cs[j]? = some v → w.cell? (ad.add j) = some v)
    (hu : P.underlying ty = some d) (hd : (match d with | .struct _ | .array _ _ => true | _ => false) = true) (hi : (P.info? ty).map (·.size) = some cs.size)
    (h : K (a.put o.dst (.agg cs)) w) : o.wp P a w K Q := by
  unfold Oper.wp execOp
  simp only [ho, hx, Instr.loadAt, Instr.sureAddr, Sem.run_bind, Sem.run_pure, Result.andThen_ok, run_loadVar_cells w ad ty cs d hc hu hd hi]
  exact h
theorem wpList_load_cells {P : Program} {ops : Array Oper} {rest : List Oper} {o : Oper} {a : Act} {w : World} {Q : Exit → Act → World → Prop} (hgd : o.guard = none) (ty : TypeId) (x : Operand) (ho : o.op = .load ty x)
    (ad : Addr) (hx : a.eval x = .pointer (some ad)) (cs : Array Value) (d : TypeDesc) (hc : ∀ j v, cs[j]? = some v → w.cell? (ad.add j) = some v)
    (hu : P.underlying ty = some d) (hd : (match d with | .struct _ | .array _ _ => true | _ => false) = true) (hi : (P.info? ty).map (·.size) = some cs.size)
    (h : wpList P ops Q rest (a.put o.dst (.agg cs)) w) : wpList P ops Q (o :: rest) a w :=
  wpList_plain hgd fun _ hK => wp_load_cells ty x ho ad hx cs d hc hu hd hi (hK _ _ h)
theorem exec_load_cells {P : Program} {a : Act} {o : Oper} {W : World} (ty : TypeId) (x : Operand) (ho : o.op = .load ty x)
    (ad : Addr) (hx : a.eval x = .pointer (some ad)) (cs : Array Value) (d : TypeDesc) (hc : ∀ j v, cs[j]? = some v → W.cell? (ad.add j) = some v)
    (hu : P.underlying ty = some d) (hd : (match d with | .struct _ | .array _ _ => true | _ => false) = true) (hi : (P.info? ty).map (·.size) = some cs.size) :
    (execOp a.eval o).run P W = .ok (.value (.agg cs)) W := by
  unfold execOp
  simp only [ho, hx, Instr.loadAt, Instr.sureAddr, Sem.run_bind, Sem.run_pure, Result.andThen_ok, run_loadVar_cells W ad ty cs d hc hu hd hi]

/-- The i-th signature of a row that is read. -/
theorem sgs_at {W : World} {A : Option Addr} {n : Nat} {l : List Sg} (h : sgK.C W A n l) {i : Nat} (hi : i < n) :
    ∃ ad, A = some ad ∧ (l.getD i (0, [])).2.length = 32 ∧ ∀ j v, (sgA (l.getD i (0, [])))[j]? = some v → W.cell? ((ad.add (i * 33)).add j) = some v := by
  obtain ⟨ad, c, rfl, hc, hk, hcell⟩ := Kd.C_get h (0, []) (i : Int) (by omega) (by omega)
  obtain ⟨rfl, h32⟩ := sgK_K.1 hk
  refine ⟨ad, rfl, by simpa using h32, fun j v hv => ?_⟩
  have := hcell j v (by simpa [sgA] using hv)
  rw [show (ad.add (i * 33)).add j = ad.add (i * 33 + j) by unfold Addr.add; by_cases h1 : i * 33 = 0 <;> by_cases h2 : j = 0 <;> simp [h1, h2, Nat.add_assoc]]
  simpa [sgK_sz] using this

theorem infoSig : (Try.prog.info? 30).map (·.size) = some 33 := by kernel_rfl
theorem zeroSig : (Try.prog.info? 30).map (fun i => (i.zero, i.size, i.bytes)) = some (some (.agg (sgA (0, List.replicate 32 0))), 33, 36) := by kernel_rfl
theorem cellsSig : Try.prog.cellsOf 30 = 33 := by kernel_rfl
theorem cellsDig : Try.prog.cellsOf 28 = 32 := by kernel_rfl
theorem cellsU32 : Try.prog.cellsOf 26 = 1 := by kernel_rfl
theorem keySig : Try.prog.keyTypeAt 3 30 = true := by kernel_rfl
theorem keySigT : Try.prog.keyType 30 = true := by kernel_rfl

theorem mapM_some_ {α β : Type} {f : α → Option β} {g : α → β} : ∀ (l : List α), (∀ a ∈ l, f a = some (g a)) → l.mapM f = some (l.map g)
  | [], _ => by simp
  | a :: l, h => by
    rw [List.mapM_cons, h a (by simp), mapM_some_ l (fun b hb => h b (by simp [hb]))]
    rfl
theorem flatten_single {α β : Type} (f : α → β) : ∀ l : List α, (l.map fun x => [f x]).flatten = l.map f
  | [] => rfl
  | a :: l => by simp [flatten_single f l]

/-- An array's literals. -/
theorem lits_arr {P : Program} {t e : TypeId} {n : Nat} (hu : P.underlying t = some (.array n e)) (he : P.underlying e = some (.int .u8)) (hc : P.cellsOf e = 1) (ht : P.cellsOf t = n) (D : Nat) (l : List Int) (hl : l.length = n) (hw : ∀ x ∈ l, (Lit.int .u8 x).wf = true) :
    P.keyLits (D + 2) t (nums .u8 l) = some (l.map (Lit.int .u8)) := by
  unfold Program.keyLits
  rw [hu]
  simp only [ht, hc, Nat.mul_one]
  rw [if_pos (by simp [nums, hl]), mapM_some_ (g := fun i => [Lit.int .u8 (l.getD i 0)])]
  · rw [Option.map_some, flatten_single]
    congr 1
    apply List.ext_getElem
    · simp [hl]
    · intro i h1 h2
      simp at h1 h2
      simp [List.getD_eq_getElem?_getD, h2]
  · intro i hi
    have hi' : i < l.length := by rw [hl]; exact List.mem_range.1 hi
    have hd : ((nums .u8 l).drop i).take 1 = [Value.int .u8 (l.getD i 0)] := by
      apply List.ext_getElem?
      intro j
      cases j with
      | zero => simp [nums, hi', List.getD_eq_getElem?_getD]
      | succ j => simp [nums]; omega
    rw [hd]
    unfold Program.keyLits
    rw [he]
    have hwf : (Lit.int .u8 (l.getD i 0)).wf = true := hw _ (by simp [List.getD_eq_getElem?_getD, hi'])
    simp only [hwf, and_self, if_true]
/-- A signature's literals. -/
def sgLits (s : Sg) : List Lit := Lit.int .u32 s.1 :: s.2.map (Lit.int .u8)
theorem lits_sg (s : Sg) (h : SgOk s) (D : Nat) : Try.prog.keyLits (D + 3) 30 (sgL s) = some (sgLits s) := by
  have h1 := lits_arr (P := Try.prog) Try.underlying28 Try.underlying5 cells5 cellsDig D s.2 h.len h.wf8
  have h0 : Try.prog.keyLits (D + 2) 26 [.int .u32 s.1] = some [Lit.int .u32 s.1] := by
    unfold Program.keyLits
    rw [Try.underlying26]
    simp only [h.wf32, and_self, if_true]
  have hl : (sgL s).length = 33 := sgL_length h.len
  have e0 : ((sgL s).drop 0).take 1 = [.int .u32 s.1] := rfl
  have e1 : ((sgL s).drop 1).take 32 = nums .u8 s.2 := by
    show (nums .u8 s.2).take 32 = _
    exact List.take_of_length_le (by simp [nums, h.len])
  unfold Program.keyLits
  rw [Try.underlying30]
  simp only [hl, cellsSig]
  rw [if_pos (by refine ⟨trivial, by kernel_rfl⟩)]
  simp only [List.mapM_cons, List.mapM_nil, cellsDig, cellsU32, e0, e1, h0, h1, Option.pure_def, Option.bind_eq_bind, Option.bind_some, Option.map_some]
  simp [sgLits]
theorem sgLits_inj {a b : Sg} (h : sgLits a = sgLits b) : a = b := by
  unfold sgLits at h
  injection h with h1 h2
  injection h1 with _ h1
  have := (List.map_inj_right (fun (x y : Int) (e : Lit.int .u8 x = Lit.int .u8 y) => by injection e)).1 h2
  exact Prod.ext h1 this
theorem formedSg (s : Sg) (h : SgOk s) : (Value.agg (sgA s)).formed Try.prog 30 = true := by
  simp only [Value.formed, Try.underlying30]
  simp [sgA, sgL_length h.len, cellsSig]
/-- Two signatures compared. -/
theorem equal_sg (a b : Sg) (ha : SgOk a) (hb : SgOk b) (w : World) : (Op.equalIn 10000 30 (.agg (sgA a)) (.agg (sgA b))).run Try.prog w = .ok (a == b) w := by
  obtain ⟨N, hN⟩ : ∃ N, N = 9997 := ⟨_, rfl⟩
  obtain ⟨r, hr, hiff⟩ := run_equalIn_deep (P := Try.prog) N 3 30 keySig w 3 3 (.agg (sgA a)) (.agg (sgA b)) _ _ (formedSg a ha) (formedSg b hb) (by simpa [Value.cells, sgA] using lits_sg a ha 0) (by simpa [Value.cells, sgA] using lits_sg b hb 0)
  have key : ∀ n, n = 9997 + 3 → (Op.equalIn n 30 (.agg (sgA a)) (.agg (sgA b))).run Try.prog w = .ok r w := fun n hn => by rw [hn, ← hN]; exact hr
  have hab : r = (a == b) := by
    rw [Bool.eq_iff_iff, hiff, beq_iff_eq]
    exact ⟨sgLits_inj, fun h => by rw [h]⟩
  rw [key 10000 (by decide), hab]
theorem eql_sg (a b : Sg) (ha : SgOk a) (hb : SgOk b) (w : World) : (binOp .eql 30 (.agg (sgA a)) (.agg (sgA b))).run Try.prog w = .ok (.bool (a == b)) w := by
  rw [run_eql_struct, equal_sg a b ha hb]; rfl
theorem neq_sg (a b : Sg) (ha : SgOk a) (hb : SgOk b) (w : World) : (binOp .neq 30 (.agg (sgA a)) (.agg (sgA b))).run Try.prog w = .ok (.bool (!(a == b))) w := by
  rw [run_neq_struct, equal_sg a b ha hb]; rfl
/-- A map's key. -/
def sgKey (s : Sg) : Lit := .string (keyBytes (sgLits s))
theorem keyOf_sg (s : Sg) (h : SgOk s) : keyOf Try.prog 30 (.agg (sgA s)) = some (sgKey s) := by
  unfold keyOf
  rw [Try.underlying30]
  simp only [keySigT, formedSg s h, Bool.and_self, if_true]
  have : Try.prog.types.size + 1 = (Try.prog.types.size - 2) + 3 := by
    have : 2 ≤ Try.prog.types.size := of_decide_eq_true (by kernel_rfl)
    omega
  rw [this]
  have h2 := lits_sg s h (Try.prog.types.size - 2)
  simp only [Value.cells, sgA, h2, Option.map_some, sgKey]
theorem laidOutT : laidOutB Try.prog = true := by kernel_rfl
theorem sgLaw : Keyed Try.prog 30 := Keyed.of_law (deep_law_laid laidOutT (m := 3) (by omega) (of_decide_eq_true (by kernel_rfl)) keySig (by rw [Try.underlying30]))
theorem sgKey_inj {a b : Sg} (ha : SgOk a) (hb : SgOk b) (h : sgKey a = sgKey b) : a = b := by
  have := sgLaw.inj (keyOf_sg a ha) (h ▸ keyOf_sg b hb)
  injection this with this
  have h2 : sgL a = sgL b := by simpa [sgA] using congrArg Array.toList this
  unfold sgL at h2
  injection h2 with h3 h4
  injection h3 with _ h3
  have := (List.map_inj_right (fun (x y : Int) (e : Value.int .u8 x = Value.int .u8 y) => by injection e)).1 h4
  exact Prod.ext h3 this
end Go.Proofs.Ytchaegfdcdlfaaa.X

/- What 'build' and 'buildSlice' lay: parts that stand one behind the other. -/
namespace Go.Proofs.Ytchaegfdcdlfaaa.X
set_option linter.unusedVariables false
set_option linter.unusedSimpArgs false
open Go.RowKit Go.Proofs.YtchaegfdcdlfaaaW.PrintWords Go.Proofs.YtchaegfdcdlfaaaW.PrintLast Go.Proofs.YtchaegfdcdlfaaaW.PrintMore

theorem fill_fold (off : Nat) : ∀ (v : List Value) (n : Nat) (cs : Array Value), off + n + v.length ≤ cs.size →
    ((v.zipIdx n).foldl (fun cs (p : Value × Nat) => cs.setIfInBounds (off + p.2) p.1) cs).toList = cs.toList.take (off + n) ++ v ++ cs.toList.drop (off + n + v.length)
  | [], n, cs, h => by simp
  | x :: v, n, cs, h => by
    simp only [List.length_cons] at h
    rw [List.zipIdx_cons, List.foldl_cons, fill_fold off v (n + 1) _ (by simp; omega)]
    have hn : off + n < cs.toList.length := by simp; omega
    have hset : (cs.setIfInBounds (off + n) x).toList = cs.toList.take (off + n) ++ x :: cs.toList.drop (off + n + 1) := by
      rw [Array.toList_setIfInBounds, List.set_eq_take_append_cons_drop, if_pos hn]
    have hl : (cs.toList.take (off + n)).length = off + n := by simp; omega
    have hB : cs.toList.drop (off + n + (x :: v).length) = (cs.toList.drop (off + n + 1)).drop v.length := by
      rw [List.drop_drop]; congr 1; simp; omega
    rw [hset, hB]
    generalize cs.toList.take (off + n) = A at hl
    generalize cs.toList.drop (off + n + 1) = B
    rw [show off + (n + 1) + v.length = A.length + (v.length + 1) by rw [hl]; omega, List.drop_length_add_append, show off + (n + 1) = A.length + 1 by rw [hl]; omega, List.take_length_add_append]
    simp
/-- The parts' places: one behind the other, from 'off' on. -/
def Laid (place : Nat → Option (Nat × Nat)) : Nat → List (Nat × Value) → Prop
  | _, [] => True
  | off, (i, v) :: rest => place i = some (off, v.cells.size) ∧ Laid place (off + v.cells.size) rest
def partsL : List (Nat × Value) → List Value
  | [] => []
  | (_, v) :: rest => v.cells.toList ++ partsL rest
theorem fill_laid (place : Nat → Option (Nat × Nat)) : ∀ (parts : List (Nat × Value)) (off : Nat) (cells : Array Value), Laid place off parts → off + (partsL parts).length = cells.size →
    Instr.fill place cells parts = some (cells.toList.take off ++ partsL parts).toArray
  | [], off, cells, _, h => by
    simp only [partsL, List.length_nil, Nat.add_zero] at h
    simp only [Instr.fill, partsL, List.append_nil, List.take_of_length_le (show cells.toList.length ≤ off by simp; omega), Array.toArray_toList]
  | (i, v) :: rest, off, cells, hl, h => by
    obtain ⟨hp, hr⟩ := hl
    simp only [partsL, List.length_append, Array.length_toList] at h
    unfold Instr.fill
    simp only [hp]
    rw [if_neg (by simp; omega)]
    have hf := fill_fold off v.cells.toList 0 cells (by simp; omega)
    have he : ((v.cells.toList.zipIdx 0).foldl (fun cs (p : Value × Nat) => cs.setIfInBounds (off + p.2) p.1) cells) = v.cells.zipIdx.foldl (fun cs (x : Value × Nat) => match x with | (c, j) => cs.setIfInBounds (off + j) c) cells := by
      rw [← Array.foldl_toList, Array.toList_zipIdx]
    rw [he] at hf
    generalize Array.foldl _ _ _ = cs' at hf
    simp only [Nat.add_zero, Array.length_toList] at hf
    have hs : cs'.size = cells.size := by
      have := congrArg List.length hf
      simp at this
      omega
    rw [fill_laid place rest (off + v.cells.size) cs' hr (by rw [hs]; omega), hf]
    congr 2
    have hl2 : (cells.toList.take off ++ v.cells.toList).length = off + v.cells.size := by simp; omega
    rw [show off + v.cells.size = (cells.toList.take off ++ v.cells.toList).length + 0 by rw [hl2]; rfl, List.take_length_add_append, List.take_zero, List.append_nil, partsL, List.append_assoc]
theorem fill_whole (place : Nat → Option (Nat × Nat)) (parts : List (Nat × Value)) (cells : Array Value) (h : Laid place 0 parts) (hl : (partsL parts).length = cells.size) : Instr.fill place cells parts = some (partsL parts).toArray := by
  have := fill_laid place parts 0 cells h (by omega)
  simpa using this
/-- A slice literal of one struct. -/
theorem run_buildSlice_one {P : Program} (w : World) (t e : TypeId) (n : Nat) (cs : Array Value) (z : Value) (hu : P.underlying t = some (.slice e)) (hi : (P.info? e).map (fun i => (i.zero, i.size)) = some (some z, n)) (hn : n = cs.size) (h0 : 0 < n) (h1 : n ≤ 1000000) :
    (Instr.buildSlice t 1 #[(0, .agg cs)]).run P w = .ok (.slice (some ⟨w.heap.size, 0, none⟩) 1 1) (w.alloc (.cells cs e)) := by
  obtain ⟨ie, hie, hz⟩ := Option.map_eq_some_iff.1 hi
  simp only [Prod.mk.injEq] at hz
  obtain ⟨hz0, hz1⟩ := hz
  refine run_buildSlice w t e 1 _ cs ie z hu hie hz0 (by rw [hz1]; omega) (by rw [hz1]; omega) ?_
  have := fill_whole (fun i => some (i * ie.size, ie.size)) [(0, .agg cs)] ((Array.range (1 * ie.size)).map (z.cells[· % z.cells.size]!)) ⟨by simp [hz1, hn, Value.cells], trivial⟩ (by simp [partsL, Value.cells, hz1, hn])
  simpa [partsL, Value.cells] using this
theorem wpList_buildSlice_one {P : Program} {ops : Array Oper} {rest : List Oper} {o : Oper} {a : Act} {w : World} {Q : Exit → Act → World → Prop} (hg : o.guard = none) (t e : TypeId) (x : Operand) (ho : o.op = .buildSlice t 1 #[(0, x)])
    (n : Nat) (cs : Array Value) (z : Value) (hu : P.underlying t = some (.slice e)) (hi : (P.info? e).map (fun i => (i.zero, i.size)) = some (some z, n)) (hn : n = cs.size) (h0 : 0 < n) (h1 : n ≤ 1000000) (hx : a.eval x = .agg cs)
    (h : wpList P ops Q rest (a.put o.dst (.slice (some ⟨w.heap.size, 0, none⟩) 1 1)) (w.alloc (.cells cs e))) : wpList P ops Q (o :: rest) a w := by
  obtain ⟨ie, hie, hz⟩ := Option.map_eq_some_iff.1 hi
  simp only [Prod.mk.injEq] at hz
  obtain ⟨hz0, hz1⟩ := hz
  refine wpList_buildSlice hg t e 1 _ ho cs ie z hu hie hz0 (by rw [hz1]; omega) (by rw [hz1]; omega) ?_ h
  have := fill_whole (fun i => some (i * ie.size, ie.size)) [(0, .agg cs)] ((Array.range (1 * ie.size)).map (z.cells[· % z.cells.size]!)) ⟨by simp [hz1, hn, Value.cells], trivial⟩ (by simp [partsL, Value.cells, hz1, hn])
  simp only [List.map_toArray, List.map_cons, List.map_nil, hx]
  simpa [partsL, Value.cells] using this
/-- A struct built: the cells said. -/
theorem wpList_build_cells {P : Program} {ops : Array Oper} {rest : List Oper} {o : Oper} {a : Act} {w : World} {Q : Exit → Act → World → Prop} (hg : o.guard = none) (t : TypeId) (parts : Array (Nat × Operand)) (ho : o.op = .build t parts)
    (cs : Array Value) (hf : P.built t (parts.map fun (i, x) => (i, a.eval x)).toList = some cs) (h : wpList P ops Q rest (a.put o.dst (.agg cs)) w) : wpList P ops Q (o :: rest) a w :=
  wpList_build hg t parts ho (by rw [hf]; rfl) (by rw [hf]; exact h)
theorem zeroSig2 : (Try.prog.info? 30).map (fun i => (i.zero, i.size)) = some (some (.agg (sgA (0, List.replicate 32 0))), 33) := by kernel_rfl
/-- A signature, built. -/
theorem built_sg (x : Int) (d : List Int) (hd : d.length = 32) : Try.prog.built 30 [(0, .int .u32 x), (1, .agg (cells8 d))] = some (sgA (x, d)) := by
  obtain ⟨i, hi, hz⟩ := Option.map_eq_some_iff.1 zeroSig
  simp only [Prod.mk.injEq] at hz
  obtain ⟨hz0, hz1, hz2⟩ := hz
  unfold Program.built
  have e0 : (Try.prog.info? 26).map (·.size) = some 1 := by kernel_rfl
  have e1 : (Try.prog.info? 28).map (·.size) = some 32 := by kernel_rfl
  obtain ⟨i0, hi0, hs0⟩ := Option.map_eq_some_iff.1 e0
  obtain ⟨i1, hi1, hs1⟩ := Option.map_eq_some_iff.1 e1
  rw [hi, Try.underlying30]
  simp only [hz0, List.mapM_cons, List.mapM_nil, hi0, hi1, Option.map_some, hs0, hs1, Option.pure_def, Option.bind_eq_bind, Option.bind_some]
  have := fill_whole (([(0, 1), (1, 32)] : List (Nat × Nat)).toArray[·]?) [(0, .int .u32 x), (1, .agg (cells8 d))] (sgA (0, List.replicate 32 0)) ⟨rfl, by simp [Value.cells, cells8, hd], trivial⟩ (by simp [partsL, Value.cells, cells8, hd, sgA, sgL, nums])
  rw [show (Value.agg (sgA (0, List.replicate 32 0))).cells = sgA (0, List.replicate 32 0) from rfl]
  refine Eq.trans this ?_
  simp [partsL, Value.cells, cells8, sgA, sgL, nums]
end Go.Proofs.Ytchaegfdcdlfaaa.X

namespace Go.Proofs.Ytchaegfdcdlfaaa.X
open Go.RowKit Go.Proofs.YtchaegfdcdlfaaaW.PrintWords Go.Proofs.YtchaegfdcdlfaaaW.PrintLast Go.Proofs.YtchaegfdcdlfaaaW.PrintMore
attribute [local go_sem] max2_int min2_int max_two min_two max_three min_three max_four min_four   -- for this text's walks alone
set_option linter.unusedVariables false
set_option linter.unusedSimpArgs false

/-! ### rolodexref09_Sum: function 77 -/
def rolodexref09_Sum.l0 : Nat → ByteArray → Int → Int → Int → Option (Int)
  | 0, _, _, _, _ => none
  | k + 1, x0, x3, x4, x5 => if x5 < (x0.size : Int) then (if 0 ≤ x5 then (rolodexref09_Sum.l0 k x0 (Int.tmod (wrap64 (x3 + (wrap64 (bt x0 x5)))) 65536) (Int.tmod (wrap64 (x4 + (wrap64 ((Int.tmod (wrap64 ((x0.size : Int) - x5)) 65536) * (wrap64 (bt x0 x5)))))) 65536) (wrap64 (x5 + 1))) else (none)) else (some ((wrap64 ((wrap64 (65536 * x4)) + x3)) % 4294967296))
def rolodexref09_Sum.f (k : Nat) (a0 : ByteArray) : Option (Int) := rolodexref09_Sum.l0 k a0 0 0 0
theorem rolodexref09_Sum.mono_l : ∀ k, (∀ y0 y1 y2 y3, LeO (rolodexref09_Sum.l0 k y0 y1 y2 y3) (rolodexref09_Sum.l0 (k + 1) y0 y1 y2 y3))
  | 0 => fun _ _ _ _ r h => by simp [rolodexref09_Sum.l0] at h
  | k + 1 => by
    have ih0 := rolodexref09_Sum.mono_l k
    · intro y0 y1 y2 y3
      unfold rolodexref09_Sum.l0
      repeat' first
      | (with_reducible exact ih0 _ _ _ _)
      | (with_reducible exact LeO.refl _)
      | (with_reducible exact LeO.none _)
      | (with_reducible refine LeO.ite ?_ ?_)
      | (with_reducible refine LeO.bind ?_ (fun _ => ?_))
      | exact ih0 _ _ _ _
      | exact LeO.none _
      | refine LeO.ite ?_ ?_
      | refine LeO.bind ?_ (fun _ => ?_)
theorem rolodexref09_Sum.mono : ∀ a0 k, LeO (rolodexref09_Sum.f k a0) (rolodexref09_Sum.f (k + 1) a0) := by
  intro a0 k
  have ih0 := rolodexref09_Sum.mono_l k
  unfold rolodexref09_Sum.f
  repeat' first
      | (with_reducible exact ih0 _ _ _ _)
      | (with_reducible exact LeO.refl _)
      | (with_reducible exact LeO.none _)
      | (with_reducible refine LeO.ite ?_ ?_)
      | (with_reducible refine LeO.bind ?_ (fun _ => ?_))
      | exact ih0 _ _ _ _
      | exact LeO.none _
      | refine LeO.ite ?_ ?_
      | refine LeO.bind ?_ (fun _ => ?_)
set_option maxHeartbeats 8000000 in
set_option maxRecDepth 100000 in
theorem rolodexref09_Sum.calls (k : Nat) (a0 : ByteArray) (r : Int) (w : World) (h : rolodexref09_Sum.f k a0 = some r) :
    Calls Try.prog 77 #[.string a0] w fun e w' => e = .returned (.int .u32 r) ∧ Drawn0 w w' := by
  have H : (rolodexref09_Sum.l0 k a0 0 0 0) = some r := h
  clear h
  have H' := Aside0.mk H
  clear H
  go_enter Try.func77, Try.ntmps77
  go_wp2
  go_loopg [3, 4, 5] k (fun kq v3 v4 v5 w' => ∃ (x3_1 : Int) (x4_1 : Int) (x5_1 : Int), v3 = .int .i64 x3_1 ∧ v4 = .int .i64 x4_1 ∧ v5 = .int .i64 x5_1 ∧ Aside0 (rolodexref09_Sum.l0 kq a0 x3_1 x4_1 x5_1 = some r) ∧ Aside0 (kq ≤ k) ∧ Drawn0 w w')
  case atStart => exact ⟨(0), (0), (0), (by first | rfl | (simp; done) | (simp [*]; done)), (by first | rfl | (simp; done) | (simp [*]; done)), (by first | rfl | (simp; done) | (simp [*]; done)), H', ⟨Nat.le_refl _⟩, by repeat (first | exact Drawn0.refl _ | apply Drawn0.step)⟩
  case round =>
    clear H'
    obtain ⟨x3_1, x4_1, x5_1, rfl, rfl, rfl, HA, HK1, ⟨m1, rfl⟩⟩ := hrel
    cases gk with
    | zero => exact absurd HA.out (by simp [rolodexref09_Sum.l0])
    | succ k1 =>
      have H := HA.out
      clear HA
      simp only [rolodexref09_Sum.l0] at H
      by_cases c2 : x5_1 < (a0.size : Int)
      · rw [if_pos c2] at H
        have c2b0 : decide (x5_1 < (a0.size : Int)) = true := decide_eq_true c2
        clear c2
        by_cases c3 : 0 ≤ x5_1
        · rw [if_pos c3] at H
          have c3b0 : decide (0 ≤ x5_1) = true := decide_eq_true c3
          clear c3
          have H' := Aside0.mk H
          clear H
          have p4 : 0 ≤ (x5_1 : Int) := of_decide_eq_true (by first | (with_reducible assumption) | assumption)
          have q4 : x5_1 < (a0.size : Int) := of_decide_eq_true (by first | (with_reducible assumption) | assumption)
          have hx4 := bt_at a0 x5_1
          replace p4 := eq_true p4
          replace q4 := eq_true q4
          have p5 : 0 ≤ (x5_1 : Int) := of_decide_eq_true (by first | (with_reducible assumption) | assumption)
          have q5 : x5_1 < (a0.size : Int) := of_decide_eq_true (by first | (with_reducible assumption) | assumption)
          have hx5 := bt_at a0 x5_1
          replace p5 := eq_true p5
          replace q5 := eq_true q5
          go_wp2
          go_roundg k1
          case measure => have := HK1.out; omega
          case rel => exact ⟨(Int.tmod (wrap64 (x3_1 + (wrap64 (bt a0 x5_1)))) 65536), (Int.tmod (wrap64 (x4_1 + (wrap64 ((Int.tmod (wrap64 ((a0.size : Int) - x5_1)) 65536) * (wrap64 (bt a0 x5_1)))))) 65536), (wrap64 (x5_1 + 1)), (by first | rfl | (simp; done) | (simp [*]; done)), (by first | rfl | (simp; done) | (simp [*]; done)), (by first | rfl | (simp; done) | (simp [*]; done)), H', ⟨by have := HK1.out; omega⟩, by repeat (first | exact Drawn0.refl _ | apply Drawn0.step)⟩
        · rw [if_neg c3] at H
          exact absurd H (by simp)
      · rw [if_neg c2] at H
        have c2b0 : decide (x5_1 < (a0.size : Int)) = false := decide_eq_false c2
        clear c2
        obtain rfl := Option.some.inj H
        go_wp2
        go_ret
        exact ⟨by first | rfl | (simp; done) | (simp [*]; done), by repeat (first | exact Drawn0.refl _ | apply Drawn0.step)⟩

end Go.Proofs.Ytchaegfdcdlfaaa.X

namespace Go.Proofs.Ytchaegfdcdlfaaa.X
open Go.RowKit Go.Proofs.YtchaegfdcdlfaaaW.PrintWords Go.Proofs.YtchaegfdcdlfaaaW.PrintLast Go.Proofs.YtchaegfdcdlfaaaW.PrintMore
attribute [local go_sem] max2_int min2_int max_two min_two max_three min_three max_four min_four   -- for this text's walks alone
set_option linter.unusedVariables false
set_option linter.unusedSimpArgs false

/-! ### roll_pair: function 81 -/
def roll_pair.f (a0 : Int) (a1 : Int) : Option (Int) := some (Go.bits .or .u32 ((((a1) % 4294967296) * 65536) % 4294967296) ((a0) % 4294967296))
set_option maxHeartbeats 8000000 in
set_option maxRecDepth 100000 in
theorem roll_pair.calls (a0 : Int) (a1 : Int) (r : Int) (w : World) (h : roll_pair.f a0 a1 = some r) :
    Calls Try.prog 81 #[.int .u16 a0, .int .u16 a1] w fun e w' => e = .returned (.int .u32 r) ∧ Drawn0 w w' := by
  have H : (some (Go.bits .or .u32 ((((a1) % 4294967296) * 65536) % 4294967296) ((a0) % 4294967296))) = some r := h
  clear h
  obtain rfl := Option.some.inj H
  go_enter Try.func81, Try.ntmps81
  go_wp2
  go_ret
  exact ⟨by first | rfl | (simp; done) | (simp [*]; done), by repeat (first | exact Drawn0.refl _ | apply Drawn0.step)⟩

end Go.Proofs.Ytchaegfdcdlfaaa.X

namespace Go.Proofs.Ytchaegfdcdlfaaa.X
open Go.RowKit Go.Proofs.YtchaegfdcdlfaaaW.PrintWords Go.Proofs.YtchaegfdcdlfaaaW.PrintLast Go.Proofs.YtchaegfdcdlfaaaW.PrintMore
attribute [local go_sem] max2_int min2_int max_two min_two max_three min_three max_four min_four   -- for this text's walks alone
set_option linter.unusedVariables false
set_option linter.unusedSimpArgs false

/-! ### roll_Sum: function 39 -/
def roll_Sum.l0 : Nat → ByteArray → Int → Int → Int → Int → Option (Int)
  | 0, _, _, _, _, _ => none
  | k + 1, x0, x3, x4, x7, x8 => if x8 < x7 then (if 0 ≤ x8 then (if x8 < (x0.size : Int) then (roll_Sum.l0 k x0 (IntKind.u16.wrap (x3 + (IntKind.u16.wrap (bt x0 x8)))) (IntKind.u16.wrap (x4 + (IntKind.u16.wrap (x3 + (IntKind.u16.wrap (bt x0 x8)))))) x7 (wrap64 (x8 + 1))) else (none)) else (none)) else ((roll_pair.f x3 x4).bind fun t101 => (some t101))
def roll_Sum.f (k : Nat) (a0 : ByteArray) : Option (Int) := roll_Sum.l0 k a0 0 0 (a0.size : Int) 0
theorem roll_Sum.mono_l : ∀ k, (∀ y0 y1 y2 y3 y4, LeO (roll_Sum.l0 k y0 y1 y2 y3 y4) (roll_Sum.l0 (k + 1) y0 y1 y2 y3 y4))
  | 0 => fun _ _ _ _ _ r h => by simp [roll_Sum.l0] at h
  | k + 1 => by
    have ih0 := roll_Sum.mono_l k
    · intro y0 y1 y2 y3 y4
      unfold roll_Sum.l0
      repeat' first
      | (with_reducible exact ih0 _ _ _ _ _)
      | (with_reducible exact LeO.refl _)
      | (with_reducible exact LeO.none _)
      | (with_reducible refine LeO.ite ?_ ?_)
      | (with_reducible refine LeO.bind ?_ (fun _ => ?_))
      | exact ih0 _ _ _ _ _
      | exact LeO.none _
      | refine LeO.ite ?_ ?_
      | refine LeO.bind ?_ (fun _ => ?_)
theorem roll_Sum.mono : ∀ a0 k, LeO (roll_Sum.f k a0) (roll_Sum.f (k + 1) a0) := by
  intro a0 k
  have ih0 := roll_Sum.mono_l k
  unfold roll_Sum.f
  repeat' first
      | (with_reducible exact ih0 _ _ _ _ _)
      | (with_reducible exact LeO.refl _)
      | (with_reducible exact LeO.none _)
      | (with_reducible refine LeO.ite ?_ ?_)
      | (with_reducible refine LeO.bind ?_ (fun _ => ?_))
      | exact ih0 _ _ _ _ _
      | exact LeO.none _
      | refine LeO.ite ?_ ?_
      | refine LeO.bind ?_ (fun _ => ?_)
set_option maxHeartbeats 8000000 in
set_option maxRecDepth 100000 in
theorem roll_Sum.calls (k : Nat) (a0 : ByteArray) (r : Int) (w : World) (h : roll_Sum.f k a0 = some r) :
    Calls Try.prog 39 #[.string a0] w fun e w' => e = .returned (.int .u32 r) ∧ Drawn0 w w' := by
  have H : (roll_Sum.l0 k a0 0 0 (a0.size : Int) 0) = some r := h
  clear h
  have H' := Aside0.mk H
  clear H
  go_enter Try.func39, Try.ntmps39
  go_wp2
  go_loopg [3, 4, 8] k (fun kq v3 v4 v8 w' => ∃ (x3_1 : Int) (x4_1 : Int) (x8_1 : Int), v3 = .int .u16 x3_1 ∧ v4 = .int .u16 x4_1 ∧ v8 = .int .i64 x8_1 ∧ Aside0 (roll_Sum.l0 kq a0 x3_1 x4_1 (a0.size : Int) x8_1 = some r) ∧ Aside0 (kq ≤ k) ∧ Drawn0 w w')
  case atStart => exact ⟨(0), (0), (0), (by first | rfl | (simp; done) | (simp [*]; done)), (by first | rfl | (simp; done) | (simp [*]; done)), (by first | rfl | (simp; done) | (simp [*]; done)), H', ⟨Nat.le_refl _⟩, by repeat (first | exact Drawn0.refl _ | apply Drawn0.step)⟩
  case round =>
    clear H'
    obtain ⟨x3_1, x4_1, x8_1, rfl, rfl, rfl, HA, HK1, ⟨m1, rfl⟩⟩ := hrel
    cases gk with
    | zero => exact absurd HA.out (by simp [roll_Sum.l0])
    | succ k1 =>
      have H := HA.out
      clear HA
      simp only [roll_Sum.l0] at H
      by_cases c2 : x8_1 < (a0.size : Int)
      · rw [if_pos c2] at H
        have c2b0 : decide (x8_1 < (a0.size : Int)) = true := decide_eq_true c2
        clear c2
        by_cases c3 : 0 ≤ x8_1
        · rw [if_pos c3] at H
          have c3b0 : decide (0 ≤ x8_1) = true := decide_eq_true c3
          clear c3
          by_cases c4 : x8_1 < (a0.size : Int)
          · rw [if_pos c4] at H
            have c4b0 : decide (x8_1 < (a0.size : Int)) = true := decide_eq_true c4
            clear c4
            have H' := Aside0.mk H
            clear H
            have p5 : 0 ≤ (x8_1 : Int) := of_decide_eq_true (by first | (with_reducible assumption) | assumption)
            have q5 : x8_1 < (a0.size : Int) := of_decide_eq_true (by first | (with_reducible assumption) | assumption)
            have hx5 := bt_at a0 x8_1
            replace p5 := eq_true p5
            replace q5 := eq_true q5
            go_wp2
            go_roundg k1
            case measure => have := HK1.out; omega
            case rel => exact ⟨(IntKind.u16.wrap (x3_1 + (IntKind.u16.wrap (bt a0 x8_1)))), (IntKind.u16.wrap (x4_1 + (IntKind.u16.wrap (x3_1 + (IntKind.u16.wrap (bt a0 x8_1)))))), (wrap64 (x8_1 + 1)), (by first | rfl | (simp; done) | (simp [*]; done)), (by first | rfl | (simp; done) | (simp [*]; done)), (by first | rfl | (simp; done) | (simp [*]; done)), H', ⟨by have := HK1.out; omega⟩, by repeat (first | exact Drawn0.refl _ | apply Drawn0.step)⟩
          · rw [if_neg c4] at H
            exact absurd H (by simp)
        · rw [if_neg c3] at H
          exact absurd H (by simp)
      · rw [if_neg c2] at H
        have c2b0 : decide (x8_1 < (a0.size : Int)) = false := decide_eq_false c2
        clear c2
        replace H := Option.bind_eq_some_iff.mp H
        obtain ⟨t101, A60, H⟩ := H
        replace H : (some t101) = some r := H
        have A6 := Aside0.mk A60
        clear A60
        obtain rfl := Option.some.inj H
        go_wp2_with (first | ((with_reducible refine gate_callee (f := 81) rfl ?_); refine goesL_ (some 23) rfl rfl Try.func81 (by kernel_rfl) rfl #[.int .u16 x3_1, .int .u16 x4_1] rfl (by (try simp only [List.map_toArray, List.map_cons, List.map_nil]); first | done | rfl | (simp only [List.length_drop, List.length_take]; rfl)) ?_; (with_reducible refine (roll_pair.calls x3_1 x4_1 t101 _ A6.out).mono ?_); rintro e w' ⟨rfl, ⟨nd, rfl⟩⟩; refine ⟨_, rfl, ?_⟩))
        go_ret
        exact ⟨by first | rfl | (simp; done) | (simp [*]; done), by repeat (first | exact Drawn0.refl _ | apply Drawn0.step)⟩

end Go.Proofs.Ytchaegfdcdlfaaa.X

/- The rolling check of a text, in plain numbers: roll.Sum and the document's. (Carried over from layer 9.) -/
namespace Go.Proofs.Ytchaegfdcdlfaaa.X
set_option linter.unusedSimpArgs false
set_option linter.unusedVariables false
open Go.RowKit Go.Proofs.YtchaegfdcdlfaaaW.PrintWords Go.Proofs.YtchaegfdcdlfaaaW.PrintLast

/-! ### Sums over lists -/
def sA : List Int → Int
  | [] => 0
  | x :: l => x + sA l
def sB : List Int → Int
  | [] => 0
  | x :: l => ((l.length : Int) + 1) * x + sB l
theorem sA_append (l m : List Int) : sA (l ++ m) = sA l + sA m := by
  induction l with
  | nil => simp [sA]
  | cons x l ih => simp only [List.cons_append, sA, ih]; omega
theorem sB_append (l m : List Int) : sB (l ++ m) = sB l + (m.length : Int) * sA l + sB m := by
  induction l with
  | nil => simp [sB, sA]
  | cons x l ih =>
    simp only [List.cons_append, sB, sA, ih, List.length_append, Int.natCast_add, Int.mul_add, Int.add_mul]
    omega
theorem sB_snoc (l : List Int) (x : Int) : sB (l ++ [x]) = sB l + sA l + x := by
  rw [sB_append]; simp [sB]
theorem sA_snoc (l : List Int) (x : Int) : sA (l ++ [x]) = sA l + x := by
  rw [sA_append]; simp [sA]

/-- The bytes of a text as numbers. -/
def bs (s : ByteArray) : List Int := s.data.toList.map fun c => (c.toNat : Int)
theorem bs_length (s : ByteArray) : (bs s).length = s.size := by simp [bs]
theorem bt_eq (s : ByteArray) (i : Nat) (h : i < s.size) : bt s i = (bs s)[i]'(by rw [bs_length]; exact h) := by
  simp [bt, bs, h]
  rfl
theorem bs_range (s : ByteArray) (i : Nat) (h : i < (bs s).length) : 0 ≤ (bs s)[i] ∧ (bs s)[i] ≤ 255 := by
  simp only [bs, List.getElem_map]
  have := (s.data.toList[i]'(by simpa [bs] using h)).toNat_lt
  omega
theorem take_snoc (l : List Int) (i : Nat) (h : i < l.length) : l.take (i + 1) = l.take i ++ [l[i]] := by
  rw [List.take_succ_eq_append_getElem h]
theorem bs_append (s t : ByteArray) : bs (s ++ t) = bs s ++ bs t := by simp [bs]
theorem bs_extract (s : ByteArray) (i j : Nat) : bs (s.extract i j) = ((bs s).drop i).take (j - i) := by
  simp [bs]

/-- The rolling check of a list. -/
def roll (l : List Int) : Int := 65536 * (sB l % 65536) + sA l % 65536

theorem u16_wrap (n : Int) : IntKind.u16.wrap n = n % 65536 := by simp [IntKind.wrap, IntKind.bits, IntKind.signed]

theorem wraps_u32 (n : Int) (h₀ : 0 ≤ n) (h₁ : n < 2 ^ 32) : IntKind.u32.wrap n = n := by rw [IntKind.wrap_u32]; omega

theorem pair_eq (a b : Int) (ha : 0 ≤ a) (ha' : a < 65536) (hb : 0 ≤ b) (hb' : b < 65536) : roll_pair.f a b = some (65536 * b + a) := by
  unfold roll_pair.f
  rw [show b % 4294967296 = b by omega, show b * 65536 % 4294967296 = b * 65536 by omega, show a % 4294967296 = a by omega]
  rw [bits_join .u32 32 (by decide) wraps_u32 16 _ _ (by omega) (by omega) (by omega) ha (by omega) (by omega)]
  congr 1; omega

theorem wrap64_small (n : Int) (h0 : -9223372036854775808 ≤ n) (h1 : n ≤ 9223372036854775807) : wrap64 n = n := by unfold wrap64; omega

theorem sum_l0 (s : ByteArray) (hs : s.size ≤ 140737488351232) (d : Nat) : ∀ (k i : Nat), i ≤ s.size → s.size - i = d → d < k →
    roll_Sum.l0 k s (sA ((bs s).take i) % 65536) (sB ((bs s).take i) % 65536) (s.size : Int) (i : Int) = some (roll (bs s)) := by
  induction d with
  | zero =>
    intro k i h0 hd hk
    obtain ⟨k, rfl⟩ : ∃ m, k = m + 1 := ⟨k - 1, by omega⟩
    obtain rfl : i = s.size := by omega
    simp only [roll_Sum.l0]
    rw [if_neg (by omega), pair_eq _ _ (by omega) (by omega) (by omega) (by omega), List.take_of_length_le (by rw [bs_length]; omega)]
    rfl
  | succ d ih =>
    intro k i h0 hd hk
    obtain ⟨k, rfl⟩ : ∃ m, k = m + 1 := ⟨k - 1, by omega⟩
    have hlt : i < s.size := by omega
    simp only [roll_Sum.l0]
    rw [if_pos (by omega), if_pos (by omega), if_pos (by omega), wrap64_small _ (by omega) (by omega)]
    have e := ih k (i + 1) (by omega) (by omega) (by omega)
    rw [take_snoc _ _ (by rw [bs_length]; exact hlt), sA_snoc, sB_snoc, ← bt_eq s i hlt] at e
    rw [show ((i + 1 : Nat) : Int) = (i : Int) + 1 by simp] at e
    simp only [u16_wrap]
    rw [← e]
    congr 1 <;> omega

theorem Sum_eq (s : ByteArray) (hs : s.size ≤ 140737488351232) (k : Nat) (hk : s.size < k) : roll_Sum.f k s = some (roll (bs s)) := by
  unfold roll_Sum.f
  have := sum_l0 s hs s.size k 0 (by omega) (by omega) hk
  simpa [sA, sB] using this

theorem tmod_eq (n : Int) (h : 0 ≤ n) : Int.tmod n 65536 = n % 65536 := Int.tmod_eq_emod_of_nonneg h
theorem tdiv_eq (n : Int) (h : 0 ≤ n) : Int.tdiv n 65536 = n / 65536 := Int.tdiv_eq_ediv_of_nonneg h

theorem refSum_l0 (s : ByteArray) (hs : s.size ≤ 140737488351232) (d : Nat) : ∀ (k i : Nat), i ≤ s.size → s.size - i = d → d < k →
    rolodexref09_Sum.l0 k s (sA ((bs s).take i) % 65536) ((sB ((bs s).take i) + ((s.size : Int) - i) * sA ((bs s).take i)) % 65536) (i : Int) = some (roll (bs s)) := by
  induction d with
  | zero =>
    intro k i h0 hd hk
    obtain ⟨k, rfl⟩ : ∃ m, k = m + 1 := ⟨k - 1, by omega⟩
    obtain rfl : i = s.size := by omega
    simp only [rolodexref09_Sum.l0]
    rw [if_neg (by omega), List.take_of_length_le (by rw [bs_length]; omega)]
    congr 1
    unfold roll
    rw [show ((s.size : Int) - s.size) = 0 by omega, Int.zero_mul, Int.add_zero]
    unfold wrap64
    omega
  | succ d ih =>
    intro k i h0 hd hk
    obtain ⟨k, rfl⟩ : ∃ m, k = m + 1 := ⟨k - 1, by omega⟩
    have hlt : i < s.size := by omega
    have hr := bt_range s i
    simp only [rolodexref09_Sum.l0]
    rw [if_pos (by omega), if_pos (by omega), wrap64_small ((i : Int) + 1) (by omega) (by omega), wrap64_small (bt s i) (by omega) (by omega), wrap64_small ((s.size : Int) - i) (by omega) (by omega), tmod_eq ((s.size : Int) - i) (by omega)]
    have e := ih k (i + 1) (by omega) (by omega) (by omega)
    rw [take_snoc _ _ (by rw [bs_length]; exact hlt), sA_snoc, sB_snoc, ← bt_eq s i hlt] at e
    rw [show ((i + 1 : Nat) : Int) = (i : Int) + 1 by simp] at e
    rw [← e]
    generalize sA ((bs s).take i) = A at *
    generalize sB ((bs s).take i) = B at *
    generalize bt s i = x at *
    have hp0 : 0 ≤ ((s.size : Int) - i) % 65536 * x := Int.mul_nonneg (by omega) (by omega)
    have hp1 : ((s.size : Int) - i) % 65536 * x ≤ 65535 * 255 := Int.mul_le_mul (by omega) (by omega) (by omega) (by omega)
    have hm : (((s.size : Int) - i) % 65536 * x) % 65536 = (((s.size : Int) - i) * x) % 65536 := by rw [Int.mul_emod, Int.emod_emod_of_dvd _ (by decide), ← Int.mul_emod]
    rw [wrap64_small (((s.size : Int) - i) % 65536 * x) (by omega) (by omega), wrap64_small _ (by omega) (by omega), wrap64_small _ (by omega) (by omega), tmod_eq _ (by omega), tmod_eq _ (by omega)]
    have e3 : B + A + x + ((s.size : Int) - (i + 1)) * (A + x) = B + ((s.size : Int) - i) * A + ((s.size : Int) - i) * x := by
      rw [show ((s.size : Int) - (i + 1)) = ((s.size : Int) - i) - 1 by omega, Int.sub_mul, Int.mul_add]; omega
    rw [e3]
    generalize ((s.size : Int) - i) % 65536 * x = P at *
    generalize ((s.size : Int) - i) * x = Q at *
    generalize ((s.size : Int) - i) * A = R at *
    congr 1 <;> omega

theorem refSum_eq (s : ByteArray) (hs : s.size ≤ 140737488351232) (k : Nat) (hk : s.size < k) : rolodexref09_Sum.f k s = some (roll (bs s)) := by
  unfold rolodexref09_Sum.f
  have := refSum_l0 s hs s.size k 0 (by omega) (by omega) hk
  simpa [sA, sB] using this

end Go.Proofs.Ytchaegfdcdlfaaa.X

/- Block signatures: sign's functions walked. -/
namespace Go.Proofs.Ytchaegfdcdlfaaa.X
set_option linter.unusedVariables false
set_option linter.unusedSimpArgs false
open Go.RowKit Go.Maps Go.Proofs.YtchaegfdcdlfaaaW.PrintWords Go.Proofs.YtchaegfdcdlfaaaW.PrintLast Go.Proofs.YtchaegfdcdlfaaaW.PrintMore

theorem outAt_byt (st : List Int) : ∀ i, ∀ x ∈ outAt st i, 0 ≤ x ∧ x ≤ 255
  | 0 => fun x hx => by
    have := List.eq_of_mem_replicate hx
    omega
  | i + 1 => fun x hx => by
    rcases List.mem_or_eq_of_mem_set hx with h | rfl
    · exact outAt_byt st i x h
    · unfold outByte; omega
theorem wf8_of {x : Int} (h0 : 0 ≤ x) (h1 : x ≤ 255) : (Lit.int .u8 x).wf = true := by
  simp [Lit.wf, IntKind.min, IntKind.max, IntKind.signed, IntKind.bits]; omega
theorem shaOf_wf (l : List Int) : ∀ x ∈ shaOf l, (Lit.int .u8 x).wf = true := fun x hx => by
  have := outAt_byt _ 32 x hx
  exact wf8_of this.1 this.2
/-- A part's signature. -/
def oneOf (s : ByteArray) : Sg := (roll (bs s), shaOf (bytesOf s))
theorem sgOk_mk (x : Int) (d : List Int) (h : d.length = 32) (h8 : ∀ y ∈ d, (Lit.int .u8 y).wf = true) (h32 : (Lit.int .u32 x).wf = true) : SgOk (x, d) := ⟨h, h8, h32⟩
theorem roll_wf (l : List Int) : (Lit.int .u32 (roll l)).wf = true := by
  have : 0 ≤ roll l ∧ roll l ≤ 4294967295 := by unfold roll; omega
  generalize roll l = x at this
  simp [Lit.wf, IntKind.min, IntKind.max, IntKind.signed, IntKind.bits]; omega
theorem oneOf_ok (s : ByteArray) : SgOk (oneOf s) := by
  unfold oneOf
  exact sgOk_mk _ _ (shaOf_length _) (shaOf_wf _) (roll_wf _)
/-- A block that holds one value's cells, written whole. -/
theorem storeA {w : World} {g : Nat} {t : TypeId} {old cs : Array Value} (h : w.heap[g]? = some (.cells old t (0, 0))) (hl : old.size = cs.size) (h1 : cs.all (·.oneCell') = true) : (storeCells ⟨g, 0, none⟩ cs.toList).run Try.prog w = .ok () (w.setRow g cs) := by
  have := run_storeCells_from (P := Try.prog) g t cs.toList 0 _ w h (by simp [hl]) (fun v hv => (Array.all_eq_true_iff_forall_mem.1 h1) v (by simpa using hv))
  simpa using this
theorem sgA_size {s : Sg} (h : s.2.length = 32) : (sgA s).size = 33 := by simp [sgA, sgL_length h]
theorem sgA_all (s : Sg) : (sgA s).all (·.oneCell') = true := by
  rw [Array.all_eq_true_iff_forall_mem]
  intro v hv
  simp only [sgA, sgL, List.mem_toArray, List.mem_cons, nums, List.mem_map] at hv
  rcases hv with rfl | ⟨q, _, rfl⟩ <;> rfl
theorem sgInfo {s : Sg} (h : s.2.length = 32) : (Try.prog.info? 30).map (·.size) = some (sgA s).size := by rw [sgA_size h]; exact infoSig

set_option maxHeartbeats 1000000 in
set_option maxRecDepth 100000 in
theorem one_call (s : ByteArray) (w : World) (hs : s.size ≤ 100000000) :
    Calls Try.prog 35 #[.string s] w fun e w' => e = .returned (.agg (sgA (oneOf s))) ∧ Below w.heap.size w w' := by
  have hroll := Sum_eq s (by omega) (s.size + 1) (by omega)
  obtain ⟨x, hx⟩ : ∃ x, x = roll (bs s) := ⟨_, rfl⟩
  obtain ⟨d, hd⟩ : ∃ d, d = shaOf (bytesOf s) := ⟨_, rfl⟩
  have HX : Aside0 (oneOf s = (x, d)) := ⟨by rw [hx, hd]; rfl⟩
  have hd32 : d.length = 32 := by rw [hd]; exact shaOf_length _
  have HD : Aside0 (shaOf (bytesOf s) = d) := ⟨hd.symm⟩
  rw [← hx] at hroll
  have HR := Aside0.mk hroll
  have HL := Aside0.mk hd32
  have HBU := Aside0.mk (built_sg x d hd32)
  clear hx hd hroll hd32
  rw [HX.out]
  go_enter Try.func35, Try.ntmps35
  go_wp2_with fail
  refine (roll_Sum.calls (s.size + 1) s x _ HR.out).mono ?_
  rintro e w1 ⟨rfl, m, rfl⟩
  go_wp2_with fail
  have hof := of_call s (World.drewN (w.alloc (.cells #[.int .u32 0, .int .u8 0, .int .u8 0, .int .u8 0, .int .u8 0, .int .u8 0, .int .u8 0, .int .u8 0, .int .u8 0, .int .u8 0, .int .u8 0, .int .u8 0, .int .u8 0, .int .u8 0, .int .u8 0, .int .u8 0, .int .u8 0, .int .u8 0, .int .u8 0, .int .u8 0, .int .u8 0, .int .u8 0, .int .u8 0, .int .u8 0, .int .u8 0, .int .u8 0, .int .u8 0, .int .u8 0, .int .u8 0, .int .u8 0, .int .u8 0, .int .u8 0, .int .u8 0] 30)) m) hs
  rw [HD.out] at hof
  refine hof.mono ?_
  clear hof
  rintro e w2 ⟨rfl, hb2⟩
  have HZ : Aside0 (w2.heap[w.heap.size]? = some (.cells #[.int .u32 0, .int .u8 0, .int .u8 0, .int .u8 0, .int .u8 0, .int .u8 0, .int .u8 0, .int .u8 0, .int .u8 0, .int .u8 0, .int .u8 0, .int .u8 0, .int .u8 0, .int .u8 0, .int .u8 0, .int .u8 0, .int .u8 0, .int .u8 0, .int .u8 0, .int .u8 0, .int .u8 0, .int .u8 0, .int .u8 0, .int .u8 0, .int .u8 0, .int .u8 0, .int .u8 0, .int .u8 0, .int .u8 0, .int .u8 0, .int .u8 0, .int .u8 0, .int .u8 0] 30 (0, 0))) := ⟨(hb2.block _ (by simp)).trans (heap_alloc_new w _)⟩
  have HB2 : Aside0 (Below w.heap.size w w2) := ⟨below_step (pw_below_drewN (below_alloc (Below.refl _ _) _) m) hb2⟩
  have hst := storeA (cs := sgA (x, d)) HZ.out (by rw [sgA_size HL.out]; rfl) (sgA_all _)
  clear hb2
  have hsz := sgA_size (s := (x, d)) HL.out
  go_wp2_with (first
    | ((with_reducible refine gate_dst (N := 7) rfl ?_); refine wpList_build_cells rfl 30 _ rfl (sgA (x, d)) ?hb ?_; case hb => (simp only [List.map_toArray, List.map_cons, List.map_nil]; exact HBU.out))
    | fail)
  refine bodyPost_ret (v := .agg (sgA (x, d))) ?_ rfl ⟨rfl, below_row HB2.out (Nat.le_refl _)⟩
  exact results_cell_row (P := Try.prog) Try.results35 _ _ w.heap.size 30 (sgA (x, d)) (0, 0) _ rfl (setRow_heap _ _ _ _ _ _ HZ.out) Try.underlying30 rfl (sgInfo HL.out)

set_option maxHeartbeats 1000000 in
set_option maxRecDepth 100000 in
theorem weak_call (A : Option Addr) (c : Nat) (l : List Sg) (x : Int) (w : World) (hr : sgK.C w A l.length l) :
    Calls Try.prog 79 #[.slice A l.length c, .int .u32 x] w fun e w' => e = .returned (.bool (l.any fun s => s.1 == x)) ∧ Below w.heap.size w w' := by
  have hmax := Kd.C_max hr
  have HR := Aside0.mk hr
  have HM := Aside0.mk hmax
  clear hr hmax
  go_enter Try.func79, Try.ntmps79
  go_wp2_with fail
  go_loopg [9] l.length (fun k v w' => ∃ j : Nat, v = .int .i64 j ∧ Aside0 (k = l.length - j ∧ j ≤ l.length) ∧ Aside0 (∀ s ∈ l.take j, (s.1 == x) = false) ∧ Aside0 (Below w.heap.size w w'))
  case atStart => exact ⟨0, rfl, ⟨by omega, by omega⟩, ⟨by simp⟩, ⟨Below.refl _ _⟩⟩
  case round =>
    obtain ⟨j, rfl, HJ, HF, HB⟩ := hrel
    by_cases hj : j < l.length
    · obtain ⟨ad, hA, h32, hcell⟩ := sgs_at (Kd.C_below HR.out HB.out) hj
      have hmem : l[j]? = some (l.getD j (0, [])) := by simp [List.getD_eq_getElem?_getD, hj]
      obtain ⟨s, hs⟩ : ∃ s, s = l.getD j (0, []) := ⟨_, rfl⟩
      rw [← hs] at h32 hcell hmem
      have HS := Aside0.mk hmem
      have HC := Aside0.mk hcell
      have H32 := Aside0.mk h32
      clear hs hmem hcell h32
      subst hA
      have e1 : decide ((j : Int) < (l.length : Int)) = true := by simpa using hj
      have e2 : ((j : Int) < (l.length : Int)) = True := by simpa using hj
      have e3 : (0 ≤ (j : Int)) = True := by simp
      have e4 : IntKind.i64.wrap ((j : Int) + 1) = ((j + 1 : Nat) : Int) := by have := HM.out; simp [IntKind.wrap, IntKind.bits, IntKind.signed]; omega
      have HJ2 := Aside0.mk hj
      clear hj
      have hsz := sgA_size H32.out
      have hst := store_new wr #[.int .u32 0, .int .u8 0, .int .u8 0, .int .u8 0, .int .u8 0, .int .u8 0, .int .u8 0, .int .u8 0, .int .u8 0, .int .u8 0, .int .u8 0, .int .u8 0, .int .u8 0, .int .u8 0, .int .u8 0, .int .u8 0, .int .u8 0, .int .u8 0, .int .u8 0, .int .u8 0, .int .u8 0, .int .u8 0, .int .u8 0, .int .u8 0, .int .u8 0, .int .u8 0, .int .u8 0, .int .u8 0, .int .u8 0, .int .u8 0, .int .u8 0, .int .u8 0, .int .u8 0] (sgA s) 30 (by rw [sgA_size H32.out]; rfl) (sgA_all s)
      have hce : (wr.alloc (.cells (sgA s) 30)).cell? ⟨wr.heap.size, 0, none⟩ = some (.int .u32 s.1) := by
        rw [cell_of_row _ _ _ _ _ _ (heap_alloc_new wr _)]; rfl
      go_wp2_with (first
        | ((with_reducible refine gate_dst (N := 12) rfl ?_); refine wpList_load_cells rfl 30 (.tmp 11) rfl (ad.add (j * 33)) rfl (sgA s) _ HC.out Try.underlying30 rfl (sgInfo H32.out) ?_)
        | fail)
      · rename_i hq
        have e6 : (s.1 == x) = true := by simpa using hq
        go_ret
        refine ⟨?_, ?_⟩
        · have : (l.any fun s => s.1 == x) = true := List.any_eq_true.2 ⟨s, List.mem_of_getElem? HS.out, e6⟩
          rw [this]; rfl
        · exact below_alloc HB.out _
      · rename_i hq
        have hx2 : (s.1 == x) = false := by simpa using hq
        go_roundg (l.length - (j + 1))
        case measure => have := HJ.out; have := HJ2.out; omega
        case rel =>
          refine ⟨j + 1, ?_, ⟨by omega, by have := HJ2.out; omega⟩, ⟨?_⟩, ⟨below_alloc HB.out _⟩⟩
          · first | rfl | (rw [e4]) | simp [e4]
          · intro u hu
            rw [List.take_succ_eq_append_getElem HJ2.out, (List.getElem?_eq_some_iff.1 HS.out).2] at hu
            rcases List.mem_append.1 hu with hu | hu
            · exact HF.out u hu
            · rw [List.mem_singleton.1 hu]; exact hx2
    · have e1 : decide ((j : Int) < (l.length : Int)) = false := by simpa using hj
      have e2 : ((j : Int) < (l.length : Int)) = False := by simpa using hj
      have hjl : j = l.length := by have := HJ.out; omega
      go_wp2_with fail
      go_ret
      refine ⟨?_, HB.out⟩
      have : (l.any fun s => s.1 == x) = false := by
        rw [List.any_eq_false]
        intro u hu
        have := HF.out u (by rw [hjl, List.take_length]; exact hu)
        simp [this]
      rw [this]; rfl

/-- Which keys a map of places has, and where the first of each is. -/
def Fst {H : Type} (l : List Sg) (k : Nat) (D : DataW H) : Prop :=
  ∀ s, SgOk s → Maps.has D (sgKey s) = decide (s ∈ l.take k) ∧ ∀ j, j < k → l[j]? = some s → (∀ i, i < j → l[i]? ≠ some s) → D.atKey (sgKey s) (.lit (.int .i64 0)) = .lit (.int .i64 (j : Int))
theorem fst_zero {H : Type} (l : List Sg) : Fst l 0 (.map [] : DataW H) := fun s hs => ⟨by simp [Maps.has], fun j hj => by omega⟩
theorem fst_old {H : Type} {l : List Sg} {k : Nat} {D : DataW H} (h : Fst l k D) {s : Sg} (hk : l[k]? = some s) (hs : SgOk s) (hh : Maps.has D (sgKey s) = true) : Fst l (k + 1) D := by
  have hin : s ∈ l.take k := by have := (h s hs).1; rw [hh] at this; exact of_decide_eq_true this.symm
  have hlt : k < l.length := (List.getElem?_eq_some_iff.1 hk).1
  have hks : l[k] = s := (List.getElem?_eq_some_iff.1 hk).2
  intro u hu
  refine ⟨?_, fun j hj hju hfirst => ?_⟩
  · rw [(h u hu).1, List.take_succ_eq_append_getElem hlt, hks]
    congr 1
    apply propext
    simp only [List.mem_append, List.mem_singleton]
    exact ⟨.inl, fun h => h.elim id (fun e => e ▸ hin)⟩
  · rcases Nat.lt_or_ge j k with hjk | hjk
    · exact (h u hu).2 j hjk hju hfirst
    · obtain rfl : j = k := by omega
      rw [hk] at hju
      injection hju with hju
      subst hju
      obtain ⟨i, hi, hiu⟩ := List.mem_iff_getElem.1 hin
      simp only [List.length_take] at hi
      refine absurd ?_ (hfirst i (by omega))
      rw [List.getElem_take] at hiu
      rw [List.getElem?_eq_getElem (by omega), hiu]
theorem fst_new {H : Type} {l : List Sg} {k : Nat} {D : DataW H} (hD : Maps.IsMap D) (h : Fst l k D) {s : Sg} (hk : l[k]? = some s) (hs : SgOk s) (hh : Maps.has D (sgKey s) = false) : Fst l (k + 1) (D.put (sgKey s) (.lit (.int .i64 (k : Int)))) := by
  have hout : s ∉ l.take k := by have := (h s hs).1; rw [hh] at this; exact of_decide_eq_false this.symm
  have hlt : k < l.length := (List.getElem?_eq_some_iff.1 hk).1
  have hks : l[k] = s := (List.getElem?_eq_some_iff.1 hk).2
  have hkey : WideAt.IsKeyLit (sgKey s) := trivial
  intro u hu
  by_cases hus : u = s
  · subst hus
    refine ⟨?_, fun j hj hju hfirst => ?_⟩
    · rw [has_put_same hD hkey, List.take_succ_eq_append_getElem hlt, hks]
      simp
    · rcases Nat.lt_or_ge j k with hjk | hjk
      · refine absurd ?_ hout
        rw [List.mem_iff_getElem]
        have hjl : j < l.length := by omega
        refine ⟨j, by simp; omega, ?_⟩
        rw [List.getElem_take]
        exact (List.getElem?_eq_some_iff.1 hju).2
      · obtain rfl : j = k := by omega
        rw [atKey_put_same hD hkey]
  · have hne : sgKey u ≠ sgKey s := fun e => hus (sgKey_inj hu hs e)
    refine ⟨?_, fun j hj hju hfirst => ?_⟩
    · rw [has_put_other hne, (h u hu).1, List.take_succ_eq_append_getElem hlt, hks]
      congr 1
      apply propext
      simp only [List.mem_append, List.mem_singleton]
      exact ⟨.inl, fun h => h.elim id (fun e => absurd e hus)⟩
    · rcases Nat.lt_or_ge j k with hjk | hjk
      · rw [atKey_put_other hne]
        exact (h u hu).2 j hjk hju hfirst
      · obtain rfl : j = k := by omega
        rw [hk] at hju
        injection hju with hju
        exact absurd hju.symm hus
end Go.Proofs.Ytchaegfdcdlfaaa.X

/- Block signatures: where one is. -/
namespace Go.Proofs.Ytchaegfdcdlfaaa.X
set_option linter.unusedVariables false
set_option linter.unusedSimpArgs false
open Go.RowKit Go.Maps Go.Proofs.YtchaegfdcdlfaaaW.PrintWords Go.Proofs.YtchaegfdcdlfaaaW.PrintLast Go.Proofs.YtchaegfdcdlfaaaW.PrintMore

theorem zeroInt (w : World) : (zeroValue 3).run Try.prog w = .ok (.int .i64 0) w := by kernel_rfl
theorem below_grown {B : Nat} {a w w' : World} {r : Option Nat} (h : Below B a w) (hg : w.grownBy w' r) (hB : B ≤ w.heap.size) (hr : ∀ k, r = some k → B ≤ k) : Below B a w' := h.grown hg hB hr
set_option maxHeartbeats 1000000 in
set_option maxRecDepth 100000 in
theorem first_call {H : Type} (A : Option Addr) (c : Nat) (l : List Sg) (w : World) (hr : sgK.C w A l.length l) (hok : ∀ s ∈ l, SgOk s) (hl : l.length ≤ 100000) :
    Calls Try.prog 80 #[.slice A l.length c] w fun e w' => ∃ D : DataW H, e = .returned (.map (some w.heap.size)) ∧ w'.ownsMap Try.prog 30 (plainElem Try.prog 3) w.heap.size l.length D ∧ Fst l l.length D ∧ Below w.heap.size w w' := by
  have HR := Aside0.mk hr
  have HOK := Aside0.mk hok
  have HL := Aside0.mk hl
  clear hr hok hl
  have hmm := @run_makeMap Try.prog
  go_enter Try.func80, Try.ntmps80
  go_wp2_with fail
  go_loopg [11] l.length (fun k v w' => ∃ (j : Nat) (D : DataW H), v = .int .i64 j ∧ Aside0 (k = l.length - j ∧ j ≤ l.length) ∧ Aside0 (w'.ownsMap Try.prog 30 (plainElem Try.prog 3) w.heap.size j D) ∧ Aside0 (Fst l j D) ∧ Aside0 (Below w.heap.size w w'))
  case atStart => exact ⟨0, .map [], rfl, ⟨by omega, by omega⟩, ⟨World.ownsMap_made _ _ _ _⟩, ⟨fst_zero l⟩, ⟨below_alloc (Below.refl _ _) _⟩⟩
  case round =>
    clear hmm
    obtain ⟨j, D, rfl, HJ, HM, HF, HB⟩ := hrel
    by_cases hj : j < l.length
    · obtain ⟨ad, hA, h32, hcell⟩ := sgs_at (Kd.C_below HR.out HB.out) hj
      have hmem : l[j]? = some (l.getD j (0, [])) := by simp [List.getD_eq_getElem?_getD, hj]
      obtain ⟨s, hs⟩ : ∃ s, s = l.getD j (0, []) := ⟨_, rfl⟩
      rw [← hs] at h32 hcell hmem
      have HS := Aside0.mk hmem
      have HC := Aside0.mk hcell
      have HSO : Aside0 (SgOk s) := ⟨HOK.out s (by
        rw [hs, List.getD_eq_getElem?_getD, List.getElem?_eq_getElem hj]; exact List.getElem_mem hj)⟩
      clear hs hmem hcell h32
      subst hA
      have e1 : decide ((j : Int) < (l.length : Int)) = true := by simpa using hj
      have e2 : ((j : Int) < (l.length : Int)) = True := by simpa using hj
      have e3 : (0 ≤ (j : Int)) = True := by simp
      have e4 : IntKind.i64.wrap ((j : Int) + 1) = ((j + 1 : Nat) : Int) := by have := HL.out; simp [IntKind.wrap, IntKind.bits, IntKind.signed]; omega
      have HJ2 := Aside0.mk hj
      clear hj
      have HM1 := Aside0.mk (HM.out.alloc (.cells (sgA s) 30 (0, 0)))
      have HB1 := Aside0.mk (below_alloc HB.out (o := .cells (sgA s) 30 (0, 0)))
      have HG : Aside0 ((wr.alloc (.cells (sgA s) 30 (0, 0))).heap[wr.heap.size]? = some (.cells (sgA s) 30 (0, 0))) := ⟨heap_alloc_new wr _⟩
      have HSZ := Aside0.mk HB.out.size
      have hsz := sgA_size HSO.out.len
      have hst := store_new wr #[.int .u32 0, .int .u8 0, .int .u8 0, .int .u8 0, .int .u8 0, .int .u8 0, .int .u8 0, .int .u8 0, .int .u8 0, .int .u8 0, .int .u8 0, .int .u8 0, .int .u8 0, .int .u8 0, .int .u8 0, .int .u8 0, .int .u8 0, .int .u8 0, .int .u8 0, .int .u8 0, .int .u8 0, .int .u8 0, .int .u8 0, .int .u8 0, .int .u8 0, .int .u8 0, .int .u8 0, .int .u8 0, .int .u8 0, .int .u8 0, .int .u8 0, .int .u8 0, .int .u8 0] (sgA s) 30 (by rw [sgA_size HSO.out.len]; rfl) (sgA_all s)
      cases hh : Maps.has D (sgKey s)
      · have HH := Aside0.mk hh
        clear hh
        go_wp2_with (first
          | ((with_reducible refine gate_dst (N := 15) rfl ?_); refine wpList_load_cells rfl 30 (.tmp 14) rfl (ad.add (j * 33)) rfl (sgA s) _ HC.out Try.underlying30 rfl (sgInfo HSO.out.len) ?_)
          | ((with_reducible refine gate_dst (N := 18) rfl ?_); refine wpList_load_row rfl 30 (.tmp 5) rfl wr.heap.size rfl 30 (sgA s) (0, 0) _ HG.out Try.underlying30 rfl (sgInfo HSO.out.len) ?_)
          | ((with_reducible refine gate_dst (N := 25) rfl ?_); refine wpList_load_row rfl 30 (.tmp 5) rfl wr.heap.size rfl 30 (sgA s) (0, 0) _ HG.out Try.underlying30 rfl (sgInfo HSO.out.len) ?_)
          | (at_lookup; go_loud (refine wpList_lookup_own_ok_int _ rfl _ _ 104 rfl 30 3 .i64 sgLaw Try.underlying104 Try.underlying3 (zeroInt _) w.heap.size j D rfl HM1.out _ _ rfl (keyOf_sg s HSO.out) ?_; intro c0 hat hwc; rw [HH.out]))
          | (at_mapUpdate; go_loud (refine wpList_mapUpdate_own _ rfl _ _ _ 104 rfl 30 3 sgLaw Try.underlying104 _ w.heap.size j D rfl HM1.out (by have := HJ2.out; have := HL.out; unfold maxLen; omega) _ _ _ rfl rfl (keyOf_sg s HSO.out) _ [] (plainElem_int Try.underlying3 (WalkArith.wf_i64 (by have := HJ2.out; have := HL.out; omega))) ?_; intro w1 hown1 hgrow1))
          | fail)
        have HMN := Aside0.mk hown1
        have HBN := Aside0.mk (below_grown HB1.out hgrow1 (by have := HSZ.out; simp; omega) (fun k hk => by injection hk with hk; omega))
        clear hown1 hgrow1
        go_roundg (l.length - (j + 1))
        case measure => have := HJ.out; have := HJ2.out; omega
        case rel =>
          refine ⟨j + 1, _, ?_, ⟨by omega, by have := HJ2.out; omega⟩, HMN, ⟨fst_new ((HM.out.tidy sgLaw).isMap) HF.out HS.out HSO.out HH.out⟩, HBN⟩
          simp [e4]
      · have HH := Aside0.mk hh
        clear hh
        go_wp2_with (first
          | ((with_reducible refine gate_dst (N := 15) rfl ?_); refine wpList_load_cells rfl 30 (.tmp 14) rfl (ad.add (j * 33)) rfl (sgA s) _ HC.out Try.underlying30 rfl (sgInfo HSO.out.len) ?_)
          | ((with_reducible refine gate_dst (N := 18) rfl ?_); refine wpList_load_row rfl 30 (.tmp 5) rfl wr.heap.size rfl 30 (sgA s) (0, 0) _ HG.out Try.underlying30 rfl (sgInfo HSO.out.len) ?_)
          | ((with_reducible refine gate_dst (N := 25) rfl ?_); refine wpList_load_row rfl 30 (.tmp 5) rfl wr.heap.size rfl 30 (sgA s) (0, 0) _ HG.out Try.underlying30 rfl (sgInfo HSO.out.len) ?_)
          | (at_lookup; go_loud (refine wpList_lookup_own_ok_int _ rfl _ _ 104 rfl 30 3 .i64 sgLaw Try.underlying104 Try.underlying3 (zeroInt _) w.heap.size j D rfl HM1.out _ _ rfl (keyOf_sg s HSO.out) ?_; intro c0 hat hwc; rw [HH.out]))
          | (at_mapUpdate; go_loud (refine wpList_mapUpdate_own _ rfl _ _ _ 104 rfl 30 3 sgLaw Try.underlying104 _ w.heap.size j D rfl HM1.out (by have := HJ2.out; have := HL.out; unfold maxLen; omega) _ _ _ rfl rfl (keyOf_sg s HSO.out) _ [] (plainElem_int Try.underlying3 (WalkArith.wf_i64 (by have := HJ2.out; have := HL.out; omega))) ?_; intro w1 hown1 hgrow1))
          | fail)
        go_roundg (l.length - (j + 1))
        case measure => have := HJ.out; have := HJ2.out; omega
        case rel =>
          refine ⟨j + 1, D, ?_, ⟨by omega, by have := HJ2.out; omega⟩, ⟨HM1.out.mono (by omega)⟩, ⟨fst_old HF.out HS.out HSO.out HH.out⟩, HB1⟩
          simp [e4]
    · have e1 : decide ((j : Int) < (l.length : Int)) = false := by simpa using hj
      have e2 : ((j : Int) < (l.length : Int)) = False := by simpa using hj
      have hjl : j = l.length := by have := HJ.out; omega
      clear hj
      go_wp2_with fail
      go_ret
      refine ⟨D, rfl, ?_, ?_, HB.out⟩
      · rw [← hjl]; exact HM.out
      · rw [← hjl]; exact HF.out

/-- Where the first one is that is s, or -1. -/
def idxI (l : List Sg) (s : Sg) : Int := if s ∈ l then (l.idxOf s : Int) else -1
/-- Where a part is. -/
def findOf (l : List Sg) (p : ByteArray) : Int := if p.size = 8 then idxI l (oneOf p) else -1
theorem idxOf_first {l : List Sg} {s : Sg} (h : s ∈ l) : l.idxOf s < l.length ∧ l[l.idxOf s]? = some s ∧ ∀ i, i < l.idxOf s → l[i]? ≠ some s := by
  have hlt := List.idxOf_lt_length_iff.2 h
  refine ⟨hlt, ?_, fun i hi e => ?_⟩
  · rw [List.getElem?_eq_getElem hlt, List.getElem_idxOf hlt]
  · have hl : i < l.length := by omega
    rw [List.getElem?_eq_getElem hl] at e
    injection e with e
    have := List.not_of_lt_findIdx (p := (· == s)) (xs := l) (i := i) hi
    simp [e] at this
theorem fst_idx {H : Type} {l : List Sg} {D : DataW H} (h : Fst l l.length D) {s : Sg} (hs : SgOk s) : Maps.has D (sgKey s) = decide (s ∈ l) ∧ (s ∈ l → D.atKey (sgKey s) (.lit (.int .i64 0)) = .lit (.int .i64 (l.idxOf s : Int))) := by
  obtain ⟨h1, h2⟩ := h s hs
  rw [List.take_length] at h1
  exact ⟨h1, fun hm => h2 _ (idxOf_first hm).1 (idxOf_first hm).2.1 (idxOf_first hm).2.2⟩
theorem weak_no {l : List Sg} {s : Sg} (h : (l.any fun u => u.1 == s.1) = false) : s ∉ l := fun hm => by
  have := List.any_eq_false.1 h s hm
  simp at this

set_option maxHeartbeats 1000000 in
set_option maxRecDepth 100000 in
theorem find_call (A : Option Addr) (c : Nat) (l : List Sg) (p : ByteArray) (w : World) (hr : sgK.C w A l.length l) (hok : ∀ s ∈ l, SgOk s) (hl : l.length ≤ 100000) (hp : p.size ≤ 100000) :
    Calls Try.prog 37 #[.slice A l.length c, .string p] w fun e w' => e = .returned (.int .i64 (findOf l p)) ∧ Below w.heap.size w w' := by
  have HR := Aside0.mk hr
  have HOK := Aside0.mk hok
  have HL := Aside0.mk hl
  have HP := Aside0.mk hp
  clear hr hok hl
  by_cases h8 : p.size = 8
  · have HF : Aside0 (findOf l p = idxI l (oneOf p)) := ⟨by simp [findOf, h8]⟩
    have hroll := Sum_eq p (by omega) (p.size + 1) (by omega)
    obtain ⟨y, hy⟩ : ∃ y, y = oneOf p := ⟨_, rfl⟩
    have hy1 : y.1 = roll (bs p) := by rw [hy]; rfl
    obtain ⟨x, hx⟩ : ∃ x, x = y.1 := ⟨_, rfl⟩
    rw [← hy1, ← hx] at hroll
    have HRO := Aside0.mk hroll
    have HX := Aside0.mk hx
    have HYO : Aside0 (SgOk y) := ⟨by rw [hy]; exact oneOf_ok _⟩
    have HY := Aside0.mk hy
    have e1 : ((p.size : Int) != 8) = false := by simp; omega
    have e2 : ((p.size : Int) = 8) = True := by simp; omega
    clear h8 hroll hy hy1 hx hp
    rw [HF.out, ← HY.out]
    cases hwk : (l.any fun u => u.1 == x)
    · have HW := Aside0.mk hwk
      have HN : Aside0 (idxI l y = -1) := ⟨by
        have := weak_no (l := l) (s := y) (by rw [← HX.out]; exact hwk)
        simp [idxI, this]⟩
      clear hwk
      rw [HN.out]
      go_enter Try.func37, Try.ntmps37
      go_wp2_with fail
      refine (roll_Sum.calls (p.size + 1) p x _ HRO.out).mono ?_
      rintro e w1 ⟨rfl, m, rfl⟩
      go_wp2_with fail
      refine (weak_call A c l x _ (Kd.C_drewN HR.out m)).mono ?_
      rintro e w2 ⟨rfl, hb2⟩
      rw [HW.out]
      have HB2 : Aside0 (Below w.heap.size w w2) := ⟨below_step (pw_below_drewN (Below.refl _ _) m) hb2⟩
      clear hb2
      go_wp2_with fail
      go_ret
      exact ⟨rfl, HB2.out⟩
    · have HW := Aside0.mk hwk
      clear hwk
      go_enter Try.func37, Try.ntmps37
      go_wp2_with fail
      refine (roll_Sum.calls (p.size + 1) p x _ HRO.out).mono ?_
      rintro e w1 ⟨rfl, m, rfl⟩
      go_wp2_with fail
      refine (weak_call A c l x _ (Kd.C_drewN HR.out m)).mono ?_
      rintro e w2 ⟨rfl, hb2⟩
      rw [HW.out]
      have HB2 : Aside0 (Below w.heap.size w w2) := ⟨below_step (pw_below_drewN (Below.refl _ _) m) hb2⟩
      have HS2 := Aside0.mk HB2.out.size
      clear hb2
      go_wp2_with fail
      refine (first_call (H := Unit) A c l _ (Kd.C_below HR.out HB2.out) HOK.out HL.out).mono ?_
      rintro e w3 ⟨D, rfl, hown, hfst, hb3⟩
      have HD := Aside0.mk hfst
      have HM := Aside0.mk hown
      have HB3 := Aside0.mk (below_step HB2.out hb3)
      clear hown hfst hb3
      go_wp2_with fail
      refine (one_call p _ (by have := HP.out; omega)).mono ?_
      rintro e w4 ⟨rfl, hb4⟩
      rw [← HY.out]
      have HM4 : Aside0 (w4.ownsMap Try.prog 30 (plainElem Try.prog 3) w2.heap.size l.length D) := ⟨by
        obtain ⟨es, clock, hb, hfit, hsz, hd⟩ := HM.out
        exact ⟨es, clock, (hb4.block _ (Array.getElem?_eq_some_iff.1 hb).1).trans hb, hfit, hsz, hd⟩⟩
      have HB4 := Aside0.mk (below_step HB3.out hb4)
      have HI := Aside0.mk (fst_idx HD.out HYO.out)
      clear hb4
      by_cases hin : y ∈ l
      · have hh : Maps.has D (sgKey y) = true := by rw [HI.out.1]; exact decide_eq_true hin
        have HH := Aside0.mk hh
        have HA := Aside0.mk (HI.out.2 hin)
        have HV : Aside0 (idxI l y = (l.idxOf y : Int)) := ⟨by simp [idxI, hin]⟩
        clear hh hin
        go_wp2_with (first
          | (at_lookup; go_loud (refine wpList_lookup_own_ok_int _ rfl _ _ 104 rfl 30 3 .i64 sgLaw Try.underlying104 Try.underlying3 (zeroInt _) w2.heap.size l.length D rfl HM4.out _ _ rfl (keyOf_sg y HYO.out) ?_; intro c0 hat hwc; rw [HH.out]; rw [HA.out] at hat; injection hat with hat; injection hat with hq1 hat; subst hat))
          | fail)
        go_ret
        exact ⟨by rw [HV.out]; rfl, HB4.out⟩
      · have hh : Maps.has D (sgKey y) = false := by rw [HI.out.1]; exact decide_eq_false hin
        have HH := Aside0.mk hh
        have HV : Aside0 (idxI l y = -1) := ⟨by simp [idxI, hin]⟩
        clear hh hin
        go_wp2_with (first
          | (at_lookup; go_loud (refine wpList_lookup_own_ok_int _ rfl _ _ 104 rfl 30 3 .i64 sgLaw Try.underlying104 Try.underlying3 (zeroInt _) w2.heap.size l.length D rfl HM4.out _ _ rfl (keyOf_sg y HYO.out) ?_; intro c0 hat hwc; rw [HH.out]))
          | fail)
        go_ret
        exact ⟨by rw [HV.out]; rfl, HB4.out⟩
  · have HF : Aside0 (findOf l p = -1) := ⟨by simp [findOf, h8]⟩
    have e1 : ((p.size : Int) != 8) = true := by simp; omega
    have e2 : ((p.size : Int) = 8) = False := by simp; omega
    clear h8 hp
    rw [HF.out]
    go_enter Try.func37, Try.ntmps37
    go_wp2_with fail
    go_ret
    exact ⟨rfl, Below.refl _ _⟩
end Go.Proofs.Ytchaegfdcdlfaaa.X

/- Block signatures: the blocks of a text. -/
namespace Go.Proofs.Ytchaegfdcdlfaaa.X
set_option linter.unusedVariables false
set_option linter.unusedSimpArgs false
open Go.RowKit Go.Maps Go.Proofs.YtchaegfdcdlfaaaW.PrintWords Go.Proofs.YtchaegfdcdlfaaaW.PrintLast Go.Proofs.YtchaegfdcdlfaaaW.PrintMore

/-- The signature of the i-th eight. -/
def blockAt (s : ByteArray) (i : Nat) : Sg := oneOf (s.extract (8 * i) (8 * i + 8))
def blocks (s : ByteArray) (n : Nat) : List Sg := (List.range n).map (blockAt s)
theorem blocks_length (s : ByteArray) (n : Nat) : (blocks s n).length = n := by simp [blocks]
theorem blocks_snoc (s : ByteArray) (n : Nat) : blocks s n ++ [blockAt s n] = blocks s (n + 1) := by simp [blocks, List.range_succ]
/-- The blocks of a text. -/
def signOf (s : ByteArray) : List Sg := if s.size < 24 then [] else blocks s (s.size / 8)
theorem blocks_ok (s : ByteArray) (n : Nat) : ∀ x ∈ blocks s n, SgOk x := by
  intro x hx
  obtain ⟨i, _, rfl⟩ := List.mem_map.1 hx
  exact oneOf_ok _
theorem signOf_ok (s : ByteArray) : ∀ x ∈ signOf s, SgOk x := by
  unfold signOf
  split
  · simp
  · exact blocks_ok s _

set_option maxHeartbeats 1000000 in
set_option maxRecDepth 100000 in
theorem signof_call (s : ByteArray) (w : World) (hs : s.size ≤ 1000000) :
    Calls Try.prog 33 #[.string s] w fun e w' => ∃ v, e = .returned v ∧ sgK.R 30 w' w.heap.size (fun _ => True) v (signOf s) ∧ Below w.heap.size w w' := by
  by_cases h24 : s.size < 24
  · have e1 : decide ((s.size : Int) < 24) = true := by simp; omega
    have e2 : ((s.size : Int) < 24) = True := by simp; omega
    have HE : Aside0 (signOf s = []) := ⟨by simp [signOf, h24]⟩
    clear h24
    go_enter Try.func33, Try.ntmps33
    go_wp2_with fail
    go_ret
    exact ⟨_, rfl, by rw [HE.out]; exact Kd.R_nil _ _ _ _ _, Below.refl _ _⟩
  · have e1 : decide ((s.size : Int) < 24) = false := by simp; omega
    have e2 : ((s.size : Int) < 24) = False := by simp; omega
    have HE : Aside0 (signOf s = blocks s (s.size / 8)) := ⟨by simp [signOf, h24]⟩
    have HN := Aside0.mk h24
    have HZ := Aside0.mk hs
    clear h24 hs
    go_enter Try.func33, Try.ntmps33
    go_wp2_with fail
    go_loopg [0, 3] s.size (fun k v0 v3 w' => ∃ (j : Nat) (t : ByteArray), v0 = .string t ∧ Aside0 (t = s.extract (8 * j) s.size ∧ 8 * j ≤ s.size) ∧ Aside0 (k = t.size) ∧ Aside0 (sgK.R 30 w' w.heap.size (fun _ => True) v3 (blocks s j)) ∧ Aside0 (Below w.heap.size w w'))
    case atStart => exact ⟨0, s, rfl, ⟨by simp, by omega⟩, ⟨rfl⟩, ⟨Kd.R_nil _ _ _ _ _⟩, ⟨Below.refl _ _⟩⟩
    case round =>
      clear e1 e2
      obtain ⟨j, t, rfl, HT, HK, HR, HB⟩ := hrel
      have ht : t.size = s.size - 8 * j := by rw [HT.out.1]; simp
      have HS := Aside0.mk ht
      by_cases h8 : 8 ≤ t.size
      · have e1 : decide (8 ≤ (t.size : Int)) = true := by simp; omega
        have e2 : (8 ≤ (t.size : Int)) = True := by simp; omega
        have HQ : Aside0 (t.extract 0 8 = s.extract (8 * j) (8 * j + 8)) := ⟨by rw [HT.out.1, ByteArray.extract_extract]; congr 1; omega⟩
        have HP : Aside0 (oneOf (t.extract 0 8) = blockAt s j) := ⟨by rw [HQ.out]; rfl⟩
        have HQQ : Aside0 (t.extract 8 t.size = s.extract (8 * (j + 1)) s.size ∧ (t.extract 8 t.size).size = t.size - 8) := ⟨by
          constructor
          · rw [HT.out.1, ByteArray.extract_extract]; simp; congr 1 <;> omega
          · simp⟩
        have H8 := Aside0.mk h8
        clear h8 ht
        go_wp2_with fail
        refine (one_call (t.extract 0 8) _ (by simp; omega)).mono ?_
        rintro e w1 ⟨rfl, hb1⟩
        rw [HP.out]
        have HOK : Aside0 (SgOk (blockAt s j)) := ⟨oneOf_ok _⟩
        obtain ⟨y, hy⟩ : ∃ y, y = blockAt s j := ⟨_, rfl⟩
        rw [← hy] at HOK ⊢
        have HY := Aside0.mk hy
        clear hy
        have HR1 := Aside0.mk (Kd.R_below HR.out hb1)
        have HB1 := Aside0.mk (below_step HB.out hb1)
        have HSZ := Aside0.mk HB1.out.size
        clear hb1
        go_wp2_with (first
          | ((with_reducible refine gate_dst (N := 16) rfl ?_); refine wpList_buildSlice_one rfl 22 30 (.tmp 15) rfl 33 (sgA y) _ Try.underlying22 zeroSig2 (sgA_size HOK.out.len).symm (by decide) (by decide) rfl ?_)
          | ((with_reducible refine gate_builtin (b := .append) (xs := #[.tmp 12, .tmp 16]) rfl ?_); at_builtin; go_loud (refine Kd.R_append sgK (w0 := w) w.heap.size rfl _ _ 22 30 _ 36 rfl Try.underlying22 zeroSig rfl (by decide) (by decide) u3 (blocks s j) y (sgL y) (fun _ => True) (fun k => False) (by rfl) (by rfl) (sgK_M HOK.out.len) (fun k hk => hk.elim) (fun _ _ => trivial) HR1.out HB1.out HSZ.out (by have := HT.out.2; have := HZ.out; rw [blocks_length]; omega) ?_; intro v2 w2 hR2 hB2 hg2 hat2; clear hg2 hat2; have HR2 := Aside0.mk hR2; have HB2 := Aside0.mk hB2; clear hR2 hB2))
          | fail)
        go_roundg (t.size - 8)
        case measure => have := HK.out; have := H8.out; omega
        case rel =>
          refine ⟨j + 1, t.extract 8 t.size, rfl, ⟨HQQ.out.1, by have := HS.out; have := H8.out; omega⟩, ⟨HQQ.out.2.symm⟩, ⟨?_⟩, HB2⟩
          rw [← blocks_snoc, ← HY.out]
          exact HR2.out
      · have e1 : decide (8 ≤ (t.size : Int)) = false := by simp; omega
        have e2 : (8 ≤ (t.size : Int)) = False := by simp; omega
        have hj : j = s.size / 8 := by have := HT.out.2; omega
        have HJ := Aside0.mk hj
        clear h8 ht hj
        go_wp2_with fail
        go_ret
        refine ⟨_, rfl, ?_, HB.out⟩
        rw [HE.out, ← HJ.out]
        exact HR.out
end Go.Proofs.Ytchaegfdcdlfaaa.X

/- A list of block signatures that came in, opened. -/
namespace Go.Proofs.Ytchaegfdcdlfaaa.X
set_option linter.unusedVariables false
open Go.ChangeShapes Go.WideShapes Go.ChangeAt Go.RowKit Go.Deep Go.Proofs.YtchaegfdcdlfaaaW.PrintWords Go.Proofs.YtchaegfdcdlfaaaW.PrintLast Go.Proofs.YtchaegfdcdlfaaaW.PrintMore

section
variable {H : Type} {enc : TypeId × Value → H} {P : Program} {w : World} {base : Nat} {spare : Nat → Bool} {held : Bool}
theorem trod_arr8 {t e : TypeId} {n fuel : Nat} {cs : List Value} {x : DataW H × List MemPlace} (hu : P.underlying t = some (.array n e)) (he : P.underlying e = some (.int .u8)) (hc : P.cellsOf e = 1) (hct : P.cellsOf t = n)
    (h : DataW.trod enc P w base spare held fuel t cs = some x) : ∃ l : List Int, cs = nums .u8 l ∧ l.length = n ∧ ∀ x ∈ l, (Lit.int .u8 x).wf = true := by
  obtain ⟨xs, m, _, _, hl, hxl, hel⟩ := DataW.trod_array hu h
  rw [hct] at hl
  have hat : ∀ i (hi : i < n), ∃ x, cs[i]? = some (.int .u8 x) ∧ (Lit.int .u8 x).wf = true := by
    intro i hi
    have h1 := hel i hi
    rw [List.getElem?_eq_getElem (by omega)] at h1
    obtain ⟨x, hx, _, hw⟩ := DataW.trod_int he h1
    refine ⟨x, ?_, hw⟩
    rw [hc, Nat.mul_one] at hx
    have h2 := congrArg (·[0]?) hx
    simp only [List.getElem?_take, Nat.zero_lt_one, if_true, List.getElem?_drop, Nat.add_zero, List.getElem?_cons_zero] at h2
    simpa using h2
  refine ⟨cs.map fun v => match v with | .int _ x => x | _ => 0, ?_, by simp [hl], ?_⟩
  · apply List.ext_getElem
    · simp [nums]
    · intro i h1 h2
      obtain ⟨x, hx, _⟩ := hat i (by omega)
      have hx2 : cs[i] = .int .u8 x := by rw [List.getElem?_eq_getElem h1] at hx; injection hx
      simp [nums, hx2]
  · intro x hx
    obtain ⟨u, hu2, rfl⟩ := List.mem_map.1 hx
    obtain ⟨i, hi, rfl⟩ := List.mem_iff_getElem.1 hu2
    obtain ⟨y, hy, hw⟩ := hat i (by omega)
    have hy2 : cs[i] = .int .u8 y := by
      rw [List.getElem?_eq_getElem hi] at hy
      injection hy
    rw [hy2]
    exact hw
end
section
variable {H : Type} {enc : TypeId × Value → H} {w : World} {base : Nat} {spare : Nat → Bool} {held : Bool}
set_option maxRecDepth 100000 in
theorem trod_sg {fuel : Nat} {cs : List Value} {x : DataW H × List MemPlace} (h : DataW.trod enc Try.prog w base spare held fuel 30 cs = some x) : ∃ s : Sg, cs = sgL s ∧ SgOk s := by
  obtain ⟨y0, y1, n, rfl, hl, h0, h1⟩ := trod_struct2 Try.underlying30 h
  rw [cellsSig] at hl
  obtain ⟨q, hq, _, hw⟩ := DataW.trod_int (k := .u32) (by kernel_rfl) h0
  obtain ⟨l, hl2, h32, hw8⟩ := trod_arr8 (n := 32) (e := 5) (by kernel_rfl) Try.underlying5 cells5 (by kernel_rfl) h1
  have hq2 : cs.take 1 = [.int .u32 q] := hq
  have hl3 : (cs.drop 1).take 32 = nums .u8 l := hl2
  rw [List.take_of_length_le (by simp [hl])] at hl3
  refine ⟨(q, l), ?_, ⟨h32, hw8, hw⟩⟩
  show cs = .int .u32 q :: nums .u8 l
  rw [← hl3, ← List.singleton_append, ← hq2, List.take_append_drop]
set_option maxRecDepth 100000 in
theorem open_sigs {A : Option Addr} {len cap : Nat} {d : DataW H} {p : List MemPlace} (h : DataW.Trod enc Try.prog w base spare held 22 (.slice A len cap) d p) :
    ∃ l : List Sg, l.length = len ∧ len ≤ cap ∧ sgK.C w A len l ∧ ∀ s ∈ l, SgOk s := by
  obtain ⟨fuel, hf⟩ := h
  rcases open_slice Try.underlying22 hf with ⟨hcs, _⟩ | ⟨a, l, c, m, n, D, Pl, hcs, hb, hl, hm, hmm, _, hx⟩
  · simp [Value.cells] at hcs
    obtain ⟨rfl, rfl, rfl⟩ := hcs
    exact ⟨[], rfl, Nat.le_refl _, ⟨rfl, by omega, fun h => absurd h (by omega)⟩, fun s hs => absurd hs (by simp)⟩
  · simp [Value.cells] at hcs
    obtain ⟨rfl, rfl, rfl⟩ := hcs
    have hlm : len ≤ m := by rw [hmm]; split <;> omega
    rw [cellsSig] at hx
    obtain ⟨S, hS⟩ := choose_lt (α := Sg) (n := len) (p := fun i s => SgOk s ∧ w.cells? base (a.add (i * 33)) 33 = some (sgL s)) (fun i hi => by
      obtain ⟨cs', h1, h2⟩ := hx i (by omega)
      obtain ⟨s, rfl, hs⟩ := trod_sg h2
      exact ⟨s, hs, h1⟩)
    refine ⟨(List.range len).map S, by simp, hl, ⟨by simp, by unfold maxLen at hm; omega, fun _ => ⟨a, rfl, fun j s hj => ?_⟩⟩, ?_⟩
    · have hjl : j < len := by
        have := (List.getElem?_eq_some_iff.1 hj).1
        simpa using this
      have hs : S j = s := by simpa [hjl] using hj
      subst hs
      refine ⟨sgL (S j), sgL_length (hS j hjl).1.len, sgK_K.2 ⟨rfl, (hS j hjl).1.len⟩, fun i u hi => ?_⟩
      obtain ⟨_, hlen, hcell⟩ := World.cells?_some (hS j hjl).2
      have hi2 : i < 33 := by
        have := (List.getElem?_eq_some_iff.1 hi).1
        rw [sgL_length (hS j hjl).1.len] at this
        exact this
      have := hcell i hi2
      rw [Go.Deep.add_add] at this
      rw [sgK_sz, this, hi]
    · intro s hs
      obtain ⟨i, hi, rfl⟩ := List.mem_map.1 hs
      exact (hS i (List.mem_range.1 hi)).1
end
end Go.Proofs.Ytchaegfdcdlfaaa.X

/- Block signatures: tools for the walks of the layers above. -/
namespace Go.Proofs.Ytchaegfdcdlfaaa.X
set_option linter.unusedVariables false
set_option linter.unusedSimpArgs false
open Go.RowKit Go.Maps Go.Proofs.YtchaegfdcdlfaaaW.PrintWords Go.Proofs.YtchaegfdcdlfaaaW.PrintLast Go.Proofs.YtchaegfdcdlfaaaW.PrintMore

theorem slice_mid (s : ByteArray) (i j : Nat) (h : i ≤ j) (hj : j ≤ s.size) (J : Int) (hJ : J = (j : Int)) (W : World) : (Instr.slice 9 (.string s) (some (.int .i64 (i : Int))) (some (.int .i64 J)) none).run Try.prog W = .ok (.string (s.extract i j)) W := by
  subst hJ
  simp [go_sem, Try.underlying9, h, hj]

theorem idxI_at {l : List Sg} {y : Sg} {j : Nat} (h : l[j]? = some y) (hf : ∀ i, i < j → l[i]? ≠ some y) : idxI l y = (j : Int) := by
  have hm : y ∈ l := List.mem_of_getElem? h
  obtain ⟨h1, h2, h3⟩ := idxOf_first hm
  have : l.idxOf y = j := by
    rcases Nat.lt_trichotomy (l.idxOf y) j with hlt | he | hgt
    · exact absurd h2 (hf _ hlt)
    · exact he
    · exact absurd h (h3 j hgt)
  simp [idxI, hm, this]
theorem idxI_none {l : List Sg} {y : Sg} (hf : ∀ i, i < l.length → l[i]? ≠ some y) : idxI l y = -1 := by
  have hm : y ∉ l := fun hm => hf _ (idxOf_first hm).1 (idxOf_first hm).2.1
  simp [idxI, hm]
theorem guardSig : Try.prog.eqGuardType Try.prog.depth 30 = false := by kernel_rfl
theorem exec_eql_sg {a : Act} {o : Oper} {W : World} (s y : Sg) (hs : SgOk s) (hy : SgOk y) (p q : Operand) (ho : o.op = .binOp .eql 30 p q 30) (hp : a.eval p = .agg (sgA s)) (hq : a.eval q = .agg (sgA y)) :
    (execOp a.eval o).run Try.prog W = .ok (.value (.bool (s == y))) W := by
  unfold execOp
  simp [ho, hp, hq, Sem.run_bind, eqGuard, guardSig, eql_sg s y hs hy W]
theorem exec_neq_sg {a : Act} {o : Oper} {W : World} (s y : Sg) (hs : SgOk s) (hy : SgOk y) (p q : Operand) (ho : o.op = .binOp .neq 30 p q 30) (hp : a.eval p = .agg (sgA s)) (hq : a.eval q = .agg (sgA y)) :
    (execOp a.eval o).run Try.prog W = .ok (.value (.bool (!(s == y)))) W := by
  unfold execOp
  simp [ho, hp, hq, Sem.run_bind, eqGuard, guardSig, neq_sg s y hs hy W]

theorem find_call3 {l : List Sg} {n : Nat} (hn : l.length = n) (A : Option Addr) (c : Nat) (p : ByteArray) (w : World) (hr : sgK.C w A n l) (hok : ∀ s ∈ l, SgOk s) (hl : n ≤ 100000) (hp : p.size ≤ 100000) :
    Calls Try.prog 37 #[.slice A n c, .string p] w fun e w' => e = .returned (.int .i64 (findOf l p)) ∧ Below w.heap.size w w' := by
  subst hn
  exact find_call A c l p w hr hok hl hp

theorem roll_callB (s : ByteArray) (hs : s.size ≤ 140737488351232) (x : Int) (hx : roll (bs s) = x) (w : World) : Calls Try.prog 39 #[.string s] w fun e w' => e = .returned (.int .u32 x) ∧ Below w.heap.size w w' := by
  subst hx
  refine (roll_Sum.calls (s.size + 1) s (roll (bs s)) _ (Sum_eq s hs (s.size + 1) (by omega))).mono ?_
  rintro e w' ⟨rfl, m, rfl⟩
  exact ⟨rfl, pw_below_drewN (Below.refl _ _) m⟩
theorem sha_callB (s : ByteArray) (hs : s.size ≤ 100000000) (d : List Int) (hd : shaOf (bytesOf s) = d) (w : World) : Calls Try.prog 40 #[.string s] w fun e w' => e = .returned (.agg (cells8 d)) ∧ Below w.heap.size w w' := by
  subst hd
  exact of_call s w hs
theorem sign_callB (s : ByteArray) (hs : s.size ≤ 1000000) (l : List Sg) (hl : signOf s = l) (n : Nat) (hn : l.length = n) (w : World) : Calls Try.prog 33 #[.string s] w fun e w' => ∃ A c, e = .returned (.slice A n c) ∧ n ≤ c ∧ sgK.C w' A n l ∧ Below w.heap.size w w' := by
  subst hl
  subst hn
  refine (signof_call s w hs).mono ?_
  rintro e w' ⟨v, rfl, hR, hb⟩
  obtain ⟨A, c, rfl, hc, hC⟩ := Kd.R_reads hR
  exact ⟨A, c, rfl, hc, hC, hb⟩
theorem find_callB {l : List Sg} {n : Nat} (hn : l.length = n) (A : Option Addr) (c : Nat) (p : ByteArray) (w : World) (hr : sgK.C w A n l) (hok : ∀ s ∈ l, SgOk s) (hl : n ≤ 100000) (hp : p.size ≤ 100000) (i : Int) (hi : findOf l p = i) :
    Calls Try.prog 37 #[.slice A n c, .string p] w fun e w' => e = .returned (.int .i64 i) ∧ Below w.heap.size w w' := by
  subst hi
  exact find_call3 hn A c p w hr hok hl hp
theorem one_callB (s : ByteArray) (hs : s.size ≤ 100000000) (y : Sg) (hy : oneOf s = y) (w : World) : Calls Try.prog 35 #[.string s] w fun e w' => e = .returned (.agg (sgA y)) ∧ Below w.heap.size w w' := by
  subst hy
  exact one_call s w hs
/-- A signature's cells lie at an address. -/
def SgAt (W : World) (a : Addr) (s : Sg) : Prop := ∀ j v, (sgA s)[j]? = some v → W.cell? (a.add j) = some v
theorem SgAt.below {W W' : World} {a : Addr} {s : Sg} (h : SgAt W a s) (hb : Below W.heap.size W W') : SgAt W' a s := fun j v hv => (hb.cell (World.block_lt_of_cell? _ _ (h j v hv))).trans (h j v hv)
theorem SgAt.weak {W : World} {a : Addr} {s : Sg} (h : SgAt W a s) : W.cell? a = some (.int .u32 s.1) := by
  have := h 0 (.int .u32 s.1) rfl
  rwa [Addr.add_zero'] at this
theorem SgAt.dig {W : World} {a : Addr} {s : Sg} (h : SgAt W a s) : ∀ j v, (cells8 s.2)[j]? = some v → W.cell? ((a.add 1).add j) = some v := fun j v hv => by
  have h1 := h (1 + j) v (by
    rw [Nat.add_comm]
    show (sgL s).toArray[j + 1]? = some v
    rw [List.getElem?_toArray]
    unfold sgL
    rw [List.getElem?_cons_succ]
    simpa [cells8, nums] using hv)
  rw [← h1]
  congr 1
  unfold Addr.add
  by_cases h2 : j = 0 <;> simp [h2, Nat.add_assoc]
theorem sg_at {W : World} {A : Option Addr} {n : Nat} {l : List Sg} (h : sgK.C W A n l) {i : Nat} (hi : i < n) (s : Sg) (hs : l.getD i (0, []) = s) : ∃ ad, A = some ad ∧ SgAt W (ad.add (i * 33)) s := by
  obtain ⟨ad, hA, _, hc⟩ := sgs_at h hi
  rw [hs] at hc
  exact ⟨ad, hA, hc⟩
theorem sg_at' {W : World} {ad : Addr} {n : Nat} {l : List Sg} (h : sgK.C W (some ad) n l) {i : Nat} (hi : i < n) (s : Sg) (hs : l.getD i (0, []) = s) : SgAt W (ad.add (i * 33)) s := by
  obtain ⟨ad', hA, hc⟩ := sg_at h hi s hs
  injection hA with hA
  subst hA
  exact hc
theorem infoDig {d : List Int} (h : d.length = 32) : (Try.prog.info? 28).map (·.size) = some (cells8 d).size := by rw [cells8_size, h]; kernel_rfl
theorem guardDig : Try.prog.eqGuardType Try.prog.depth 28 = false := by kernel_rfl
theorem exec_neq_dig {a : Act} {o : Oper} {W : World} (s y : List Int) (hs : s.length = 32) (hy : y.length = 32) (p q : Operand) (ho : o.op = .binOp .neq 28 p q 28) (hp : a.eval p = .agg (cells8 s)) (hq : a.eval q = .agg (cells8 y)) :
    (execOp a.eval o).run Try.prog W = .ok (.value (.bool (!(s == y)))) W := by
  unfold execOp
  have := neq8 (P := Try.prog) (w := W) (t := 28) Try.underlying28 Try.info5i Try.underlying5 cells5 s y hs hy
  simp [ho, hp, hq, Sem.run_bind, eqGuard, guardDig, this]
theorem blocks_get (s : ByteArray) (n j : Nat) (hj : j < n) : (blocks s n).getD j (0, []) = blockAt s j := by
  unfold blocks
  rw [List.getD_eq_getElem?_getD, List.getElem?_map, List.getElem?_range hj]
  rfl
theorem oneOf_fst (s : ByteArray) : (oneOf s).1 = roll (bs s) := by unfold oneOf; dsimp only
theorem oneOf_snd (s : ByteArray) : (oneOf s).2 = shaOf (bytesOf s) := by unfold oneOf; dsimp only
/-- A cut of a text. -/
theorem cut_text (s : ByteArray) (i j : Nat) (h : i ≤ j) (hj : j ≤ s.size) (W : World) : (Instr.slice 9 (.string s) (some (.int .i64 (i : Int))) (some (.int .i64 (j : Int))) none).run Try.prog W = .ok (.string (s.extract i j)) W := slice_mid s i j h hj (j : Int) rfl W

theorem sg_nil (W : World) : sgK.C W none 0 [] := ⟨rfl, by omega, fun h => absurd h (by omega)⟩
theorem find_nil (s : ByteArray) : findOf [] s = -1 := by unfold findOf idxI; simp
theorem sg_take {W : World} {A : Option Addr} {n : Nat} {l : List Sg} (h : sgK.C W A n l) (hn : l.length = n) {i : Nat} (hi : i ≤ n) : sgK.C W A i (l.take i) := by
  subst hn
  have := Kd.C_take h hi
  rwa [List.length_take, Nat.min_eq_left hi] at this
theorem find_cases (l : List Sg) (s : ByteArray) : findOf l s = -1 ∨ ∃ i : Nat, findOf l s = (i : Int) ∧ s.size = 8 ∧ i < l.length ∧ l.getD i (0, []) = oneOf s ∧ findOf (l.take i) s = -1 := by
  unfold findOf
  by_cases h8 : s.size = 8
  · rw [if_pos h8]
    unfold idxI
    by_cases hm : oneOf s ∈ l
    · rw [if_pos hm]
      obtain ⟨h1, h2, h3⟩ := idxOf_first hm
      refine .inr ⟨l.idxOf (oneOf s), rfl, h8, h1, ?_, ?_⟩
      · rw [List.getD_eq_getElem?_getD, h2]
        rfl
      · rw [if_pos h8, if_neg]
        intro hin
        obtain ⟨j, hj, he⟩ := List.mem_iff_getElem.1 hin
        have hj2 : j < l.idxOf (oneOf s) := by rw [List.length_take] at hj; omega
        refine h3 j hj2 ?_
        rw [List.getElem_take] at he
        rw [List.getElem?_eq_getElem (by omega), he]
    · rw [if_neg hm]
      exact .inl rfl
  · rw [if_neg h8]
    exact .inl rfl
theorem find_there (l : List Sg) (q : ByteArray) (y : Sg) (i : Nat) (hi : i < l.length) (hy : l.getD i (0, []) = y) (hq : oneOf q = y) (h8 : q.size = 8) : ∃ k : Nat, findOf l q = (k : Int) ∧ k ≤ i ∧ k < l.length ∧ l.getD k (0, []) = y := by
  have hg : l[i]? = some y := by
    rw [List.getD_eq_getElem?_getD, List.getElem?_eq_getElem hi] at hy
    rw [List.getElem?_eq_getElem hi]
    exact congrArg some hy
  have hm : y ∈ l := List.mem_of_getElem? hg
  obtain ⟨h1, h2, h3⟩ := idxOf_first hm
  refine ⟨l.idxOf y, ?_, ?_, h1, ?_⟩
  · unfold findOf idxI
    rw [if_pos h8, hq, if_pos hm]
  · by_cases h : l.idxOf y ≤ i
    · exact h
    · exact absurd hg (h3 i (by omega))
  · rw [List.getD_eq_getElem?_getD, h2]
    rfl
end Go.Proofs.Ytchaegfdcdlfaaa.X
