/- Texts of this claim, what it reaches -/
import Derived.Test.YtchaegfdcdlfaaaA1
import Derived.JoinedOf
import Derived.Test.YtchaegfdcdlfaaaProg
import Derived.WalkMore
import Derived.Laws.Tables
import Derived.StillTailTactics
import Derived.Deep.RegionHeld
import Derived.Laws.CopyOwn
import Derived.WalkLawsBesides
import Derived.Lib.LazyBuf
import Derived.ChangeKeysEq
import Derived.Lib.BytesEntry
import Derived.Lib.Bytealg
import Derived.DeepKeys4
import Derived.Maps.OwnSet
import Derived.Great.BuildSlice
import Derived.ProofKit
import Derived.OpenShut
import Derived.Deep.Slices
import Derived.Laws.Strings
import Derived.Laws.BitsAllLaws
set_option linter.unusedVariables false
set_option linter.unusedSimpArgs false
set_option maxRecDepth 100000
namespace Go.Proofs.Ytchaegfdcdlfaaa
open Go.RowKit Go.Proofs.YtchaegfdcdlfaaaW.PrintWords Go.Proofs.YtchaegfdcdlfaaaW.PrintLast Go.Proofs.YtchaegfdcdlfaaaW.PrintMore
class Rch (W W1 : World) : Prop where
 b : Below W.heap.size W W1
instance (W : World) : Rch W W := ⟨Below.refl _ _⟩
instance (W V : World) (o : Obj) [h : Rch W V] : Rch W (V.alloc o) := ⟨below_alloc h.b o⟩
instance (W V : World) (n : Nat) [h : Rch W V] : Rch W (V.drewN n) := ⟨pw_below_drewN h.b n⟩
instance (W V : World) [h : Rch W V] : Rch W V.drew := ⟨below_drew1 h.b⟩
theorem bw {w W V : World} (h : Below w.heap.size w W) [r : Rch W V] : Below w.heap.size w V := below_step h r.b
theorem bk {W V : World} {g : Nat} {o : Obj} (h : W.heap[g]? = some o) [r : Rch W V] : V.heap[g]? = some o := blk_below h r.b
theorem rr {α : Type} {d : Kd α} {e base : Nat} {ok : Nat → Prop} {W V : World} {v : Value} {xs : List α} (h : d.R e W base ok v xs) [r : Rch W V] : d.R e V base ok v xs := Kd.R_below h r.b
theorem sp : (∀ (a : Act) (v : Value), a.put none v = a) ∧ (∀ (a : Act) (d : Nat) (v : Value), a.put (some d) v = { a with tmps := a.tmps.setIfInBounds d v }) ∧ (∀ (l : List Value) (i : Nat) (v : Value), l.toArray.setIfInBounds i v = (l.set i v).toArray) ∧ (∀ (x : Value) (l : List Value) (v : Value), (x :: l).set 0 v = v :: l) ∧ (∀ (x : Value) (l : List Value) (i : Nat) (v : Value), (x :: l).set (i + 1) v = x :: l.set i v) := ⟨fun _ _ => rfl, fun _ _ _ => rfl, fun _ _ _ => List.setIfInBounds_toArray .., fun _ _ _ => rfl, fun _ _ _ _ => rfl⟩
section
variable {P : Program} {md : Region.Mode} {ops : Array Oper} {Q : Exit → Act → World → Prop} {S : World → Prop}
theorem th {i : Nat} {oi : Oper} {v : Value} {fuel : Nat} {listed : Array Bool} {a a1 : Act} {w : World} 
 (h : wpAnyH P md ops Q S fuel (listed.setIfInBounds i true) a1 w) (hi : ops[i]? = some oi := by simp only [List.getElem?_toArray, List.getElem?_cons_succ, List.getElem?_cons_zero]; rfl)
 (hy : ∀ W, S W → (execOp a.eval oi).run P W = .ok (.value v) W := by intro W_ hW_; go_simp; first | done | with_reducible rfl)
 (ha : a.put oi.dst v = a1 := by simp only [Act.put, List.setIfInBounds_toArray, List.set_cons_zero, List.set_cons_succ]; rfl)
 (hb : (Region.noSelect ops && (Region.free md ops listed i && (Region.ready md ops listed).contains i)) = true := by kernel_rfl)
 (hQ : ∀ c a w, Q (.panic c) (a.put oi.dst v) w → Q (.panic c) a w := by exact fun _ _ _ h => h) (hS : S w := by assumption) (hw : Region.wanted oi (yielded ops a.tmps) = true := by rfl) : wpAnyH P md ops Q S (fuel + 1) listed a w := by
 subst ha
 simp only [Bool.and_eq_true] at hb
 exact wpAnyH_take hi hb.1 hb.2.1 hb.2.2 hQ (.inl ⟨hw, hy⟩) hS h
theorem tj {i : Nat} {oi : Oper} {fuel : Nat} {listed : Array Bool} {a a1 : Act} {w : World}
 (h : wpAnyH P md ops Q S fuel (listed.setIfInBounds i true) a1 w) (hi : ops[i]? = some oi := by simp only [List.getElem?_toArray, List.getElem?_cons_succ, List.getElem?_cons_zero]; rfl)
 (ha : a.put oi.dst undef = a1 := by simp only [Act.put, List.setIfInBounds_toArray, List.set_cons_zero, List.set_cons_succ]; rfl)
 (hb : (Region.noSelect ops && (Region.free md ops listed i && (Region.ready md ops listed).contains i)) = true := by kernel_rfl)
 (hQ : ∀ c a w, Q (.panic c) (a.put oi.dst undef) w → Q (.panic c) a w := by exact fun _ _ _ h => h) (hS : S w := by assumption) (hw : Region.wanted oi (yielded ops a.tmps) = false := by rfl) : wpAnyH P md ops Q S (fuel + 1) listed a w := by
 subst ha
 simp only [Bool.and_eq_true] at hb
 exact wpAnyH_take hi hb.1 hb.2.1 hb.2.2 hQ (.inr ⟨hw, rfl⟩) hS h
theorem tr {i : Nat} {o : Oper} {fuel : Nat} {listed : Array Bool} {a : Act} {w : World}
 (h : ∀ K1 : Act → World → Prop, Shut (∀ a w, S w → (S w → wpAnyH P md ops Q S fuel (listed.setIfInBounds i true) a w) → K1 a w) → Oper.wp P o a w K1 Q)
 (hr : Region.ready md ops listed = [i] := by kernel_rfl) (ho : ops[i]? = some o := by simp only [List.getElem?_toArray, List.getElem?_cons_succ, List.getElem?_cons_zero]; rfl)
 (hw : Region.wanted o (yielded ops a.tmps) = true := by rfl) : wpAnyH P md ops Q S (fuel + 1) listed a w :=
 wpAnyH_ready hr (by simp) (AllReadyH.cons ho (fun K hK => by rw [if_pos hw]; exact h K hK) AllReadyH.nil)
end
end Go.Proofs.Ytchaegfdcdlfaaa
namespace Go.Proofs.Ytchaegfdcdlfaaa
open Go.RowKit Go.Proofs.YtchaegfdcdlfaaaW.PrintWords Go.Proofs.YtchaegfdcdlfaaaW.PrintLast Go.Proofs.YtchaegfdcdlfaaaW.PrintMore
theorem am {p : Prop} (h : p) : Aside0 p := ⟨h⟩
theorem ltY {i n : Nat} (h : i < n) : decide ((i : Int) < (n : Int)) = true ∧ ((i : Int) < (n : Int)) = True := ⟨by simpa using h, by simpa using h⟩
theorem ltN {i n : Nat} (h : ¬ i < n) : decide ((i : Int) < (n : Int)) = false ∧ ((i : Int) < (n : Int)) = False := ⟨by simpa using h, by simpa using h⟩
theorem wr1 {i : Nat} (h : i + 1 ≤ 9223372036854775807) : IntKind.i64.wrap ((i : Int) + 1) = ((i + 1 : Nat) : Int) := by simp [IntKind.wrap, IntKind.bits, IntKind.signed]; omega
section
variable {P : Program} {md : Region.Mode} {ops : Array Oper} {Q : Exit → Act → World → Prop} {S : World → Prop}
theorem tu {i : Nat} {oi : Oper} {v : Value} {fuel : Nat} {listed : Array Bool} {a a1 : Act} {w : World} {R : World → Prop} (f : ∀ W, S W → R W)
 (h : wpAnyH P md ops Q S fuel (listed.setIfInBounds i true) a1 w) (hi : ops[i]? = some oi := by simp only [List.getElem?_toArray, List.getElem?_cons_succ, List.getElem?_cons_zero]; rfl)
 (hy : ∀ W, S W → R W → (execOp a.eval oi).run P W = .ok (.value v) W := by intro W_ hW_ v_; go_simp; first | done | with_reducible rfl)
 (ha : a.put oi.dst v = a1 := by simp only [Act.put, List.setIfInBounds_toArray, List.set_cons_zero, List.set_cons_succ]; rfl)
 (hb : (Region.noSelect ops && (Region.free md ops listed i && (Region.ready md ops listed).contains i)) = true := by kernel_rfl)
 (hQ : ∀ c a w, Q (.panic c) (a.put oi.dst v) w → Q (.panic c) a w := by exact fun _ _ _ h => h) (hS : S w := by assumption) (hw : Region.wanted oi (yielded ops a.tmps) = true := by rfl) : wpAnyH P md ops Q S (fuel + 1) listed a w := by
 subst ha
 simp only [Bool.and_eq_true] at hb
 exact wpAnyH_take hi hb.1 hb.2.1 hb.2.2 hQ (.inl ⟨hw, fun W hW => hy W hW (f W hW)⟩) hS h
theorem td {listed : Array Bool} {a : Act} {w : World} {n : Nat} (h : Q .normal a w) (hr : Region.ready md ops listed = [] := by kernel_rfl) : wpAnyH P md ops Q S n listed a w := wpAnyH_done hr h n
end
end Go.Proofs.Ytchaegfdcdlfaaa
namespace Go.Proofs.Ytchaegfdcdlfaaa.J
section
open Go
def closT (P : Program) : (fuel : Nat) → (todo seen : List FuncId) → Option (List FuncId)
 | 0, _, _ => none
 | _ + 1, [], seen => some seen.reverse
 | n + 1, f :: todo, seen => if seen.contains f then closT P n todo seen else closT P n ((P.funcs[f]?).elim [] P.leadsTo ++ todo) (f :: seen)
theorem closT_via (P : Program) : ∀ (n N : Nat) (todo seen r : List FuncId), closT P n todo seen = some r → n ≤ N → P.closureVia N todo seen = r
 | 0, _, _, _, _, h, _ => by simp [closT] at h
 | n + 1, N, [], seen, r, h, hn => by
  obtain ⟨N, rfl⟩ : ∃ M, N = M + 1 := ⟨N - 1, by omega⟩
  have h2 : some seen.reverse = some r := h
  exact Option.some.inj h2
 | n + 1, N, f :: todo, seen, r, h, hn => by
  obtain ⟨N, rfl⟩ : ∃ M, N = M + 1 := ⟨N - 1, by omega⟩
  rw [closT] at h
  rw [Program.closureVia]
  split at h
  ·rename_i hs
   rw [if_pos hs]
   exact closT_via P n N todo seen r h (by omega)
  ·rename_i hs
   rw [if_neg hs]
   exact closT_via P n N _ _ r h (by omega)
theorem sum_ge {α : Type} (g : α → Nat) : ∀ l : List α, l.length ≤ (l.map fun x => g x + 1).sum
 | [] => by simp
 | x :: l => by
  have := sum_ge g l
  simp only [List.length_cons, List.map_cons, List.sum_cons]
  omega
theorem clos_eq {P : Program} {f n : Nat} (hn : n ≤ 1 + P.funcs.size) (h : (closT P n [f] []).isSome = true) : P.closure f = (closT P n [f] []).getD [] := by
 obtain ⟨r, hr⟩ := Option.isSome_iff_exists.1 h
 have hs := sum_ge (fun g => (P.leadsTo g).length) P.funcs.toList
 rw [Array.length_toList] at hs
 unfold Program.closure
 rw [closT_via P n _ [f] [] r hr (by omega), hr]
 rfl
def hC : List Nat := [104, 97, 114, 110, 101, 115, 115]
def sC : List Nat := [101, 101, 101, 97, 99, 57, 48, 51, 52, 50, 99, 101, 98, 57, 52, 56, 52, 97, 97, 101, 99, 49, 54, 55, 97, 55, 99, 55, 53, 101, 48, 52, 54, 97, 97, 101, 57, 56, 55, 100, 101, 51, 55, 53, 99, 54, 48, 57, 97, 97, 51, 49, 97, 52, 50, 101, 53, 98, 100, 98, 100, 53, 48, 53]
def cC : List Nat := [99, 117, 116]
def rC : List Nat := [97, 116, 32, 114, 111, 108, 111, 100, 101, 120, 47, 114, 111, 108, 111, 100, 101, 120, 108, 97, 119, 49, 48, 46, 83, 105, 103, 110, 84, 101, 108, 108, 115, 32, 114, 111, 108, 111, 100, 101, 120, 47, 114, 111, 108, 111, 100, 101, 120, 108, 97, 119, 49, 48, 46, 83, 105, 103, 110, 70, 105, 110, 100, 115, 32, 114, 111, 108, 111, 100, 101, 120, 47, 114, 111, 108, 111, 100, 101, 120, 108, 97, 119, 49, 48, 46, 83, 105, 103, 110, 77, 97, 110, 121, 32, 114, 111, 108, 111, 100, 101, 120, 47, 114, 111, 108, 111, 100, 101, 120, 108, 97, 119, 49, 48, 46, 83, 105, 103, 110, 78, 111, 110, 101, 32, 114, 111, 108, 111, 100, 101, 120, 47, 114, 111, 108, 111, 100, 101, 120, 108, 97, 119, 49, 48, 46, 83, 105, 103, 110, 74, 111, 105, 110, 32, 114, 111, 108, 111, 100, 101, 120, 47, 114, 111, 108, 111, 100, 101, 120, 108, 97, 119, 48, 50, 46, 83, 101, 99, 116, 105, 111, 110, 84, 101, 108, 108, 115, 32, 114, 111, 108, 111, 100, 101, 120, 47, 114, 111, 108, 111, 100, 101, 120, 108, 97, 119, 48, 50, 46, 83, 101, 99, 116, 105, 111, 110, 66, 97, 99, 107, 32, 114, 111, 108, 111, 100, 101, 120, 47, 114, 111, 108, 111, 100, 101, 120, 108, 97, 119, 48, 50, 46, 83, 101, 99, 116, 105, 111, 110, 79, 110, 101, 32, 114, 111, 108, 111, 100, 101, 120, 47, 114, 111, 108, 111, 100, 101, 120, 108, 97, 119, 48, 50, 46, 83, 101, 99, 116, 105, 111, 110, 67, 117, 116, 32, 114, 111, 108, 111, 100, 101, 120, 47, 114, 111, 108, 111, 100, 101, 120, 108, 97, 119, 48, 50, 46, 83, 101, 99, 116, 105, 111, 110, 83, 117, 109, 115, 32, 114, 111, 108, 111, 100, 101, 120, 47, 114, 111, 108, 111, 100, 101, 120, 108, 97, 119, 48, 50, 46, 83, 101, 99, 116, 105, 111, 110, 80, 97, 114, 116, 115, 32, 114, 111, 108, 111, 100, 101, 120, 47, 114, 111, 108, 111, 100, 101, 120, 108, 97, 119, 48, 50, 46, 83, 101, 99, 116, 105, 111, 110, 76, 111, 110, 103, 32, 114, 111, 108, 111, 100, 101, 120, 47, 114, 111, 108, 111, 100, 101, 120, 108, 97, 119, 49, 49, 46, 68, 101, 108, 116, 97, 66, 121, 116, 101, 115, 32, 114, 111, 108, 111, 100, 101, 120, 47, 114, 111, 108, 111, 100, 101, 120, 108, 97, 119, 49, 49, 46, 68, 101, 108, 116, 97, 77, 97, 107, 101, 115, 32, 114, 111, 108, 111, 100, 101, 120, 47, 114, 111, 108, 111, 100, 101, 120, 108, 97, 119, 49, 49, 46, 68, 101, 108, 116, 97, 80, 97, 114, 116, 115, 32, 114, 111, 108, 111, 100, 101, 120, 47, 114, 111, 108, 111, 100, 101, 120, 108, 97, 119, 49, 49, 46, 68, 101, 108, 116, 97, 79, 119, 110, 32, 114, 111, 108, 111, 100, 101, 120, 47, 114, 111, 108, 111, 100, 101, 120, 108, 97, 119, 49, 49, 46, 68, 101, 108, 116, 97, 76, 101, 97, 115, 116, 32, 114, 111, 108, 111, 100, 101, 120, 47, 114, 111, 108, 111, 100, 101, 120, 108, 97, 119, 49, 49, 46, 68, 101, 108, 116, 97, 78, 111, 110, 101, 32, 114, 111, 108, 111, 100, 101, 120, 47, 114, 111, 108, 111, 100, 101, 120, 108, 97, 119, 49, 49, 46, 68, 101, 108, 116, 97, 84, 101, 108, 108, 115, 32, 114, 111, 108, 111, 100, 101, 120, 47, 114, 111, 108, 111, 100, 101, 120, 108, 97, 119, 49, 49, 46, 68, 101, 108, 116, 97, 66, 97, 99, 107, 32, 114, 111, 108, 111, 100, 101, 120, 47, 114, 111, 108, 111, 100, 101, 120, 108, 97, 119, 49, 51, 46, 77, 97, 110, 105, 99, 66, 97, 99, 107, 32, 114, 111, 108, 111, 100, 101, 120, 47, 114, 111, 108, 111, 100, 101, 120, 108, 97, 119, 49, 51, 46, 77, 97, 110, 105, 99, 67, 104, 97, 110, 103, 101, 100, 32, 114, 111, 108, 111, 100, 101, 120, 47, 114, 111, 108, 111, 100, 101, 120, 108, 97, 119, 49, 51, 46, 77, 97, 110, 105, 99, 65, 108, 111, 110, 101, 32, 114, 111, 108, 111, 100, 101, 120, 47, 114, 111, 108, 111, 100, 101, 120, 108, 97, 119, 49, 56, 46, 67, 111, 100, 101, 66, 97, 99, 107, 32, 114, 111, 108, 111, 100, 101, 120, 47, 114, 111, 108, 111, 100, 101, 120, 108, 97, 119, 49, 56, 46, 67, 111, 100, 101, 67, 104, 97, 110, 103, 101, 100, 32, 114, 111, 108, 111, 100, 101, 120, 47, 114, 111, 108, 111, 100, 101, 120, 108, 97, 119, 49, 56, 46, 67, 111, 100, 101, 68, 105, 99, 116, 32, 114, 111, 108, 111, 100, 101, 120, 47, 114, 111, 108, 111, 100, 101, 120, 108, 97, 119, 49, 56, 46, 67, 111, 100, 101, 66, 97, 116, 99, 104, 32, 114, 111, 108, 111, 100, 101, 120, 47, 114, 111, 108, 111, 100, 101, 120, 108, 97, 119, 49, 56, 46, 67, 111, 100, 101, 76, 101, 115, 115]
def sign (n : Nat) : Char := Char.ofNat n
theorem split_word : ∀ (w rest : List Char), (∀ c ∈ w, c ≠ sign 32) → wordsSigns (w ++ sign 32 :: rest) = w :: wordsSigns rest
 | [], rest, _ => by
  show wordsSigns (sign 32 :: rest) = _
  rw [wordsSigns.eq_def]
  rfl
 | c :: w, rest, h => by
  have ih := split_word w rest (fun x hx => h x (by simp [hx]))
  have hc : c ≠ sign 32 := h c (by simp)
  show wordsSigns (c :: (w ++ sign 32 :: rest)) = _
  rw [wordsSigns.eq_def]
  split
  ·rename_i heq; cases heq
  ·rename_i heq
   injection heq with h1 _
   exact absurd h1 hc
  ·rename_i heq
   injection heq with h1 h2
   subst h1
   subst h2
   rw [ih]
theorem initChars : Try.prog.initOrder.toList = hC.map sign ++ sign 32 :: (sC.map sign ++ sign 32 :: (cC.map sign ++ sign 32 :: rC.map sign)) := by
 have h : Try.prog.initOrder = String.ofList (hC.map sign ++ sign 32 :: (sC.map sign ++ sign 32 :: (cC.map sign ++ sign 32 :: rC.map sign))) := by kernel_rfl
 rw [h, String.toList_ofList]
theorem noBlank (l : List Nat) (h : l.all (fun n => decide (33 ≤ n ∧ n < 128)) = true) : ∀ c ∈ l.map sign, c ≠ sign 32 := fun c hc e => by
 obtain ⟨n, hn, rfl⟩ := List.mem_map.1 hc
 have h1 := List.all_eq_true.1 h n hn
 have h2 : 33 ≤ n ∧ n < 128 := by simpa using h1
 have h3 := congrArg Char.toNat e
 have hv : ∀ m, m < 128 → (sign m).toNat = m := fun m hm => by
  have hval : m.isValidChar := Or.inl (by omega)
  unfold sign Char.ofNat
  rw [dif_pos hval]
  show (UInt32.ofNatLT m _).toNat = m
  rw [UInt32.toNat_ofNatLT]
 rw [hv n h2.2, hv 32 (by omega)] at h3
 omega
theorem headWords : ∃ X, wordsSigns Try.prog.initOrder.toList = hC.map sign :: sC.map sign :: cC.map sign :: X := by
 refine ⟨wordsSigns (rC.map sign), ?_⟩
 rw [initChars, split_word _ _ (noBlank hC (by decide +kernel)), split_word _ _ (noBlank sC (by decide +kernel)), split_word _ _ (noBlank cC (by decide +kernel))]
theorem behind (X : List (List Char)) : behindMainWord (hC.map sign :: sC.map sign :: cC.map sign :: X) = cC.map sign :: X := by kernel_rfl
theorem notWhole : (cC.map sign == "gc".toList || cC.map sign == "spec".toList) = false := by kernel_rfl
theorem isCut : (cC.map sign == "cut".toList) = true := by kernel_rfl
theorem later : Try.prog.laysLater = false := by kernel_rfl
theorem noReflect : Try.prog.bearsReflect = false := by kernel_rfl
theorem door : Try.prog.doorFits [] = true := by kernel_rfl
theorem strip (X : List (List Char)) : stripLifts liftWords (cC.map sign :: X) = ([], cC.map sign :: X) := by kernel_rfl
theorem cutWord : cC.map sign = "cut".toList := by kernel_rfl
theorem mayEnter_of {P : Program} {c : List Char} {X : List (List Char)} (h : behindMainWord (wordsSigns P.initOrder.toList) = c :: X) (h1 : stripLifts liftWords (c :: X) = ([], c :: X)) (h2 : c = "cut".toList)
  (h3 : P.laysLater = false) (h4 : P.bearsReflect = false) (h5 : P.doorFits [] = true) : P.mayEnter = true := by
 unfold Program.mayEnter
 rw [h]
 simp [h1, h3, h4, h5]
 simp [h2]
theorem liftsFinal_of {P : Program} {c : List Char} {X : List (List Char)} (h : behindMainWord (wordsSigns P.initOrder.toList) = c :: X) (h1 : stripLifts liftWords (c :: X) = ([], c :: X)) (h2 : c = "cut".toList) : P.liftsFinal = false := by
 unfold Program.liftsFinal Program.headLifts
 rw [h]
 simp [h1]
 simp [h2]
theorem make_of {P : Program} {c : List Char} {X : List (List Char)} (h : behindMainWord (wordsSigns P.initOrder.toList) = c :: X) (h1 : (c == "gc".toList || c == "spec".toList) = false) (h2 : (c == "cut".toList) = true) : P.make = some .cut := by
 unfold Program.make
 rw [h]
 show (if (c == "gc".toList || c == "spec".toList) = true then _ else if (c == "cut".toList || (c == "finals".toList && X.head? == some "cut".toList)) = true then _ else _) = _
 rw [h1, h2, if_neg (by decide), if_pos (by rw [Bool.true_or])]
theorem behindHead : ∃ X, behindMainWord (wordsSigns Try.prog.initOrder.toList) = cC.map sign :: X := by
 obtain ⟨X, hX⟩ := headWords
 exact ⟨X, (congrArg behindMainWord hX).trans (behind X)⟩
theorem mayEnter : Try.prog.mayEnter = true := behindHead.elim fun X h => mayEnter_of h (strip X) cutWord later noReflect door
theorem liftsFinal : Try.prog.liftsFinal = false := behindHead.elim fun X h => liftsFinal_of h (strip X) cutWord
theorem make : Try.prog.make = some .cut := behindHead.elim fun X h => make_of h notWhole isCut
end
end Go.Proofs.Ytchaegfdcdlfaaa.J
namespace Go.Proofs.Ytchaegfdcdlfaaa.Y
def more (n : Nat) : List Int := if n < 128 then [(n : Int) + 128] else more (n / 128) ++ [((n % 128 : Nat) : Int) + 128]
termination_by n
decreasing_by omega
def put (n : Nat) : List Int := if n < 128 then [(n : Int)] else more (n / 128) ++ [((n % 128 : Nat) : Int)]
def V (l : List Int) : Nat := l.foldl (fun a x => a * 128 + (x % 128).toNat) 0
theorem V_snoc (l : List Int) (x : Int) : V (l ++ [x]) = V l * 128 + (x % 128).toNat := by simp [V]
theorem V_nil : V [] = 0 := rfl
theorem more_small {n : Nat} (h : n < 128) : more n = [(n : Int) + 128] := by rw [more, if_pos h]
theorem more_big {n : Nat} (h : ¬ n < 128) : more n = more (n / 128) ++ [((n % 128 : Nat) : Int) + 128] := by rw [more, if_neg h]
theorem V_more (n : Nat) : V (more n) = n := by
 induction n using Nat.strongRecOn with
 | _ n ih =>
  by_cases h : n < 128
  ·rw [more_small h]; simp [V]; omega
  ·rw [more_big h, V_snoc, ih _ (by omega)]; omega
theorem V_put (n : Nat) : V (put n) = n := by
 unfold put
 by_cases h : n < 128
 ·rw [if_pos h]; simp [V]; omega
 ·rw [if_neg h, V_snoc, V_more]; omega
def Marks (q : List Int) : Prop := (∀ x ∈ q, 128 ≤ x ∧ x ≤ 255) ∧ q.head? ≠ some 128
theorem Marks.nil : Marks [] := ⟨by simp, by simp⟩
theorem Marks.snoc {q : List Int} {c : Int} (h : Marks q) (h0 : 128 ≤ c) (h1 : c ≤ 255) (hc : q = [] → c ≠ 128) : Marks (q ++ [c]) := by
 refine ⟨fun x hx => ?_, ?_⟩
 ·rcases List.mem_append.1 hx with hx | hx
  ·exact h.1 x hx
  ·simp at hx; omega
 ·cases q with
  | nil => simpa using hc rfl
  | cons a q => simpa using h.2
theorem Marks.init {q : List Int} {c : Int} (h : Marks (q ++ [c])) : Marks q := by
 refine ⟨fun x hx => h.1 x (List.mem_append_left _ hx), ?_⟩
 cases q with
 | nil => simp
 | cons a q => simpa using h.2
theorem more_marks (n : Nat) (hn : 1 ≤ n) : Marks (more n) := by
 induction n using Nat.strongRecOn with
 | _ n ih =>
  by_cases h : n < 128
  ·rw [more_small h]
   exact ⟨fun x hx => by simp at hx; omega, by simp; omega⟩
  ·rw [more_big h]
   refine (ih _ (by omega) (by omega)).snoc (by omega) (by omega) (fun e => ?_)
   exfalso
   have : V (more (n / 128)) = 0 := by rw [e]; rfl
   rw [V_more] at this; omega
theorem snoc_cases {α : Type} (l : List α) : l = [] ∨ ∃ q c, l = q ++ [c] := by
 rcases List.eq_nil_or_concat l with h | ⟨q, c, h⟩
 ·exact .inl h
 ·exact .inr ⟨q, c, by simpa [List.concat_eq_append] using h⟩
theorem marks_V_pos (q : List Int) (h : Marks q) (hne : q ≠ []) : 1 ≤ V q := by
 induction hL : q.length generalizing q with
 | zero => exact absurd (List.eq_nil_of_length_eq_zero hL) hne
 | succ k ih =>
  obtain ⟨q', c, rfl⟩ := (snoc_cases q).resolve_left hne
  rw [V_snoc]
  by_cases e : q' = []
  ·subst e
   have h1 := h.1 c (by simp)
   have h2 := h.2
   simp at h2
   rw [V_nil]; omega
  ·have := ih q' h.init e (by simpa using hL)
   omega
theorem more_of_marks (q : List Int) (h : Marks q) (hne : q ≠ []) : more (V q) = q := by
 induction hL : q.length generalizing q with
 | zero => exact absurd (List.eq_nil_of_length_eq_zero hL) hne
 | succ k ih =>
  obtain ⟨q', c, rfl⟩ := (snoc_cases q).resolve_left hne
  have h1 := h.1 c (by simp)
  by_cases e : q' = []
  ·subst e
   rw [V_snoc, V_nil, more_small (by omega)]
   simp; omega
  ·have h2 := ih q' h.init e (by simpa using hL)
   have h3 := marks_V_pos q' h.init e
   rw [V_snoc, more_big (by omega), show (V q' * 128 + (c % 128).toNat) / 128 = V q' by omega, h2]
   congr 2
   omega
theorem put_form (n : Nat) : ∃ q c, put n = q ++ [c] ∧ Marks q ∧ 0 ≤ c ∧ c < 128 := by
 unfold put
 by_cases h : n < 128
 ·rw [if_pos h]; exact ⟨[], _, rfl, Marks.nil, by omega, by omega⟩
 ·rw [if_neg h]; exact ⟨_, _, rfl, more_marks _ (by omega), by omega, by omega⟩
theorem put_of (q : List Int) (c : Int) (h : Marks q) (h0 : 0 ≤ c) (h1 : c < 128) : put (V (q ++ [c])) = q ++ [c] := by
 rw [V_snoc]
 by_cases e : q = []
 ·subst e
  rw [V_nil]
  unfold put
  rw [if_pos (by omega)]
  simp; omega
 ·have h3 := marks_V_pos q h e
  unfold put
  rw [if_neg (by omega), show (V q * 128 + (c % 128).toNat) / 128 = V q by omega, more_of_marks q h e]
  congr 2
  omega
theorem put_range (n : Nat) : ∀ x ∈ put n, 0 ≤ x ∧ x ≤ 255 := by
 obtain ⟨q, c, e, hq, h0, h1⟩ := put_form n
 intro x hx
 rw [e] at hx
 rcases List.mem_append.1 hx with hx | hx
 ·have := hq.1 x hx; omega
 ·simp at hx; omega
theorem put_ne (n : Nat) : put n ≠ [] := by
 obtain ⟨q, c, e, _⟩ := put_form n
 rw [e]; simp
theorem put_head (n : Nat) : (put n).head? ≠ some 128 := by
 obtain ⟨q, c, e, hq, h0, h1⟩ := put_form n
 rw [e]
 cases q with
 | nil => simp; omega
 | cons a q => simpa using hq.2
theorem V_lt (q : List Int) : V q < 128 ^ q.length := by
 induction hL : q.length generalizing q with
 | zero => rw [List.eq_nil_of_length_eq_zero hL]; simp [V]
 | succ k ih =>
  rcases snoc_cases q with rfl | ⟨q', c, rfl⟩
  ·simp at hL
  ·have h := ih q' (by simpa using hL)
   rw [V_snoc, Nat.pow_succ]
   omega
theorem marks_V_ge (q : List Int) (h : Marks q) (hne : q ≠ []) : 128 ^ (q.length - 1) ≤ V q := by
 induction hL : q.length generalizing q with
 | zero => exact absurd (List.eq_nil_of_length_eq_zero hL) hne
 | succ k ih =>
  obtain ⟨q', c, rfl⟩ := (snoc_cases q).resolve_left hne
  by_cases e : q' = []
  ·subst e
   have := marks_V_pos _ h (by simp)
   simp at hL
   subst hL
   simpa using this
  ·have hl : 0 < q'.length := List.length_pos_iff.2 e
   have h2 := ih q' h.init e (by simpa using hL)
   have hk : k = q'.length := by simpa using hL.symm
   rw [V_snoc]
   obtain ⟨j, hj⟩ : ∃ j, k = j + 1 := ⟨k - 1, by omega⟩
   subst hj
   simp only [Nat.add_sub_cancel] at h2 ⊢
   rw [Nat.pow_succ]
   omega
theorem put_length (n : Nat) (h : n < 18446744073709551616) : (put n).length ≤ 10 := by
 obtain ⟨q, c, e, hq, h0, h1⟩ := put_form n
 have hv := V_put n
 rw [e, V_snoc] at hv
 rw [e, List.length_append]
 by_cases hne : q = []
 ·subst hne; simp
 ·have hg := marks_V_ge q hq hne
  rcases Nat.lt_or_ge q.length 10 with h2 | h2
  ·simp; omega
  ·have : 128 ^ 9 ≤ 128 ^ (q.length - 1) := Nat.pow_le_pow_right (by decide) (by omega)
   have e9 : 128 ^ 9 = 9223372036854775808 := by decide
   omega
theorem put_length_pos (n : Nat) : 1 ≤ (put n).length := by
 have := put_ne n
 have := List.length_pos_iff.2 this
 omega
theorem pre_cases {α : Type} {a b l : List α} (ha : a <+: l) (hb : b <+: l) : a <+: b ∨ b <+: a := List.prefix_or_prefix_of_prefix ha hb
theorem put_not_marks (n : Nat) (q : List Int) (hq : ∀ x ∈ q, 128 ≤ x) : ¬ put n <+: q := by
 obtain ⟨q', c, e, _, h0, h1⟩ := put_form n
 rintro ⟨t, ht⟩
 have : c ∈ q := by rw [← ht, e]; simp
 have := hq c this
 omega
theorem put_exact (n : Nat) (q : List Int) (c : Int) (s : List Int) (hq : ∀ x ∈ q, 128 ≤ x) (hc : c < 128) (h : put n <+: q ++ c :: s) : put n = q ++ [c] := by
 have h2 : q ++ [c] <+: q ++ c :: s := ⟨s, by simp⟩
 rcases pre_cases h h2 with h3 | h3
 ·obtain ⟨t, ht⟩ := h3
  rcases snoc_cases t with rfl | ⟨t', d, rfl⟩
  ·simpa using ht
  ·exfalso
   have ht2 : put n ++ t' ++ [d] = q ++ [c] := by rw [← ht]; simp
   have := (List.append_inj' ht2 rfl).1
   exact put_not_marks n q hq ⟨t', this⟩
 ·obtain ⟨q', d, e, hq', h0, h1⟩ := put_form n
  obtain ⟨t, ht⟩ := h3
  rw [e] at ht ⊢
  rcases snoc_cases t with rfl | ⟨t', d', rfl⟩
  ·simpa using ht.symm
  ·exfalso
   have ht2 : (q ++ [c] ++ t') ++ [d'] = q' ++ [d] := by rw [← ht]; simp
   have h5 := (List.append_inj' ht2 rfl).1
   have : c ∈ q' := by rw [← h5]; simp
   have := hq'.1 c this
   omega
theorem put_unique {n m : Nat} {l : List Int} (h : put n <+: l) (h2 : put m <+: l) : n = m := by
 obtain ⟨q, c, e, hq, h0, h1⟩ := put_form n
 obtain ⟨t, ht⟩ := h
 have h3 : put m <+: q ++ c :: t := by rw [show q ++ c :: t = put n ++ t by rw [e]; simp, ht]; exact h2
 have h4 := put_exact m q c t (fun x hx => (hq.1 x hx).1) h1 h3
 rw [← V_put n, ← V_put m, e, h4]
def IsGet (l : List Int) (r : Int × Int × Bool) : Prop :=
 (∃ m, m < 18446744073709551616 ∧ put m <+: l ∧ r = ((m : Int), ((put m).length : Int), true)) ∨ ((∀ m, m < 18446744073709551616 → ¬ put m <+: l) ∧ r = (0, 0, false))
theorem IsGet.unique {l : List Int} {r r' : Int × Int × Bool} (h : IsGet l r) (h' : IsGet l r') : r = r' := by
 rcases h with ⟨m, hm, hp, rfl⟩ | ⟨hn, rfl⟩
 ·rcases h' with ⟨m', hm', hp', rfl⟩ | ⟨hn', rfl⟩
  ·obtain rfl := put_unique hp hp'; rfl
  ·exact absurd hp (hn' m hm)
 ·rcases h' with ⟨m', hm', hp', rfl⟩ | ⟨hn', rfl⟩
  ·exact absurd hp' (hn m' hm')
  ·rfl
theorem isGet_put (m : Nat) (hm : m < 18446744073709551616) (s : List Int) : IsGet (put m ++ s) ((m : Int), ((put m).length : Int), true) := .inl ⟨m, hm, ⟨s, rfl⟩, rfl⟩
end Go.Proofs.Ytchaegfdcdlfaaa.Y
namespace Go.Proofs.Ytchaegfdcdlfaaa.X
section
open Go.RowKit Go.Proofs.YtchaegfdcdlfaaaW.PrintWords Go.Proofs.YtchaegfdcdlfaaaW.PrintLast Go.Proofs.YtchaegfdcdlfaaaW.PrintMore
attribute [local go_sem] max2_int min2_int max_two min_two max_three min_three max_four min_four
def errW : Option Int → Value
 | none => .nilIface
 | some c => .iface 0 (.int .i64 c)
theorem errW_none : errW none = .nilIface := rfl
theorem errW_some (c : Int) : errW (some c) = .iface 0 (.int .i64 c) := rfl
theorem info5 : (Try.prog.info? 5).map (fun i => (i.zero, i.size, i.bytes)) = some (some (.int .u8 0), 1, 1) := by kernel_rfl
theorem info40 : (Try.prog.info? 40).map (fun i => (i.zero, i.size, i.bytes)) = some (some (.slice none 0 0), 1, 24) := by kernel_rfl
theorem info67 : (Try.prog.info? 67).map (fun i => (i.zero, i.size, i.bytes)) = some (some (.agg #[(.bool false), (.int .i64 0), (.int .i64 0), (.string ⟨#[]⟩)]), 4, 40) := by kernel_rfl
def rd_L2 (xs : List (List Int)) (i : Int) : (List Int) := xs.getD i.toNat ([] : List Int)
theorem at_L2 {w : World} {A : Option Addr} {n : Nat} {xs : List (List Int)} (h : Kd.C (Kd.slice 5 (Kd.int .u8)) w A n xs) (i : Int) (h0 : 0 ≤ i) (h1 : i < n) : ∃ ad A0 c0, A = some ad ∧ w.cell? (ad.add i.toNat) = some (.slice A0 (rd_L2 xs i).length c0) ∧ (rd_L2 xs i).length ≤ c0 ∧ (Kd.int .u8).C w A0 (rd_L2 xs i).length (rd_L2 xs i) := by
 obtain ⟨ad, c, e, _, hK, hc0⟩ := Kd.C_get h ([] : List Int) i h0 h1
 have hc : ∀ j u, c[j]? = some u → w.cell? (ad.add (i.toNat * 1 + j)) = some u := hc0
 obtain ⟨A0, c0, rfl, l0, g0⟩ := hK
 exact ⟨ad, A0, c0, e, by have hq := hc 0 _ rfl; rwa [Nat.mul_one, Nat.add_zero] at hq, l0, g0⟩
structure S67 where
 f0 : Bool
 f1 : Int
 f2 : Int
 f3 : ByteArray
def z67 : S67 := ⟨false, (0 : Int), (0 : Int), (⟨#[]⟩ : ByteArray)⟩
def k67 : Kd S67 := Kd.iso (Kd.pair Kd.bool (Kd.pair (Kd.int .i64) (Kd.pair (Kd.int .i64) Kd.string))) (fun x : S67 => (x.f0, x.f1, x.f2, x.f3))
theorem k67_open {w : World} {x : S67} {cs : List Value} (h : k67.K w x cs) : cs = [.bool x.f0, .int .i64 x.f1, .int .i64 x.f2, .string x.f3] := by
 obtain ⟨_, _, rfl, rfl, ⟨_, _, rfl, rfl, ⟨_, _, rfl, rfl, rfl⟩⟩⟩ := h
 exact rfl
theorem k67_mk (w : World) (x : S67)  : k67.K w x [.bool x.f0, .int .i64 x.f1, .int .i64 x.f2, .string x.f3] := ⟨[.bool x.f0], [.int .i64 x.f1, .int .i64 x.f2, .string x.f3], rfl, rfl, ⟨[.int .i64 x.f1], [.int .i64 x.f2, .string x.f3], rfl, rfl, ⟨[.int .i64 x.f2], [.string x.f3], rfl, rfl, rfl⟩⟩⟩
theorem k67_mkM (w : World) (base : Nat) (ok : Nat → Prop) (x : S67)  : k67.M w base ok x [.bool x.f0, .int .i64 x.f1, .int .i64 x.f2, .string x.f3] := ⟨[.bool x.f0], [.int .i64 x.f1, .int .i64 x.f2, .string x.f3], rfl, rfl, ⟨[.int .i64 x.f1], [.int .i64 x.f2, .string x.f3], rfl, rfl, ⟨[.int .i64 x.f2], [.string x.f3], rfl, rfl, rfl⟩⟩⟩
def rd_T67 (xs : List S67) (i : Int) : S67 := xs.getD i.toNat z67
theorem at_T67 {w : World} {A : Option Addr} {n : Nat} {xs : List S67} (h : Kd.C k67 w A n xs) (i : Int) (h0 : 0 ≤ i) (h1 : i < n) : ∃ ad , A = some ad ∧ w.cell? (ad.add (i.toNat * 4)) = some (.bool (rd_T67 xs i).f0) ∧ w.cell? ⟨(ad.add (i.toNat * 4)).block, (ad.add (i.toNat * 4)).off + 1, none⟩ = some (.int .i64 (rd_T67 xs i).f1) ∧ w.cell? ⟨(ad.add (i.toNat * 4)).block, (ad.add (i.toNat * 4)).off + 2, none⟩ = some (.int .i64 (rd_T67 xs i).f2) ∧ w.cell? ⟨(ad.add (i.toNat * 4)).block, (ad.add (i.toNat * 4)).off + 3, none⟩ = some (.string (rd_T67 xs i).f3) := by
 obtain ⟨ad, c, e, _, hK, hc0⟩ := Kd.C_get h z67 i h0 h1
 have hc : ∀ j u, c[j]? = some u → w.cell? (ad.add (i.toNat * 4 + j)) = some u := hc0
 obtain rfl := k67_open hK
 exact ⟨ad, e, hc 0 _ rfl, by rw [← add_field _ _ 1 (by omega)]; exact hc 1 _ rfl, by rw [← add_field _ _ 2 (by omega)]; exact hc 2 _ rfl, by rw [← add_field _ _ 3 (by omega)]; exact hc 3 _ rfl⟩
def wire_groups.l0 : Nat → Int → Int → Option (Int)
 | 0, _, _ => none
 | k + 1, x0, x3 => if x0 > 0 then (wire_groups.l0 k (x0 / 128) (wrap64 (x3 + 1))) else (some x3)
def wire_groups.f (k : Nat) (a0 : Int) : Option (Int) := wire_groups.l0 k (a0 / 128) 1
set_option maxHeartbeats 8000000 in
theorem wire_groups.calls (k : Nat) (a0 : Int) (r : Int) (w : World) (h : wire_groups.f k a0 = some r) :
  Calls Try.prog 141 #[.int .u64 a0] w fun e w' => e = .returned (.int .i64 r) ∧ Drawn0 w w' := by
 have H : (wire_groups.l0 k (a0 / 128) 1) = some r := h
 clear h
 have H' := am H
 clear H
 go_enter Try.func141, Try.ntmps141
 go_wp2
 go_loopg [0, 3] k (fun kq v0 v3 w' => ∃ (x0_1 : Int) (x3_1 : Int), v0 = .int .u64 x0_1 ∧ v3 = .int .i64 x3_1 ∧ Aside0 (wire_groups.l0 kq x0_1 x3_1 = some r) ∧ Aside0 (kq ≤ k) ∧ Drawn0 w w')
 case atStart => exact ⟨(a0 / 128), (1), (by first | rfl | (simp; done) | (simp [*]; done)), (by first | rfl | (simp; done) | (simp [*]; done)), H', ⟨Nat.le_refl _⟩, by repeat (first | exact Drawn0.refl _ | apply Drawn0.step)⟩
 case round =>
  clear H'
  try clear c1
  obtain ⟨x0_1, x3_1, rfl, rfl, HA, HK1, ⟨m1, rfl⟩⟩ := hrel
  cases gk with
  | zero => exact absurd HA.out (by simp [wire_groups.l0])
  | succ k1 =>
   have H := HA.out
   clear HA
   simp only [wire_groups.l0] at H
   by_cases c2 : x0_1 > 0
   ·rw [if_pos c2] at H
    have c2b0 : decide (0 < x0_1) = true := decide_eq_true c2
    clear c2
    have H' := am H
    clear H
    go_wp2
    go_roundg k1
    case measure => have := HK1.out; omega
    case rel => exact ⟨(x0_1 / 128), (wrap64 (x3_1 + 1)), (by first | rfl | (simp; done) | (simp [*]; done)), (by first | rfl | (simp; done) | (simp [*]; done)), H', ⟨by have := HK1.out; omega⟩, by repeat (first | exact Drawn0.refl _ | apply Drawn0.step)⟩
   ·rw [if_neg c2] at H
    have c2b0 : decide (0 < x0_1) = false := decide_eq_false c2
    clear c2
    obtain rfl := Option.some.inj H
    go_wp2
    go_ret
    exact ⟨by first | rfl | (simp; done) | (simp [*]; done), by repeat (first | exact Drawn0.refl _ | apply Drawn0.step)⟩
def wire_Put.l0 : Nat → Int → Int → List Int → Int → Int → Option (List Int)
 | 0, _, _, _, _, _ => none
 | k + 1, x0, x3, x4, x10, x11 => if x11 < x10 then (if 0 ≤ (wrap64 (7 * x11)) then (if 0 ≤ (wrap64 ((wrap64 (x3 - 1)) - x11)) then (if (wrap64 ((wrap64 (x3 - 1)) - x11)) < (x4.length : Int) then (wire_Put.l0 k x0 x3 (x4.set ((wrap64 ((wrap64 (x3 - 1)) - x11)) : Int).toNat (Go.bits .or .u8 ((shr .u64 x0 (wrap64 (7 * x11))) % 256) 128)) x10 (wrap64 (x11 + 1))) else (none)) else (none)) else (none)) else (if 0 ≤ (wrap64 (x3 - 1)) then (if (wrap64 (x3 - 1)) < (x4.length : Int) then (some (x4.set ((wrap64 (x3 - 1)) : Int).toNat (Go.bits .andNot .u8 (rd x4 (wrap64 (x3 - 1))) 128))) else (none)) else (none))
def wire_Put.f (k : Nat) (a0 : Int) : Option (List Int) := (wire_groups.f k a0).bind fun t148 => (if 0 ≤ t148 then (if (t148 : Int).toNat ≤ 281474976710656 then (wire_Put.l0 k a0 t148 (List.replicate (t148 : Int).toNat 0) t148 0) else (none)) else (none))
set_option maxHeartbeats 8000000 in
theorem wire_Put.calls (k : Nat) (a0 : Int) (r : List Int) (w : World) (h : wire_Put.f k a0 = some r) :
  Calls Try.prog 84 #[.int .u64 a0] w fun e w' => ∃ v0_ : Value, e = .returned (v0_) ∧ Kd.R (Kd.int .u8) 5 w' w.heap.size (fun _ => True) v0_ r ∧ Below w.heap.size w w' := by
 have HB := am (Below.refl w.heap.size w)
 have H : ((wire_groups.f k a0).bind fun t148 => (if 0 ≤ t148 then (if (t148 : Int).toNat ≤ 281474976710656 then (wire_Put.l0 k a0 t148 (List.replicate (t148 : Int).toNat 0) t148 0) else (none)) else (none))) = some r := h
 clear h
 replace H := Option.bind_eq_some_iff.mp H
 obtain ⟨t148, A20, H⟩ := H
 replace H : (if 0 ≤ t148 then (if (t148 : Int).toNat ≤ 281474976710656 then (wire_Put.l0 k a0 t148 (List.replicate (t148 : Int).toNat 0) t148 0) else (none)) else (none)) = some r := H
 have A2 := am A20
 clear A20
 by_cases c3 : 0 ≤ t148
 ·rw [if_pos c3] at H
  have c3b0 := eq_true c3
  have c3b1 : decide (0 ≤ t148) = true := decide_eq_true c3
  clear c3
  by_cases c4 : (t148 : Int).toNat ≤ 281474976710656
  ·rw [if_pos c4] at H
   have c4b0 := eq_true c4
   have c4b1 : decide ((t148 : Int).toNat ≤ 281474976710656) = true := decide_eq_true c4
   clear c4
   obtain ⟨y149, hy149⟩ : ∃ y_ : List Int, y_ = (List.replicate (t148 : Int).toNat 0) := ⟨_, rfl⟩
   replace H : (wire_Put.l0 k a0 t148 y149 t148 0) = some r := by first | (rw [hy149]; with_reducible exact H) | (have H2_ := (Option.bind_some _ _).symm.trans H; rw [hy149]; with_reducible exact H2_) | (have H2_ := (Option.bind_some _ _).symm.trans H; with_reducible exact H2_) | with_reducible exact H | (rw [hy149]; exact H) | exact H
   have Ny149 := am hy149
   clear hy149
   have H' := am H
   clear H
   go_enter Try.func84, Try.ntmps84
   go_wp2_with (first | ((with_reducible refine gate_callee (f := 141) rfl ?_); refine goesL_ (some 7) rfl rfl Try.func141 (by kernel_rfl) rfl #[.int .u64 a0] rfl (by (try simp only [List.map_toArray, List.map_cons, List.map_nil]); first | done | rfl | (simp only [List.length_drop, List.length_take]; rfl)) ?_; (with_reducible refine (wire_groups.calls k a0 t148 _ A2.out).mono ?_); rintro e w' ⟨rfl, ⟨nd, rfl⟩⟩; refine ⟨_, rfl, ?_⟩) | ((with_reducible refine gate_dst (N := 9) rfl ?_); refine Kd.R_make (Kd.int .u8) _ 5 rfl (N := 9) rfl 40 _ _ rfl t148 rfl rfl Try.underlying40 (.int .u8 0) 1 info5 rfl (by decide) (by omega) 0 (ok := fun _ => True) (okp := fun _ => True) rfl (fun _ hk => hk) trivial (of_decide_eq_true (by first | (with_reducible assumption) | assumption)) (Nat.le_trans (Nat.mul_le_mul_right _ (of_decide_eq_true (by first | (with_reducible assumption) | assumption) : t148.toNat ≤ 281474976710656)) (by omega)) (Below.refl _ _) (Nat.le_refl _) ?_; intro v150 w5 ho6 hb hg_ hnew_; clear hg_ hnew_; (first | rw [← Ny149.out] at ho6 | (simp only [Int.reduceToNat] at ho6; rw [← Ny149.out] at ho6)); have n0_ := am (Kd.R_lower ho6 (below_size (bw HB.out))); have n1_ := am (below_step (bw HB.out) hb); clear HB; have HO151 := n0_; have HB := n1_; clear n0_ n1_; clear hb ho6))
   go_loopg [11] k (fun kq v11 w' => ∃ (x4_1 : List Int) (x11_1 : Int), v11 = .int .i64 x11_1 ∧ Aside0 (wire_Put.l0 kq a0 t148 x4_1 t148 x11_1 = some r) ∧ Aside0 (kq ≤ k) ∧ Aside0 (Kd.R (Kd.int .u8) 5 w' w.heap.size (fun _ => True) v150 x4_1) ∧ Aside0 (Below w.heap.size w w'))
   case atStart => exact ⟨(y149), (0), (by first | rfl | (simp; done) | (simp [*]; done)), H', ⟨Nat.le_refl _⟩, ⟨rr HO151.out⟩, ⟨bw HB.out⟩⟩
   case round =>
    clear H'
    try clear c1
    try clear p2
    try clear c3
    try clear c3b0
    try clear c3b1
    try clear c4
    try clear c4b0
    try clear c4b1
    obtain ⟨x4_1, x11_1, rfl, HA, HK1, HO_4, HB⟩ := hrel
    cases gk with
    | zero => exact absurd HA.out (by simp [wire_Put.l0])
    | succ k1 =>
     have H := HA.out
     clear HA
     simp only [wire_Put.l0] at H
     by_cases c7 : x11_1 < t148
     ·rw [if_pos c7] at H
      have c7b0 : decide (x11_1 < t148) = true := decide_eq_true c7
      clear c7
      obtain ⟨ji8, hji8⟩ : ∃ j_ : Int, (wrap64 (7 * x11_1)) = j_ := ⟨_, rfl⟩
      replace H : (if 0 ≤ (ji8) then (if 0 ≤ (wrap64 ((wrap64 (t148 - 1)) - x11_1)) then (if (wrap64 ((wrap64 (t148 - 1)) - x11_1)) < (x4_1.length : Int) then (wire_Put.l0 k1 a0 t148 (x4_1.set ((wrap64 ((wrap64 (t148 - 1)) - x11_1)) : Int).toNat (Go.bits .or .u8 ((shr .u64 a0 (ji8)) % 256) 128)) t148 (wrap64 (x11_1 + 1))) else (none)) else (none)) else (none)) = some r := by first | (rw [hji8] at H; exact H) | (simp only [hji8] at H ⊢; exact H)
      have hji8w : (IntKind.i64.wrap (7 * x11_1)) = ji8 := (i64_w _).trans hji8
      by_cases c9 : 0 ≤ (ji8)
      ·rw [if_pos c9] at H
       have c9b0 := eq_true c9
       have c9b1 : decide (0 ≤ (ji8)) = true := decide_eq_true c9
       clear c9
       obtain ⟨ji10, hji10⟩ : ∃ j_ : Int, (shr .u64 a0 (ji8)) = j_ := ⟨_, rfl⟩
       replace H : (if 0 ≤ (wrap64 ((wrap64 (t148 - 1)) - x11_1)) then (if (wrap64 ((wrap64 (t148 - 1)) - x11_1)) < (x4_1.length : Int) then (wire_Put.l0 k1 a0 t148 (x4_1.set ((wrap64 ((wrap64 (t148 - 1)) - x11_1)) : Int).toNat (Go.bits .or .u8 ((ji10) % 256) 128)) t148 (wrap64 (x11_1 + 1))) else (none)) else (none)) = some r := by first | (rw [hji10] at H; exact H) | (simp only [hji10] at H ⊢; exact H)
       have hji10_ : (a0 / 2 ^ min (ji8).toNat 64) = ji10 := hji10
       have hji10z : (ji8) ≤ 64 → (a0 / 2 ^ (ji8).toNat) = ji10 := shr_small hji10
       obtain ⟨ji11, hji11⟩ : ∃ j_ : Int, (wrap64 ((wrap64 (t148 - 1)) - x11_1)) = j_ := ⟨_, rfl⟩
       replace H : (if 0 ≤ (ji11) then (if (ji11) < (x4_1.length : Int) then (wire_Put.l0 k1 a0 t148 (x4_1.set ((ji11) : Int).toNat (Go.bits .or .u8 ((ji10) % 256) 128)) t148 (wrap64 (x11_1 + 1))) else (none)) else (none)) = some r := by first | (rw [hji11] at H; exact H) | (simp only [hji11] at H ⊢; exact H)
       have hji11w : (IntKind.i64.wrap ((wrap64 (t148 - 1)) - x11_1)) = ji11 := (i64_w _).trans hji11
       by_cases c12 : 0 ≤ (ji11)
       ·rw [if_pos c12] at H
        have c12b0 : decide (0 ≤ (ji11)) = true := decide_eq_true c12
        clear c12
        by_cases c13 : (ji11) < (x4_1.length : Int)
        ·rw [if_pos c13] at H
         have c13b0 : decide ((ji11) < (x4_1.length : Int)) = true := decide_eq_true c13
         clear c13
         obtain ⟨y152, hy152⟩ : ∃ y_ : List Int, y_ = (x4_1.set ((ji11) : Int).toNat (Go.bits .or .u8 ((ji10) % 256) 128)) := ⟨_, rfl⟩
         replace H : (wire_Put.l0 k1 a0 t148 y152 t148 (wrap64 (x11_1 + 1))) = some r := by first | (rw [hy152]; with_reducible exact H) | (have H2_ := (Option.bind_some _ _).symm.trans H; rw [hy152]; with_reducible exact H2_) | (have H2_ := (Option.bind_some _ _).symm.trans H; with_reducible exact H2_) | with_reducible exact H | (rw [hy152]; exact H) | exact H
         have Ny152 := am hy152
         clear hy152
         have H' := am H
         clear H
         have p14 : 0 ≤ ((ji11) : Int) := of_decide_eq_true (by first | (with_reducible assumption) | assumption)
         have q14 : ((ji11) : Int) < ((x4_1.length : Int) : Int) := of_decide_eq_true (by first | (with_reducible assumption) | assumption)
         obtain ⟨go14, co14, eo14, gb14, gl14, cl14, HG14⟩ := Kd.R_form HO_4.out (by omega)
         (first | cases eo14 | (injection eo14 with ea_ en_ ec_; (first | subst ea_ | (injection ea_ with ea_; subst ea_)); subst ec_; clear en_))
         have GB14 := am gb14
         have GG14 := am HG14
         clear gb14 gl14 HG14
         obtain ⟨hx14_0, hf14_0⟩ := Kd.R_celln 0 HO_4.out ((ji11) : Int) p14 q14
         replace p14 := eq_true p14
         replace q14 := eq_true q14
         have HP15 := Kd.R_putg HO_4.out ((ji11) : Int) (Go.bits .or .u8 ((ji10) % 256) 128)
         go_wp2_with (first | ((with_reducible refine gate_store (t := 5) (p := 25) rfl ?_); refine store_event (t := 5) (p := 25) (v := ?vo_w16) (w1 := (wr.setCell ⟨go14, ((ji11) : Int).toNat, none⟩ (.int .u8 (Go.bits .or .u8 ((ji10) % 256) 128)))) ?hg ?ho ?hn ?hr ?_; (case ho => rfl); (case hg => rfl); (case hn => rfl); (case hr => first | (go_simp; done) | (go_simp; rfl)); intro w16 hw; have hg : wr.grownBy w16 (some go14) := (by rw [hw]; exact HP15.2); have hp_ : Kd.R (Kd.int .u8) 5 w16 w.heap.size (fun _ => True) (.slice (some ⟨go14, 0, none⟩) x4_1.length co14) y152 := (by rw [hw, Ny152.out]; exact HP15.1); clear HP15; have n0_ := am (hp_); have n1_ := am ((by rw [hw]; exact below_set (HB.out) GB14.out : Below w.heap.size w w16)); clear HO_4; clear HB; have HO_4 := n0_; have HB := n1_; clear n0_ n1_; clear hg hw hp_))
         go_roundg k1
         case measure => have := HK1.out; omega
         case rel => exact ⟨(y152), (wrap64 (x11_1 + 1)), (by first | rfl | (simp; done) | (simp [*]; done)), H', ⟨by have := HK1.out; omega⟩, ⟨rr HO_4.out⟩, ⟨bw HB.out⟩⟩
        ·rw [if_neg c13] at H
         exact absurd H (by simp)
       ·rw [if_neg c12] at H
        exact absurd H (by simp)
      ·rw [if_neg c9] at H
       exact absurd H (by simp)
     ·rw [if_neg c7] at H
      have c7b0 : decide (x11_1 < t148) = false := decide_eq_false c7
      clear c7
      obtain ⟨ji17, hji17⟩ : ∃ j_ : Int, (wrap64 (t148 - 1)) = j_ := ⟨_, rfl⟩
      replace H : (if 0 ≤ (ji17) then (if (ji17) < (x4_1.length : Int) then (some (x4_1.set ((ji17) : Int).toNat (Go.bits .andNot .u8 (rd x4_1 (ji17)) 128))) else (none)) else (none)) = some r := by first | (rw [hji17] at H; exact H) | (simp only [hji17] at H ⊢; exact H)
      have hji17w : (IntKind.i64.wrap (t148 - 1)) = ji17 := (i64_w _).trans hji17
      by_cases c18 : 0 ≤ (ji17)
      ·rw [if_pos c18] at H
       have c18b0 : decide (0 ≤ (ji17)) = true := decide_eq_true c18
       clear c18
       by_cases c19 : (ji17) < (x4_1.length : Int)
       ·rw [if_pos c19] at H
        have c19b0 : decide ((ji17) < (x4_1.length : Int)) = true := decide_eq_true c19
        clear c19
        obtain ⟨y154, hy154⟩ : ∃ y_ : List Int, y_ = (x4_1.set ((ji17) : Int).toNat (Go.bits .andNot .u8 (rd x4_1 (ji17)) 128)) := ⟨_, rfl⟩
        replace H : (some y154) = some r := by first | (rw [hy154]; with_reducible exact H) | (have H2_ := (Option.bind_some _ _).symm.trans H; rw [hy154]; with_reducible exact H2_) | (have H2_ := (Option.bind_some _ _).symm.trans H; with_reducible exact H2_) | with_reducible exact H | (rw [hy154]; exact H) | exact H
        have Ny154 := am hy154
        clear hy154
        obtain rfl := Option.some.inj H
        obtain ⟨Ao21, co21, eo21⟩ := Kd.R_slice HO_4.out
        subst eo21
        have p153 : 0 ≤ ((ji17) : Int) := of_decide_eq_true (by first | (with_reducible assumption) | assumption)
        have q153 : (ji17) < (x4_1.length : Int) := of_decide_eq_true (by first | (with_reducible assumption) | assumption)
        obtain ⟨ad153, e153, hx153_0⟩ := Kd.at_int (Kd.R_reads' HO_4.out).2.2 (ji17) p153 q153
        cases e153
        replace p153 := eq_true p153
        replace q153 := eq_true q153
        have p20 : 0 ≤ ((ji17) : Int) := of_decide_eq_true (by first | (with_reducible assumption) | assumption)
        have q20 : ((ji17) : Int) < ((x4_1.length : Int) : Int) := of_decide_eq_true (by first | (with_reducible assumption) | assumption)
        obtain ⟨go20, co20, eo20, gb20, gl20, cl20, HG20⟩ := Kd.R_form HO_4.out (by omega)
        (first | cases eo20 | (injection eo20 with ea_ en_ ec_; (first | subst ea_ | (injection ea_ with ea_; subst ea_)); subst ec_; clear en_))
        have GB20 := am gb20
        have GG20 := am HG20
        clear gb20 gl20 HG20
        (first | simp only [add_plain] at hx153_0 | skip)
        obtain ⟨hx20_0, hf20_0⟩ := Kd.R_celln 0 HO_4.out ((ji17) : Int) p20 q20
        replace p20 := eq_true p20
        replace q20 := eq_true q20
        have HP22 := Kd.R_putg HO_4.out ((ji17) : Int) (Go.bits .andNot .u8 (rd x4_1 (ji17)) 128)
        go_wp2_with (first | ((with_reducible refine gate_store (t := 5) (p := 33) rfl ?_); refine store_event (t := 5) (p := 33) (v := ?vo_w23) (w1 := (wr.setCell ⟨go20, ((ji17) : Int).toNat, none⟩ (.int .u8 (Go.bits .andNot .u8 (rd x4_1 (ji17)) 128)))) ?hg ?ho ?hn ?hr ?_; (case ho => rfl); (case hg => rfl); (case hn => rfl); (case hr => first | (go_simp; done) | (go_simp; rfl)); intro w23 hw; have hg : wr.grownBy w23 (some go20) := (by rw [hw]; exact HP22.2); have hp_ : Kd.R (Kd.int .u8) 5 w23 w.heap.size (fun _ => True) (.slice (some ⟨go20, 0, none⟩) x4_1.length co21) y154 := (by rw [hw, Ny154.out]; exact HP22.1); clear HP22; have n0_ := am (hp_); have n1_ := am ((by rw [hw]; exact below_set (HB.out) GB20.out : Below w.heap.size w w23)); clear HO_4; clear HB; have HO_4 := n0_; have HB := n1_; clear n0_ n1_; clear hg hw hp_))
        go_ret
        exact ⟨_, by first | rfl | (simp [errW_none, errW_some] <;> rfl) | (simp only [← hji17]; first | rfl | (simp [errW_none, errW_some] <;> rfl)) | (simp [*, errW_none, errW_some] <;> rfl), by (with_reducible repeat (first | apply Kd.R_alloc | apply Kd.R_drewN | apply Kd.R_drew)); exact HO_4.out, bw HB.out⟩
       ·rw [if_neg c19] at H
        exact absurd H (by simp)
      ·rw [if_neg c18] at H
       exact absurd H (by simp)
  ·rw [if_neg c4] at H
   exact absurd H (by simp)
 ·rw [if_neg c3] at H
  exact absurd H (by simp)
def wire_Word.l0 : Nat → Int → List Int → Int → Option (List Int)
 | 0, _, _, _ => none
 | k + 1, x0, x3, x6 => if x6 < 4 then (if 0 ≤ (wrap64 (8 * x6)) then (if 0 ≤ (wrap64 (3 - x6)) then (if (wrap64 (3 - x6)) < (x3.length : Int) then (wire_Word.l0 k x0 (x3.set ((wrap64 (3 - x6)) : Int).toNat ((shr .u32 x0 (wrap64 (8 * x6))) % 256)) (wrap64 (x6 + 1))) else (none)) else (none)) else (none)) else (some x3)
def wire_Word.f (k : Nat) (a0 : Int) : Option (List Int) := if 4 ≤ 281474976710656 then (wire_Word.l0 k a0 (List.replicate 4 0) 0) else (none)
set_option maxHeartbeats 8000000 in
theorem wire_Word.calls (k : Nat) (a0 : Int) (r : List Int) (w : World) (h : wire_Word.f k a0 = some r) :
  Calls Try.prog 85 #[.int .u32 a0] w fun e w' => ∃ v0_ : Value, e = .returned (v0_) ∧ Kd.R (Kd.int .u8) 5 w' w.heap.size (fun _ => True) v0_ r ∧ Below w.heap.size w w' := by
 have HB := am (Below.refl w.heap.size w)
 have H : (if 4 ≤ 281474976710656 then (wire_Word.l0 k a0 (List.replicate 4 0) 0) else (none)) = some r := h
 clear h
 by_cases c2 : 4 ≤ 281474976710656
 ·rw [if_pos c2] at H
  have c2b0 := eq_true c2
  have c2b1 : decide (4 ≤ 281474976710656) = true := decide_eq_true c2
  clear c2
  obtain ⟨y155, hy155⟩ : ∃ y_ : List Int, y_ = (List.replicate 4 0) := ⟨_, rfl⟩
  replace H : (wire_Word.l0 k a0 y155 0) = some r := by first | (rw [hy155]; with_reducible exact H) | (have H2_ := (Option.bind_some _ _).symm.trans H; rw [hy155]; with_reducible exact H2_) | (have H2_ := (Option.bind_some _ _).symm.trans H; with_reducible exact H2_) | with_reducible exact H | (rw [hy155]; exact H) | exact H
  have Ny155 := am hy155
  clear hy155
  have H' := am H
  clear H
  go_enter Try.func85, Try.ntmps85
  go_wp2_with (first | ((with_reducible refine gate_dst (N := 5) rfl ?_); refine Kd.R_make (Kd.int .u8) _ 5 rfl (N := 5) rfl 40 _ _ rfl 4 rfl rfl Try.underlying40 (.int .u8 0) 1 info5 rfl (by decide) (by omega) 0 (ok := fun _ => True) (okp := fun _ => True) rfl (fun _ hk => hk) trivial (by omega) (by omega) (Below.refl _ _) (Nat.le_refl _) ?_; intro v156 w3 ho4 hb hg_ hnew_; clear hg_ hnew_; (first | rw [← Ny155.out] at ho4 | (simp only [Int.reduceToNat] at ho4; rw [← Ny155.out] at ho4)); have n0_ := am (Kd.R_lower ho4 (below_size (bw HB.out))); have n1_ := am (below_step (bw HB.out) hb); clear HB; have HO157 := n0_; have HB := n1_; clear n0_ n1_; clear hb ho4))
  go_loopg [6] k (fun kq v6 w' => ∃ (x3_1 : List Int) (x6_1 : Int), v6 = .int .i64 x6_1 ∧ Aside0 (wire_Word.l0 kq a0 x3_1 x6_1 = some r) ∧ Aside0 (kq ≤ k) ∧ Aside0 (Kd.R (Kd.int .u8) 5 w' w.heap.size (fun _ => True) v156 x3_1) ∧ Aside0 (Below w.heap.size w w'))
  case atStart => exact ⟨(y155), (0), (by first | rfl | (simp; done) | (simp [*]; done)), H', ⟨Nat.le_refl _⟩, ⟨rr HO157.out⟩, ⟨bw HB.out⟩⟩
  case round =>
   clear H'
   try clear c2
   try clear c2b0
   try clear c2b1
   try clear p2
   obtain ⟨x3_1, x6_1, rfl, HA, HK1, HO_3, HB⟩ := hrel
   cases gk with
   | zero => exact absurd HA.out (by simp [wire_Word.l0])
   | succ k1 =>
    have H := HA.out
    clear HA
    simp only [wire_Word.l0] at H
    by_cases c5 : x6_1 < 4
    ·rw [if_pos c5] at H
     have c5b0 : decide (x6_1 < 4) = true := decide_eq_true c5
     clear c5
     obtain ⟨ji6, hji6⟩ : ∃ j_ : Int, (wrap64 (8 * x6_1)) = j_ := ⟨_, rfl⟩
     replace H : (if 0 ≤ (ji6) then (if 0 ≤ (wrap64 (3 - x6_1)) then (if (wrap64 (3 - x6_1)) < (x3_1.length : Int) then (wire_Word.l0 k1 a0 (x3_1.set ((wrap64 (3 - x6_1)) : Int).toNat ((shr .u32 a0 (ji6)) % 256)) (wrap64 (x6_1 + 1))) else (none)) else (none)) else (none)) = some r := by first | (rw [hji6] at H; exact H) | (simp only [hji6] at H ⊢; exact H)
     have hji6w : (IntKind.i64.wrap (8 * x6_1)) = ji6 := (i64_w _).trans hji6
     by_cases c7 : 0 ≤ (ji6)
     ·rw [if_pos c7] at H
      have c7b0 := eq_true c7
      have c7b1 : decide (0 ≤ (ji6)) = true := decide_eq_true c7
      clear c7
      obtain ⟨ji8, hji8⟩ : ∃ j_ : Int, (shr .u32 a0 (ji6)) = j_ := ⟨_, rfl⟩
      replace H : (if 0 ≤ (wrap64 (3 - x6_1)) then (if (wrap64 (3 - x6_1)) < (x3_1.length : Int) then (wire_Word.l0 k1 a0 (x3_1.set ((wrap64 (3 - x6_1)) : Int).toNat ((ji8) % 256)) (wrap64 (x6_1 + 1))) else (none)) else (none)) = some r := by first | (rw [hji8] at H; exact H) | (simp only [hji8] at H ⊢; exact H)
      have hji8_ : (a0 / 2 ^ min (ji6).toNat 32) = ji8 := hji8
      have hji8z : (ji6) ≤ 32 → (a0 / 2 ^ (ji6).toNat) = ji8 := shr_small hji8
      obtain ⟨ji9, hji9⟩ : ∃ j_ : Int, (wrap64 (3 - x6_1)) = j_ := ⟨_, rfl⟩
      replace H : (if 0 ≤ (ji9) then (if (ji9) < (x3_1.length : Int) then (wire_Word.l0 k1 a0 (x3_1.set ((ji9) : Int).toNat ((ji8) % 256)) (wrap64 (x6_1 + 1))) else (none)) else (none)) = some r := by first | (rw [hji9] at H; exact H) | (simp only [hji9] at H ⊢; exact H)
      have hji9w : (IntKind.i64.wrap (3 - x6_1)) = ji9 := (i64_w _).trans hji9
      by_cases c10 : 0 ≤ (ji9)
      ·rw [if_pos c10] at H
       have c10b0 : decide (0 ≤ (ji9)) = true := decide_eq_true c10
       clear c10
       by_cases c11 : (ji9) < (x3_1.length : Int)
       ·rw [if_pos c11] at H
        have c11b0 : decide ((ji9) < (x3_1.length : Int)) = true := decide_eq_true c11
        clear c11
        obtain ⟨y158, hy158⟩ : ∃ y_ : List Int, y_ = (x3_1.set ((ji9) : Int).toNat ((ji8) % 256)) := ⟨_, rfl⟩
        replace H : (wire_Word.l0 k1 a0 y158 (wrap64 (x6_1 + 1))) = some r := by first | (rw [hy158]; with_reducible exact H) | (have H2_ := (Option.bind_some _ _).symm.trans H; rw [hy158]; with_reducible exact H2_) | (have H2_ := (Option.bind_some _ _).symm.trans H; with_reducible exact H2_) | with_reducible exact H | (rw [hy158]; exact H) | exact H
        have Ny158 := am hy158
        clear hy158
        have H' := am H
        clear H
        have p12 : 0 ≤ ((ji9) : Int) := of_decide_eq_true (by first | (with_reducible assumption) | assumption)
        have q12 : ((ji9) : Int) < ((x3_1.length : Int) : Int) := of_decide_eq_true (by first | (with_reducible assumption) | assumption)
        obtain ⟨go12, co12, eo12, gb12, gl12, cl12, HG12⟩ := Kd.R_form HO_3.out (by omega)
        (first | cases eo12 | (injection eo12 with ea_ en_ ec_; (first | subst ea_ | (injection ea_ with ea_; subst ea_)); subst ec_; clear en_))
        have GB12 := am gb12
        have GG12 := am HG12
        clear gb12 gl12 HG12
        obtain ⟨hx12_0, hf12_0⟩ := Kd.R_celln 0 HO_3.out ((ji9) : Int) p12 q12
        replace p12 := eq_true p12
        replace q12 := eq_true q12
        have HP13 := Kd.R_putg HO_3.out ((ji9) : Int) ((ji8) % 256)
        go_wp2_with (first | ((with_reducible refine gate_store (t := 5) (p := 17) rfl ?_); refine store_event (t := 5) (p := 17) (v := ?vo_w14) (w1 := (wr.setCell ⟨go12, ((ji9) : Int).toNat, none⟩ (.int .u8 ((ji8) % 256)))) ?hg ?ho ?hn ?hr ?_; (case ho => rfl); (case hg => rfl); (case hn => rfl); (case hr => first | (go_simp; done) | (go_simp; rfl)); intro w14 hw; have hg : wr.grownBy w14 (some go12) := (by rw [hw]; exact HP13.2); have hp_ : Kd.R (Kd.int .u8) 5 w14 w.heap.size (fun _ => True) (.slice (some ⟨go12, 0, none⟩) x3_1.length co12) y158 := (by rw [hw, Ny158.out]; exact HP13.1); clear HP13; have n0_ := am (hp_); have n1_ := am ((by rw [hw]; exact below_set (HB.out) GB12.out : Below w.heap.size w w14)); clear HO_3; clear HB; have HO_3 := n0_; have HB := n1_; clear n0_ n1_; clear hg hw hp_))
        go_roundg k1
        case measure => have := HK1.out; omega
        case rel => exact ⟨(y158), (wrap64 (x6_1 + 1)), (by first | rfl | (simp; done) | (simp [*]; done)), H', ⟨by have := HK1.out; omega⟩, ⟨rr HO_3.out⟩, ⟨bw HB.out⟩⟩
       ·rw [if_neg c11] at H
        exact absurd H (by simp)
      ·rw [if_neg c10] at H
       exact absurd H (by simp)
     ·rw [if_neg c7] at H
      exact absurd H (by simp)
    ·rw [if_neg c5] at H
     have c5b0 : decide (x6_1 < 4) = false := decide_eq_false c5
     clear c5
     obtain rfl := Option.some.inj H
     go_wp2
     go_ret
     exact ⟨_, by first | rfl | (simp [errW_none, errW_some] <;> rfl) | (simp [*, errW_none, errW_some] <;> rfl), by (with_reducible repeat (first | apply Kd.R_alloc | apply Kd.R_drewN | apply Kd.R_drew)); exact HO_3.out, bw HB.out⟩
 ·rw [if_neg c2] at H
  exact absurd H (by simp)
mutual
def wire_Get.l0 : Nat → Int → Int → List Int → Int → Int → Option (Int × Int × Bool)
 | 0, _, _, _, _, _ => none
 | k + 1, x5, x6, x9, x10, x11 => if x11 < x10 then (if 0 ≤ x11 then (if x11 < (x9.length : Int) then (if x11 = 10 then (wire_Get.j1 k x5 x6 x11 (rd x9 x11) x9 x10 x11 (x11 == 10)) else (if x11 = 9 then (if (x5 / 144115188075855872) > 0 then (wire_Get.j1 k x5 x6 x11 (rd x9 x11) x9 x10 x11 (decide ((x5 / 144115188075855872) > 0))) else (if x11 = 0 then (wire_Get.j1 k x5 x6 x11 (rd x9 x11) x9 x10 x11 ((rd x9 x11) == 128)) else (wire_Get.j1 k x5 x6 x11 (rd x9 x11) x9 x10 x11 false))) else (if x11 = 0 then (wire_Get.j1 k x5 x6 x11 (rd x9 x11) x9 x10 x11 ((rd x9 x11) == 128)) else (wire_Get.j1 k x5 x6 x11 (rd x9 x11) x9 x10 x11 false)))) else (none)) else (none)) else (if x6 = 0 then (some (0, 0, false)) else (some (x5, x6, true)))
def wire_Get.j1 : Nat → Int → Int → Int → Int → List Int → Int → Int → Bool → Option (Int × Int × Bool)
 | 0, _, _, _, _, _, _, _, _ => none
 | k + 1, x5, x6, x7, x8, x9, x10, x11, x16 => if x16 = true then (if x6 = 0 then (some (0, 0, false)) else (some (x5, x6, true))) else (if x8 < 128 then (if (wrap64 (x7 + 1)) = 0 then (some (0, 0, false)) else (some (Go.bits .or .u64 (IntKind.u64.wrap (x5 * 128)) (IntKind.u64.wrap (Go.bits .andNot .u8 x8 128)), wrap64 (x7 + 1), true))) else (wire_Get.l0 k (Go.bits .or .u64 (IntKind.u64.wrap (x5 * 128)) (IntKind.u64.wrap (Go.bits .andNot .u8 x8 128))) x6 x9 x10 (wrap64 (x11 + 1))))
end
def wire_Get.f (k : Nat) (l0 : List Int) : Option (Int × Int × Bool) := wire_Get.l0 k 0 0 l0 (l0.length : Int) 0
set_option maxHeartbeats 8000000 in
theorem wire_Get.calls (k : Nat) (A0 : Option Addr) (c0 : Nat) (l0 : List Int) (r1 : Int) (r2 : Int) (r3 : Bool) (w : World) (hr0 : Kd.C (Kd.int .u8) w A0 l0.length l0) (hc0 : l0.length ≤ c0) (h : wire_Get.f k l0 = some (r1, r2, r3)) :
  Calls Try.prog 88 #[.slice A0 l0.length c0] w fun e w' => e = .returned (.tuple #[.int .u64 r1, .int .i64 r2, .bool r3]) ∧ Drawn0 w w' := by
 have HR0 := am hr0
 have HC0 := am hc0
 clear hr0 hc0
 have H : (wire_Get.l0 k 0 0 l0 (l0.length : Int) 0) = some (r1, r2, r3) := h
 clear h
 have H' := am H
 clear H
 go_enter Try.func88, Try.ntmps88
 go_wp2
 go_step3
 go_wp2
 go_step3
 go_wp2
 go_loopg [5, 6, 11] k (fun kq v5 v6 v11 w' => ∃ (x5_1 : Int) (x6_1 : Int) (x11_1 : Int), v5 = .int .u64 x5_1 ∧ v6 = .int .i64 x6_1 ∧ v11 = .int .i64 x11_1 ∧ Aside0 (wire_Get.l0 kq x5_1 x6_1 l0 (l0.length : Int) x11_1 = some (r1, r2, r3)) ∧ Aside0 (kq ≤ k) ∧ Drawn0 w w')
 case atStart => exact ⟨(0), (0), (0), (by first | rfl | (simp; done) | (simp [*]; done)), (by first | rfl | (simp; done) | (simp [*]; done)), (by first | rfl | (simp; done) | (simp [*]; done)), H', ⟨Nat.le_refl _⟩, by repeat (first | exact Drawn0.refl _ | apply Drawn0.step)⟩
 case round =>
  clear H'
  obtain ⟨x5_1, x6_1, x11_1, rfl, rfl, rfl, HA, HK1, ⟨m1, rfl⟩⟩ := hrel
  cases gk with
  | zero => exact absurd HA.out (by simp [wire_Get.l0])
  | succ k1 =>
   have H := HA.out
   clear HA
   simp only [wire_Get.l0] at H
   by_cases c2 : x11_1 < (l0.length : Int)
   ·rw [if_pos c2] at H
    have c2b0 : decide (x11_1 < (l0.length : Int)) = true := decide_eq_true c2
    clear c2
    by_cases c3 : 0 ≤ x11_1
    ·rw [if_pos c3] at H
     have c3b0 : decide (0 ≤ x11_1) = true := decide_eq_true c3
     clear c3
     by_cases c4 : x11_1 < (l0.length : Int)
     ·rw [if_pos c4] at H
      have c4b0 : decide (x11_1 < (l0.length : Int)) = true := decide_eq_true c4
      clear c4
      have HC5 := am H
      clear H
      have p178 : 0 ≤ (x11_1 : Int) := of_decide_eq_true (by first | (with_reducible assumption) | assumption)
      have q178 : x11_1 < (l0.length : Int) := of_decide_eq_true (by first | (with_reducible assumption) | assumption)
      obtain ⟨ad178, e178, hx178_0⟩ := Kd.at_int HR0.out x11_1 p178 q178
      cases e178
      replace p178 := eq_true p178
      replace q178 := eq_true q178
      go_upto_if 16 with (fail)
      go_cut [16] (fun v16 wc => ∃ (kq : Nat) (x16_4 : Bool), v16 = .bool x16_4 ∧ Aside0 (wire_Get.j1 kq x5_1 x6_1 x11_1 (rd l0 x11_1) l0 (l0.length : Int) x11_1 x16_4 = some (r1, r2, r3)) ∧ Aside0 (kq ≤ k1) ∧ Drawn0 w wc)
      case first =>
       have H := HC5.out
       clear HC5
       by_cases c6 : x11_1 = 10
       ·rw [if_pos c6] at H
        have c6b0 : (x11_1 == 10) = true := beq_iff_eq.mpr c6
        have c6b1 : (x11_1 != 10) = false := bne_eq_false_iff_eq.mpr c6
        clear c6
        (first | rw [c6b0] | (simp only [i64_w, i32_w]; rw [c6b0]) | skip)
        have H' := am H
        clear H
        go_wp2
        go_meet
        case rel => exact ⟨_, ((x11_1 == 10)), (by first | rfl | (simp; done) | (simp [*]; done)), H', ⟨by have := HK1.out; first | omega | exact Nat.le_refl _⟩, by repeat (first | exact Drawn0.refl _ | apply Drawn0.step)⟩
       ·rw [if_neg c6] at H
        have c6b0 : (x11_1 == 10) = false := beq_eq_false_iff_ne.mpr c6
        have c6b1 : (x11_1 != 10) = true := bne_iff_ne.mpr c6
        (first | rw [c6b0] | (simp only [i64_w, i32_w]; rw [c6b0]) | skip)
        by_cases c7 : x11_1 = 9
        ·rw [if_pos c7] at H
         have c7b0 : (x11_1 == 9) = true := beq_iff_eq.mpr c7
         have c7b1 : (x11_1 != 9) = false := bne_eq_false_iff_eq.mpr c7
         clear c7
         by_cases c8 : (x5_1 / 144115188075855872) > 0
         ·rw [if_pos c8] at H
          have c8b0 : decide (0 < (x5_1 / 144115188075855872)) = true := decide_eq_true c8
          clear c8
          have H' := am H
          clear H
          go_wp2
          go_meet
          case rel => exact ⟨_, (decide ((x5_1 / 144115188075855872) > 0)), (by first | rfl | (simp; done) | (simp [*]; done)), H', ⟨by have := HK1.out; first | omega | exact Nat.le_refl _⟩, by repeat (first | exact Drawn0.refl _ | apply Drawn0.step)⟩
         ·rw [if_neg c8] at H
          have c8b0 : decide (0 < (x5_1 / 144115188075855872)) = false := decide_eq_false c8
          clear c8
          by_cases c9 : x11_1 = 0
          ·rw [if_pos c9] at H
           have c9b0 : (x11_1 == 0) = true := beq_iff_eq.mpr c9
           have c9b1 : (x11_1 != 0) = false := bne_eq_false_iff_eq.mpr c9
           clear c9
           have H' := am H
           clear H
           go_wp2
           go_meet
           case rel => exact ⟨_, (((rd l0 x11_1) == 128)), (by first | rfl | (simp; done) | (simp [*]; done)), H', ⟨by have := HK1.out; first | omega | exact Nat.le_refl _⟩, by repeat (first | exact Drawn0.refl _ | apply Drawn0.step)⟩
          ·rw [if_neg c9] at H
           have c9b0 : (x11_1 == 0) = false := beq_eq_false_iff_ne.mpr c9
           have c9b1 : (x11_1 != 0) = true := bne_iff_ne.mpr c9
           have H' := am H
           clear H
           go_wp2
           go_meet
           case rel => exact ⟨_, (false), (by first | rfl | (simp; done) | (simp [*]; done)), H', ⟨by have := HK1.out; first | omega | exact Nat.le_refl _⟩, by repeat (first | exact Drawn0.refl _ | apply Drawn0.step)⟩
        ·rw [if_neg c7] at H
         have c7b0 : (x11_1 == 9) = false := beq_eq_false_iff_ne.mpr c7
         have c7b1 : (x11_1 != 9) = true := bne_iff_ne.mpr c7
         by_cases c10 : x11_1 = 0
         ·rw [if_pos c10] at H
          have c10b0 : (x11_1 == 0) = true := beq_iff_eq.mpr c10
          have c10b1 : (x11_1 != 0) = false := bne_eq_false_iff_eq.mpr c10
          clear c10
          have H' := am H
          clear H
          go_wp2
          go_meet
          case rel => exact ⟨_, (((rd l0 x11_1) == 128)), (by first | rfl | (simp; done) | (simp [*]; done)), H', ⟨by have := HK1.out; first | omega | exact Nat.le_refl _⟩, by repeat (first | exact Drawn0.refl _ | apply Drawn0.step)⟩
         ·rw [if_neg c10] at H
          have c10b0 : (x11_1 == 0) = false := beq_eq_false_iff_ne.mpr c10
          have c10b1 : (x11_1 != 0) = true := bne_iff_ne.mpr c10
          have H' := am H
          clear H
          go_wp2
          go_meet
          case rel => exact ⟨_, (false), (by first | rfl | (simp; done) | (simp [*]; done)), H', ⟨by have := HK1.out; first | omega | exact Nat.le_refl _⟩, by repeat (first | exact Drawn0.refl _ | apply Drawn0.step)⟩
      case rest =>
       clear HC5
       try clear c1
       try clear p1
       try clear q1
       try clear hx1
       try clear c2
       try clear c2b0
       try clear p2
       try clear c3
       try clear c3b0
       try clear c4
       try clear c4b0
       try clear c6
       try clear c6b0
       try clear c6b1
       try clear c7
       try clear c7b0
       try clear c7b1
       try clear c8
       try clear c8b0
       try clear c9
       try clear c9b0
       try clear c9b1
       try clear c10
       try clear c10b0
       try clear c10b1
       try clear hx178_0
       try clear p178
       try clear q178
       obtain ⟨kq, x16_4, rfl, HA, HJ4, ⟨mc4, rfl⟩⟩ := hcut
       cases kq with
       | zero => exact absurd HA.out (by simp [wire_Get.j1])
       | succ kj4 =>
        have H := HA.out
        clear HA
        simp only [wire_Get.j1] at H
        by_cases c11 : x16_4 = true
        ·subst c11
         have H1 : (if x6_1 = 0 then (some (0, 0, false)) else (some (x5_1, x6_1, true))) = some (r1, r2, r3) := by rw [if_pos rfl] at H; exact H
         clear H
         have H := H1
         clear H1
         by_cases c12 : x6_1 = 0
         ·rw [if_pos c12] at H
          have c12b0 : (x6_1 == 0) = true := beq_iff_eq.mpr c12
          have c12b1 : (x6_1 != 0) = false := bne_eq_false_iff_eq.mpr c12
          clear c12
          simp only [Option.some.injEq, Prod.mk.injEq] at H
          obtain ⟨rfl, rfl, rfl⟩ := H
          go_wp2
          (try rw [Exit.noGoto_ret])
          go_ret3
          exact ⟨by first | rfl | (simp; done) | (simp [*]; done), by repeat (first | exact Drawn0.refl _ | apply Drawn0.step)⟩
         ·rw [if_neg c12] at H
          have c12b0 : (x6_1 == 0) = false := beq_eq_false_iff_ne.mpr c12
          have c12b1 : (x6_1 != 0) = true := bne_iff_ne.mpr c12
          simp only [Option.some.injEq, Prod.mk.injEq] at H
          obtain ⟨rfl, rfl, rfl⟩ := H
          go_wp2
          (try rw [Exit.noGoto_ret])
          go_ret3
          exact ⟨by first | rfl | (simp; done) | (simp [*]; done), by repeat (first | exact Drawn0.refl _ | apply Drawn0.step)⟩
        ·replace c11 := Bool.eq_false_iff.mpr c11
         subst c11
         have H1 : (if (rd l0 x11_1) < 128 then (if (wrap64 (x11_1 + 1)) = 0 then (some (0, 0, false)) else (some (Go.bits .or .u64 (IntKind.u64.wrap (x5_1 * 128)) (IntKind.u64.wrap (Go.bits .andNot .u8 (rd l0 x11_1) 128)), wrap64 (x11_1 + 1), true))) else (wire_Get.l0 kj4 (Go.bits .or .u64 (IntKind.u64.wrap (x5_1 * 128)) (IntKind.u64.wrap (Go.bits .andNot .u8 (rd l0 x11_1) 128))) x6_1 l0 (l0.length : Int) (wrap64 (x11_1 + 1)))) = some (r1, r2, r3) := by rw [if_neg (show ¬ (false = true) by decide)] at H; exact H
         clear H
         have H := H1
         clear H1
         by_cases c13 : (rd l0 x11_1) < 128
         ·rw [if_pos c13] at H
          have c13b0 : decide ((rd l0 x11_1) < 128) = true := decide_eq_true c13
          clear c13
          by_cases c14 : (wrap64 (x11_1 + 1)) = 0
          ·rw [if_pos c14] at H
           have c14b0 : ((wrap64 (x11_1 + 1)) == 0) = true := beq_iff_eq.mpr c14
           have c14b1 : ((wrap64 (x11_1 + 1)) != 0) = false := bne_eq_false_iff_eq.mpr c14
           clear c14
           simp only [Option.some.injEq, Prod.mk.injEq] at H
           obtain ⟨rfl, rfl, rfl⟩ := H
           go_wp2
           (try rw [Exit.noGoto_ret])
           go_ret3
           exact ⟨by first | rfl | (simp; done) | (simp [*]; done), by repeat (first | exact Drawn0.refl _ | apply Drawn0.step)⟩
          ·rw [if_neg c14] at H
           have c14b0 : ((wrap64 (x11_1 + 1)) == 0) = false := beq_eq_false_iff_ne.mpr c14
           have c14b1 : ((wrap64 (x11_1 + 1)) != 0) = true := bne_iff_ne.mpr c14
           simp only [Option.some.injEq, Prod.mk.injEq] at H
           obtain ⟨rfl, rfl, rfl⟩ := H
           go_wp2
           (try rw [Exit.noGoto_ret])
           go_ret3
           exact ⟨by first | rfl | (simp; done) | (simp [*]; done), by repeat (first | exact Drawn0.refl _ | apply Drawn0.step)⟩
         ·rw [if_neg c13] at H
          have c13b0 : decide ((rd l0 x11_1) < 128) = false := decide_eq_false c13
          clear c13
          have H' := am H
          clear H
          go_wp2
          go_roundg kj4
          case measure => have := HK1.out; have := HJ4.out; omega
          case rel => exact ⟨(Go.bits .or .u64 (IntKind.u64.wrap (x5_1 * 128)) (IntKind.u64.wrap (Go.bits .andNot .u8 (rd l0 x11_1) 128))), (x6_1), (wrap64 (x11_1 + 1)), (by first | rfl | (simp; done) | (simp [*]; done)), (by first | rfl | (simp; done) | (simp [*]; done)), (by first | rfl | (simp; done) | (simp [*]; done)), H', ⟨by have := HK1.out; have := HJ4.out; omega⟩, by repeat (first | exact Drawn0.refl _ | apply Drawn0.step)⟩
     ·rw [if_neg c4] at H
      exact absurd H (by simp)
    ·rw [if_neg c3] at H
     exact absurd H (by simp)
   ·rw [if_neg c2] at H
    have c2b0 : decide (x11_1 < (l0.length : Int)) = false := decide_eq_false c2
    clear c2
    by_cases c15 : x6_1 = 0
    ·rw [if_pos c15] at H
     have c15b0 : (x6_1 == 0) = true := beq_iff_eq.mpr c15
     have c15b1 : (x6_1 != 0) = false := bne_eq_false_iff_eq.mpr c15
     clear c15
     simp only [Option.some.injEq, Prod.mk.injEq] at H
     obtain ⟨rfl, rfl, rfl⟩ := H
     go_wp2
     (try rw [Exit.noGoto_ret])
     go_ret3
     exact ⟨by first | rfl | (simp; done) | (simp [*]; done), by repeat (first | exact Drawn0.refl _ | apply Drawn0.step)⟩
    ·rw [if_neg c15] at H
     have c15b0 : (x6_1 == 0) = false := beq_eq_false_iff_ne.mpr c15
     have c15b1 : (x6_1 != 0) = true := bne_iff_ne.mpr c15
     simp only [Option.some.injEq, Prod.mk.injEq] at H
     obtain ⟨rfl, rfl, rfl⟩ := H
     go_wp2
     (try rw [Exit.noGoto_ret])
     go_ret3
     exact ⟨by first | rfl | (simp; done) | (simp [*]; done), by repeat (first | exact Drawn0.refl _ | apply Drawn0.step)⟩
def wire_Four.l0 : Nat → Int → List Int → Int → Int → Option (Int × Bool)
 | 0, _, _, _, _ => none
 | k + 1, x4, x10, x11, x12 => if x12 < x11 then (if 0 ≤ x12 then (if x12 < (x10.length : Int) then (wire_Four.l0 k (Go.bits .or .u32 ((x4 * 256) % 4294967296) ((rd x10 x12) % 4294967296)) x10 x11 (wrap64 (x12 + 1))) else (none)) else (none)) else (some (x4, true))
def wire_Four.f (k : Nat) (l0 : List Int) : Option (Int × Bool) := if (l0.length : Int) = 4 then (wire_Four.l0 k 0 l0 (l0.length : Int) 0) else (some (0, false))
set_option maxHeartbeats 8000000 in
theorem wire_Four.calls (k : Nat) (A0 : Option Addr) (c0 : Nat) (l0 : List Int) (r1 : Int) (r2 : Bool) (w : World) (hr0 : Kd.C (Kd.int .u8) w A0 l0.length l0) (hc0 : l0.length ≤ c0) (h : wire_Four.f k l0 = some (r1, r2)) :
  Calls Try.prog 89 #[.slice A0 l0.length c0] w fun e w' => e = .returned (.tuple #[.int .u32 r1, .bool r2]) ∧ Drawn0 w w' := by
 have HR0 := am hr0
 have HC0 := am hc0
 clear hr0 hc0
 have H : (if (l0.length : Int) = 4 then (wire_Four.l0 k 0 l0 (l0.length : Int) 0) else (some (0, false))) = some (r1, r2) := h
 clear h
 by_cases c2 : (l0.length : Int) = 4
 ·rw [if_pos c2] at H
  have c2b0 : ((l0.length : Int) == 4) = true := beq_iff_eq.mpr c2
  have c2b1 : ((l0.length : Int) != 4) = false := bne_eq_false_iff_eq.mpr c2
  clear c2
  have H' := am H
  clear H
  go_enter Try.func89, Try.ntmps89
  go_wp2
  go_loopg [4, 12] k (fun kq v4 v12 w' => ∃ (x4_1 : Int) (x12_1 : Int), v4 = .int .u32 x4_1 ∧ v12 = .int .i64 x12_1 ∧ Aside0 (wire_Four.l0 kq x4_1 l0 (l0.length : Int) x12_1 = some (r1, r2)) ∧ Aside0 (kq ≤ k) ∧ Drawn0 w w')
  case atStart => exact ⟨(0), (0), (by first | rfl | (simp; done) | (simp [*]; done)), (by first | rfl | (simp; done) | (simp [*]; done)), H', ⟨Nat.le_refl _⟩, by repeat (first | exact Drawn0.refl _ | apply Drawn0.step)⟩
  case round =>
   clear H'
   try clear c2
   try clear c2b0
   try clear c2b1
   try clear p2
   obtain ⟨x4_1, x12_1, rfl, rfl, HA, HK1, ⟨m1, rfl⟩⟩ := hrel
   cases gk with
   | zero => exact absurd HA.out (by simp [wire_Four.l0])
   | succ k1 =>
    have H := HA.out
    clear HA
    simp only [wire_Four.l0] at H
    by_cases c3 : x12_1 < (l0.length : Int)
    ·rw [if_pos c3] at H
     have c3b0 : decide (x12_1 < (l0.length : Int)) = true := decide_eq_true c3
     clear c3
     by_cases c4 : 0 ≤ x12_1
     ·rw [if_pos c4] at H
      have c4b0 : decide (0 ≤ x12_1) = true := decide_eq_true c4
      clear c4
      by_cases c5 : x12_1 < (l0.length : Int)
      ·rw [if_pos c5] at H
       have c5b0 : decide (x12_1 < (l0.length : Int)) = true := decide_eq_true c5
       clear c5
       have H' := am H
       clear H
       have p179 : 0 ≤ (x12_1 : Int) := of_decide_eq_true (by first | (with_reducible assumption) | assumption)
       have q179 : x12_1 < (l0.length : Int) := of_decide_eq_true (by first | (with_reducible assumption) | assumption)
       obtain ⟨ad179, e179, hx179_0⟩ := Kd.at_int HR0.out x12_1 p179 q179
       cases e179
       replace p179 := eq_true p179
       replace q179 := eq_true q179
       go_wp2
       go_roundg k1
       case measure => have := HK1.out; omega
       case rel => exact ⟨(Go.bits .or .u32 ((x4_1 * 256) % 4294967296) ((rd l0 x12_1) % 4294967296)), (wrap64 (x12_1 + 1)), (by first | rfl | (simp; done) | (simp [*]; done)), (by first | rfl | (simp; done) | (simp [*]; done)), H', ⟨by have := HK1.out; omega⟩, by repeat (first | exact Drawn0.refl _ | apply Drawn0.step)⟩
      ·rw [if_neg c5] at H
       exact absurd H (by simp)
     ·rw [if_neg c4] at H
      exact absurd H (by simp)
    ·rw [if_neg c3] at H
     have c3b0 : decide (x12_1 < (l0.length : Int)) = false := decide_eq_false c3
     clear c3
     simp only [Option.some.injEq, Prod.mk.injEq] at H
     obtain ⟨rfl, rfl⟩ := H
     go_wp2
     go_ret2
     exact ⟨by first | rfl | (simp; done) | (simp [*]; done), by repeat (first | exact Drawn0.refl _ | apply Drawn0.step)⟩
 ·rw [if_neg c2] at H
  have c2b0 : ((l0.length : Int) == 4) = false := beq_eq_false_iff_ne.mpr c2
  have c2b1 : ((l0.length : Int) != 4) = true := bne_iff_ne.mpr c2
  simp only [Option.some.injEq, Prod.mk.injEq] at H
  obtain ⟨rfl, rfl⟩ := H
  go_enter Try.func89, Try.ntmps89
  go_wp2
  go_ret2
  exact ⟨by first | rfl | (simp; done) | (simp [*]; done), by repeat (first | exact Drawn0.refl _ | apply Drawn0.step)⟩
def wire_Text.f (k : Nat) (a0 : ByteArray) : Option (List Int) := (wire_Put.f k (IntKind.u64.wrap ((a0.size : Int)))).bind fun t372 => (if t372.length + a0.size < 140737488355328 then (some (t372 ++ bytesOf a0)) else (none))
set_option maxHeartbeats 8000000 in
theorem wire_Text.calls (k : Nat) (a0 : ByteArray) (r : List Int) (w : World) (h : wire_Text.f k a0 = some r) :
  Calls Try.prog 93 #[.string a0] w fun e w' => ∃ v0_ : Value, e = .returned (v0_) ∧ Kd.R (Kd.int .u8) 5 w' w.heap.size (fun _ => True) v0_ r ∧ Below w.heap.size w w' := by
 have HB := am (Below.refl w.heap.size w)
 have H : ((wire_Put.f k (IntKind.u64.wrap ((a0.size : Int)))).bind fun t372 => (if t372.length + a0.size < 140737488355328 then (some (t372 ++ bytesOf a0)) else (none))) = some r := h
 clear h
 replace H := Option.bind_eq_some_iff.mp H
 obtain ⟨t372, A20, H⟩ := H
 replace H : (if t372.length + a0.size < 140737488355328 then (some (t372 ++ bytesOf a0)) else (none)) = some r := H
 have A2 := am A20
 clear A20
 by_cases c3 : t372.length + a0.size < 140737488355328
 ·rw [if_pos c3] at H
  have LMc3 := am c3
  clear c3
  obtain ⟨y375, hy375⟩ : ∃ y_ : List Int, y_ = (t372 ++ bytesOf a0) := ⟨_, rfl⟩
  replace H : (some y375) = some r := by first | (rw [hy375]; with_reducible exact H) | (have H2_ := (Option.bind_some _ _).symm.trans H; rw [hy375]; with_reducible exact H2_) | (have H2_ := (Option.bind_some _ _).symm.trans H; with_reducible exact H2_) | with_reducible exact H | (rw [hy375]; exact H) | exact H
  have Ny375 := am hy375
  clear hy375
  obtain rfl := Option.some.inj H
  go_enter Try.func93, Try.ntmps93
  go_wp2_with (first | ((with_reducible refine gate_callee (f := 84) rfl ?_); refine goesL_ (some 6) rfl rfl Try.func84 (by kernel_rfl) rfl #[.int .u64 (IntKind.u64.wrap ((a0.size : Int)))] rfl (by (try simp only [List.map_toArray, List.map_cons, List.map_nil]); first | done | rfl | (simp only [List.length_drop, List.length_take]; rfl)) ?_; (with_reducible refine (wire_Put.calls k (IntKind.u64.wrap ((a0.size : Int))) t372 _ A2.out).mono ?_); rintro e w4 ⟨v373, rfl, ho0, hb⟩; refine ⟨_, rfl, ?_⟩; have n0_ := am (Kd.R_lower ho0 (below_size (bw HB.out))); have n1_ := am (below_step (bw HB.out) hb); clear HB; have HO374 := n0_; have HB := n1_; clear n0_ n1_; (try clear hb); (try clear hb2); (try clear hk); (try clear hi); (try clear ho0)) | (at_builtin; refine print_append_str (w0 := w) w.heap.size rfl (.tmp 6) _ 40 9 5 rfl Try.underlying40 Try.underlying9 info5 v373 t372 a0 rfl rfl ?aO ?aB ?aS ?aL ?_; (case aB => exact (bw HB.out)); (case aO => exact (Kd.own_of_R (rr HO374.out))); (case aS => exact (below_size (bw HB.out))); (case aL => have := LMc3.out; omega); intro v376 w5 ho0 hb hg; have ho := Kd.R_of_own (h1 := fun _ => rfl) (ok := fun _ => True) ho0 (fun _ _ => trivial); clear ho0; have hat := True.intro; rw [← Ny375.out] at ho; change Kd.R (Kd.int .u8) 5 w5 w.heap.size (fun _ => True) v376 y375 at ho; have n0_ := am (hb); have n1_ := am (ho); clear HB; clear HO374; have HB := n0_; have HO377 := n1_; clear n0_ n1_; clear ho hb hg hat))
  go_ret
  exact ⟨_, by first | rfl | (simp [errW_none, errW_some] <;> rfl) | (simp [*, errW_none, errW_some] <;> rfl), by (with_reducible repeat (first | apply Kd.R_alloc | apply Kd.R_drewN | apply Kd.R_drew)); exact HO377.out, bw HB.out⟩
 ·rw [if_neg c3] at H
  exact absurd H (by simp)
def wire_Read.f (k : Nat) (l0 : List Int) (a1 : Int) : Option (ByteArray × Int × Bool) :=
 (wire_Get.f k l0).bind fun r => if 0 ≤ r.2.1 ∧ r.2.1 ≤ l0.length ∧ 0 ≤ r.1 ∧ l0.length ≤ 4611686018427387904 then
  (if r.2.2 = true ∧ 0 ≤ a1 ∧ r.1 ≤ a1 ∧ r.1 ≤ (l0.length : Int) - r.2.1 then some (strOfNums ((l0.drop r.2.1.toNat).take r.1.toNat), r.2.1 + r.1, true) else some (⟨#[]⟩, 0, false)) else none
set_option maxHeartbeats 4000000 in
theorem read_no (k : Nat) (A0 : Option Addr) (c0 : Nat) (l0 : List Int) (a1 : Int) (n u : Nat) (w : World) (hr0 : Kd.C (Kd.int .u8) w A0 l0.length l0) (hc0 : l0.length ≤ c0)
  (h : wire_Get.f k l0 = some ((n : Int), (u : Int), false)) (hu : u ≤ l0.length) (hl : l0.length ≤ 4611686018427387904) :
  Calls Try.prog 143 #[.slice A0 l0.length c0, .int .i64 a1] w fun e w' => e = .returned (.tuple #[.string ⟨#[]⟩, .int .i64 0, .bool false]) ∧ Below w.heap.size w w' := by
 obtain ⟨i0, hi0, _, hsz0, _⟩ := info_parts info5
 obtain ⟨A', hcut, hA, hC⟩ := print_drop_of (P := Try.prog) (Value.int .u8) 0 40 5 .i64 Try.underlying40 hi0 hsz0 A0 c0 l0 (u : Int) (by omega) (by omega) hc0
 simp only [Int.toNat_natCast, List.length_drop] at hcut
 clear hA hC hi0 hsz0
 have HG := am h
 have HR := am hr0
 clear h hr0
 go_enter Try.func143, Try.ntmps143
 go_wp2_with (go_at_call 88; refine (wire_Get.calls k _ _ l0 n u false _ HR.out hc0 HG.out).mono ?_; rintro e w' ⟨rfl, ⟨nd, rfl⟩⟩)
 go_ret3
 exact ⟨rfl, pw_below_drewN (Below.refl _ _) _⟩
set_option maxHeartbeats 4000000 in
theorem read_neg (k : Nat) (A0 : Option Addr) (c0 : Nat) (l0 : List Int) (a1 : Int) (n u : Nat) (w : World) (hr0 : Kd.C (Kd.int .u8) w A0 l0.length l0) (hc0 : l0.length ≤ c0)
  (h : wire_Get.f k l0 = some ((n : Int), (u : Int), true)) (hu : u ≤ l0.length) (hl : l0.length ≤ 4611686018427387904) (ha : a1 < 0) :
  Calls Try.prog 143 #[.slice A0 l0.length c0, .int .i64 a1] w fun e w' => e = .returned (.tuple #[.string ⟨#[]⟩, .int .i64 0, .bool false]) ∧ Below w.heap.size w w' := by
 obtain ⟨i0, hi0, _, hsz0, _⟩ := info_parts info5
 obtain ⟨A', hcut, hA, hC⟩ := print_drop_of (P := Try.prog) (Value.int .u8) 0 40 5 .i64 Try.underlying40 hi0 hsz0 A0 c0 l0 (u : Int) (by omega) (by omega) hc0
 simp only [Int.toNat_natCast, List.length_drop] at hcut
 clear hA hC hi0 hsz0
 have HG := am h
 have HR := am hr0
 clear h hr0
 have c1 : decide (0 ≤ a1) = false := decide_eq_false (by omega)
 go_enter Try.func143, Try.ntmps143
 go_wp2_with (go_at_call 88; refine (wire_Get.calls k _ _ l0 n u true _ HR.out hc0 HG.out).mono ?_; rintro e w' ⟨rfl, ⟨nd, rfl⟩⟩)
 go_ret3
 exact ⟨rfl, pw_below_drewN (Below.refl _ _) _⟩
set_option maxHeartbeats 4000000 in
theorem read_far (k : Nat) (A0 : Option Addr) (c0 : Nat) (l0 : List Int) (m : Nat) (n u : Nat) (w : World) (hr0 : Kd.C (Kd.int .u8) w A0 l0.length l0) (hc0 : l0.length ≤ c0)
  (h : wire_Get.f k l0 = some ((n : Int), (u : Int), true)) (hu : u ≤ l0.length) (hl : l0.length ≤ 4611686018427387904) (hm : m < n ∨ l0.length - u < n) :
  Calls Try.prog 143 #[.slice A0 l0.length c0, .int .i64 m] w fun e w' => e = .returned (.tuple #[.string ⟨#[]⟩, .int .i64 0, .bool false]) ∧ Below w.heap.size w w' := by
 obtain ⟨i0, hi0, _, hsz0, _⟩ := info_parts info5
 obtain ⟨A', hcut, hA, hC⟩ := print_drop_of (P := Try.prog) (Value.int .u8) 0 40 5 .i64 Try.underlying40 hi0 hsz0 A0 c0 l0 (u : Int) (by omega) (by omega) hc0
 simp only [Int.toNat_natCast, List.length_drop] at hcut
 clear hA hC hi0 hsz0
 have HG := am h
 have HR := am hr0
 clear h hr0
 obtain ⟨z, hz⟩ : ∃ z, l0.length - u = z := ⟨_, rfl⟩
 have hzl : z ≤ 4611686018427387904 := by omega
 rw [hz] at hcut hm
 have w1 : IntKind.u64.wrap (z : Int) = (z : Int) := by simp [IntKind.wrap, IntKind.bits, IntKind.signed]; omega
 by_cases hc : z < m
 ·have c1 : decide (z < m) = true := decide_eq_true hc
  have c2 : decide (n ≤ z) = false := decide_eq_false (by omega)
  clear hz hm
  go_enter Try.func143, Try.ntmps143
  go_wp2_with (go_at_call 88; refine (wire_Get.calls k _ _ l0 n u true _ HR.out hc0 HG.out).mono ?_; rintro e w' ⟨rfl, ⟨nd, rfl⟩⟩)
  go_ret3
  exact ⟨rfl, pw_below_drewN (Below.refl _ _) _⟩
 ·have c1 : decide (z < m) = false := decide_eq_false hc
  have c2 : decide (n ≤ m) = false := decide_eq_false (by omega)
  have w2 : IntKind.u64.wrap (m : Int) = (m : Int) := by simp [IntKind.wrap, IntKind.bits, IntKind.signed]; omega
  clear hz hm
  go_enter Try.func143, Try.ntmps143
  go_wp2_with (go_at_call 88; refine (wire_Get.calls k _ _ l0 n u true _ HR.out hc0 HG.out).mono ?_; rintro e w' ⟨rfl, ⟨nd, rfl⟩⟩)
  go_ret3
  exact ⟨rfl, pw_below_drewN (Below.refl _ _) _⟩
set_option maxHeartbeats 4000000 in
theorem read_yes (k : Nat) (A0 : Option Addr) (c0 : Nat) (l0 : List Int) (m : Nat) (n u : Nat) (w : World) (hr0 : Kd.C (Kd.int .u8) w A0 l0.length l0) (hc0 : l0.length ≤ c0)
  (h : wire_Get.f k l0 = some ((n : Int), (u : Int), true)) (hu : u ≤ l0.length) (hl : l0.length ≤ 4611686018427387904) (hm : n ≤ m) (hn : n ≤ l0.length - u) :
  Calls Try.prog 143 #[.slice A0 l0.length c0, .int .i64 m] w fun e w' => e = .returned (.tuple #[.string (strOfNums ((l0.drop u).take n)), .int .i64 (u + n), .bool true]) ∧ Below w.heap.size w w' := by
 obtain ⟨i0, hi0, _, hsz0, _⟩ := info_parts info5
 obtain ⟨A', hcut, hA, hC⟩ := print_drop_of (P := Try.prog) (Value.int .u8) 0 40 5 .i64 Try.underlying40 hi0 hsz0 A0 c0 l0 (u : Int) (by omega) (by omega) hc0
 simp only [Int.toNat_natCast] at hcut hA hC
 have hr1 := hA w (Kd.reads_of_C hr0)
 obtain ⟨hcut2, hA2, hC2⟩ := print_take_of (P := Try.prog) (Value.int .u8) 0 40 5 .i64 Try.underlying40 hi0 hsz0 A' (c0 - u) (l0.drop u) (n : Int) (by omega) (by rw [List.length_drop]; omega) hC
 have hr2 := hA2 w hr1
 simp only [Int.toNat_natCast] at hcut2 hr2 hC2
 have hln : ((l0.drop u).take n).length = n := by rw [List.length_take, List.length_drop]; omega
 rw [hln] at hcut2 hr2
 simp only [List.length_drop] at hcut hcut2
 have hcv : ∀ q, (convert 40 9 (.slice A' n (c0 - u))).run Try.prog (w.drewN q) = .ok (.string (strOfNums ((l0.drop u).take n))) (w.drewN q) := fun q =>
  Kd.C_string (P := Try.prog) Try.underlying40 Try.underlying5 Try.underlying9 (Kd.C_drewN (Kd.C_of_reads (h1 := fun _ => rfl) hr2) q)
 clear hA hC hi0 hsz0 hA2 hC2 hr1 hr2 hln
 have HG := am h
 have HR := am hr0
 clear h hr0
 obtain ⟨z, hz⟩ : ∃ z, l0.length - u = z := ⟨_, rfl⟩
 have hzl : z ≤ 4611686018427387904 := by omega
 have hzu : (u : Int) + n ≤ 4611686018427387904 := by omega
 rw [hz] at hcut hcut2 hn
 have w1 : IntKind.u64.wrap (z : Int) = (z : Int) := by simp [IntKind.wrap, IntKind.bits, IntKind.signed]; omega
 have w3 : IntKind.i64.wrap (n : Int) = (n : Int) := IntWalk.i64_in _ (by omega)
 have w4 : wrap64 (n : Int) = (n : Int) := by unfold wrap64; omega
 by_cases hc : z < m
 ·have c1 : decide (z < m) = true := decide_eq_true hc
  have c2 : decide (n ≤ z) = true := decide_eq_true (by omega)
  clear hz
  go_enter Try.func143, Try.ntmps143
  go_wp2_with (go_at_call 88; refine (wire_Get.calls k _ _ l0 n u true _ HR.out hc0 HG.out).mono ?_; rintro e w' ⟨rfl, ⟨nd, rfl⟩⟩)
  go_ret3
  exact ⟨rfl, pw_below_drewN (Below.refl _ _) _⟩
 ·have c1 : decide (z < m) = false := decide_eq_false hc
  have c2 : decide (n ≤ m) = true := decide_eq_true (by omega)
  have w2 : IntKind.u64.wrap (m : Int) = (m : Int) := by simp [IntKind.wrap, IntKind.bits, IntKind.signed]; omega
  clear hz
  go_enter Try.func143, Try.ntmps143
  go_wp2_with (go_at_call 88; refine (wire_Get.calls k _ _ l0 n u true _ HR.out hc0 HG.out).mono ?_; rintro e w' ⟨rfl, ⟨nd, rfl⟩⟩)
  go_ret3
  exact ⟨rfl, pw_below_drewN (Below.refl _ _) _⟩
theorem wire_Read.calls (k : Nat) (A0 : Option Addr) (c0 : Nat) (l0 : List Int) (a1 : Int) (r1 : ByteArray) (r2 : Int) (r3 : Bool) (w : World) (hr0 : Kd.C (Kd.int .u8) w A0 l0.length l0) (hc0 : l0.length ≤ c0) (h : wire_Read.f k l0 a1 = some (r1, r2, r3)) :
  Calls Try.prog 143 #[.slice A0 l0.length c0, .int .i64 a1] w fun e w' => e = .returned (.tuple #[.string r1, .int .i64 r2, .bool r3]) ∧ Below w.heap.size w w' := by
 unfold wire_Read.f at h
 obtain ⟨⟨n, u, is⟩, hg, h⟩ := Option.bind_eq_some_iff.mp h
 by_cases hc : 0 ≤ u ∧ u ≤ l0.length ∧ 0 ≤ n ∧ l0.length ≤ 4611686018427387904
 ·rw [if_pos hc] at h
  obtain ⟨h1, h2, h3, h4⟩ := hc
  obtain ⟨n, rfl⟩ := Int.eq_ofNat_of_zero_le h3
  obtain ⟨u, rfl⟩ := Int.eq_ofNat_of_zero_le h1
  simp only at h hg
  cases is with
  | false =>
   rw [if_neg (by simp)] at h
   cases h
   exact read_no k A0 c0 l0 a1 n u w hr0 hc0 hg (by omega) h4
  | true =>
   by_cases ha : a1 < 0
   ·rw [if_neg (by omega)] at h
    cases h
    exact read_neg k A0 c0 l0 a1 n u w hr0 hc0 hg (by omega) h4 ha
   ·obtain ⟨m, rfl⟩ := Int.eq_ofNat_of_zero_le (show 0 ≤ a1 by omega)
    by_cases hn : n ≤ m ∧ n ≤ l0.length - u
    ·rw [if_pos ⟨rfl, by omega, by omega, by omega⟩] at h
     cases h
     exact read_yes k A0 c0 l0 m n u w hr0 hc0 hg (by omega) h4 hn.1 hn.2
    ·rw [if_neg (by omega)] at h
     cases h
     exact read_far k A0 c0 l0 m n u w hr0 hc0 hg (by omega) h4 (by omega)
 ·rw [if_neg hc] at h
  cases h
end
end Go.Proofs.Ytchaegfdcdlfaaa.X
namespace Go.Proofs.Ytchaegfdcdlfaaa.Y
section
open Go.Proofs.Ytchaegfdcdlfaaa.X Go.RowKit Go.Proofs.YtchaegfdcdlfaaaW.PrintWords Go.Proofs.YtchaegfdcdlfaaaW.PrintLast Go.Proofs.YtchaegfdcdlfaaaW.PrintMore
theorem wrap64_small (n : Int) (h0 : -9223372036854775808 ≤ n) (h1 : n ≤ 9223372036854775807) : wrap64 n = n := by unfold wrap64; omega
theorem wrap_u64 (n : Int) : IntKind.u64.wrap n = n % 18446744073709551616 := by simp [IntKind.wrap, IntKind.bits, IntKind.signed]
theorem wraps_u64 (n : Int) (h₀ : 0 ≤ n) (h₁ : n < 2 ^ 64) : IntKind.u64.wrap n = n := by rw [wrap_u64]; omega
theorem or128 (x : Nat) (h : x < 256) : Go.bits .or .u8 (x : Int) 128 = ((x % 128 + 128 : Nat) : Int) := by
 have : ∀ x : Fin 256, Go.bits .or .u8 (x.val : Int) 128 = ((x.val % 128 + 128 : Nat) : Int) := by decide +kernel
 exact this ⟨x, h⟩
theorem andNot128 (x : Nat) (h : x < 256) : Go.bits .andNot .u8 (x : Int) 128 = ((x % 128 : Nat) : Int) := by
 have : ∀ x : Fin 256, Go.bits .andNot .u8 (x.val : Int) 128 = ((x.val % 128 : Nat) : Int) := by decide +kernel
 exact this ⟨x, h⟩
theorem groups_l0 (d : Nat) : ∀ (m k : Nat) (x : Int), m < 128 ^ d → d < k → 0 ≤ x → x + d ≤ 1000000 →
  wire_groups.l0 k (m : Int) x = some (x + (if m = 0 then 0 else (more m).length : Nat)) := by
 induction d with
 | zero =>
  intro m k x hm hk h0 h1
  obtain ⟨k, rfl⟩ : ∃ q, k = q + 1 := ⟨k - 1, by omega⟩
  obtain rfl : m = 0 := by simpa using hm
  simp only [wire_groups.l0]
  rw [if_neg (by omega)]; simp
 | succ d ih =>
  intro m k x hm hk h0 h1
  obtain ⟨k, rfl⟩ : ∃ q, k = q + 1 := ⟨k - 1, by omega⟩
  simp only [wire_groups.l0]
  by_cases hz : m = 0
  ·subst hz
   rw [if_neg (by omega)]; simp
  ·rw [Nat.pow_succ] at hm
   rw [if_pos (by omega), show (m : Int) / 128 = ((m / 128 : Nat) : Int) by omega, wrap64_small _ (by omega) (by omega), ih (m / 128) k (x + 1) (by omega) (by omega) (by omega) (by omega), if_neg hz]
   congr 1
   by_cases hb : m < 128
   ·rw [if_pos (by omega), more_small hb]; simp
   ·rw [if_neg (by omega), more_big hb]; simp; omega
theorem put_more_length (n : Nat) : (put n).length = (more n).length := by
 unfold put
 by_cases h : n < 128
 ·rw [if_pos h, more_small h]; rfl
 ·rw [if_neg h, more_big h]; simp
theorem put_more (n : Nat) : ∃ (q : List Int) (d : Nat), d < 128 ∧ more n = q ++ [(d : Int) + 128] ∧ put n = q ++ [(d : Int)] := by
 unfold put
 by_cases h : n < 128
 ·rw [if_pos h, more_small h]; exact ⟨[], n, h, rfl, rfl⟩
 ·rw [if_neg h, more_big h]; exact ⟨_, n % 128, by omega, rfl, rfl⟩
theorem groups_eq (n : Nat) (hn : n < 18446744073709551616) (k : Nat) (hk : 12 < k) : wire_groups.f k (n : Int) = some ((put n).length : Int) := by
 unfold wire_groups.f
 have e : (128 : Nat) ^ 10 = 1180591620717411303424 := by decide
 rw [show (n : Int) / 128 = ((n / 128 : Nat) : Int) by omega, groups_l0 10 (n / 128) k 1 (by omega) (by omega) (by omega) (by omega)]
 congr 1
 rw [put_more_length]
 by_cases h : n < 128
 ·rw [if_pos (by omega), more_small h]; simp
 ·rw [if_neg (by omega), more_big h]; simp; omega
theorem more_get (n : Nat) : ∀ i, i < (more n).length → (more n)[(more n).length - 1 - i]? = some (((n / 128 ^ i % 128 + 128 : Nat)) : Int) := by
 induction n using Nat.strongRecOn with
 | _ n ih =>
  intro i hi
  by_cases h : n < 128
  ·rw [more_small h] at hi ⊢
   obtain rfl : i = 0 := by simpa using hi
   simp; omega
  ·rw [more_big h] at hi ⊢
   simp only [List.length_append, List.length_cons, List.length_nil] at hi ⊢
   cases i with
   | zero =>
    rw [List.getElem?_append_right (by omega)]
    simp
   | succ i =>
    rw [List.getElem?_append_left (by omega), show (more (n / 128)).length + 1 - 1 - (i + 1) = (more (n / 128)).length - 1 - i by omega, ih (n / 128) (by omega) i (by omega)]
    rw [Nat.div_div_eq_div_mul, Nat.pow_succ, Nat.mul_comm]
theorem put_l0 (n : Nat) (hn : n < 18446744073709551616) (d : Nat) : ∀ (k i : Nat), i ≤ (put n).length → (put n).length - i = d → d < k →
  wire_Put.l0 k (n : Int) ((put n).length : Int) (List.replicate ((put n).length - i) 0 ++ (more n).drop ((put n).length - i)) ((put n).length : Int) (i : Int) = some (put n) := by
 have hlen := put_length n hn
 have hpos := put_length_pos n
 induction d with
 | zero =>
  intro k i h0 hd hk
  obtain ⟨k, rfl⟩ : ∃ m, k = m + 1 := ⟨k - 1, by omega⟩
  obtain rfl : i = (put n).length := by omega
  obtain ⟨q, e, he, hm, hp⟩ := put_more n
  simp only [wire_Put.l0]
  rw [if_neg (by omega), wrap64_small _ (by omega) (by omega), if_pos (by omega), Nat.sub_self]
  simp only [List.replicate_zero, List.nil_append, List.drop_zero]
  have hl : (put n).length = q.length + 1 := by rw [hp]; simp
  rw [if_pos (by rw [← put_more_length]; omega), show (((put n).length : Int) - 1).toNat = q.length by omega]
  have hrd : rd (more n) (((put n).length : Int) - 1) = ((e + 128 : Nat) : Int) := by
   unfold rd
   rw [show (((put n).length : Int) - 1).toNat = q.length by omega, hm]
   simp
  rw [hrd, andNot128 _ (by omega), hm, hp, List.set_append_right _ _ (by omega)]
  simp
  omega
 | succ d ih =>
  intro k i h0 hd hk
  obtain ⟨k, rfl⟩ : ∃ m, k = m + 1 := ⟨k - 1, by omega⟩
  simp only [wire_Put.l0]
  obtain ⟨j, hj⟩ : ∃ j, (put n).length - i = j + 1 := ⟨(put n).length - i - 1, by omega⟩
  have hml : (more n).length = (put n).length := (put_more_length n).symm
  rw [if_pos (by omega), wrap64_small (7 * (i : Int)) (by omega) (by omega), if_pos (by omega), wrap64_small (((put n).length : Int) - 1) (by omega) (by omega), wrap64_small (((put n).length : Int) - 1 - i) (by omega) (by omega), if_pos (by omega),
   if_pos (by simp only [List.length_append, List.length_replicate, List.length_drop]; omega), wrap64_small ((i : Int) + 1) (by omega) (by omega)]
  have hs : shr .u64 (n : Int) (7 * (i : Int)) = ((n / 128 ^ i : Nat) : Int) := by
   unfold shr
   rw [show min (7 * (i : Int)).toNat IntKind.u64.bits = 7 * i by show min (7 * (i : Int)).toNat 64 = _; omega, show (2 : Int) ^ (7 * i) = ((128 ^ i : Nat) : Int) by rw [Int.pow_mul]; norm_cast]
   norm_cast
  have hv : (more n)[j]? = some (((n / 128 ^ i % 128 + 128 : Nat)) : Int) := by
   have := more_get n i (by omega)
   rwa [show (more n).length - 1 - i = j by omega] at this
  rw [hs, show ((n / 128 ^ i : Nat) : Int) % 256 = ((n / 128 ^ i % 256 : Nat) : Int) by omega, or128 _ (by omega), show n / 128 ^ i % 256 % 128 = n / 128 ^ i % 128 by omega]
  have e := ih k (i + 1) (by omega) (by omega) (by omega)
  rw [show ((i + 1 : Nat) : Int) = (i : Int) + 1 by simp] at e
  rw [← e]
  congr 1
  rw [hj, show (put n).length - (i + 1) = j by omega, show (((put n).length : Int) - 1 - i).toNat = j by omega, List.replicate_succ', List.append_assoc, List.set_append_right _ _ (by simp)]
  congr 1
  rw [List.drop_eq_getElem_cons (show j < (more n).length by omega)]
  rw [List.getElem?_eq_getElem (show j < (more n).length by omega)] at hv
  have hv' := Option.some.inj hv
  simp [hv']
theorem Put_eq (n : Nat) (hn : n < 18446744073709551616) (k : Nat) (hk : 12 < k) : wire_Put.f k (n : Int) = some (put n) := by
 unfold wire_Put.f
 have hlen := put_length n hn
 rw [groups_eq n hn k hk]
 simp only [Option.bind_some]
 rw [if_pos (by omega), Int.toNat_natCast, if_pos (by omega)]
 have e := put_l0 n hn (put n).length k 0 (by omega) (by omega) (by omega)
 rw [Nat.sub_zero, put_more_length, List.drop_length, List.append_nil, ← put_more_length] at e
 exact e
def Bytes (l : List Int) : Prop := ∀ x ∈ l, 0 ≤ x ∧ x ≤ 255
theorem step_or (n : Nat) (c : Int) (hn : n * 128 < 18446744073709551616) (h0 : 0 ≤ c) (h1 : c ≤ 255) :
  Go.bits .or .u64 (IntKind.u64.wrap ((n : Int) * 128)) (IntKind.u64.wrap (Go.bits .andNot .u8 c 128)) = ((n * 128 + (c % 128).toNat : Nat) : Int) := by
 obtain ⟨c, rfl⟩ := Int.eq_ofNat_of_zero_le h0
 rw [andNot128 c (by omega), wrap_u64, wrap_u64, show (n : Int) * 128 % 18446744073709551616 = (n : Int) * 128 by omega, show ((c % 128 : Nat) : Int) % 18446744073709551616 = ((c % 128 : Nat) : Int) by omega]
 rw [bits_join .u64 64 (by decide) wraps_u64 7 _ _ (by omega) (by omega) (by omega) (by omega) (by omega) (by omega)]
 omega
theorem get_l0 (l s : List Int) : ∀ (q : List Int) (k : Nat), l = q ++ s → Marks q → q.length ≤ 10 → V q < 18446744073709551616 → Bytes s → l.length ≤ 4611686018427387904 → 2 * s.length + 2 < k →
  ∃ r, wire_Get.l0 k (V q : Int) 0 l (l.length : Int) (q.length : Int) = some r ∧ IsGet l r := by
 induction s with
 | nil =>
  intro q k hl hq h10 hv hb hll hk
  obtain ⟨k, rfl⟩ : ∃ m, k = m + 1 := ⟨k - 1, by omega⟩
  rw [List.append_nil] at hl
  subst hl
  simp only [wire_Get.l0]
  rw [if_neg (by omega)]
  refine ⟨_, rfl, .inr ⟨fun m _ hp => put_not_marks m _ (fun x hx => (hq.1 x hx).1) hp, rfl⟩⟩
 | cons c s ih =>
  intro q k hl hq h10 hv hb hll hk
  obtain ⟨k, rfl⟩ : ∃ m, k = m + 1 + 1 := ⟨k - 2, by simp at hk; omega⟩
  have hlen : l.length = q.length + (s.length + 1) := by rw [hl]; simp
  have hc := hb c (by simp)
  have hrd : rd l (q.length : Int) = c := by
   unfold rd
   rw [hl]
   simp
  have hlt := V_lt q
  simp only [wire_Get.l0]
  rw [if_pos (by omega), if_pos (by omega), if_pos (by omega), hrd]
  have goes : V q * 128 < 18446744073709551616 → (q = [] → c ≠ 128) → ∃ r, wire_Get.j1 (k + 1) (V q : Int) 0 (q.length : Int) c l (l.length : Int) (q.length : Int) false = some r ∧ IsGet l r := by
   intro hov hne
   simp only [wire_Get.j1]
   rw [if_neg (by simp)]
   by_cases hcc : c < 128
   ·have hvv : V (q ++ [c]) < 18446744073709551616 := by rw [V_snoc]; omega
    rw [if_pos hcc, wrap64_small _ (by omega) (by omega), if_neg (by omega), step_or _ _ hov hc.1 hc.2, ← V_snoc]
    have hp := put_of q c hq hc.1 hcc
    refine ⟨_, rfl, .inl ⟨V (q ++ [c]), hvv, ?_, ?_⟩⟩
    ·rw [hp, hl]; exact ⟨s, by simp⟩
    ·rw [hp]; simp
   ·have h9 : q.length ≤ 9 := by
     rcases Nat.lt_or_ge q.length 10 with h | h
     ·omega
     ·exfalso
      have hg := marks_V_ge q hq (by intro e; rw [e] at h; simp at h)
      have : 128 ^ 9 ≤ 128 ^ (q.length - 1) := Nat.pow_le_pow_right (by decide) (by omega)
      have e9 : 128 ^ 9 = 9223372036854775808 := by decide
      omega
    rw [if_neg hcc, wrap64_small _ (by omega) (by omega), step_or _ _ hov hc.1 hc.2, ← V_snoc]
    have e := ih (q ++ [c]) k (by rw [hl]; simp) (hq.snoc (by omega) hc.2 hne) (by simp; omega) (by rw [V_snoc]; omega) (fun x hx => hb x (by simp [hx])) hll (by simp at hk; omega)
    rw [show (((q ++ [c]).length : Nat) : Int) = (q.length : Int) + 1 by simp] at e
    exact e
  have stops : ∀ b : Bool, b = true → (∀ m, m < 18446744073709551616 → ¬ put m <+: l) → ∃ r, wire_Get.j1 (k + 1) (V q : Int) 0 (q.length : Int) c l (l.length : Int) (q.length : Int) b = some r ∧ IsGet l r := by
   intro b hb' hno
   subst hb'
   simp only [wire_Get.j1, if_true]
   exact ⟨_, rfl, .inr ⟨hno, rfl⟩⟩
  have exact_ : ∀ m, put m <+: l → c < 128 → put m = q ++ [c] := fun m hp hcc => put_exact m q c s (fun x hx => (hq.1 x hx).1) hcc (by rw [← hl]; exact hp)
  have longer : ∀ m, put m <+: l → q.length < (put m).length := fun m hp => by
   rcases Nat.lt_or_ge q.length (put m).length with h | h
   ·exact h
   ·exact absurd (List.prefix_of_prefix_length_le hp ⟨c :: s, hl.symm⟩ h) (put_not_marks m q (fun x hx => (hq.1 x hx).1))
  by_cases e10 : (q.length : Int) = 10
  ·rw [if_pos e10]
   refine stops _ (by simpa using e10) fun m hm hp => ?_
   have := longer m hp
   have := put_length m hm
   omega
  ·rw [if_neg e10]
   by_cases e9 : (q.length : Int) = 9
   ·rw [if_pos e9]
    have hd : (V q : Int) / 144115188075855872 = ((V q / 144115188075855872 : Nat) : Int) := by omega
    by_cases eo : (V q : Int) / 144115188075855872 > 0
    ·rw [if_pos eo]
     refine stops _ (by simpa using eo) fun m hm hp => ?_
     have h1 := longer m hp
     have h2 := put_length m hm
     obtain ⟨q', d, e, hq', h0, h3⟩ := put_form m
     have hl1 : (put m).length = q.length + 1 := by omega
     have hpre : put m = q ++ [c] := by
      have := List.prefix_of_prefix_length_le hp (show q ++ [c] <+: l by rw [hl]; exact ⟨s, by simp⟩) (by simp; omega)
      exact this.eq_of_length (by simp; omega)
     have := V_put m
     rw [hpre, V_snoc] at this
     omega
    ·rw [if_neg eo, if_neg (by omega)]
     exact goes (by omega) (fun e => by rw [e] at e9; simp at e9)
   ·rw [if_neg e9]
    by_cases e0 : (q.length : Int) = 0
    ·rw [if_pos e0]
     have hq0 : q = [] := List.eq_nil_of_length_eq_zero (by omega)
     by_cases ec : c = 128
     ·refine stops _ (by simpa using ec) fun m hm hp => ?_
      obtain ⟨t, ht⟩ := hp
      have h5 := put_head m
      cases hpm : put m with
      | nil => exact put_ne m hpm
      | cons a r =>
       rw [hpm] at ht h5
       rw [hl, hq0] at ht
       simp at ht h5
       omega
     ·have := goes (by rw [hq0, V_nil]; omega) (fun _ => ec)
      rwa [show (c == 128) = false by simpa using ec]
    ·rw [if_neg e0]
     refine goes ?_ (fun e => by rw [e] at e0; simp at e0)
     have h128 : 128 ^ q.length ≤ 128 ^ 8 := Nat.pow_le_pow_right (by decide) (by omega)
     have e8 : 128 ^ 8 = 72057594037927936 := by decide
     omega
theorem Get_is (l : List Int) (hb : Bytes l) (hl : l.length ≤ 4611686018427387904) (k : Nat) (hk : 2 * l.length + 2 < k) : ∃ r, wire_Get.f k l = some r ∧ IsGet l r := by
 unfold wire_Get.f
 exact get_l0 l l [] k rfl Marks.nil (by simp) (by rw [V_nil]; omega) hb hl hk
theorem Get_eq {l : List Int} {r : Int × Int × Bool} (h : IsGet l r) (hb : Bytes l) (hl : l.length ≤ 4611686018427387904) (k : Nat) (hk : 2 * l.length + 2 < k) : wire_Get.f k l = some r := by
 obtain ⟨r', hr, hi⟩ := Get_is l hb hl k hk
 rw [hr, h.unique hi]
theorem bytesOf_bytes (s : ByteArray) : Bytes (bytesOf s) := by
 intro x hx
 unfold bytesOf at hx
 obtain ⟨b, _, rfl⟩ := List.mem_map.1 hx
 have := b.toNat_lt
 omega
theorem Text_eq (s : ByteArray) (hs : s.size ≤ 140737488351232) (k : Nat) (hk : 12 < k) : wire_Text.f k s = some (put s.size ++ bytesOf s) := by
 unfold wire_Text.f
 have h10 := put_length s.size (by omega)
 rw [wrap_u64, show (s.size : Int) % 18446744073709551616 = (s.size : Int) by omega, Put_eq s.size (by omega) k hk]
 simp only [Option.bind_some]
 rw [if_pos (by omega)]
end
end Go.Proofs.Ytchaegfdcdlfaaa.Y
namespace Go.Proofs.Ytchaegfdcdlfaaa.X
section
open Go.RowKit Go.Proofs.YtchaegfdcdlfaaaW.PrintWords Go.Proofs.YtchaegfdcdlfaaaW.PrintLast Go.Proofs.YtchaegfdcdlfaaaW.PrintMore
attribute [local go_sem] max2_int min2_int max_two min_two max_three min_three max_four min_four
theorem eqA96 (d : Nat) (w : World) (x0 y0 : Int) (x1 y1 : Int) :
  (Op.equalIn (d + 2) 96 (.agg #[.int .i64 x0, .int .i64 x1]) (.agg #[.int .i64 y0, .int .i64 y1])).run Try.prog w = .ok (x0 == y0 && (x1 == y1)) w := by
 refine eqA_of Try.underlying96 (by kernel_rfl) ?_
 refine eqf_cons (by rfl) (by go_simp; rfl) (by go_simp; rfl) (by go_simp) ?_
 exact eqf_last (by rfl) (by go_simp; rfl) (by go_simp; rfl) (by go_simp)
end
section
open Go.RowKit Go.Proofs.YtchaegfdcdlfaaaW.PrintWords Go.Proofs.YtchaegfdcdlfaaaW.PrintLast Go.Proofs.YtchaegfdcdlfaaaW.PrintMore
attribute [local go_sem] max2_int min2_int max_two min_two max_three min_three max_four min_four
attribute [local go_sem high] eqA96
def stamp_May.f (a0_0 : Int) (a0_1 : Int) : Option (Bool) := if (a0_0 == 0 && (a0_1 == 0)) = true then (some true) else (if a0_0 > 0 then (if a0_0 ≤ 1099511627776 then (if a0_1 ≥ 0 then (some (decide (a0_1 < 8))) else (some false)) else (some false)) else (some false))
set_option maxHeartbeats 8000000 in
theorem stamp_May.calls (a0_0 : Int) (a0_1 : Int) (r : Bool) (w : World) (h : stamp_May.f a0_0 a0_1 = some r) :
  Calls Try.prog 149 #[.agg #[.int .i64 a0_0, .int .i64 a0_1]] w fun e w' => e = .returned (.bool r) ∧ Below w.heap.size w w' := by
 have hu96 := Try.underlying96
 have HB := am (Below.refl w.heap.size w)
 have H : (if (a0_0 == 0 && (a0_1 == 0)) = true then (some true) else (if a0_0 > 0 then (if a0_0 ≤ 1099511627776 then (if a0_1 ≥ 0 then (some (decide (a0_1 < 8))) else (some false)) else (some false)) else (some false))) = some r := h
 clear h
 by_cases c2 : (a0_0 == 0 && (a0_1 == 0)) = true
 ·rw [if_pos c2] at H
  have c2b0 : (a0_0 == 0 && (a0_1 == 0)) = true := c2
  (try (have c2b1 : decide (a0_0 = 0 && (a0_1 == 0)) = true := by simpa using c2))
  (try (have c2b2 : (a0_0 == 0 && (a0_1 == 0)) = true := by simpa using c2))
  clear c2
  obtain rfl := Option.some.inj H
  go_enter Try.func149, Try.ntmps149
  go_wp2_with (first | ((with_reducible refine gate_dst (N := 1) rfl ?_); refine box_event ?hg (N := 1) ?hd (cs := #[.int .i64 a0_0, .int .i64 a0_1]) (t := 96) ?hr ?_; (case hd => rfl); (case hg => rfl); (case hr => first | (go_simp; done) | (go_simp; rfl)); intro gb610 hg w3 hbox hb; have n0_ := am (below_step (bw HB.out) hb); have n1_ := am (hbox); have n2_ := am ((by rw [hg]; exact (below_size (bw HB.out)) : w.heap.size ≤ gb610)); have n3_ := am ((by rw [hg]; exact (below_size (bw HB.out)) : w.heap.size ≤ gb610)); clear HB; have HB := n0_; have BK610 := n1_; have GW610 := n2_; have GE610 := n3_; clear n0_ n1_ n2_ n3_; clear hb hbox hg; have hcz4_0 : w3.cell? ⟨gb610, 0, none⟩ = some (.int .i64 a0_0) := (blk_cell BK610.out 0).trans rfl; have hcz4_1 : w3.cell? ⟨gb610, 1, none⟩ = some (.int .i64 a0_1) := (blk_cell BK610.out 1).trans rfl; have hfz4_0 := blk_frozen BK610.out 0; have hfz4_1 := blk_frozen BK610.out 1))
  go_ret
  exact ⟨by first | rfl | (simp [errW_none, errW_some] <;> rfl) | (simp [*, errW_none, errW_some] <;> rfl), by repeat (first | (with_reducible first | exact HB.out | apply below_alloc | apply pw_below_drewN | apply below_drew1 | refine below_set ?_ GE610.out) | exact HB.out)⟩
 ·rw [if_neg c2] at H
  have c2b0 : (a0_0 == 0 && (a0_1 == 0)) = false := by simpa using c2
  (try (have c2b1 : decide (a0_0 = 0 && (a0_1 == 0)) = false := by simpa using c2))
  (try (have c2b2 : (a0_0 == 0 && (a0_1 == 0)) = false := by simpa using c2))
  (try (have c2b3 : ¬ (a0_0 = 0 && (a0_1 == 0)) := by simpa using c2))
  clear c2
  by_cases c5 : a0_0 > 0
  ·rw [if_pos c5] at H
   have c5b0 : decide (0 < a0_0) = true := decide_eq_true c5
   clear c5
   by_cases c6 : a0_0 ≤ 1099511627776
   ·rw [if_pos c6] at H
    have c6b0 : decide (a0_0 ≤ 1099511627776) = true := decide_eq_true c6
    clear c6
    by_cases c7 : a0_1 ≥ 0
    ·rw [if_pos c7] at H
     have c7b0 : decide (0 ≤ a0_1) = true := decide_eq_true c7
     clear c7
     obtain rfl := Option.some.inj H
     go_enter Try.func149, Try.ntmps149
     go_wp2_with (first | ((with_reducible refine gate_dst (N := 1) rfl ?_); refine box_event ?hg (N := 1) ?hd (cs := #[.int .i64 a0_0, .int .i64 a0_1]) (t := 96) ?hr ?_; (case hd => rfl); (case hg => rfl); (case hr => first | (go_simp; done) | (go_simp; rfl)); intro gb610 hg w8 hbox hb; have n0_ := am (below_step (bw HB.out) hb); have n1_ := am (hbox); have n2_ := am ((by rw [hg]; exact (below_size (bw HB.out)) : w.heap.size ≤ gb610)); have n3_ := am ((by rw [hg]; exact (below_size (bw HB.out)) : w.heap.size ≤ gb610)); clear HB; have HB := n0_; have BK610 := n1_; have GW610 := n2_; have GE610 := n3_; clear n0_ n1_ n2_ n3_; clear hb hbox hg; have hcz9_0 : w8.cell? ⟨gb610, 0, none⟩ = some (.int .i64 a0_0) := (blk_cell BK610.out 0).trans rfl; have hcz9_1 : w8.cell? ⟨gb610, 1, none⟩ = some (.int .i64 a0_1) := (blk_cell BK610.out 1).trans rfl; have hfz9_0 := blk_frozen BK610.out 0; have hfz9_1 := blk_frozen BK610.out 1))
     go_ret
     exact ⟨by first | rfl | (simp [errW_none, errW_some] <;> rfl) | (simp [*, errW_none, errW_some] <;> rfl), by repeat (first | (with_reducible first | exact HB.out | apply below_alloc | apply pw_below_drewN | apply below_drew1 | refine below_set ?_ GE610.out) | exact HB.out)⟩
    ·rw [if_neg c7] at H
     have c7b0 : decide (0 ≤ a0_1) = false := decide_eq_false c7
     clear c7
     obtain rfl := Option.some.inj H
     go_enter Try.func149, Try.ntmps149
     go_wp2_with (first | ((with_reducible refine gate_dst (N := 1) rfl ?_); refine box_event ?hg (N := 1) ?hd (cs := #[.int .i64 a0_0, .int .i64 a0_1]) (t := 96) ?hr ?_; (case hd => rfl); (case hg => rfl); (case hr => first | (go_simp; done) | (go_simp; rfl)); intro gb610 hg w10 hbox hb; have n0_ := am (below_step (bw HB.out) hb); have n1_ := am (hbox); have n2_ := am ((by rw [hg]; exact (below_size (bw HB.out)) : w.heap.size ≤ gb610)); have n3_ := am ((by rw [hg]; exact (below_size (bw HB.out)) : w.heap.size ≤ gb610)); clear HB; have HB := n0_; have BK610 := n1_; have GW610 := n2_; have GE610 := n3_; clear n0_ n1_ n2_ n3_; clear hb hbox hg; have hcz11_0 : w10.cell? ⟨gb610, 0, none⟩ = some (.int .i64 a0_0) := (blk_cell BK610.out 0).trans rfl; have hcz11_1 : w10.cell? ⟨gb610, 1, none⟩ = some (.int .i64 a0_1) := (blk_cell BK610.out 1).trans rfl; have hfz11_0 := blk_frozen BK610.out 0; have hfz11_1 := blk_frozen BK610.out 1))
     go_ret
     exact ⟨by first | rfl | (simp [errW_none, errW_some] <;> rfl) | (simp [*, errW_none, errW_some] <;> rfl), by repeat (first | (with_reducible first | exact HB.out | apply below_alloc | apply pw_below_drewN | apply below_drew1 | refine below_set ?_ GE610.out) | exact HB.out)⟩
   ·rw [if_neg c6] at H
    have c6b0 : decide (a0_0 ≤ 1099511627776) = false := decide_eq_false c6
    clear c6
    obtain rfl := Option.some.inj H
    go_enter Try.func149, Try.ntmps149
    go_wp2_with (first | ((with_reducible refine gate_dst (N := 1) rfl ?_); refine box_event ?hg (N := 1) ?hd (cs := #[.int .i64 a0_0, .int .i64 a0_1]) (t := 96) ?hr ?_; (case hd => rfl); (case hg => rfl); (case hr => first | (go_simp; done) | (go_simp; rfl)); intro gb610 hg w12 hbox hb; have n0_ := am (below_step (bw HB.out) hb); have n1_ := am (hbox); have n2_ := am ((by rw [hg]; exact (below_size (bw HB.out)) : w.heap.size ≤ gb610)); have n3_ := am ((by rw [hg]; exact (below_size (bw HB.out)) : w.heap.size ≤ gb610)); clear HB; have HB := n0_; have BK610 := n1_; have GW610 := n2_; have GE610 := n3_; clear n0_ n1_ n2_ n3_; clear hb hbox hg; have hcz13_0 : w12.cell? ⟨gb610, 0, none⟩ = some (.int .i64 a0_0) := (blk_cell BK610.out 0).trans rfl; have hcz13_1 : w12.cell? ⟨gb610, 1, none⟩ = some (.int .i64 a0_1) := (blk_cell BK610.out 1).trans rfl; have hfz13_0 := blk_frozen BK610.out 0; have hfz13_1 := blk_frozen BK610.out 1))
    go_ret
    exact ⟨by first | rfl | (simp [errW_none, errW_some] <;> rfl) | (simp [*, errW_none, errW_some] <;> rfl), by repeat (first | (with_reducible first | exact HB.out | apply below_alloc | apply pw_below_drewN | apply below_drew1 | refine below_set ?_ GE610.out) | exact HB.out)⟩
  ·rw [if_neg c5] at H
   have c5b0 : decide (0 < a0_0) = false := decide_eq_false c5
   clear c5
   obtain rfl := Option.some.inj H
   go_enter Try.func149, Try.ntmps149
   go_wp2_with (first | ((with_reducible refine gate_dst (N := 1) rfl ?_); refine box_event ?hg (N := 1) ?hd (cs := #[.int .i64 a0_0, .int .i64 a0_1]) (t := 96) ?hr ?_; (case hd => rfl); (case hg => rfl); (case hr => first | (go_simp; done) | (go_simp; rfl)); intro gb610 hg w14 hbox hb; have n0_ := am (below_step (bw HB.out) hb); have n1_ := am (hbox); have n2_ := am ((by rw [hg]; exact (below_size (bw HB.out)) : w.heap.size ≤ gb610)); have n3_ := am ((by rw [hg]; exact (below_size (bw HB.out)) : w.heap.size ≤ gb610)); clear HB; have HB := n0_; have BK610 := n1_; have GW610 := n2_; have GE610 := n3_; clear n0_ n1_ n2_ n3_; clear hb hbox hg; have hcz15_0 : w14.cell? ⟨gb610, 0, none⟩ = some (.int .i64 a0_0) := (blk_cell BK610.out 0).trans rfl; have hcz15_1 : w14.cell? ⟨gb610, 1, none⟩ = some (.int .i64 a0_1) := (blk_cell BK610.out 1).trans rfl; have hfz15_0 := blk_frozen BK610.out 0; have hfz15_1 := blk_frozen BK610.out 1))
   go_ret
   exact ⟨by first | rfl | (simp [errW_none, errW_some] <;> rfl) | (simp [*, errW_none, errW_some] <;> rfl), by repeat (first | (with_reducible first | exact HB.out | apply below_alloc | apply pw_below_drewN | apply below_drew1 | refine below_set ?_ GE610.out) | exact HB.out)⟩
end
section
open Go.RowKit Go.Proofs.YtchaegfdcdlfaaaW.PrintWords Go.Proofs.YtchaegfdcdlfaaaW.PrintLast Go.Proofs.YtchaegfdcdlfaaaW.PrintMore
attribute [local go_sem] max2_int min2_int max_two min_two max_three min_three max_four min_four
def stamp_Put.f (k : Nat) (a0_0 : Int) (a0_1 : Int) : Option (List Int × Bool) := (stamp_May.f a0_0 a0_1).bind fun t623 => (if t623 = true then ((wire_Put.f k (Go.bits .or .u64 (IntKind.u64.wrap ((IntKind.u64.wrap (a0_0)) * 8)) (IntKind.u64.wrap (a0_1)))).bind fun t624 => (some (t624, true))) else (some (([] : List Int), false)))
set_option maxHeartbeats 8000000 in
theorem stamp_Put.calls (k : Nat) (a0_0 : Int) (a0_1 : Int) (r1 : List Int) (r2 : Bool) (w : World) (h : stamp_Put.f k a0_0 a0_1 = some (r1, r2)) :
  Calls Try.prog 104 #[.agg #[.int .i64 a0_0, .int .i64 a0_1]] w fun e w' => ∃ v0_ : Value, e = .returned (.tuple #[v0_, .bool r2]) ∧ Kd.R (Kd.int .u8) 5 w' w.heap.size (fun _ => True) v0_ r1 ∧ Below w.heap.size w w' := by
 have hu96 := Try.underlying96
 have HB := am (Below.refl w.heap.size w)
 have H : ((stamp_May.f a0_0 a0_1).bind fun t623 => (if t623 = true then ((wire_Put.f k (Go.bits .or .u64 (IntKind.u64.wrap ((IntKind.u64.wrap (a0_0)) * 8)) (IntKind.u64.wrap (a0_1)))).bind fun t624 => (some (t624, true))) else (some (([] : List Int), false)))) = some (r1, r2) := h
 clear h
 replace H := Option.bind_eq_some_iff.mp H
 obtain ⟨t623, A20, H⟩ := H
 replace H : (if t623 = true then ((wire_Put.f k (Go.bits .or .u64 (IntKind.u64.wrap ((IntKind.u64.wrap (a0_0)) * 8)) (IntKind.u64.wrap (a0_1)))).bind fun t624 => (some (t624, true))) else (some (([] : List Int), false))) = some (r1, r2) := H
 have A2 := am A20
 clear A20
 by_cases c3 : t623 = true
 ·subst c3
  have H1 : ((wire_Put.f k (Go.bits .or .u64 (IntKind.u64.wrap ((IntKind.u64.wrap (a0_0)) * 8)) (IntKind.u64.wrap (a0_1)))).bind fun t624 => (some (t624, true))) = some (r1, r2) := by rw [if_pos rfl] at H; exact H
  clear H
  have H := H1
  clear H1
  replace H := Option.bind_eq_some_iff.mp H
  obtain ⟨t624, A40, H⟩ := H
  replace H : (some (t624, true)) = some (r1, r2) := H
  have A4 := am A40
  clear A40
  simp only [Option.some.injEq, Prod.mk.injEq] at H
  obtain ⟨rfl, rfl⟩ := H
  go_enter Try.func104, Try.ntmps104
  go_wp2_with (first | ((with_reducible refine gate_dst (N := 1) rfl ?_); refine box_event ?hg (N := 1) ?hd (cs := #[.int .i64 a0_0, .int .i64 a0_1]) (t := 96) ?hr ?_; (case hd => rfl); (case hg => rfl); (case hr => first | (go_simp; done) | (go_simp; rfl)); intro gb622 hg w5 hbox hb; have n0_ := am (below_step (bw HB.out) hb); have n1_ := am (hbox); have n2_ := am ((by rw [hg]; exact (below_size (bw HB.out)) : w.heap.size ≤ gb622)); have n3_ := am ((by rw [hg]; exact (below_size (bw HB.out)) : w.heap.size ≤ gb622)); clear HB; have HB := n0_; have BK622 := n1_; have GW622 := n2_; have GE622 := n3_; clear n0_ n1_ n2_ n3_; clear hb hbox hg; have hcz6_0 : w5.cell? ⟨gb622, 0, none⟩ = some (.int .i64 a0_0) := (blk_cell BK622.out 0).trans rfl; have hcz6_1 : w5.cell? ⟨gb622, 1, none⟩ = some (.int .i64 a0_1) := (blk_cell BK622.out 1).trans rfl; have hfz6_0 := blk_frozen BK622.out 0; have hfz6_1 := blk_frozen BK622.out 1) | ((with_reducible refine gate_callee (f := 149) rfl ?_); refine goesL_ (some 5) rfl rfl Try.func149 (by kernel_rfl) rfl #[.agg #[.int .i64 a0_0, .int .i64 a0_1]] rfl (by (try simp only [List.map_toArray, List.map_cons, List.map_nil]); first | done | rfl | (simp only [List.length_drop, List.length_take]; rfl)) ?_; (with_reducible refine (stamp_May.calls a0_0 a0_1 true _ A2.out).mono ?_); rintro e w7 ⟨rfl, hb⟩; refine ⟨_, rfl, ?_⟩; have n0_ := am (blk_below (g := gb622) (o := .cells #[.int .i64 a0_0, .int .i64 a0_1] 96 (0, 0)) (bk BK622.out) hb); have n1_ := am (below_step (by repeat (first | (with_reducible first | exact HB.out | apply below_alloc | apply pw_below_drewN | apply below_drew1 | refine below_set ?_ GE622.out) | exact HB.out)) hb); clear BK622; clear HB; have BK622 := n0_; have HB := n1_; clear n0_ n1_; (try clear hb); (try clear hb2); (try clear hk); (try clear hi); have hcz8_0 : w7.cell? ⟨gb622, 0, none⟩ = some (.int .i64 a0_0) := (blk_cell BK622.out 0).trans rfl; have hcz8_1 : w7.cell? ⟨gb622, 1, none⟩ = some (.int .i64 a0_1) := (blk_cell BK622.out 1).trans rfl; have hfz8_0 := blk_frozen BK622.out 0; have hfz8_1 := blk_frozen BK622.out 1) | ((with_reducible refine gate_callee (f := 84) rfl ?_); refine goesL_ (some 15) rfl rfl Try.func84 (by kernel_rfl) rfl #[.int .u64 (Go.bits .or .u64 (IntKind.u64.wrap ((IntKind.u64.wrap (a0_0)) * 8)) (IntKind.u64.wrap (a0_1)))] rfl (by (try simp only [List.map_toArray, List.map_cons, List.map_nil]); first | done | rfl | (simp only [List.length_drop, List.length_take]; rfl)) ?_; (with_reducible refine (wire_Put.calls k (Go.bits .or .u64 (IntKind.u64.wrap ((IntKind.u64.wrap (a0_0)) * 8)) (IntKind.u64.wrap (a0_1))) t624 _ A4.out).mono ?_); rintro e w9 ⟨v625, rfl, ho0, hb⟩; refine ⟨_, rfl, ?_⟩; have n0_ := am (Kd.R_lower ho0 (below_size (by repeat (first | (with_reducible first | exact HB.out | apply below_alloc | apply pw_below_drewN | apply below_drew1 | refine below_set ?_ GE622.out) | exact HB.out)))); have n1_ := am (blk_below (g := gb622) (o := .cells #[.int .i64 a0_0, .int .i64 a0_1] 96 (0, 0)) (bk BK622.out) hb); have n2_ := am (below_step (by repeat (first | (with_reducible first | exact HB.out | apply below_alloc | apply pw_below_drewN | apply below_drew1 | refine below_set ?_ GE622.out) | exact HB.out)) hb); clear BK622; clear HB; have HO626 := n0_; have BK622 := n1_; have HB := n2_; clear n0_ n1_ n2_; (try clear hb); (try clear hb2); (try clear hk); (try clear hi); (try clear ho0)))
  go_ret2
  exact ⟨_, by first | rfl | (simp [errW_none, errW_some] <;> rfl) | (simp [*, errW_none, errW_some] <;> rfl), by (with_reducible repeat (first | apply Kd.R_alloc | apply Kd.R_drewN | apply Kd.R_drew)); exact HO626.out, by repeat (first | (with_reducible first | exact HB.out | apply below_alloc | apply pw_below_drewN | apply below_drew1 | refine below_set ?_ GE622.out) | exact HB.out)⟩
 ·replace c3 := Bool.eq_false_iff.mpr c3
  subst c3
  have H1 : (some (([] : List Int), false)) = some (r1, r2) := by rw [if_neg (show ¬ (false = true) by decide)] at H; exact H
  clear H
  have H := H1
  clear H1
  simp only [Option.some.injEq, Prod.mk.injEq] at H
  obtain ⟨rfl, rfl⟩ := H
  go_enter Try.func104, Try.ntmps104
  go_wp2_with (first | ((with_reducible refine gate_dst (N := 1) rfl ?_); refine box_event ?hg (N := 1) ?hd (cs := #[.int .i64 a0_0, .int .i64 a0_1]) (t := 96) ?hr ?_; (case hd => rfl); (case hg => rfl); (case hr => first | (go_simp; done) | (go_simp; rfl)); intro gb622 hg w10 hbox hb; have n0_ := am (below_step (bw HB.out) hb); have n1_ := am (hbox); have n2_ := am ((by rw [hg]; exact (below_size (bw HB.out)) : w.heap.size ≤ gb622)); have n3_ := am ((by rw [hg]; exact (below_size (bw HB.out)) : w.heap.size ≤ gb622)); clear HB; have HB := n0_; have BK622 := n1_; have GW622 := n2_; have GE622 := n3_; clear n0_ n1_ n2_ n3_; clear hb hbox hg; have hcz11_0 : w10.cell? ⟨gb622, 0, none⟩ = some (.int .i64 a0_0) := (blk_cell BK622.out 0).trans rfl; have hcz11_1 : w10.cell? ⟨gb622, 1, none⟩ = some (.int .i64 a0_1) := (blk_cell BK622.out 1).trans rfl; have hfz11_0 := blk_frozen BK622.out 0; have hfz11_1 := blk_frozen BK622.out 1) | ((with_reducible refine gate_callee (f := 149) rfl ?_); refine goesL_ (some 5) rfl rfl Try.func149 (by kernel_rfl) rfl #[.agg #[.int .i64 a0_0, .int .i64 a0_1]] rfl (by (try simp only [List.map_toArray, List.map_cons, List.map_nil]); first | done | rfl | (simp only [List.length_drop, List.length_take]; rfl)) ?_; (with_reducible refine (stamp_May.calls a0_0 a0_1 false _ A2.out).mono ?_); rintro e w12 ⟨rfl, hb⟩; refine ⟨_, rfl, ?_⟩; have n0_ := am (blk_below (g := gb622) (o := .cells #[.int .i64 a0_0, .int .i64 a0_1] 96 (0, 0)) (bk BK622.out) hb); have n1_ := am (below_step (by repeat (first | (with_reducible first | exact HB.out | apply below_alloc | apply pw_below_drewN | apply below_drew1 | refine below_set ?_ GE622.out) | exact HB.out)) hb); clear BK622; clear HB; have BK622 := n0_; have HB := n1_; clear n0_ n1_; (try clear hb); (try clear hb2); (try clear hk); (try clear hi)))
  go_ret2
  exact ⟨_, by first | rfl | (simp [errW_none, errW_some] <;> rfl) | (simp [*, errW_none, errW_some] <;> rfl), by first | exact Kd.R_nil _ _ _ _ _ | exact Kd.N_nil _ _ _ _ _ | exact Kd.V_nil _ _ _ _ _ | exact Kd.Q_nil _ _ _ _ _ | exact Kd.S_nil _ _ _ _ _, by repeat (first | (with_reducible first | exact HB.out | apply below_alloc | apply pw_below_drewN | apply below_drew1 | refine below_set ?_ GE622.out) | exact HB.out)⟩
end
section
open Go.Proofs.Ytchaegfdcdlfaaa.Y (put put_range put_length Put_eq wraps_u64)
open Go.RowKit Go.Proofs.YtchaegfdcdlfaaaW.PrintWords Go.Proofs.YtchaegfdcdlfaaaW.PrintLast Go.Proofs.YtchaegfdcdlfaaaW.PrintMore
def stMay (n r : Int) : Bool := (n == 0 && r == 0) || (decide (0 < n) && (decide (n ≤ 1099511627776) && (decide (0 ≤ r) && decide (r < 8))))
theorem StMay_eq (n r : Int) : stamp_May.f n r = some (stMay n r) := by
 unfold stamp_May.f stMay
 by_cases h : (n == 0 && (r == 0)) = true
 ·rw [if_pos h, h, Bool.true_or]
 ·rw [if_neg h, Bool.eq_false_iff.2 h, Bool.false_or]
  by_cases h1 : n > 0
  ·rw [if_pos h1, decide_eq_true (show 0 < n from h1), Bool.true_and]
   by_cases h2 : n ≤ 1099511627776
   ·rw [if_pos h2, decide_eq_true h2, Bool.true_and]
    by_cases h3 : r ≥ 0
    ·rw [if_pos h3, decide_eq_true (show 0 ≤ r from h3), Bool.true_and]
    ·rw [if_neg h3, decide_eq_false (show ¬ 0 ≤ r from h3), Bool.false_and]
   ·rw [if_neg h2, decide_eq_false h2, Bool.false_and]
  ·rw [if_neg h1, decide_eq_false (show ¬ 0 < n from h1), Bool.false_and]
def stNum (n r : Int) : Nat := n.toNat * 8 + r.toNat
theorem StPut_eq {n r : Int} (h : stMay n r = true) (k : Nat) (hk : 12 < k) : stamp_Put.f k n r = some (put (stNum n r), true) := by
 unfold stamp_Put.f
 rw [StMay_eq, h, Option.bind_some, if_pos rfl]
 have hb : 0 ≤ n ∧ n ≤ 1099511627776 ∧ 0 ≤ r ∧ r < 8 := by
  unfold stMay at h
  simp at h
  omega
 obtain ⟨a, rfl⟩ := Int.eq_ofNat_of_zero_le hb.1
 obtain ⟨b, rfl⟩ := Int.eq_ofNat_of_zero_le hb.2.2.1
 have e : Go.bits .or .u64 (IntKind.u64.wrap ((IntKind.u64.wrap (a : Int)) * 8)) (IntKind.u64.wrap (b : Int)) = ((a * 8 + b : Nat) : Int) := by
  rw [wraps_u64 (a : Int) (by omega) (by omega), wraps_u64 ((a : Int) * 8) (by omega) (by omega), wraps_u64 (b : Int) (by omega) (by omega)]
  rw [bits_join .u64 64 (by decide) wraps_u64 3 _ _ (by omega) (by omega) (by omega) (by omega) (by omega) (by omega)]
  omega
 rw [e, Put_eq _ (by omega) k hk, Option.bind_some]
 unfold stNum
 rw [Int.toNat_natCast, Int.toNat_natCast]
end
section
open Go.RowKit Go.Proofs.YtchaegfdcdlfaaaW.PrintWords Go.Proofs.YtchaegfdcdlfaaaW.PrintLast Go.Proofs.YtchaegfdcdlfaaaW.PrintMore
theorem setRow_alloc (w : World) (old cs : Array Value) (t : TypeId) : (w.alloc (.cells old t (0, 0))).setRow w.heap.size cs = w.alloc (.cells cs t (0, 0)) := by
 unfold World.setRow World.alloc
 congr 1
 apply Array.ext
 ·simp
 ·intro k h1 h2
  simp only [Array.getElem_modify, Array.getElem_push]
  simp at h1
  by_cases hk : k < w.heap.size
  ·rw [if_neg (by omega), dif_pos hk, dif_pos hk]
  ·rw [if_pos (by omega), dif_neg hk, dif_neg hk]
theorem store_new (w : World) (old cs : Array Value) (t : TypeId) (hs : old.size = cs.size) (h1 : cs.all (·.oneCell') = true) :
  (storeCells ⟨w.heap.size, 0, none⟩ cs.toList).run Try.prog (w.alloc (.cells old t (0, 0))) = .ok () (w.alloc (.cells cs t (0, 0))) := by
 have := run_storeCells_from (P := Try.prog) w.heap.size t cs.toList 0 old (w.alloc (.cells old t (0, 0))) (by show (w.heap.push _)[w.heap.size]? = _; simp) (by simp; omega) (fun v hv => (Array.all_eq_true_iff_forall_mem.1 h1) v (by simpa using hv))
 simp only [List.take_zero, List.nil_append, Array.toArray_toList] at this
 rw [setRow_alloc] at this
 exact this
def Blk (w : World) (g : Nat) (t : TypeId) (xs : List Int) : Prop := w.heap[g]? = some (.cells (xs.map (Value.int .u32)).toArray t (0, 0))
theorem Blk.cell {w : World} {g : Nat} {t : TypeId} {xs : List Int} (h : Blk w g t xs) {i : Nat} (hi : i < xs.length) : w.cell? ⟨g, i, none⟩ = some (.int .u32 (xs.getD i 0)) := by
 rw [cell_of_row w g i _ t (0, 0) h]
 simp [hi]
theorem Blk.set {w : World} {g : Nat} {t : TypeId} {xs : List Int} (h : Blk w g t xs) (i : Nat) (v : Int) : Blk (w.setCell ⟨g, i, none⟩ (.int .u32 v)) g t (xs.set i v) := by
 rw [setCell_eq_setRow w g i _ t (0, 0) _ h]
 unfold Blk
 rw [setRow_heap w g _ _ t (0, 0) h]
 congr 2
 simp [List.map_set]
theorem Blk.free {w : World} {g : Nat} {t : TypeId} {xs : List Int} (h : Blk w g t xs) (i : Nat) : w.frozen? ⟨g, i, none⟩ = false := by
 unfold Blk at h
 simp [World.frozen?, h]
theorem grown_set {w w1 : World} {g : Nat} (h : w.grownBy w1 (some g)) (i : Nat) (v : Value) : w.grownBy (w1.setCell ⟨g, i, none⟩ v) (some g) :=
 ⟨h.os, h.tape, h.output, by rw [show (w1.setCell ⟨g, i, none⟩ v).heap.size = w1.heap.size from by simp [World.setCell]]; exact h.size, fun k hk hne => by rw [heap_setCell_other _ _ _ _ (by intro e; exact hne (by rw [e]))]; exact h.block k hk hne⟩
theorem hinfo5 : (Try.prog.info? 5).map (fun i => (i.zero, i.size, i.bytes)) = some (some (.int .u8 0), 1, 1) := by kernel_rfl
abbrev RdB (w : World) (A : Option Addr) (n : Nat) (l : List Int) : Prop := Kd.C (Kd.int .u8) w A n l
theorem row_slice {w : World} {base : Nat} {ok : Nat → Prop} {v : Value} {l : List Int} (h : Kd.R (Kd.int .u8) 5 w base ok v l) : ∃ A c, v = .slice A l.length c ∧ l.length ≤ c ∧ RdB w A l.length l := Kd.R_reads h
theorem rdb_take {w : World} {A : Option Addr} {l : List Int} (h : RdB w A l.length l) (m : Nat) (hm : m ≤ l.length) : RdB w A m (l.take m) := by
 obtain ⟨i0, hi0, _, hsz0, _⟩ := info_parts hinfo5
 obtain ⟨_, hA, _⟩ := print_take_of (P := Try.prog) (Value.int .u8) 0 40 5 .i64 Try.underlying40 hi0 hsz0 A l.length l (m : Int) (by omega) (by omega) (Nat.le_refl _)
 have := hA w (Kd.reads_of_C h)
 simp only [Int.toNat_natCast] at this
 rw [List.length_take, Nat.min_eq_left hm] at this
 exact Kd.C_of_reads (h1 := fun _ => rfl) this
theorem rdb_drop (A : Option Addr) (c : Nat) (l : List Int) (m : Nat) (hm : m ≤ l.length) (hc : l.length ≤ c) :
  ∃ A' : Option Addr, (∀ W : World, (Instr.slice 40 (.slice A l.length c) (some (.int .i64 (m : Int))) none none).run Try.prog W = .ok (.slice A' (l.length - m) (c - m)) W) ∧ (∀ w : World, RdB w A l.length l → RdB w A' (l.length - m) (l.drop m)) ∧ l.length - m ≤ c - m := by
 obtain ⟨i0, hi0, _, hsz0, _⟩ := info_parts hinfo5
 obtain ⟨A', hcut, hA, hC⟩ := print_drop_of (P := Try.prog) (Value.int .u8) 0 40 5 .i64 Try.underlying40 hi0 hsz0 A c l (m : Int) (by omega) (by omega) hc
 simp only [Int.toNat_natCast, List.length_drop] at hcut hA hC
 exact ⟨A', hcut, fun w h => Kd.C_of_reads (h1 := fun _ => rfl) (hA w (Kd.reads_of_C h)), hC⟩
theorem rdb_cut (A : Option Addr) (c : Nat) (l : List Int) (m : Nat) (hm : m ≤ l.length) (hc : l.length ≤ c) :
  ∀ W : World, (Instr.slice 40 (.slice A l.length c) none (some (.int .i64 (m : Int))) none).run Try.prog W = .ok (.slice A m c) W := by
 obtain ⟨i0, hi0, _, hsz0, _⟩ := info_parts hinfo5
 obtain ⟨h, _, _⟩ := print_take_of (P := Try.prog) (Value.int .u8) 0 40 5 .i64 Try.underlying40 hi0 hsz0 A c l (m : Int) (by omega) (by omega) hc
 simp only [Int.toNat_natCast, List.length_take, Nat.min_eq_left hm] at h
 exact h
theorem rdb_below {w w' : World} {A : Option Addr} {n : Nat} {l : List Int} (h : RdB w A n l) (hb : Below w.heap.size w w') : RdB w' A n l := Kd.C_below h hb
theorem rdb_drewN {w : World} {A : Option Addr} {n : Nat} {l : List Int} (h : RdB w A n l) (q : Nat) : RdB (w.drewN q) A n l := Kd.C_drewN h q
theorem rdb_nil {w : World} {n : Nat} {l : List Int} (h : RdB w none n l) : n = 0 := by
 rcases Nat.eq_zero_or_pos n with h0 | h0
 ·exact h0
 ·obtain ⟨ad, e, _⟩ := Kd.at_int h 0 (by omega) (by omega)
  cases e
theorem own_row {w : World} {base n : Nat} {v : Value} {l : List Int} (h : w.ownsRow base 5 1 v n (nums .u8 l)) : ∃ A c, v = .slice A n c ∧ n ≤ c ∧ RdB w A n l := by
 have hn : n = l.length := by have := h.1; simp [nums] at this; omega
 subst hn
 exact row_slice (Kd.R_of_own (ok := fun _ => True) h (fun _ _ => trivial))
def Blk8 (w : World) (g : Nat) (t : TypeId) (xs : List Int) : Prop := w.heap[g]? = some (.cells (xs.map (Value.int .u8)).toArray t (0, 0))
def cells8 (xs : List Int) : Array Value := (xs.map (Value.int .u8)).toArray
theorem cells8_size (xs : List Int) : (cells8 xs).size = xs.length := by simp [cells8]
theorem cells8_all (xs : List Int) : (cells8 xs).all (·.oneCell') = true := by simp [cells8, Value.oneCell']
set_option maxHeartbeats 1000000 in
theorem clone_some (ad : Addr) (c : Nat) (l : List Int) (w : World) (hr : RdB w (some ad) l.length l) (hc : l.length ≤ c) (hl : l.length ≤ 1000000000) :
  Calls Try.prog 90 #[.slice (some ad) l.length c] w fun e w' => ∃ v, e = .returned v ∧ Aside0 (w'.ownsRow w.heap.size 5 1 v l.length (nums .u8 l)) ∧ Aside0 (Below w.heap.size w w') := by
 have heq : ∀ W : World, (binOp .eql 40 (.slice (some ad) l.length c) (.slice none 0 0)).run Try.prog W = .ok (.bool false) W := fun W => run_eql_slice_nil W 40 5 _ _ _ Try.underlying40
 have HR := am hr
 clear hr
 go_enter Try.func90, Try.ntmps90
 go_wp2_with (first
  | ((with_reducible refine gate_builtin (b := .append) (xs := #[.tmp 5, .tmp 6]) rfl ?_); at_builtin; refine print_append_row (w0 := w) w.heap.size rfl _ _ 40 5 .u8 1 rfl Try.underlying40 hinfo5 (by decide) _ [] l (some ad) l.length c rfl rfl (by exact own_lit w w.heap.size 5 .u8 [] (Nat.le_refl _) (by decide)) (Kd.reads_of_C (rdb_below HR.out (below_alloc (Below.refl _ _) _))) (below_alloc (Below.refl _ _) _) (by simp) (by simp; omega) ?_; intro v1 w3 ho3 hB3 hg3 _)
  | fail)
 go_ret
 exact ⟨_, rfl, ⟨by simpa using ho3⟩, ⟨hB3⟩⟩
theorem clone_none (c : Nat) (w : World) :
  Calls Try.prog 90 #[.slice none 0 c] w fun e w' => ∃ v, e = .returned v ∧ Aside0 (w'.ownsRow w.heap.size 5 1 v 0 (nums .u8 [])) ∧ Aside0 (Below w.heap.size w w') := by
 have heq : ∀ W : World, (binOp .eql 40 (.slice none 0 c) (.slice none 0 0)).run Try.prog W = .ok (.bool true) W := fun W => run_eql_slice_nil W 40 5 _ _ _ Try.underlying40
 go_enter Try.func90, Try.ntmps90
 go_wp2_with fail
 go_ret
 exact ⟨_, rfl, ⟨own_nil _ _ _ _⟩, ⟨Below.refl _ _⟩⟩
theorem clone_call (A : Option Addr) (c : Nat) (l : List Int) (w : World) (hr : RdB w A l.length l) (hc : l.length ≤ c) (hl : l.length ≤ 1000000000) :
  Calls Try.prog 90 #[.slice A l.length c] w fun e w' => ∃ v, e = .returned v ∧ Aside0 (w'.ownsRow w.heap.size 5 1 v l.length (nums .u8 l)) ∧ Aside0 (Below w.heap.size w w') := by
 cases A with
 | some ad => exact clone_some ad c l w hr hc hl
 | none =>
  have h0 := rdb_nil hr
  obtain rfl : l = [] := List.eq_nil_of_length_eq_zero h0
  exact clone_none c w
theorem part8 {P : Program} {w : World} {e : TypeId} (he : P.underlying e = some (.int .u8)) {a : List Int} {j : Nat} (hj : j < a.length) : (part e (cells8 a) (j * 1)).run P w = .ok (.int .u8 (a.getD j 0)) w := by
 simp [part, isAgg, run_underlying he, cells8, hj]
theorem eqItems8 {P : Program} {w : World} (d : Nat) {e : TypeId} (he : P.underlying e = some (.int .u8)) (hc : P.cellsOf e = 1) (a b : List Int) (n : Nat) (ha : a.length = n) (hb : b.length = n) :
  ∀ js : List Nat, (∀ j ∈ js, j < n) → (Op.eqItems (d + 1) e (P.cellsOf e) (cells8 a) (cells8 b) js).run P w = .ok (js.all fun j => a.getD j 0 == b.getD j 0) w := by
 intro js
 induction js with
 | nil => intro _; simp [Op.eqItems]
 | cons j js ih =>
  intro h
  have hj := h j (by simp)
  simp only [Op.eqItems, Sem.run_bind, hc]
  rw [part8 he (by omega), Result.andThen_ok, part8 he (by omega), Result.andThen_ok, run_equalIn_int w d e .u8 .u8 _ _ he, Result.andThen_ok]
  have h2 := ih (fun k hk => h k (by simp [hk]))
  rw [hc] at h2
  cases hq : (a.getD j 0 == b.getD j 0)
  ·rw [List.all_cons, hq]; simp
  ·rw [List.all_cons, hq, Bool.true_and, ← h2]; simp
theorem all_eq (a b : List Int) (n : Nat) (ha : a.length = n) (hb : b.length = n) : ((List.range n).all fun j => a.getD j 0 == b.getD j 0) = (a == b) := by
 rw [Bool.eq_iff_iff, List.all_eq_true, beq_iff_eq]
 constructor
 ·intro h
  apply List.ext_getElem (by omega)
  intro i h1 h2
  have := h i (by simp; omega)
  simpa [h1, h2] using this
 ·rintro rfl
  simp
theorem equal8 {P : Program} {w : World} {t e : TypeId} {n : Nat} {i : TypeInfo} (hu : P.underlying t = some (.array n e)) (hi : P.info? e = some i) (he : P.underlying e = some (.int .u8)) (hc : P.cellsOf e = 1) (a b : List Int) (ha : a.length = n) (hb : b.length = n) :
  (Op.equalIn 10000 t (.agg (cells8 a)) (.agg (cells8 b))).run P w = .ok (a == b) w := by
 rw [run_equalIn_array w 9999 _ _ hu hi, eqItems8 9998 he hc a b n ha hb _ (fun j hj => List.mem_range.1 hj), all_eq a b n ha hb]
theorem eql8 {P : Program} {w : World} {t e : TypeId} {n : Nat} {i : TypeInfo} (hu : P.underlying t = some (.array n e)) (hi : P.info? e = some i) (he : P.underlying e = some (.int .u8)) (hc : P.cellsOf e = 1) (a b : List Int) (ha : a.length = n) (hb : b.length = n) :
  (binOp .eql t (.agg (cells8 a)) (.agg (cells8 b))).run P w = .ok (.bool (a == b)) w := by
 rw [run_eql_struct, equal8 hu hi he hc a b ha hb]; rfl
theorem exec_load_row {P : Program} {a : Act} {o : Oper} {W : World} (ty : TypeId) (x : Operand) (ho : o.op = .load ty x) (g : Nat) (hx : a.eval x = .pointer (some ⟨g, 0, none⟩)) (t : TypeId) (cs : Array Value) (fr : Nat × Nat) (d : TypeDesc) (hg : W.heap[g]? = some (.cells cs t fr))
  (hu : P.underlying ty = some d) (hd : (match d with | .struct _ | .array _ _ => true | _ => false) = true) (hi : (P.info? ty).map (·.size) = some cs.size) : (execOp a.eval o).run P W = .ok (.value (.agg cs)) W := by
 have h := run_loadVar_row (P := P) W g t ty cs fr d hg hu hd hi
 simp only [execOp, ho, hx, Instr.loadAt, Instr.sureAddr, Sem.run_bind, Sem.run_pure, Result.andThen_ok, h]
theorem wpList_load_row_g {P : Program} {ops : Array Oper} {rest : List Oper} {o : Oper} {a : Act} {w : World} {Q : Exit → Act → World → Prop} (hgd : Region.wanted o (yielded ops a.tmps) = true) (ty : TypeId) (x : Operand) (ho : o.op = .load ty x)
  (g : Nat) (hx : a.eval x = .pointer (some ⟨g, 0, none⟩)) (t : TypeId) (cs : Array Value) (fr : Nat × Nat) (d : TypeDesc) (hg : w.heap[g]? = some (.cells cs t fr))
  (hu : P.underlying ty = some d) (hd : (match d with | .struct _ | .array _ _ => true | _ => false) = true) (hi : (P.info? ty).map (·.size) = some cs.size)
  (h : wpList P ops Q rest (a.put o.dst (.agg cs)) w) : wpList P ops Q (o :: rest) a w := by
 unfold wpList
 rw [if_pos hgd]
 exact .inl (wp_load_row ty x ho g hx t cs fr d hg hu hd hi h)
theorem cells5 : Try.prog.cellsOf 5 = 1 := by kernel_rfl
theorem Try.info5i : Try.prog.info? 5 = some Try.t5 := by kernel_rfl
theorem store8 {w : World} {g : Nat} {t : TypeId} {old xs : List Int} (h : Blk8 w g t old) (hl : old.length = xs.length) : (storeCells ⟨g, 0, none⟩ (cells8 xs).toList).run Try.prog w = .ok () (w.setRow g (cells8 xs)) := by
 have := run_storeCells_from (P := Try.prog) g t (cells8 xs).toList 0 _ w h (by simp [cells8, hl]) (fun v hv => (Array.all_eq_true_iff_forall_mem.1 (cells8_all xs)) v (by simpa using hv))
 simpa using this
theorem below_row {w W : World} {g : Nat} {cs : Array Value} (h : Below w.heap.size w W) (hg : w.heap.size ≤ g) : Below w.heap.size w (W.setRow g cs) :=
 h.trans ⟨rfl, rfl, rfl, by rw [setRow_size]; exact Nat.le_refl _, fun k hk => by rw [setRow_other _ _ _ _ (by omega)]⟩
end
section
open Go.RowKit Go.Maps Go.Proofs.YtchaegfdcdlfaaaW.PrintWords Go.Proofs.YtchaegfdcdlfaaaW.PrintLast Go.Proofs.YtchaegfdcdlfaaaW.PrintMore
def arrK (n : Nat) : Kd (List Int) where
 sz := n
 E := []
 K := fun _ x cs => cs = nums .u8 x ∧ x.length = n
 M := fun _ _ _ x cs => cs = nums .u8 x ∧ x.length = n
 K_len := fun h => by rw [h.1]; simp [nums, h.2]
 K_one := fun h u hu => by
  rw [h.1] at hu
  simp only [nums, List.mem_map] at hu
  obtain ⟨q, _, rfl⟩ := hu
  rfl
 K_below := fun _ h => h
 K_of_M := fun h => h
 M_mono := fun _ h => h
 M_bound := fun h => h
 M_move := fun _ h => h
 M_lower := fun _ h => h
theorem run_loadVar_cells {P : Program} (w : World) (a : Addr) (ty : TypeId) (cs : Array Value) (d : TypeDesc) (hc : ∀ j v, cs[j]? = some v → w.cell? (a.add j) = some v)
  (hu : P.underlying ty = some d) (hd : (match d with | .struct _ | .array _ _ => true | _ => false) = true) (hi : (P.info? ty).map (·.size) = some cs.size) :
  (loadVar ty a).run P w = .ok (.agg cs) w := by
 have hl := run_loadCells_list (P := P) w a cs.toList (fun j v hv => hc j v (by simpa using hv))
 simp only [Array.length_toList, Array.toArray_toList] at hl
 cases hq : P.info? ty with
 | none => simp [hq] at hi
 | some i =>
  have hs : i.size = cs.size := by simpa [hq] using hi
  have hagg : (isAgg ty).run P w = .ok true w := by
   unfold isAgg
   rw [Sem.run_bind, run_underlying hu w]
   cases d <;> simp_all
  simp [loadVar, Sem.run_bind, hagg, sizeOf, typeInfo, hq, hs, hl]
theorem wp_load_cells {P : Program} {o : Oper} {a : Act} {w : World} {K : Act → World → Prop} {Q : Exit → Act → World → Prop} (ty : TypeId) (x : Operand) (ho : o.op = .load ty x)
  (ad : Addr) (hx : a.eval x = .pointer (some ad)) (cs : Array Value) (d : TypeDesc) (hc : ∀ j v, cs[j]? = some v → w.cell? (ad.add j) = some v)
  (hu : P.underlying ty = some d) (hd : (match d with | .struct _ | .array _ _ => true | _ => false) = true) (hi : (P.info? ty).map (·.size) = some cs.size)
  (h : K (a.put o.dst (.agg cs)) w) : o.wp P a w K Q := by
 unfold Oper.wp execOp
 simp only [ho, hx, Instr.loadAt, Instr.sureAddr, Sem.run_bind, Sem.run_pure, Result.andThen_ok, run_loadVar_cells w ad ty cs d hc hu hd hi]
 exact h
theorem wpList_load_cells {P : Program} {ops : Array Oper} {rest : List Oper} {o : Oper} {a : Act} {w : World} {Q : Exit → Act → World → Prop} (hgd : o.guard = none) (ty : TypeId) (x : Operand) (ho : o.op = .load ty x)
  (ad : Addr) (hx : a.eval x = .pointer (some ad)) (cs : Array Value) (d : TypeDesc) (hc : ∀ j v, cs[j]? = some v → w.cell? (ad.add j) = some v)
  (hu : P.underlying ty = some d) (hd : (match d with | .struct _ | .array _ _ => true | _ => false) = true) (hi : (P.info? ty).map (·.size) = some cs.size)
  (h : wpList P ops Q rest (a.put o.dst (.agg cs)) w) : wpList P ops Q (o :: rest) a w :=
 wpList_plain hgd fun _ hK => wp_load_cells ty x ho ad hx cs d hc hu hd hi (hK _ _ h)
theorem exec_load_cells {P : Program} {a : Act} {o : Oper} {W : World} (ty : TypeId) (x : Operand) (ho : o.op = .load ty x)
  (ad : Addr) (hx : a.eval x = .pointer (some ad)) (cs : Array Value) (d : TypeDesc) (hc : ∀ j v, cs[j]? = some v → W.cell? (ad.add j) = some v)
  (hu : P.underlying ty = some d) (hd : (match d with | .struct _ | .array _ _ => true | _ => false) = true) (hi : (P.info? ty).map (·.size) = some cs.size) :
  (execOp a.eval o).run P W = .ok (.value (.agg cs)) W := by
 unfold execOp
 simp only [ho, hx, Instr.loadAt, Instr.sureAddr, Sem.run_bind, Sem.run_pure, Result.andThen_ok, run_loadVar_cells W ad ty cs d hc hu hd hi]
end
section
open Go.RowKit Go.Proofs.YtchaegfdcdlfaaaW.PrintWords Go.Proofs.YtchaegfdcdlfaaaW.PrintLast Go.Proofs.YtchaegfdcdlfaaaW.PrintMore
theorem fill_fold (off : Nat) : ∀ (v : List Value) (n : Nat) (cs : Array Value), off + n + v.length ≤ cs.size →
  ((v.zipIdx n).foldl (fun cs (p : Value × Nat) => cs.setIfInBounds (off + p.2) p.1) cs).toList = cs.toList.take (off + n) ++ v ++ cs.toList.drop (off + n + v.length)
 | [], n, cs, h => by simp
 | x :: v, n, cs, h => by
  simp only [List.length_cons] at h
  rw [List.zipIdx_cons, List.foldl_cons, fill_fold off v (n + 1) _ (by simp; omega)]
  have hn : off + n < cs.toList.length := by simp; omega
  have hset : (cs.setIfInBounds (off + n) x).toList = cs.toList.take (off + n) ++ x :: cs.toList.drop (off + n + 1) := by
   rw [Array.toList_setIfInBounds, List.set_eq_take_append_cons_drop, if_pos hn]
  have hl : (cs.toList.take (off + n)).length = off + n := by simp; omega
  have hB : cs.toList.drop (off + n + (x :: v).length) = (cs.toList.drop (off + n + 1)).drop v.length := by
   rw [List.drop_drop]; congr 1; simp; omega
  rw [hset, hB]
  generalize cs.toList.take (off + n) = A at hl
  generalize cs.toList.drop (off + n + 1) = B
  rw [show off + (n + 1) + v.length = A.length + (v.length + 1) by rw [hl]; omega, List.drop_length_add_append, show off + (n + 1) = A.length + 1 by rw [hl]; omega, List.take_length_add_append]
  simp
def Laid (place : Nat → Option (Nat × Nat)) : Nat → List (Nat × Value) → Prop
 | _, [] => True
 | off, (i, v) :: rest => place i = some (off, v.cells.size) ∧ Laid place (off + v.cells.size) rest
def partsL : List (Nat × Value) → List Value
 | [] => []
 | (_, v) :: rest => v.cells.toList ++ partsL rest
theorem fill_laid (place : Nat → Option (Nat × Nat)) : ∀ (parts : List (Nat × Value)) (off : Nat) (cells : Array Value), Laid place off parts → off + (partsL parts).length = cells.size →
  Instr.fill place cells parts = some (cells.toList.take off ++ partsL parts).toArray
 | [], off, cells, _, h => by
  simp only [partsL, List.length_nil, Nat.add_zero] at h
  simp only [Instr.fill, partsL, List.append_nil, List.take_of_length_le (show cells.toList.length ≤ off by simp; omega), Array.toArray_toList]
 | (i, v) :: rest, off, cells, hl, h => by
  obtain ⟨hp, hr⟩ := hl
  simp only [partsL, List.length_append, Array.length_toList] at h
  unfold Instr.fill
  simp only [hp]
  rw [if_neg (by simp; omega)]
  have hf := fill_fold off v.cells.toList 0 cells (by simp; omega)
  have he : ((v.cells.toList.zipIdx 0).foldl (fun cs (p : Value × Nat) => cs.setIfInBounds (off + p.2) p.1) cells) = v.cells.zipIdx.foldl (fun cs (x : Value × Nat) => match x with | (c, j) => cs.setIfInBounds (off + j) c) cells := by
   rw [← Array.foldl_toList, Array.toList_zipIdx]
  rw [he] at hf
  generalize Array.foldl _ _ _ = cs' at hf
  simp only [Nat.add_zero, Array.length_toList] at hf
  have hs : cs'.size = cells.size := by
   have := congrArg List.length hf
   simp at this
   omega
  rw [fill_laid place rest (off + v.cells.size) cs' hr (by rw [hs]; omega), hf]
  congr 2
  have hl2 : (cells.toList.take off ++ v.cells.toList).length = off + v.cells.size := by simp; omega
  rw [show off + v.cells.size = (cells.toList.take off ++ v.cells.toList).length + 0 by rw [hl2]; rfl, List.take_length_add_append, List.take_zero, List.append_nil, partsL, List.append_assoc]
theorem fill_whole (place : Nat → Option (Nat × Nat)) (parts : List (Nat × Value)) (cells : Array Value) (h : Laid place 0 parts) (hl : (partsL parts).length = cells.size) : Instr.fill place cells parts = some (partsL parts).toArray := by
 have := fill_laid place parts 0 cells h (by omega)
 simpa using this
theorem run_buildSlice_one {P : Program} (w : World) (t e : TypeId) (n : Nat) (cs : Array Value) (z : Value) (hu : P.underlying t = some (.slice e)) (hi : (P.info? e).map (fun i => (i.zero, i.size)) = some (some z, n)) (hn : n = cs.size) (h0 : 0 < n) (h1 : n ≤ 1000000) :
  (Instr.buildSlice t 1 #[(0, .agg cs)]).run P w = .ok (.slice (some ⟨w.heap.size, 0, none⟩) 1 1) (w.alloc (.cells cs e)) := by
 obtain ⟨ie, hie, hz⟩ := Option.map_eq_some_iff.1 hi
 simp only [Prod.mk.injEq] at hz
 obtain ⟨hz0, hz1⟩ := hz
 refine run_buildSlice w t e 1 _ cs ie z hu hie hz0 (by rw [hz1]; omega) (by rw [hz1]; omega) ?_
 have := fill_whole (fun i => some (i * ie.size, ie.size)) [(0, .agg cs)] ((Array.range (1 * ie.size)).map (z.cells[· % z.cells.size]!)) ⟨by simp [hz1, hn, Value.cells], trivial⟩ (by simp [partsL, Value.cells, hz1, hn])
 simpa [partsL, Value.cells] using this
theorem wpList_buildSlice_one {P : Program} {ops : Array Oper} {rest : List Oper} {o : Oper} {a : Act} {w : World} {Q : Exit → Act → World → Prop} (hg : o.guard = none) (t e : TypeId) (x : Operand) (ho : o.op = .buildSlice t 1 #[(0, x)])
  (n : Nat) (cs : Array Value) (z : Value) (hu : P.underlying t = some (.slice e)) (hi : (P.info? e).map (fun i => (i.zero, i.size)) = some (some z, n)) (hn : n = cs.size) (h0 : 0 < n) (h1 : n ≤ 1000000) (hx : a.eval x = .agg cs)
  (h : wpList P ops Q rest (a.put o.dst (.slice (some ⟨w.heap.size, 0, none⟩) 1 1)) (w.alloc (.cells cs e))) : wpList P ops Q (o :: rest) a w := by
 obtain ⟨ie, hie, hz⟩ := Option.map_eq_some_iff.1 hi
 simp only [Prod.mk.injEq] at hz
 obtain ⟨hz0, hz1⟩ := hz
 refine wpList_buildSlice hg t e 1 _ ho cs ie z hu hie hz0 (by rw [hz1]; omega) (by rw [hz1]; omega) ?_ h
 have := fill_whole (fun i => some (i * ie.size, ie.size)) [(0, .agg cs)] ((Array.range (1 * ie.size)).map (z.cells[· % z.cells.size]!)) ⟨by simp [hz1, hn, Value.cells], trivial⟩ (by simp [partsL, Value.cells, hz1, hn])
 simp only [List.map_toArray, List.map_cons, List.map_nil, hx]
 simpa [partsL, Value.cells] using this
theorem wpList_build_cells {P : Program} {ops : Array Oper} {rest : List Oper} {o : Oper} {a : Act} {w : World} {Q : Exit → Act → World → Prop} (hg : o.guard = none) (t : TypeId) (parts : Array (Nat × Operand)) (ho : o.op = .build t parts)
  (cs : Array Value) (hf : P.built t (parts.map fun (i, x) => (i, a.eval x)).toList = some cs) (h : wpList P ops Q rest (a.put o.dst (.agg cs)) w) : wpList P ops Q (o :: rest) a w :=
 wpList_build hg t parts ho (by rw [hf]; rfl) (by rw [hf]; exact h)
end
section
open Go.RowKit Go.Proofs.YtchaegfdcdlfaaaW.PrintWords Go.Proofs.YtchaegfdcdlfaaaW.PrintLast
def bs (s : ByteArray) : List Int := s.data.toList.map fun c => (c.toNat : Int)
theorem wraps_u32 (n : Int) (h₀ : 0 ≤ n) (h₁ : n < 2 ^ 32) : IntKind.u32.wrap n = n := by rw [IntKind.wrap_u32]; omega
theorem wrap64_small (n : Int) (h0 : -9223372036854775808 ≤ n) (h1 : n ≤ 9223372036854775807) : wrap64 n = n := by unfold wrap64; omega
end
section
open Go.RowKit Go.Maps Go.Proofs.YtchaegfdcdlfaaaW.PrintWords Go.Proofs.YtchaegfdcdlfaaaW.PrintLast Go.Proofs.YtchaegfdcdlfaaaW.PrintMore
theorem storeA {w : World} {g : Nat} {t : TypeId} {old cs : Array Value} (h : w.heap[g]? = some (.cells old t (0, 0))) (hl : old.size = cs.size) (h1 : cs.all (·.oneCell') = true) : (storeCells ⟨g, 0, none⟩ cs.toList).run Try.prog w = .ok () (w.setRow g cs) := by
 have := run_storeCells_from (P := Try.prog) g t cs.toList 0 _ w h (by simp [hl]) (fun v hv => (Array.all_eq_true_iff_forall_mem.1 h1) v (by simpa using hv))
 simpa using this
theorem below_grown {B : Nat} {a w w' : World} {r : Option Nat} (h : Below B a w) (hg : w.grownBy w' r) (hB : B ≤ w.heap.size) (hr : ∀ k, r = some k → B ≤ k) : Below B a w' := h.grown hg hB hr
end
section
open Go.ChangeShapes Go.WideShapes Go.ChangeAt Go.RowKit Go.Deep Go.Proofs.YtchaegfdcdlfaaaW.PrintWords Go.Proofs.YtchaegfdcdlfaaaW.PrintLast Go.Proofs.YtchaegfdcdlfaaaW.PrintMore
variable {H : Type} {enc : TypeId × Value → H} {P : Program} {w : World} {base : Nat} {spare : Nat → Bool} {held : Bool}
theorem trod_arr8 {t e : TypeId} {n fuel : Nat} {cs : List Value} {x : DataW H × List MemPlace} (hu : P.underlying t = some (.array n e)) (he : P.underlying e = some (.int .u8)) (hc : P.cellsOf e = 1) (hct : P.cellsOf t = n)
  (h : DataW.trod enc P w base spare held fuel t cs = some x) : ∃ l : List Int, cs = nums .u8 l ∧ l.length = n ∧ ∀ x ∈ l, (Lit.int .u8 x).wf = true := by
 obtain ⟨xs, m, _, _, hl, hxl, hel⟩ := DataW.trod_array hu h
 rw [hct] at hl
 have hat : ∀ i (hi : i < n), ∃ x, cs[i]? = some (.int .u8 x) ∧ (Lit.int .u8 x).wf = true := by
  intro i hi
  have h1 := hel i hi
  rw [List.getElem?_eq_getElem (by omega)] at h1
  obtain ⟨x, hx, _, hw⟩ := DataW.trod_int he h1
  refine ⟨x, ?_, hw⟩
  rw [hc, Nat.mul_one] at hx
  have h2 := congrArg (·[0]?) hx
  simp only [List.getElem?_take, Nat.zero_lt_one, if_true, List.getElem?_drop, Nat.add_zero, List.getElem?_cons_zero] at h2
  simpa using h2
 refine ⟨cs.map fun v => match v with | .int _ x => x | _ => 0, ?_, by simp [hl], ?_⟩
 ·apply List.ext_getElem
  ·simp [nums]
  ·intro i h1 h2
   obtain ⟨x, hx, _⟩ := hat i (by omega)
   have hx2 : cs[i] = .int .u8 x := by rw [List.getElem?_eq_getElem h1] at hx; injection hx
   simp [nums, hx2]
 ·intro x hx
  obtain ⟨u, hu2, rfl⟩ := List.mem_map.1 hx
  obtain ⟨i, hi, rfl⟩ := List.mem_iff_getElem.1 hu2
  obtain ⟨y, hy, hw⟩ := hat i (by omega)
  have hy2 : cs[i] = .int .u8 y := by
   rw [List.getElem?_eq_getElem hi] at hy
   injection hy
  rw [hy2]
  exact hw
end
section
open Go.RowKit Go.Proofs.YtchaegfdcdlfaaaW.PrintWords Go.Proofs.YtchaegfdcdlfaaaW.PrintLast Go.Proofs.YtchaegfdcdlfaaaW.PrintMore
attribute [local go_sem] max2_int min2_int max_two min_two max_three min_three max_four min_four
theorem results_ctt {P : Program} {fn : Func} {p u v : Tmp} {ty : TypeId} (h : fn.results = #[.cell p ty, .tmp u, .tmp v]) (tmps : Array Value) (w : World) (g : Nat) (t : TypeId) (cs : Array Value) (fr : Nat × Nat) (d : TypeDesc)
  (hp : tmps.getD p undef = .pointer (some ⟨g, 0, none⟩)) (hg : w.heap[g]? = some (.cells cs t fr))
  (hu : P.underlying ty = some d) (hd : (match d with | .struct _ | .array _ _ => true | _ => false) = true) (hi : (P.info? ty).map (·.size) = some cs.size) :
  (results fn tmps).run P w = .ok (.tuple #[.agg cs, tmps.getD u undef, tmps.getD v undef]) w := by
 have hp' : tmps[p]?.getD undef = .pointer (some ⟨g, 0, none⟩) := by simpa using hp
 simp [results, h, hp', asAddr, run_loadVar_row w g t ty cs fr d hg hu hd hi]
set_option maxHeartbeats 4000000 in
theorem stget_no (k : Nat) (A0 : Option Addr) (c0 : Nat) (l0 : List Int) (n u : Nat) (w : World) (hr0 : Kd.C (Kd.int .u8) w A0 l0.length l0) (hc0 : l0.length ≤ c0)
  (h : wire_Get.f k l0 = some ((n : Int), (u : Int), false)) (hn : n < 18446744073709551616) :
  Calls Try.prog 161 #[.slice A0 l0.length c0] w fun e w' => e = .returned (.tuple #[.agg #[.int .i64 0, .int .i64 0], .int .i64 0, .bool false]) ∧ Below w.heap.size w w' := by
 have HG := am h
 have HR := am hr0
 clear h hr0
 go_enter Try.func161, Try.ntmps161
 go_wp2_with (go_at_call 88; refine (wire_Get.calls k _ _ l0 n u false _ (Kd.C_alloc HR.out _) hc0 HG.out).mono ?_; rintro e w' ⟨rfl, ⟨nd, rfl⟩⟩)
 refine bodyPost_ret (results_ctt rfl _ _ w.heap.size 96 #[.int .i64 0, .int .i64 0] (0, 0) _ rfl (blk_alloc (blk_put (blk_put (blk_drewN (blk_new w _) nd) 0 _ rfl) 1 _ rfl) _) Try.underlying96 rfl (by kernel_rfl)) rfl ⟨rfl, ?_⟩
 refine below_alloc ?_ _
 refine below_set ?_ (Nat.le_refl _)
 refine below_set ?_ (Nat.le_refl _)
 exact pw_below_drewN (below_alloc (Below.refl _ _) _) _
set_option maxHeartbeats 4000000 in
theorem stget_yes (k : Nat) (A0 : Option Addr) (c0 : Nat) (l0 : List Int) (n u : Nat) (w : World) (hr0 : Kd.C (Kd.int .u8) w A0 l0.length l0) (hc0 : l0.length ≤ c0)
    (h : wire_Get.f k l0 = some ((n : Int), (u : Int), true)) (hn : n < 18446744073709551616) (hm : stMay ((n : Int) / 8) ((n : Int) % 8) = true) :
    Calls Try.prog 161 #[.slice A0 l0.length c0] w fun e w' => e = .returned (.tuple #[.agg #[.int .i64 ((n : Int) / 8), .int .i64 ((n : Int) % 8)], .int .i64 u, .bool true]) ∧ Below w.heap.size w w' := by
  have HG := am h
  have HR := am hr0
  have HM := am ((StMay_eq _ _).trans (congrArg some hm))
  have e7 : Go.bits .and .u64 (n : Int) 7 = (n : Int) % 8 := by
    have := u64_and_nat n 7 hn (by decide)
    rw [show (n &&& 7) = n % 8 from Nat.and_two_pow_sub_one_eq_mod n 3] at this
    exact this
  have e8 : wrap64 ((n : Int) % 8) = (n : Int) % 8 := by unfold wrap64; omega
  clear h hr0 hm
  go_enter Try.func161, Try.ntmps161
  go_wp2_with (first
    | (go_at_call 88; refine (wire_Get.calls k _ _ l0 n u true _ (Kd.C_alloc HR.out _) hc0 HG.out).mono ?_; rintro e w' ⟨rfl, ⟨nd, rfl⟩⟩)
    | (go_at_call 149; refine (stamp_May.calls _ _ true _ HM.out).mono ?_; rintro e w' ⟨rfl, hb⟩
       have es : ((w.alloc (Obj.cells #[Value.int IntKind.i64 0, Value.int IntKind.i64 0] 96)).drewN nd).heap.size = w.heap.size + 1 := Array.size_push ..
       have HZ := am (blk_below (blk_alloc (blk_drewN (blk_new w _) nd) _) hb)
       have HS := blk_below (blk_new _ _) hb
       rw [es] at HS
       have q0 := (blk_cell HS 0).trans rfl
       have q1 := (blk_cell HS 1).trans rfl
       have z0 := (blk_cell HZ.out 0).trans rfl
       have z1 := (blk_cell HZ.out 1).trans rfl
       have f0 := blk_frozen HZ.out 0
       have f1 := blk_frozen HZ.out 1
       have HBB := am (below_step (below_alloc (pw_below_drewN (below_alloc (Below.refl w.heap.size w) _) nd) _) hb)
       clear hb HS es))
  refine bodyPost_ret (results_ctt rfl _ _ w.heap.size 96 #[.int .i64 ((n : Int) / 8), .int .i64 ((n : Int) % 8)] (0, 0) _ rfl (blk_put (blk_put HZ.out 0 _ rfl) 1 _ rfl) Try.underlying96 rfl (by kernel_rfl)) rfl ⟨rfl, ?_⟩
  refine below_set ?_ (Nat.le_refl _)
  refine below_set ?_ (Nat.le_refl _)
  exact HBB.out
set_option maxHeartbeats 4000000 in
theorem stget_bad (k : Nat) (A0 : Option Addr) (c0 : Nat) (l0 : List Int) (n u : Nat) (w : World) (hr0 : Kd.C (Kd.int .u8) w A0 l0.length l0) (hc0 : l0.length ≤ c0)
    (h : wire_Get.f k l0 = some ((n : Int), (u : Int), true)) (hn : n < 18446744073709551616) (hm : stMay ((n : Int) / 8) ((n : Int) % 8) = false) :
    Calls Try.prog 161 #[.slice A0 l0.length c0] w fun e w' => e = .returned (.tuple #[.agg #[.int .i64 0, .int .i64 0], .int .i64 0, .bool false]) ∧ Below w.heap.size w w' := by
  have HG := am h
  have HR := am hr0
  have HM := am ((StMay_eq _ _).trans (congrArg some hm))
  have e7 : Go.bits .and .u64 (n : Int) 7 = (n : Int) % 8 := by
    have := u64_and_nat n 7 hn (by decide)
    rw [show (n &&& 7) = n % 8 from Nat.and_two_pow_sub_one_eq_mod n 3] at this
    exact this
  have e8 : wrap64 ((n : Int) % 8) = (n : Int) % 8 := by unfold wrap64; omega
  clear h hr0 hm
  go_enter Try.func161, Try.ntmps161
  go_wp2_with (first
    | (go_at_call 88; refine (wire_Get.calls k _ _ l0 n u true _ (Kd.C_alloc HR.out _) hc0 HG.out).mono ?_; rintro e w' ⟨rfl, ⟨nd, rfl⟩⟩)
    | (go_at_call 149; refine (stamp_May.calls _ _ false _ HM.out).mono ?_; rintro e w' ⟨rfl, hb⟩
       have es : ((w.alloc (Obj.cells #[Value.int IntKind.i64 0, Value.int IntKind.i64 0] 96)).drewN nd).heap.size = w.heap.size + 1 := Array.size_push ..
       have HZ := am (blk_below (blk_alloc (blk_drewN (blk_new w _) nd) _) hb)
       have HS := blk_below (blk_new _ _) hb
       rw [es] at HS
       have q0 := (blk_cell HS 0).trans rfl
       have q1 := (blk_cell HS 1).trans rfl
       have z0 := (blk_cell HZ.out 0).trans rfl
       have z1 := (blk_cell HZ.out 1).trans rfl
       have f0 := blk_frozen HZ.out 0
       have f1 := blk_frozen HZ.out 1
       have HBB := am (below_step (below_alloc (pw_below_drewN (below_alloc (Below.refl w.heap.size w) _) nd) _) hb)
       clear hb HS es))
  refine bodyPost_ret (results_ctt rfl _ _ w.heap.size 96 #[.int .i64 0, .int .i64 0] (0, 0) _ rfl (blk_put (blk_put HZ.out 0 _ rfl) 1 _ rfl) Try.underlying96 rfl (by kernel_rfl)) rfl ⟨rfl, ?_⟩
  refine below_set ?_ (Nat.le_refl _)
  refine below_set ?_ (Nat.le_refl _)
  exact HBB.out
def stGetP (g : Int × Int × Bool) : (Int × Int) × Int × Bool :=
 if g.2.2 = true ∧ stMay (g.1 / 8) (g.1 % 8) = true then ((g.1 / 8, g.1 % 8), g.2.1, true) else ((0, 0), 0, false)
theorem stamp_Get.calls (k : Nat) (A0 : Option Addr) (c0 : Nat) (l0 : List Int) (n u : Nat) (is : Bool) (w : World) (hr0 : Kd.C (Kd.int .u8) w A0 l0.length l0) (hc0 : l0.length ≤ c0)
  (h : wire_Get.f k l0 = some ((n : Int), (u : Int), is)) (hn : n < 18446744073709551616) :
  Calls Try.prog 161 #[.slice A0 l0.length c0] w fun e w' => e = .returned (.tuple #[.agg #[.int .i64 (stGetP ((n : Int), (u : Int), is)).1.1, .int .i64 (stGetP ((n : Int), (u : Int), is)).1.2], .int .i64 (stGetP ((n : Int), (u : Int), is)).2.1, .bool (stGetP ((n : Int), (u : Int), is)).2.2]) ∧ Below w.heap.size w w' := by
 cases is with
 | false =>
  have e : stGetP ((n : Int), (u : Int), false) = ((0, 0), 0, false) := if_neg (fun h => Bool.noConfusion h.1)
  rw [e]
  exact stget_no k A0 c0 l0 n u w hr0 hc0 h hn
 | true =>
  cases hm : stMay ((n : Int) / 8) ((n : Int) % 8) with
  | false =>
   have e : stGetP ((n : Int), (u : Int), true) = ((0, 0), 0, false) := if_neg (fun h => Bool.noConfusion (hm.symm.trans h.2))
   rw [e]
   exact stget_bad k A0 c0 l0 n u w hr0 hc0 h hn hm
  | true =>
   have e : stGetP ((n : Int), (u : Int), true) = (((n : Int) / 8, (n : Int) % 8), (u : Int), true) := if_pos ⟨rfl, hm⟩
   rw [e]
   exact stget_yes k A0 c0 l0 n u w hr0 hc0 h hn hm
end
end Go.Proofs.Ytchaegfdcdlfaaa.X
namespace Go.Proofs.Ytchaegfdcdlfaaa.Y
section
open Go.Proofs.Ytchaegfdcdlfaaa.X Go.RowKit Go.Proofs.YtchaegfdcdlfaaaW.PrintWords Go.Proofs.YtchaegfdcdlfaaaW.PrintLast Go.Proofs.YtchaegfdcdlfaaaW.PrintMore
def readR (l : List Int) (r : Int × Int × Bool) (a1 : Int) : ByteArray × Int × Bool :=
 if r.2.2 = true ∧ 0 ≤ a1 ∧ r.1 ≤ a1 ∧ r.1 ≤ (l.length : Int) - r.2.1 then (strOfNums ((l.drop r.2.1.toNat).take r.1.toNat), r.2.1 + r.1, true) else (⟨#[]⟩, 0, false)
theorem IsGet.used {l : List Int} {r : Int × Int × Bool} (h : IsGet l r) : 0 ≤ r.2.1 ∧ r.2.1 ≤ l.length ∧ 0 ≤ r.1 ∧ r.1 < 18446744073709551616 := by
 rcases h with ⟨m, hm, hp, rfl⟩ | ⟨hn, rfl⟩
 ·have := hp.length_le
  exact ⟨by show (0 : Int) ≤ ((put m).length : Int); omega, by show ((put m).length : Int) ≤ _; omega, by show (0 : Int) ≤ (m : Int); omega, by show (m : Int) < _; omega⟩
 ·exact ⟨by show (0 : Int) ≤ 0; omega, by show (0 : Int) ≤ _; omega, by show (0 : Int) ≤ 0; omega, by show (0 : Int) < _; omega⟩
theorem Read_of {l : List Int} {r : Int × Int × Bool} (h : IsGet l r) (hb : Bytes l) (hl : l.length ≤ 4611686018427387904) (a1 : Int) (k : Nat) (hk : 2 * l.length + 2 < k) :
  wire_Read.f k l a1 = some (readR l r a1) := by
 unfold wire_Read.f readR
 have hu := h.used
 rw [Get_eq h hb hl k hk]
 simp only [Option.bind_some]
 rw [if_pos ⟨hu.1, hu.2.1, hu.2.2.1, hl⟩]
 split <;> rfl
abbrev RdB (w : World) (A : Option Addr) (n : Nat) (l : List Int) : Prop := Kd.C (Kd.int .u8) w A n l
theorem row_slice {w : World} {base : Nat} {ok : Nat → Prop} {v : Value} {l : List Int} (h : Kd.R (Kd.int .u8) 5 w base ok v l) : ∃ A c, v = .slice A l.length c ∧ l.length ≤ c ∧ RdB w A l.length l := Kd.R_reads h
theorem put_call (n : Nat) (hn : n < 18446744073709551616) (w : World) : Calls Try.prog 84 #[.int .u64 n] w fun e w' => ∃ A c, e = .returned (.slice A (put n).length c) ∧ (put n).length ≤ c ∧ RdB w' A (put n).length (put n) ∧ Below w.heap.size w w' := by
 refine (wire_Put.calls 20 n _ w (Put_eq n hn 20 (by omega))).mono ?_
 rintro e w' ⟨v, rfl, ho, hb⟩
 obtain ⟨A, c, rfl, hc, hr⟩ := row_slice ho
 exact ⟨A, c, rfl, hc, hr, hb⟩
theorem text_call (s : ByteArray) (hs : s.size ≤ 140737488351232) (w : World) : Calls Try.prog 93 #[.string s] w fun e w' => ∃ A c, e = .returned (.slice A (put s.size ++ bytesOf s).length c) ∧ (put s.size ++ bytesOf s).length ≤ c ∧ RdB w' A (put s.size ++ bytesOf s).length (put s.size ++ bytesOf s) ∧ Below w.heap.size w w' := by
 refine (wire_Text.calls 20 s _ w (Text_eq s hs 20 (by omega))).mono ?_
 rintro e w' ⟨v, rfl, ho, hb⟩
 obtain ⟨A, c, rfl, hc, hr⟩ := row_slice ho
 exact ⟨A, c, rfl, hc, hr, hb⟩
theorem get_call {l : List Int} {n u : Int} {is : Bool} (h : IsGet l (n, u, is)) (hb : Bytes l) (hl : l.length ≤ 4611686018427387904) (A : Option Addr) (c : Nat) (w : World) (hr : RdB w A l.length l) (hc : l.length ≤ c) :
  Calls Try.prog 88 #[.slice A l.length c] w fun e w' => e = .returned (.tuple #[.int .u64 n, .int .i64 u, .bool is]) ∧ ∃ q, w' = w.drewN q := by
 refine (wire_Get.calls (2 * l.length + 3) A c l n u is w hr hc (Get_eq h hb hl _ (by omega))).mono ?_
 rintro e w' ⟨rfl, ⟨q, rfl⟩⟩
 exact ⟨rfl, q, rfl⟩
theorem read_call {l : List Int} {r : Int × Int × Bool} (h : IsGet l r) (hb : Bytes l) (hl : l.length ≤ 4611686018427387904) (a1 : Int) (A : Option Addr) (c : Nat) (w : World) (hr : RdB w A l.length l) (hc : l.length ≤ c) :
  Calls Try.prog 143 #[.slice A l.length c, .int .i64 a1] w fun e w' => e = .returned (.tuple #[.string (readR l r a1).1, .int .i64 (readR l r a1).2.1, .bool (readR l r a1).2.2]) ∧ Below w.heap.size w w' :=
 wire_Read.calls (2 * l.length + 3) A c l a1 _ _ _ w hr hc (Read_of h hb hl a1 _ (by omega))
theorem conv0 {w : World} {A : Option Addr} {n : Nat} {l : List Int} (h : RdB w A n l) (c : Nat) : (convert 40 9 (.slice A n c)).run Try.prog w = .ok (.string (strOfNums l)) w :=
 Kd.C_string (P := Try.prog) Try.underlying40 Try.underlying5 Try.underlying9 h
theorem rdb_take {w : World} {A : Option Addr} {l : List Int} (h : RdB w A l.length l) (m : Nat) (hm : m ≤ l.length) : RdB w A m (l.take m) := by
 obtain ⟨i0, hi0, _, hsz0, _⟩ := info_parts info5
 obtain ⟨_, hA, _⟩ := print_take_of (P := Try.prog) (Value.int .u8) 0 40 5 .i64 Try.underlying40 hi0 hsz0 A l.length l (m : Int) (by omega) (by omega) (Nat.le_refl _)
 have := hA w (Kd.reads_of_C h)
 simp only [Int.toNat_natCast] at this
 rw [List.length_take, Nat.min_eq_left hm] at this
 exact Kd.C_of_reads (h1 := fun _ => rfl) this
theorem rdb_drop (A : Option Addr) (c : Nat) (l : List Int) (m : Nat) (hm : m ≤ l.length) (hc : l.length ≤ c) :
  ∃ A' : Option Addr, (∀ W : World, (Instr.slice 40 (.slice A l.length c) (some (.int .i64 (m : Int))) none none).run Try.prog W = .ok (.slice A' (l.length - m) (c - m)) W) ∧ (∀ w : World, RdB w A l.length l → RdB w A' (l.length - m) (l.drop m)) ∧ l.length - m ≤ c - m := by
 obtain ⟨i0, hi0, _, hsz0, _⟩ := info_parts info5
 obtain ⟨A', hcut, hA, hC⟩ := print_drop_of (P := Try.prog) (Value.int .u8) 0 40 5 .i64 Try.underlying40 hi0 hsz0 A c l (m : Int) (by omega) (by omega) hc
 simp only [Int.toNat_natCast, List.length_drop] at hcut hA hC
 exact ⟨A', hcut, fun w h => Kd.C_of_reads (h1 := fun _ => rfl) (hA w (Kd.reads_of_C h)), hC⟩
theorem rdb_below {w w' : World} {A : Option Addr} {n : Nat} {l : List Int} (h : RdB w A n l) (hb : Below w.heap.size w w') : RdB w' A n l := Kd.C_below h hb
theorem rdb_drewN {w : World} {A : Option Addr} {n : Nat} {l : List Int} (h : RdB w A n l) (q : Nat) : RdB (w.drewN q) A n l := Kd.C_drewN h q
theorem rdb_cut (A : Option Addr) (c : Nat) (l : List Int) (m : Nat) (hm : m ≤ l.length) (hc : l.length ≤ c) :
  ∀ W : World, (Instr.slice 40 (.slice A l.length c) none (some (.int .i64 (m : Int))) none).run Try.prog W = .ok (.slice A m c) W := by
 obtain ⟨i0, hi0, _, hsz0, _⟩ := info_parts info5
 obtain ⟨h, _, _⟩ := print_take_of (P := Try.prog) (Value.int .u8) 0 40 5 .i64 Try.underlying40 hi0 hsz0 A c l (m : Int) (by omega) (by omega) hc
 simp only [Int.toNat_natCast, List.length_take, Nat.min_eq_left hm] at h
 exact h
theorem wpAnyH_str {P : Program} {md : Region.Mode} {ops : Array Oper} {Q : Exit → Act → World → Prop} {S S2 : World → Prop} (h : ∀ W, S2 W → S W) :
  ∀ (fuel : Nat) (listed : Array Bool) (a : Act) (w : World), wpAnyH P md ops Q S2 fuel listed a w → wpAnyH P md ops Q S fuel listed a w
 | 0, _, _, _, hh => hh
 | fuel + 1, _, _, _, hh => ⟨hh.1, fun i hi => wpOp_mono (fun a' w' h' => ⟨h w' h'.1, wpAnyH_str h fuel _ a' w' h'.2⟩) (hh.2 i hi)⟩
theorem own_row {w : World} {base n : Nat} {v : Value} {l : List Int} (h : w.ownsRow base 5 1 v n (nums .u8 l)) : ∃ A c, v = .slice A n c ∧ n ≤ c ∧ RdB w A n l := by
 have hn : n = l.length := by have := h.1; simp [nums] at this; omega
 subst hn
 exact row_slice (Kd.R_of_own (ok := fun _ => True) h (fun _ _ => trivial))
theorem get_call' {l : List Int} {n u : Int} {is : Bool} (h : IsGet l (n, u, is)) (hb : Bytes l) (hl : l.length ≤ 4611686018427387904) (m : Nat) (hm : m = l.length) (A : Option Addr) (c : Nat) (w : World) (hr : RdB w A m l) (hc : m ≤ c) :
  Calls Try.prog 88 #[.slice A m c] w fun e w' => e = .returned (.tuple #[.int .u64 n, .int .i64 u, .bool is]) ∧ ∃ q, w' = w.drewN q := by
 subst hm
 exact get_call h hb hl A c w hr hc
theorem bytes_of_wf {l : List Int} (h : ∀ x ∈ l, (Lit.int .u8 x).wf = true) : Bytes l := fun x hx => by
 have := h x hx
 simp only [Lit.wf, IntKind.min, IntKind.max, IntKind.bits, IntKind.signed, Bool.and_eq_true, decide_eq_true_eq] at this
 simp at this
 exact this
def word (n : Nat) : List Int := [((n / 16777216 % 256 : Nat) : Int), ((n / 65536 % 256 : Nat) : Int), ((n / 256 % 256 : Nat) : Int), ((n % 256 : Nat) : Int)]
theorem word_length (n : Nat) : (word n).length = 4 := rfl
theorem word_bytes (n : Nat) : Bytes (word n) := by
 intro x hx
 simp only [word, List.mem_cons, List.not_mem_nil, or_false] at hx
 omega
theorem shr32 (n : Nat) (y : Int) (j : Nat) (h : y.toNat = j) (hj : j ≤ 32) : shr .u32 (n : Int) y = ((n / 2 ^ j : Nat) : Int) := by
 unfold shr
 rw [show min y.toNat IntKind.u32.bits = j by show min y.toNat 32 = j; omega]
 norm_cast
theorem word_step (n k i : Nat) (hi : i < 4) (x3 : List Int) (hx : x3.length = 4) :
  wire_Word.l0 (k + 1) (n : Int) x3 (i : Int) = wire_Word.l0 k (n : Int) (x3.set (3 - i) ((n / 2 ^ (8 * i) % 256 : Nat) : Int)) ((i + 1 : Nat) : Int) := by
 generalize hR : wire_Word.l0 k (n : Int) (x3.set (3 - i) ((n / 2 ^ (8 * i) % 256 : Nat) : Int)) ((i + 1 : Nat) : Int) = R
 unfold wire_Word.l0
 rw [if_pos (by omega), wrap64_small (8 * (i : Int)) (by omega) (by omega), if_pos (by omega), wrap64_small (3 - (i : Int)) (by omega) (by omega), if_pos (by omega), if_pos (by omega), wrap64_small ((i : Int) + 1) (by omega) (by omega),
  shr32 n (8 * (i : Int)) (8 * i) (by omega) (by omega), show (3 - (i : Int)).toNat = 3 - i by omega]
 rw [← hR]
 generalize n / 2 ^ (8 * i) = z
 rw [show (z : Int) % 256 = ((z % 256 : Nat) : Int) by omega, show ((i : Int) + 1) = ((i + 1 : Nat) : Int) by omega]
theorem word_end (n k : Nat) (x3 : List Int) : wire_Word.l0 (k + 1) (n : Int) x3 ((4 : Nat) : Int) = some x3 := by
 simp only [wire_Word.l0]
 rw [if_neg (by omega)]
theorem Word_eq (n : Nat) (k : Nat) (hk : 5 < k) : wire_Word.f k (n : Int) = some (word n) := by
 obtain ⟨k, rfl⟩ : ∃ m, k = m + 5 := ⟨k - 5, by omega⟩
 unfold wire_Word.f
 rw [if_pos (by decide), show (0 : Int) = ((0 : Nat) : Int) from rfl, word_step n (k + 4) 0 (by decide) _ (by rfl), word_step n (k + 3) 1 (by decide) _ (by rfl), word_step n (k + 2) 2 (by decide) _ (by rfl), word_step n (k + 1) 3 (by decide) _ (by rfl), word_end]
 congr 1
 simp [word, List.replicate]
def four (l : List Int) : Nat := l.foldl (fun a x => a * 256 + x.toNat) 0
theorem wraps_u32 (n : Int) (h₀ : 0 ≤ n) (h₁ : n < 2 ^ 32) : IntKind.u32.wrap n = n := by rw [IntKind.wrap_u32]; omega
theorem four_or (x : Nat) (c : Int) (hx : x < 16777216) (h0 : 0 ≤ c) (h1 : c ≤ 255) : Go.bits .or .u32 (((x : Int) * 256) % 4294967296) (c % 4294967296) = ((x * 256 + c.toNat : Nat) : Int) := by
 rw [show ((x : Int) * 256) % 4294967296 = (x : Int) * 256 by omega, show c % 4294967296 = c by omega]
 rw [bits_join .u32 32 (by decide) wraps_u32 8 _ _ (by omega) (by omega) (by omega) (by omega) (by omega) (by omega)]
 omega
theorem four_l0 (l s : List Int) : ∀ (q : List Int) (k : Nat), l = q ++ s → l.length = 4 → Bytes l → s.length < k → wire_Four.l0 k (four q : Int) l ((4 : Nat) : Int) (q.length : Int) = some ((four l : Int), true) := by
 induction s with
 | nil =>
  intro q k hl h4 hb hk
  obtain ⟨k, rfl⟩ : ∃ m, k = m + 1 := ⟨k - 1, by omega⟩
  rw [List.append_nil] at hl
  subst hl
  simp only [wire_Four.l0]
  rw [if_neg (by omega)]
 | cons c s ih =>
  intro q k hl h4 hb hk
  obtain ⟨k, rfl⟩ : ∃ m, k = m + 1 := ⟨k - 1, by omega⟩
  have hlen : l.length = q.length + (s.length + 1) := by rw [hl]; simp
  have hc := hb c (by rw [hl]; simp)
  have hq : four q < 256 ^ q.length := by
   have hbq : Bytes q := fun x hx => hb x (by rw [hl]; simp [hx])
   clear hl hlen ih
   induction hL : q.length generalizing q with
   | zero => rw [List.eq_nil_of_length_eq_zero hL]; simp [four]
   | succ j ihj =>
    rcases snoc_cases q with rfl | ⟨q', d, rfl⟩
    ·simp at hL
    ·have h1 := ihj q' (fun x hx => hbq x (by simp [hx])) (by simpa using hL)
     have h2 := hbq d (by simp)
     have h3 : four (q' ++ [d]) = four q' * 256 + d.toNat := by simp [four]
     rw [h3, Nat.pow_succ]
     omega
  have h3 : 256 ^ q.length ≤ 256 ^ 3 := Nat.pow_le_pow_right (by decide) (by omega)
  have e3 : 256 ^ 3 = 16777216 := by decide
  have hrd : rd l (q.length : Int) = c := by
   unfold rd
   rw [hl]
   simp
  simp only [wire_Four.l0]
  rw [if_pos (by omega), if_pos (by omega), if_pos (by omega), hrd, four_or _ _ (by omega) hc.1 hc.2, wrap64_small _ (by omega) (by omega)]
  have e := ih (q ++ [c]) k (by rw [hl]; simp) h4 hb (by simp at hk; omega)
  rw [show (((q ++ [c]).length : Nat) : Int) = (q.length : Int) + 1 by simp, show four (q ++ [c]) = four q * 256 + c.toNat by simp [four]] at e
  exact e
theorem Four_yes (l : List Int) (h4 : l.length = 4) (hb : Bytes l) (k : Nat) (hk : 5 < k) : wire_Four.f k l = some ((four l : Int), true) := by
 unfold wire_Four.f
 rw [if_pos (by omega), show (l.length : Int) = ((4 : Nat) : Int) by omega]
 exact four_l0 l l [] k rfl h4 hb (by omega)
theorem four_word (n : Nat) (h : n < 4294967296) : four (word n) = n := by
 simp only [four, word, List.foldl_cons, List.foldl_nil]
 omega
theorem word_four (l : List Int) (h4 : l.length = 4) (hb : Bytes l) : word (four l) = l := by
 match l, h4, hb with
 | [a, b, c, d], _, hb =>
  have h1 := hb a (by simp)
  have h2 := hb b (by simp)
  have h3 := hb c (by simp)
  have h4 := hb d (by simp)
  simp only [four, word, List.foldl_cons, List.foldl_nil, List.cons.injEq, and_true]
  omega
theorem four_call (l : List Int) (h4 : l.length = 4) (hb : Bytes l) (A : Option Addr) (c : Nat) (w : World) (hr : RdB w A 4 l) (hc : 4 ≤ c) :
  Calls Try.prog 89 #[.slice A 4 c] w fun e w' => e = .returned (.tuple #[.int .u32 (four l), .bool true]) ∧ ∃ q, w' = w.drewN q := by
 have := wire_Four.calls 20 A c l _ _ w (by rw [h4]; exact hr) (by rw [h4]; exact hc) (Four_yes l h4 hb 20 (by omega))
 rw [h4] at this
 refine this.mono ?_
 rintro e w' ⟨rfl, ⟨q, rfl⟩⟩
 exact ⟨rfl, q, rfl⟩
end
end Go.Proofs.Ytchaegfdcdlfaaa.Y
namespace Go.Proofs.Ytchaegfdcdlfaaa.X
def cpoly : Nat := 3988292384
def t1 (w : Nat) : Nat := w / 2 ^^^ (if w % 2 = 1 then cpoly else 0)
def tn : Nat → Nat → Nat
 | 0, w => w
 | n + 1, w => tn n (t1 w)
theorem tn_succ : ∀ (n w : Nat), tn (n + 1) w = t1 (tn n w)
 | 0, w => rfl
 | n + 1, w => tn_succ n (t1 w)
def crcStep (w c : Nat) : Nat := tn 8 (w ^^^ c)
def crcFrom (w : Nat) (l : List Nat) : Nat := l.foldl crcStep w
def crc (l : List Nat) : Nat := 4294967295 - crcFrom 4294967295 l
theorem xor_lc (a b c : Nat) : a ^^^ (b ^^^ c) = b ^^^ (a ^^^ c) := by rw [← Nat.xor_assoc, Nat.xor_comm a b, Nat.xor_assoc]
theorem t1_xor (a b : Nat) : t1 (a ^^^ b) = t1 a ^^^ t1 b := by
 have h2 : (a ^^^ b) / 2 = a / 2 ^^^ b / 2 := by
  have := Nat.shiftRight_xor_distrib (a := a) (b := b) (i := 1)
  simpa [Nat.shiftRight_eq_div_pow] using this
 have hm : (a ^^^ b) % 2 = (a + b) % 2 := by
  have h1 : ((a ^^^ b) % 2 = 1) ↔ ¬ ((a % 2 = 1) ↔ (b % 2 = 1)) := Nat.xor_mod_two_eq_one
  by_cases h2 : (a ^^^ b) % 2 = 1
  ·have := h1.1 h2; omega
  ·have := mt h1.2 h2; omega
 unfold t1
 rw [h2, hm]
 generalize a / 2 = x
 generalize b / 2 = y
 rcases Nat.mod_two_eq_zero_or_one a with ha | ha <;> rcases Nat.mod_two_eq_zero_or_one b with hb | hb
 ·rw [if_neg (by omega), if_neg (by omega), if_neg (by omega)]; simp
 ·rw [if_pos (by omega), if_neg (by omega), if_pos (by omega)]; simp [Nat.xor_assoc]
 ·rw [if_pos (by omega), if_pos (by omega), if_neg (by omega)]; rw [Nat.xor_zero, Nat.xor_assoc, Nat.xor_assoc, Nat.xor_comm y cpoly]
 ·rw [if_neg (by omega), if_pos (by omega), if_pos (by omega)]
  rw [Nat.xor_zero, Nat.xor_assoc, xor_lc cpoly y cpoly, Nat.xor_self, Nat.xor_zero]
theorem t1_lt {w : Nat} (h : w < 4294967296) : t1 w < 4294967296 := by
 unfold t1
 refine Nat.xor_lt_two_pow (n := 32) (by omega) ?_
 split <;> decide
theorem tn_xor : ∀ (n a b : Nat), tn n (a ^^^ b) = tn n a ^^^ tn n b
 | 0, a, b => rfl
 | n + 1, a, b => by simp only [tn]; rw [t1_xor, tn_xor n]
theorem tn_lt : ∀ (n : Nat) {w : Nat}, w < 4294967296 → tn n w < 4294967296
 | 0, _, h => h
 | n + 1, _, h => tn_lt n (t1_lt h)
theorem crcStep_lt {w c : Nat} (hw : w < 4294967296) (hc : c < 256) : crcStep w c < 4294967296 := tn_lt 8 (Nat.xor_lt_two_pow (n := 32) hw (by omega))
theorem crcFrom_lt : ∀ {l : List Nat} {w : Nat}, w < 4294967296 → (∀ c ∈ l, c < 256) → crcFrom w l < 4294967296
 | [], _, h, _ => h
 | c :: l, w, h, hl => crcFrom_lt (l := l) (crcStep_lt h (hl c (by simp))) (fun x hx => hl x (by simp [hx]))
theorem crcFrom_append (w : Nat) (l m : List Nat) : crcFrom w (l ++ m) = crcFrom (crcFrom w l) m := by simp [crcFrom]
theorem crc_lt (l : List Nat) : crc l < 4294967296 := by unfold crc; omega
theorem not_xor {x : Nat} (h : x < 4294967296) : 4294967295 - x = x ^^^ 4294967295 := by
 apply Nat.eq_of_testBit_eq
 intro i
 have h1 := Nat.testBit_two_pow_sub_succ (x := x) (n := 32) h i
 rw [show 2 ^ 32 - (x + 1) = 4294967295 - x by omega] at h1
 have h2 := Nat.testBit_two_pow_sub_one 32 i
 rw [show 2 ^ 32 - 1 = 4294967295 by decide] at h2
 rw [h1, Nat.testBit_xor, h2]
 by_cases hi : i < 32
 ·simp [hi]
 ·have : x.testBit i = false := Nat.testBit_lt_two_pow (Nat.lt_of_lt_of_le h (Nat.pow_le_pow_right (n := 2) (i := 32) (by omega) (by omega)))
  simp [hi, this]
theorem t1_even {w : Nat} (h : w % 2 = 0) : t1 w = w / 2 := by
 unfold t1
 rw [if_neg (by omega), Nat.xor_zero]
theorem tn_even : ∀ (n w : Nat), w % 2 ^ n = 0 → tn n w = w / 2 ^ n
 | 0, w, _ => by simp [tn]
 | n + 1, w, h => by
  have hp : 2 ^ (n + 1) = 2 * 2 ^ n := by rw [Nat.pow_succ, Nat.mul_comm]
  have h2 : w % 2 = 0 := by
   rw [hp] at h
   have := Nat.mod_mul_right_mod w 2 (2 ^ n)
   rw [h] at this
   omega
  have h3 : w / 2 % 2 ^ n = 0 := by
   have := Nat.mod_mul (x := w) (a := 2) (b := 2 ^ n)
   rw [← hp, h] at this
   omega
  rw [tn, t1_even h2, tn_even n (w / 2) h3, hp, Nat.div_div_eq_div_mul]
theorem split8 (x : Nat) : x = (x % 256) ^^^ (x / 256 * 256) := by
 apply Nat.eq_of_testBit_eq
 intro i
 have e1 : (x % 256).testBit i = (decide (i < 8) && x.testBit i) := Nat.testBit_mod_two_pow x 8 i
 have e2 : (x / 256 * 256).testBit i = (decide (8 ≤ i) && x.testBit i) := by
  have h1 : x / 256 * 256 = (x >>> 8) <<< 8 := by rw [Nat.shiftRight_eq_div_pow, Nat.shiftLeft_eq]
  rw [h1, Nat.testBit_shiftLeft, Nat.testBit_shiftRight]
  by_cases h : 8 ≤ i
  ·simp [h]
  ·simp [h]
 rw [Nat.testBit_xor, e1, e2]
 by_cases h : i < 8
 ·simp [h, Nat.not_le.2 h]
 ·simp [h, Nat.not_lt.1 h]
theorem step_table (w c : Nat) (hc : c < 256) : tn 8 ((w % 256) ^^^ c) ^^^ (w / 256) = crcStep w c := by
 have hx : (w ^^^ c) % 256 = (w % 256) ^^^ c := by
  have := Nat.xor_mod_two_pow (a := w) (b := c) (n := 8)
  rw [show (2 : Nat) ^ 8 = 256 by decide] at this
  rw [this, Nat.mod_eq_of_lt hc]
 have hd : (w ^^^ c) / 256 = w / 256 := by
  have := Nat.shiftRight_xor_distrib (a := w) (b := c) (i := 8)
  simp only [Nat.shiftRight_eq_div_pow] at this
  rw [show (2 : Nat) ^ 8 = 256 by decide] at this
  rw [this, Nat.div_eq_of_lt hc, Nat.xor_zero]
 unfold crcStep
 conv => rhs; rw [split8 (w ^^^ c), tn_xor, hx, hd]
 rw [tn_even 8 (w / 256 * 256) (by omega)]
 congr 1
 omega
theorem xor_byte_lt {w c : Nat} (hc : c < 256) : (w % 256) ^^^ c < 256 := Nat.xor_lt_two_pow (n := 8) (by omega) hc
section
open Go.RowKit Go.Proofs.YtchaegfdcdlfaaaW.PrintWords Go.Proofs.YtchaegfdcdlfaaaW.PrintLast Go.Proofs.YtchaegfdcdlfaaaW.PrintMore
def Flg (w : World) (g : Nat) (b : Bool) : Prop := w.heap[g]? = some (.cells #[.bool b] 4 (0, 0))
theorem Flg.cell {w : World} {g : Nat} {b : Bool} (h : Flg w g b) : w.cell? ⟨g, 0, none⟩ = some (.bool b) := cell_of_one h
theorem Flg.free {w : World} {g : Nat} {b : Bool} (h : Flg w g b) : w.frozen? ⟨g, 0, none⟩ = false := free_of_one h
def tabAt : Nat → List Int
 | 0 => List.replicate 256 0
 | i + 1 => (tabAt i).set i (tn 8 i : Int)
theorem tabAt_length : ∀ i, (tabAt i).length = 256
 | 0 => List.length_replicate
 | i + 1 => by rw [tabAt, List.length_set]; exact tabAt_length i
theorem tabAt_get : ∀ (i j : Nat), j < i → i ≤ 256 → (tabAt i).getD j 0 = (tn 8 j : Int)
 | i + 1, j, hj, hi => by
  rw [tabAt, List.getD_eq_getElem?_getD, List.getElem?_set, tabAt_length]
  by_cases h : i = j
  ·subst h
   rw [if_pos rfl, if_pos (show i < 256 by omega)]
   rfl
  ·rw [if_neg h]
   have := tabAt_get i j (by omega) (by omega)
   rwa [List.getD_eq_getElem?_getD] at this
theorem bit_eq (x : Nat) (h : x < 4294967296) : bits .xor .u32 ((x : Int) / 2) (bits .and .u32 3988292384 ((-(bits .and .u32 (x : Int) 1)) % 4294967296)) = (t1 x : Int) := by
 have h1 : bits .and .u32 (x : Int) 1 = ((x % 2 : Nat) : Int) := by
  have := u32_and_nat x 1 h (by decide)
  rw [Nat.and_one_is_mod] at this
  exact this
 rw [h1]
 have h3 : bits .and .u32 3988292384 ((-((x % 2 : Nat) : Int)) % 4294967296) = ((if x % 2 = 1 then cpoly else 0 : Nat) : Int) := by
  rcases Nat.mod_two_eq_zero_or_one x with hx | hx <;> rw [hx] <;> decide
 rw [h3]
 have h4 : (x : Int) / 2 = ((x / 2 : Nat) : Int) := by omega
 rw [h4]
 have := u32_xor_nat (x / 2) (if x % 2 = 1 then cpoly else 0) (by omega) (by split <;> decide)
 rw [this]
 rfl
set_option maxHeartbeats 1000000 in
theorem step_full (F T c : Nat) (hc : c < 256) (w0 w : World) (hF : w0.heap.size ≤ F) (hf : Flg w F true) (ht : Blk w T 195 (tabAt 256)) (hFT : F ≠ T) (hb : Below w0.heap.size w0 w) :
  Calls Try.prog 142 #[.int .u8 c, .pointer (some ⟨F, 0, none⟩), .pointer (some ⟨T, 0, none⟩)] w fun e w' => e = .returned (.int .u32 (tn 8 c : Int)) ∧ Flg w' F true ∧ Blk w' T 195 (tabAt 256) ∧ Below w0.heap.size w0 w' := by
 have y1 := hf.cell
 have y2 := hf.free
 have y3 := ht.cell (i := c) (by rw [tabAt_length]; omega)
 rw [tabAt_get 256 c hc (Nat.le_refl _)] at y3
 have HF := am hf
 have HT := am ht
 have HB := am hb
 have pc : ((c : Int) < 256) = True := eq_true (by omega)
 have qc : (0 ≤ (c : Int)) = True := eq_true (by omega)
 clear hf ht hb
 go_enter Try.func142, Try.ntmps142
 go_wp2_with fail
 go_loopg [5] 1 (fun k v5 w' => v5 = .int .i64 0 ∧ Aside0 (k = 1) ∧ w' = w)
 case atStart => exact ⟨rfl, ⟨rfl⟩, rfl⟩
 case round =>
  obtain ⟨rfl, HK, rfl⟩ := hrel
  go_wp2_with fail
  have z1 : (wr.setCell ⟨F, 0, none⟩ (.bool true)).cell? ⟨T, c, none⟩ = _ := (World.cell?_setCell_other wr ⟨F, 0, none⟩ ⟨T, c, none⟩ _ (by simp [hFT])).trans y3
  go_wp2_with fail
  go_ret
  refine ⟨rfl, one_setCell HF.out, ?_, below_set HB.out hF⟩
  unfold Blk
  rw [heap_setCell_other _ _ _ _ (by simp; omega)]
  exact HT.out
set_option maxHeartbeats 1000000 in
theorem step_first (F T c : Nat) (hc : c < 256) (w0 w : World) (hF : w0.heap.size ≤ F) (hT : w0.heap.size ≤ T) (hf : Flg w F false) (ht : Blk w T 195 (tabAt 0)) (hFT : F ≠ T) (hb : Below w0.heap.size w0 w) :
  Calls Try.prog 142 #[.int .u8 c, .pointer (some ⟨F, 0, none⟩), .pointer (some ⟨T, 0, none⟩)] w fun e w' => e = .returned (.int .u32 (tn 8 c : Int)) ∧ Flg w' F true ∧ Blk w' T 195 (tabAt 256) ∧ Below w0.heap.size w0 w' := by
 have HF := am hf
 have HT := am ht
 have HB := am hb
 have pc : ((c : Int) < 256) = True := eq_true (by omega)
 have qc : (0 ≤ (c : Int)) = True := eq_true (by omega)
 clear hf ht hb
 go_enter Try.func142, Try.ntmps142
 go_wp2_with fail
 go_loopg [5] 256 (fun k v5 w' => ∃ i : Nat, v5 = .int .i64 i ∧ Aside0 (k = 256 - i ∧ i ≤ 256) ∧ Aside0 (Flg w' F false) ∧ Aside0 (Blk w' T 195 (tabAt i)) ∧ Aside0 (Below w0.heap.size w0 w'))
 case atStart => exact ⟨0, rfl, ⟨by omega, by omega⟩, HF, HT, HB⟩
 case round =>
  clear HF HT HB
  obtain ⟨i, rfl, HI, HF, HT, HB⟩ := hrel
  have y1 := HF.out.cell
  by_cases hi : i < 256
  ·have d1 : decide (i < 256) = true := decide_eq_true hi
   have d2 : decide ((i : Int) < 256) = true := decide_eq_true (by omega)
   have pi : ((i : Int) < 256) = True := eq_true (by omega)
   have qi : (0 ≤ (i : Int)) = True := eq_true (by omega)
   have ui : (i : Int) % 4294967296 = (i : Int) := by omega
   have hwr : IntKind.i64.wrap ((i : Int) + 1) = ((i + 1 : Nat) : Int) := by rw [i64_w]; unfold wrap64; omega
   have HII := am hi
   go_wp2_with fail
   go_loopg [6, 17] 8 (fun k v6 v17 w' => ∃ j : Nat, v6 = .int .u32 (tn j i : Int) ∧ v17 = .int .i64 j ∧ Aside0 (k = 8 - j ∧ j ≤ 8) ∧ Aside0 (Flg w' F false) ∧ Aside0 (Blk w' T 195 (tabAt i)) ∧ Aside0 (Below w0.heap.size w0 w'))
   case atStart => exact ⟨0, rfl, rfl, ⟨by omega, by omega⟩, HF, HT, HB⟩
   case round =>
    clear HF HT HB y1
    obtain ⟨j, rfl, rfl, HJ, HF, HT, HB⟩ := hrel
    obtain ⟨x, hx⟩ : ∃ x, x = tn j i := ⟨_, rfl⟩
    have hxl : x < 4294967296 := by rw [hx]; exact tn_lt j (by have := HII.out; omega)
    have HX : Aside0 (t1 x = tn (j + 1) i) := ⟨by rw [hx, tn_succ]⟩
    have hbit := bit_eq x hxl
    rw [← hx]
    have HXX := am hx
    clear hx
    by_cases hj : j < 8
    ·have d3 : decide (j < 8) = true := decide_eq_true hj
     have d4 : decide ((j : Int) < 8) = true := decide_eq_true (by omega)
     have hwj : IntKind.i64.wrap ((j : Int) + 1) = ((j + 1 : Nat) : Int) := by rw [i64_w]; unfold wrap64; omega
     go_wp2_with fail
     go_roundg (8 - (j + 1))
     case measure => have := HJ.out; omega
     case rel =>
      refine ⟨j + 1, ?_, ?_, ⟨rfl, by omega⟩, HF, HT, HB⟩
      ·rw [← HX.out, ← hbit]
      ·simp
    ·have d3 : decide (j < 8) = false := decide_eq_false hj
     have d4 : decide ((j : Int) < 8) = false := decide_eq_false (by omega)
     obtain rfl : j = 8 := by have := HJ.out; omega
     have y1 := HT.out.cell (i := i) (by rw [tabAt_length]; have := HII.out; omega)
     have y2 := HT.out.free i
     clear hbit HX
     go_wp2_with fail
     go_roundg (256 - (i + 1))
     case measure => have := HI.out; have := HII.out; omega
     case rel =>
      refine ⟨i + 1, by simp, ⟨rfl, by have := HII.out; omega⟩, ⟨?_⟩, ⟨?_⟩, ⟨below_set HB.out hT⟩⟩
      ·unfold Flg
       rw [heap_setCell_other _ _ _ _ (by simp; omega)]
       exact HF.out
      ·rw [HXX.out]
       exact HT.out.set i _
  ·have d1 : decide (i < 256) = false := decide_eq_false hi
   have d2 : decide ((i : Int) < 256) = false := decide_eq_false (by omega)
   obtain rfl : i = 256 := by have := HI.out; omega
   have y2 := HF.out.free
   have y3 := HT.out.cell (i := c) (by rw [tabAt_length]; omega)
   rw [tabAt_get 256 c hc (Nat.le_refl _)] at y3
   go_wp2_with fail
   have z1 : (wr.setCell ⟨F, 0, none⟩ (.bool true)).cell? ⟨T, c, none⟩ = _ := (World.cell?_setCell_other wr ⟨F, 0, none⟩ ⟨T, c, none⟩ _ (by simp [hFT])).trans y3
   go_wp2_with fail
   go_ret
   refine ⟨rfl, one_setCell HF.out, ?_, below_set HB.out hF⟩
   unfold Blk
   rw [heap_setCell_other _ _ _ _ (by simp; omega)]
   exact HT.out
theorem step_any (b : Bool) (n F T c : Nat) (hn : n = if b = true then 256 else 0) (hc : c < 256) (w0 w : World) (hF : w0.heap.size ≤ F) (hT : w0.heap.size ≤ T) (hf : Flg w F b) (ht : Blk w T 195 (tabAt n)) (hFT : F ≠ T) (hb : Below w0.heap.size w0 w) :
  Calls Try.prog 142 #[.int .u8 c, .pointer (some ⟨F, 0, none⟩), .pointer (some ⟨T, 0, none⟩)] w fun e w' => e = .returned (.int .u32 (tn 8 c : Int)) ∧ Flg w' F true ∧ Blk w' T 195 (tabAt 256) ∧ Below w0.heap.size w0 w' := by
 cases b with
 | false =>
  rw [if_neg (by decide)] at hn
  subst hn
  exact step_first F T c hc w0 w hF hT hf ht hFT hb
 | true =>
  rw [if_pos rfl] at hn
  subst hn
  exact step_full F T c hc w0 w hF hf ht hFT hb
theorem neg_eq (x : Nat) (h : x < 4294967296) : bits .xor .u32 IntKind.u32.max (x : Int) = 4294967295 - (x : Int) := by
 have h1 := u32_xor_nat 4294967295 x (by decide) h
 rw [Nat.xor_comm, ← not_xor h] at h1
 rw [show IntKind.u32.max = ((4294967295 : Nat) : Int) by decide, h1]
 omega
set_option maxHeartbeats 1000000 in
theorem steps_call (w : World) : Calls Try.prog 92 #[] w fun e w' => e = .returned (.func (.func 142) #[] #[.pointer (some ⟨w.heap.size + 1, 0, none⟩), .pointer (some ⟨w.heap.size, 0, none⟩)]) ∧ Flg w' (w.heap.size + 1) false ∧ Blk w' w.heap.size 195 (tabAt 0) ∧ Below w.heap.size w w' := by
 have hmf : ∀ (fn : Fn) (first cap : Array Value) (w : World), (Instr.makeFunc fn first cap).run Try.prog w = .ok (.func fn first cap) w := fun _ _ _ _ => rfl
 go_enter Try.func92, Try.ntmps92
 go_wp2_with fail
 go_ret
 refine ⟨rfl, heap_alloc2_new w _ _, ?_, below_alloc (below_alloc (Below.refl _ _) _) _⟩
 have hz : Try.zeroCells195 = ((tabAt 0).map (Value.int .u32)).toArray := by kernel_rfl
 unfold Blk
 rw [← hz]
 exact heap_alloc2_old w _ _
def nats (l : List Int) : List Nat := l.map Int.toNat
def Byt (l : List Int) : Prop := ∀ x ∈ l, 0 ≤ x ∧ x ≤ 255
theorem nats_lt {l : List Int} (h : Byt l) : ∀ c ∈ nats l, c < 256 := fun c hc => by
 obtain ⟨x, hx, rfl⟩ := List.mem_map.1 hc
 have := h x hx
 omega
def crcA (l : List Int) (i : Nat) : Nat := crcFrom 4294967295 (nats (l.take i))
theorem crcA_lt {l : List Int} (h : Byt l) (i : Nat) : crcA l i < 4294967296 := crcFrom_lt (by omega) (nats_lt (fun x hx => h x (List.mem_of_mem_take hx)))
theorem crcA_succ {l : List Int} {i : Nat} (hi : i < l.length) : crcA l (i + 1) = crcStep (crcA l i) (l.getD i 0).toNat := by
 have : l.take (i + 1) = l.take i ++ [l.getD i 0] := by
  rw [List.getD_eq_getElem?_getD, List.getElem?_eq_getElem hi, Option.getD_some, List.take_succ_eq_append_getElem hi]
 unfold crcA nats
 rw [this, List.map_append, crcFrom_append]
 rfl
def sumL (l : List Int) : Int := (crc (nats l) : Int)
set_option maxHeartbeats 1000000 in
theorem sum2_call (A : Option Addr) (c : Nat) (l : List Int) (w : World) (hr : Kd.C (Kd.int .u8) w A l.length l) (hb : Byt l) (hl : l.length ≤ 4611686018427387904) :
  Calls Try.prog 46 #[.slice A l.length c] w fun e w' => e = .returned (.int .u32 (sumL l)) ∧ Below w.heap.size w w' := by
 have HR := am hr
 have HBY := am hb
 have HL := am hl
 clear hr hb hl
 go_enter Try.func46, Try.ntmps46
 go_wp2_with fail
 refine (steps_call _).mono ?_
 rintro e w1 ⟨rfl, hf1, ht1, hb1⟩
 have HF := am hf1
 have HT := am ht1
 have HB := am hb1
 clear hf1 ht1 hb1
 go_wp2_with fail
 go_loopg [4, 10] l.length (fun k v4 v10 w' => ∃ i : Nat, v4 = .int .u32 (crcA l i : Int) ∧ v10 = .int .i64 i ∧ Aside0 (k = l.length - i ∧ i ≤ l.length) ∧ Aside0 (Flg w' (w.heap.size + 1) (decide (0 < i))) ∧ Aside0 (Blk w' w.heap.size 195 (tabAt (if 0 < i then 256 else 0))) ∧ Aside0 (Below w.heap.size w w'))
 case atStart => exact ⟨0, by simp [crcA, crcFrom, nats], rfl, ⟨by omega, by omega⟩, HF, HT, HB⟩
 case round =>
  clear HF HT HB
  obtain ⟨i, rfl, rfl, HI, HF, HT, HB⟩ := hrel
  obtain ⟨x, hx⟩ : ∃ x, x = crcA l i := ⟨_, rfl⟩
  have hxl : x < 4294967296 := by rw [hx]; exact crcA_lt HBY.out i
  rw [← hx]
  by_cases hi : i < l.length
  ·have d1 : decide (i < l.length) = true := decide_eq_true hi
   have d2 : decide ((i : Int) < (l.length : Int)) = true := decide_eq_true (by omega)
   have pi : ((i : Int) < (l.length : Int)) = True := eq_true (by omega)
   have qi : (0 ≤ (i : Int)) = True := eq_true (by omega)
   obtain ⟨ad0, e0, x0⟩ := Kd.at_int (Kd.C_below HR.out HB.out) (i : Int) (by omega) (by omega)
   subst e0
   simp only [Int.toNat_natCast] at x0
   have hby := HBY.out (rd l i) (by
    unfold rd
    simp only [Int.toNat_natCast]
    rw [List.getD_eq_getElem?_getD, List.getElem?_eq_getElem hi, Option.getD_some]
    exact List.getElem_mem hi)
   obtain ⟨cn, hcn⟩ : ∃ cn : Nat, rd l i = (cn : Int) := ⟨(rd l i).toNat, by omega⟩
   rw [hcn] at x0 hby
   have hc2 : cn < 256 := by omega
   have HS : Aside0 (crcA l (i + 1) = crcStep x cn) := ⟨by
    rw [crcA_succ hi, hx]
    congr 1
    have h1 : rd l i = l.getD i 0 := by unfold rd; simp
    rw [← h1, hcn]
    rfl⟩
   obtain ⟨b8, hb8⟩ : ∃ b8, b8 = (x % 256) ^^^ cn := ⟨_, rfl⟩
   have hb8l : b8 < 256 := by rw [hb8]; exact xor_byte_lt hc2
   have hx8 : bits .xor .u8 ((x : Int) % 256) (cn : Int) = (b8 : Int) := by
    have := u8_xor_nat (x % 256) cn (by omega) hc2
    rw [hb8, ← this]
    rfl
   obtain ⟨y, hy⟩ : ∃ y, y = tn 8 b8 := ⟨_, rfl⟩
   have hx32 : bits .xor .u32 (y : Int) ((x : Int) / 256) = (crcStep x cn : Int) := by
    have hyl : y < 4294967296 := by rw [hy]; exact tn_lt 8 (by omega)
    have := u32_xor_nat y (x / 256) hyl (by omega)
    rw [show (x : Int) / 256 = ((x / 256 : Nat) : Int) by omega, this, hy, hb8, step_table x cn hc2]
   have HX32 := am hx32
   have HY := am hy
   clear hx hb8 hx32 hy hby hcn
   have hwi : IntKind.i64.wrap ((i : Int) + 1) = ((i + 1 : Nat) : Int) := by rw [i64_w]; unfold wrap64; have := HL.out; omega
   go_wp2_with fail
   refine (step_any (decide (0 < i)) _ _ _ _ (by by_cases h0 : 0 < i <;> simp [h0]) hb8l w _ (by omega) (Nat.le_refl _) HF.out HT.out (by omega) HB.out).mono ?_
   rintro e w2 ⟨rfl, hf2, ht2, hb2⟩
   have HF2 := am hf2
   have HT2 := am ht2
   have HB2 := am hb2
   rw [← HY.out]
   have hx32 := HX32.out
   clear hf2 ht2 hb2
   go_wp2_with fail
   go_roundg (l.length - (i + 1))
   case measure => have := HI.out; omega
   case rel =>
    refine ⟨i + 1, ?_, by simp, ⟨rfl, by omega⟩, ?_, ?_, HB2⟩
    ·rw [HS.out]
    ·rw [decide_eq_true (show 0 < i + 1 by omega)]; exact HF2
    ·rw [if_pos (show 0 < i + 1 by omega)]; exact HT2
  ·have d1 : decide (i < l.length) = false := decide_eq_false hi
   have d2 : decide ((i : Int) < (l.length : Int)) = false := decide_eq_false (by omega)
   have hil : i = l.length := by have := HI.out; omega
   have HE : Aside0 (sumL l = 4294967295 - (x : Int)) := ⟨by
    rw [hx, hil]
    unfold sumL crc crcA
    rw [List.take_length]
    have := crcFrom_lt (w := 4294967295) (by omega) (nats_lt HBY.out)
    omega⟩
   clear hx
   go_wp2_with fail
   go_ret
   refine ⟨?_, HB.out⟩
   rw [HE.out, neg_eq x hxl]
   rfl
def section_Sum.f (k : Nat) (l : List Int) : Option Int := if l.all (fun x => decide (0 ≤ x ∧ x ≤ 255)) = true ∧ l.length ≤ 4611686018427387904 then some (sumL l) else none
theorem section_Sum.calls (k : Nat) (A0 : Option Addr) (c0 : Nat) (l0 : List Int) (r : Int) (w : World) (hr0 : Kd.C (Kd.int .u8) w A0 l0.length l0) (hc0 : l0.length ≤ c0) (h : section_Sum.f k l0 = some r) :
  Calls Try.prog 46 #[.slice A0 l0.length c0] w fun e w' => e = .returned (.int .u32 r) ∧ Below w.heap.size w w' := by
 unfold section_Sum.f at h
 split at h
 ·rename_i hh
  injection h with h
  subst h
  exact sum2_call A0 c0 l0 w hr0 (fun x hx => by simpa using List.all_eq_true.1 hh.1 x hx) hh.2
 ·cases h
theorem Sum2_eq (k : Nat) {l : List Int} (hb : Byt l) (hl : l.length ≤ 4611686018427387904) : section_Sum.f k l = some (sumL l) := by
 unfold section_Sum.f
 rw [if_pos ⟨List.all_eq_true.2 fun x hx => decide_eq_true (hb x hx), hl⟩]
def bytes_Clone.f (l0 : List Int) : Option (List Int) := if l0.length ≤ 1000000000 then some l0 else none
theorem bytes_Clone.calls (A0 : Option Addr) (c0 : Nat) (l0 : List Int) (r : List Int) (w : World) (hr0 : Kd.C (Kd.int .u8) w A0 l0.length l0) (hc0 : l0.length ≤ c0) (h : bytes_Clone.f l0 = some r) :
  Calls Try.prog 90 #[.slice A0 l0.length c0] w fun e w' => ∃ v0_ : Value, e = .returned (v0_) ∧ Kd.R (Kd.int .u8) 5 w' w.heap.size (fun _ => True) v0_ r ∧ Below w.heap.size w w' := by
 unfold bytes_Clone.f at h
 split at h
 ·rename_i hl
  injection h with h
  subst h
  refine (clone_call A0 c0 l0 w hr0 hc0 hl).mono ?_
  rintro e w' ⟨v, rfl, ho, hb⟩
  exact ⟨v, rfl, Kd.R_of_own (ok := fun _ => True) ho.out (fun _ _ => trivial), hb.out⟩
 ·cases h
theorem Clone_eq {l : List Int} (h : l.length ≤ 1000000000) : bytes_Clone.f l = some l := by
 unfold bytes_Clone.f
 rw [if_pos h]
end
end Go.Proofs.Ytchaegfdcdlfaaa.X
