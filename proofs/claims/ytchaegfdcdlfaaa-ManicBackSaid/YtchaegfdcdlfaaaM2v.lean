/- Texts of this claim, what it reaches. -/
import Derived.Laws.CopyOwn
import Derived.Test.YtchaegfdcdlfaaaM1v
import Derived.WalkLawsBesides
import Derived.Lib.LazyBuf
import Derived.ChangeKeysEq
import Derived.Lib.BytesEntry
import Derived.Lib.Bytealg
import Derived.DeepKeys4
import Derived.Maps.OwnSet
import Derived.Great.BuildSlice
import Derived.Laws.BitsLemmas
import Derived.ProofKit
import Derived.OpenShut
import Derived.Deep.Slices
import Derived.Deep.LoopGhost
import Derived.Deep.MidRow

namespace Go.Proofs.Ytchaegfdcdlfaaa.X
set_option linter.unusedVariables false
set_option linter.unusedSimpArgs false
open Go.RowKit Go.Proofs.YtchaegfdcdlfaaaW.PrintWords Go.Proofs.YtchaegfdcdlfaaaW.PrintLast Go.Proofs.YtchaegfdcdlfaaaW.PrintMore

theorem Blk.below {B : Nat} {w w' : World} {g : Nat} {t : TypeId} {xs : List Int} (h : Blk w g t xs) (hb : Below B w w') (hg : g < B) : Blk w' g t xs := (hb.block g hg).trans h
theorem Blk.lt {w : World} {g : Nat} {t : TypeId} {xs : List Int} (h : Blk w g t xs) : g < w.heap.size := (Array.getElem?_eq_some_iff.1 h).1
def cellsOf (xs : List Int) : Array Value := (xs.map (Value.int .u32)).toArray
theorem cellsOf_size (xs : List Int) : (cellsOf xs).size = xs.length := by simp [cellsOf]
theorem cellsOf_all (xs : List Int) : (cellsOf xs).all (·.oneCell') = true := by simp [cellsOf, Value.oneCell']
theorem info38s : (Try.prog.info? 26).map (·.size) = some 1 := by kernel_rfl
theorem take7_get {xs : List Int} {j : Nat} {v : Value} (h : ((xs.take 7).map (Value.int .u32))[j]? = some v) : j < 7 ∧ v = Value.int .u32 (xs.getD j 0) := by
  rw [List.getElem?_map] at h
  by_cases hj : j < 7
  · refine ⟨hj, ?_⟩
    rw [List.getElem?_take_of_lt hj] at h
    obtain ⟨z, hz, rfl⟩ := Option.map_eq_some_iff.1 h
    simp [hz]
  · rw [List.getElem?_take_eq_none (by omega)] at h
    cases h
theorem splice_map {α β : Type} (f : α → β) (L : List α) (k : Nat) (cs : List α) : (splice L k cs).map f = splice (L.map f) k (cs.map f) := by
  simp [splice, List.map_take, List.map_drop]
theorem Blk.other {w : World} {g : Nat} {t : TypeId} {xs : List Int} (h : Blk w g t xs) (a : Addr) (v : Value) (hne : g ≠ a.block) : Blk (w.setCell a v) g t xs := by
  unfold Blk
  rw [heap_setCell_other _ _ _ _ hne]
  exact h
def shaT (xs : List Int) (k v : Int) : Int :=
  xs.getD 7 0 + bits .xor .u32 (bits .xor .u32 (rotr (xs.getD 4 0) 6) (rotr (xs.getD 4 0) 11)) (rotr (xs.getD 4 0) 25) + bits .xor .u32 (bits .and .u32 (xs.getD 4 0) (xs.getD 5 0)) (bits .and .u32 (bits .xor .u32 IntKind.u32.max (xs.getD 4 0)) (xs.getD 6 0)) + k + v
def shaU (xs : List Int) : Int :=
  bits .xor .u32 (bits .xor .u32 (rotr (xs.getD 0 0) 2) (rotr (xs.getD 0 0) 13)) (rotr (xs.getD 0 0) 22) + bits .xor .u32 (bits .xor .u32 (bits .and .u32 (xs.getD 0 0) (xs.getD 1 0)) (bits .and .u32 (xs.getD 0 0) (xs.getD 2 0))) (bits .and .u32 (xs.getD 1 0) (xs.getD 2 0))
def shaRound (xs : List Int) (k v : Int) : List Int :=
  ((splice xs 1 (xs.take 7)).set 0 ((shaT xs k v + shaU xs) % 4294967296)).set 4 (((splice xs 1 (xs.take 7)).getD 4 0 + shaT xs k v) % 4294967296)
def addUp (ss xs : List Int) : Nat → List Int
  | 0 => ss
  | j + 1 => (addUp ss xs j).set j (((addUp ss xs j).getD j 0 + xs.getD j 0) % 4294967296)
theorem addUp_length (ss xs : List Int) : ∀ j, (addUp ss xs j).length = ss.length
  | 0 => rfl
  | j + 1 => by simp [addUp, addUp_length ss xs j]
theorem grown_below {w w1 : World} {r : Option Nat} (h : Below w.heap.size w w1) : w.grownBy w1 r := ⟨h.os, h.tape, h.output, h.size, fun k hk _ => h.block k hk⟩
theorem grown_drew {w w1 : World} {r : Option Nat} (h : w.grownBy w1 r) : w.grownBy w1.drew r := ⟨h.os, h.tape, h.output, h.size, h.block⟩
theorem grown_set {w w1 : World} {g : Nat} (h : w.grownBy w1 (some g)) (i : Nat) (v : Value) : w.grownBy (w1.setCell ⟨g, i, none⟩ v) (some g) :=
  ⟨h.os, h.tape, h.output, by rw [show (w1.setCell ⟨g, i, none⟩ v).heap.size = w1.heap.size from by simp [World.setCell]]; exact h.size, fun k hk hne => by rw [heap_setCell_other _ _ _ _ (by intro e; exact hne (by rw [e]))]; exact h.block k hk hne⟩
def shaRounds (ss ws ks : List Int) : Nat → List Int
  | 0 => ss
  | i + 1 => shaRound (shaRounds ss ws ks i) (ks.getD i 0) (ws.getD i 0)

set_option maxHeartbeats 4000000 in
set_option maxRecDepth 100000 in
theorem take_call (gs gq : Nat) (A : Option Addr) (c : Nat) (l ss ks : List Int) (w : World) (hs : Blk w gs 187 ss) (hsl : ss.length = 8) (hk : Blk w gq 189 ks) (hkl : ks.length = 64) (hne : gs ≠ gq)
    (hr : Kd.C (Kd.int .u8) w A l.length l) (hc : 64 ≤ c) (hlen : l.length = 64) :
    Calls Try.prog 139 #[.pointer (some ⟨gs, 0, none⟩), .slice A 64 c, .pointer (some ⟨gq, 0, none⟩)] w fun e w' => e = .returned (.tuple #[]) ∧ Blk w' gs 187 (addUp ss (shaRounds ss (schedAt l 64) ks 64) 8) ∧ w.grownBy w' (some gs) := by
  obtain ⟨ws, hws⟩ : ∃ ws, schedAt l 64 = ws := ⟨_, rfl⟩
  have HWL : Aside0 (ws.length = 64) := ⟨by rw [← hws]; exact schedAt_length _ _⟩
  have HSC : Aside0 (∀ W, Kd.C (Kd.int .u8) W A l.length l → Calls Try.prog 168 #[.slice A 64 c] W fun e w' => e = .returned (.agg (cellsOf ws)) ∧ Below W.heap.size W w') := ⟨fun W h => by rw [← hws]; exact sched_call A c l W h hc hlen⟩
  rw [hws]
  clear hws hlen
  have HR := Aside0.mk hr
  have HSL := Aside0.mk hsl
  have HKL := Aside0.mk hkl
  have HS0 := Aside0.mk hs
  have HK0 := Aside0.mk hk
  have HNE := Aside0.mk hne
  clear hr hs hk hsl hkl hne
  go_enter Try.func139, Try.ntmps139
  go_wp2_with fail
  refine (HSC.out _ HR.out).mono ?_
  rintro e w1 ⟨rfl, hb1⟩
  have HB1 := Aside0.mk hb1
  clear hb1
  have hst := store_new w1 #[.int .u32 0, .int .u32 0, .int .u32 0, .int .u32 0, .int .u32 0, .int .u32 0, .int .u32 0, .int .u32 0, .int .u32 0, .int .u32 0, .int .u32 0, .int .u32 0, .int .u32 0, .int .u32 0, .int .u32 0, .int .u32 0, .int .u32 0, .int .u32 0, .int .u32 0, .int .u32 0, .int .u32 0, .int .u32 0, .int .u32 0, .int .u32 0, .int .u32 0, .int .u32 0, .int .u32 0, .int .u32 0, .int .u32 0, .int .u32 0, .int .u32 0, .int .u32 0, .int .u32 0, .int .u32 0, .int .u32 0, .int .u32 0, .int .u32 0, .int .u32 0, .int .u32 0, .int .u32 0, .int .u32 0, .int .u32 0, .int .u32 0, .int .u32 0, .int .u32 0, .int .u32 0, .int .u32 0, .int .u32 0, .int .u32 0, .int .u32 0, .int .u32 0, .int .u32 0, .int .u32 0, .int .u32 0, .int .u32 0, .int .u32 0, .int .u32 0, .int .u32 0, .int .u32 0, .int .u32 0, .int .u32 0, .int .u32 0, .int .u32 0, .int .u32 0] (cellsOf ws) 189 (by rw [cellsOf_size, HWL.out]; kernel_rfl) (cellsOf_all ws)
  have hz64 : (cellsOf ws).size = 64 := by rw [cellsOf_size, HWL.out]
  have hz8 : (cellsOf ss).size = 8 := by rw [cellsOf_size, HSL.out]
  obtain ⟨A1, hA1⟩ : ∃ A1, A1 = Obj.cells (cellsOf ws) 189 (0, 0) := ⟨_, rfl⟩
  rw [← hA1] at hst
  have HA1 := Aside0.mk hA1
  clear hA1
  have hst2 : (storeCells ⟨w1.heap.size + 1, 0, none⟩ (cellsOf ss).toList).run Try.prog ((w1.alloc A1).alloc (.cells #[.int .u32 0, .int .u32 0, .int .u32 0, .int .u32 0, .int .u32 0, .int .u32 0, .int .u32 0, .int .u32 0] 187 (0, 0))) = .ok () ((w1.alloc A1).alloc (.cells (cellsOf ss) 187 (0, 0))) := by
    have h_ := store_new (w1.alloc A1) #[.int .u32 0, .int .u32 0, .int .u32 0, .int .u32 0, .int .u32 0, .int .u32 0, .int .u32 0, .int .u32 0] (cellsOf ss) 187 (by rw [cellsOf_size, HSL.out]; kernel_rfl) (cellsOf_all ss)
    rw [show (w1.alloc A1).heap.size = w1.heap.size + 1 from Array.size_push ..] at h_
    exact h_
  have HS1 : Aside0 ((w1.alloc A1).heap[gs]? = some (.cells (cellsOf ss) 187 (0, 0))) := ⟨(Below.heap_alloc w1 A1 _ (Nat.lt_of_lt_of_le (Blk.lt HS0.out) HB1.out.size)).trans ((Blk.below HS0.out HB1.out (Blk.lt HS0.out)))⟩
  go_wp2_with (first
    | ((with_reducible refine gate_dst (N := 18) rfl ?_); refine wpList_load_row rfl 187 (.tmp 17) rfl gs rfl 187 (cellsOf ss) (0, 0) _ HS1.out rfl (by kernel_rfl) (by rw [cellsOf_size, HSL.out]; kernel_rfl) ?_)
    | fail)
  have HX0 : Aside0 (Blk ((w1.alloc A1).alloc (Obj.cells (cellsOf ss) 187)) (w1.heap.size + 1) 187 ss) := ⟨heap_alloc2_new w1 _ _⟩
  have HW0 : Aside0 (Blk ((w1.alloc A1).alloc (Obj.cells (cellsOf ss) 187)) w1.heap.size 189 ws) := ⟨by unfold Blk; rw [heap_alloc2_old w1, HA1.out]; rfl⟩
  have HB2 : Aside0 (Below w.heap.size w ((w1.alloc A1).alloc (Obj.cells (cellsOf ss) 187))) := ⟨below_alloc (below_alloc HB1.out _) _⟩
  clear hst hst2 HS1
  go_loopg [19] 64 (fun k v19 wr => ∃ (i : Nat) (xs : List Int), v19 = .int .i64 (i : Int) ∧ Aside0 (k = 64 - i ∧ i ≤ 64) ∧ Aside0 (xs = shaRounds ss ws ks i) ∧ Aside0 (xs.length = 8) ∧ Aside0 (Blk wr (w1.heap.size + 1) 187 xs) ∧ Aside0 (Blk wr w1.heap.size 189 ws) ∧ Aside0 (Below w.heap.size w wr))
  case atStart => exact ⟨0, ss, rfl, ⟨by omega, by omega⟩, ⟨rfl⟩, HSL, HX0, HW0, HB2⟩
  case round =>
    clear HX0 HW0 HB2
    obtain ⟨i, xs, rfl, HI, HXE, HXL, HX, HW, HL⟩ := hrel
    by_cases hi : i < 64
    · have d1 : decide (i < 64) = true := decide_eq_true hi
      have d2 : decide ((i : Int) < 64) = true := decide_eq_true (by omega)
      have pi : (0 ≤ (i : Int)) = True := eq_true (by omega)
      have qi : ((i : Int) < 64) = True := eq_true (by omega)
      have hwr : IntKind.i64.wrap ((i : Int) + 1) = ((i + 1 : Nat) : Int) := by rw [i64_w]; unfold wrap64; omega
      have HK : Aside0 (Blk wr gq 189 ks) := ⟨Blk.below HK0.out HL.out (Blk.lt HK0.out)⟩
      go_wp2_with fail
      refine wp_region_held_drew (S := (fun W => Blk W (w1.heap.size + 1) 187 xs ∧ Blk W w1.heap.size 189 ws ∧ Blk W gq 189 ks)) (by kernel_rfl) ((And.intro HX.out (And.intro HW.out HK.out))) (fun hHeld => ?_)
      refine wpAnyH_take (i := 0) (v := ?_) (by simp only [List.getElem?_toArray, List.getElem?_cons_succ, List.getElem?_cons_zero]; rfl) (by kernel_rfl) (by kernel_rfl) (by kernel_rfl) (by intro _ _ _ h; exact h) (Or.inl ⟨by rfl, ?hy⟩) (by assumption) ?_
      case hy => (intro W_ hW_; go_simp; first | done | with_reducible rfl)
      try simp only [Act.put, List.setIfInBounds_toArray, List.set_cons_zero, List.set_cons_succ]
      refine wpAnyH_take (i := 1) (v := ?_) (by simp only [List.getElem?_toArray, List.getElem?_cons_succ, List.getElem?_cons_zero]; rfl) (by kernel_rfl) (by kernel_rfl) (by kernel_rfl) (by intro _ _ _ h; exact h) (Or.inl ⟨by rfl, ?hy⟩) (by assumption) ?_
      case hy => (intro W_ hW_; have f_ := hW_.1.cell (i := 0) (by rw [HXL.out]; decide); go_simp; first | done | with_reducible rfl)
      try simp only [Act.put, List.setIfInBounds_toArray, List.set_cons_zero, List.set_cons_succ]
      refine wpAnyH_take (i := 2) (v := ?_) (by simp only [List.getElem?_toArray, List.getElem?_cons_succ, List.getElem?_cons_zero]; rfl) (by kernel_rfl) (by kernel_rfl) (by kernel_rfl) (by intro _ _ _ h; exact h) (Or.inl ⟨by rfl, ?hy⟩) (by assumption) ?_
      case hy => (intro W_ hW_; go_simp; first | done | with_reducible rfl)
      try simp only [Act.put, List.setIfInBounds_toArray, List.set_cons_zero, List.set_cons_succ]
      refine wpAnyH_take (i := 3) (v := ?_) (by simp only [List.getElem?_toArray, List.getElem?_cons_succ, List.getElem?_cons_zero]; rfl) (by kernel_rfl) (by kernel_rfl) (by kernel_rfl) (by intro _ _ _ h; exact h) (Or.inl ⟨by rfl, ?hy⟩) (by assumption) ?_
      case hy => (intro W_ hW_; have f_ := hW_.1.cell (i := 4) (by rw [HXL.out]; decide); go_simp; first | done | with_reducible rfl)
      try simp only [Act.put, List.setIfInBounds_toArray, List.set_cons_zero, List.set_cons_succ]
      refine wpAnyH_take (i := 4) (v := ?_) (by simp only [List.getElem?_toArray, List.getElem?_cons_succ, List.getElem?_cons_zero]; rfl) (by kernel_rfl) (by kernel_rfl) (by kernel_rfl) (by intro _ _ _ h; exact h) (Or.inl ⟨by rfl, ?hy⟩) (by assumption) ?_
      case hy => (intro W_ hW_; go_simp; first | done | with_reducible rfl)
      try simp only [Act.put, List.setIfInBounds_toArray, List.set_cons_zero, List.set_cons_succ]
      refine wpAnyH_take (i := 5) (v := ?_) (by simp only [List.getElem?_toArray, List.getElem?_cons_succ, List.getElem?_cons_zero]; rfl) (by kernel_rfl) (by kernel_rfl) (by kernel_rfl) (by intro _ _ _ h; exact h) (Or.inl ⟨by rfl, ?hy⟩) (by assumption) ?_
      case hy => (intro W_ hW_; go_simp; first | done | with_reducible rfl)
      try simp only [Act.put, List.setIfInBounds_toArray, List.set_cons_zero, List.set_cons_succ]
      refine wpAnyH_done (by kernel_rfl) ?_ _
      go_wp2_with fail
      refine wp_region_held_drew (S := (fun W => Blk W (w1.heap.size + 1) 187 xs ∧ Blk W w1.heap.size 189 ws ∧ Blk W gq 189 ks)) (by kernel_rfl) (hHeld) (fun hHeld => ?_)
      refine wpAnyH_take (i := 0) (v := ?_) (by simp only [List.getElem?_toArray, List.getElem?_cons_succ, List.getElem?_cons_zero]; rfl) (by kernel_rfl) (by kernel_rfl) (by kernel_rfl) (by intro _ _ _ h; exact h) (Or.inl ⟨by rfl, ?hy⟩) (by assumption) ?_
      case hy => (intro W_ hW_; go_simp; first | done | with_reducible rfl)
      try simp only [Act.put, List.setIfInBounds_toArray, List.set_cons_zero, List.set_cons_succ]
      refine wpAnyH_take (i := 1) (v := ?_) (by simp only [List.getElem?_toArray, List.getElem?_cons_succ, List.getElem?_cons_zero]; rfl) (by kernel_rfl) (by kernel_rfl) (by kernel_rfl) (by intro _ _ _ h; exact h) (Or.inl ⟨by rfl, ?hy⟩) (by assumption) ?_
      case hy => (intro W_ hW_; have f_ := hW_.1.cell (i := 7) (by rw [HXL.out]; decide); go_simp; first | done | with_reducible rfl)
      try simp only [Act.put, List.setIfInBounds_toArray, List.set_cons_zero, List.set_cons_succ]
      refine wpAnyH_take (i := 2) (v := ?_) (by simp only [List.getElem?_toArray, List.getElem?_cons_succ, List.getElem?_cons_zero]; rfl) (by kernel_rfl) (by kernel_rfl) (by kernel_rfl) (by intro _ _ _ h; exact h) (Or.inl ⟨by rfl, ?hy⟩) (by assumption) ?_
      case hy => (intro W_ hW_; go_simp; first | done | with_reducible rfl)
      try simp only [Act.put, List.setIfInBounds_toArray, List.set_cons_zero, List.set_cons_succ]
      refine wpAnyH_take (i := 4) (v := ?_) (by simp only [List.getElem?_toArray, List.getElem?_cons_succ, List.getElem?_cons_zero]; rfl) (by kernel_rfl) (by kernel_rfl) (by kernel_rfl) (by intro _ _ _ h; exact h) (Or.inl ⟨by rfl, ?hy⟩) (by assumption) ?_
      case hy => (intro W_ hW_; go_simp; first | done | with_reducible rfl)
      try simp only [Act.put, List.setIfInBounds_toArray, List.set_cons_zero, List.set_cons_succ]
      refine wpAnyH_take (i := 7) (v := ?_) (by simp only [List.getElem?_toArray, List.getElem?_cons_succ, List.getElem?_cons_zero]; rfl) (by kernel_rfl) (by kernel_rfl) (by kernel_rfl) (by intro _ _ _ h; exact h) (Or.inl ⟨by rfl, ?hy⟩) (by assumption) ?_
      case hy => (intro W_ hW_; go_simp; first | done | with_reducible rfl)
      try simp only [Act.put, List.setIfInBounds_toArray, List.set_cons_zero, List.set_cons_succ]
      refine wpAnyH_take (i := 11) (v := ?_) (by simp only [List.getElem?_toArray, List.getElem?_cons_succ, List.getElem?_cons_zero]; rfl) (by kernel_rfl) (by kernel_rfl) (by kernel_rfl) (by intro _ _ _ h; exact h) (Or.inl ⟨by rfl, ?hy⟩) (by assumption) ?_
      case hy => (intro W_ hW_; go_simp; first | done | with_reducible rfl)
      try simp only [Act.put, List.setIfInBounds_toArray, List.set_cons_zero, List.set_cons_succ]
      refine wpAnyH_take (i := 12) (v := ?_) (by simp only [List.getElem?_toArray, List.getElem?_cons_succ, List.getElem?_cons_zero]; rfl) (by kernel_rfl) (by kernel_rfl) (by kernel_rfl) (by intro _ _ _ h; exact h) (Or.inl ⟨by rfl, ?hy⟩) (by assumption) ?_
      case hy => (intro W_ hW_; go_simp; first | done | with_reducible rfl)
      try simp only [Act.put, List.setIfInBounds_toArray, List.set_cons_zero, List.set_cons_succ]
      refine wpAnyH_take (i := 13) (v := ?_) (by simp only [List.getElem?_toArray, List.getElem?_cons_succ, List.getElem?_cons_zero]; rfl) (by kernel_rfl) (by kernel_rfl) (by kernel_rfl) (by intro _ _ _ h; exact h) (Or.inl ⟨by rfl, ?hy⟩) (by assumption) ?_
      case hy => (intro W_ hW_; have f_ := hW_.1.cell (i := 5) (by rw [HXL.out]; decide); go_simp; first | done | with_reducible rfl)
      try simp only [Act.put, List.setIfInBounds_toArray, List.set_cons_zero, List.set_cons_succ]
      refine wpAnyH_take (i := 14) (v := ?_) (by simp only [List.getElem?_toArray, List.getElem?_cons_succ, List.getElem?_cons_zero]; rfl) (by kernel_rfl) (by kernel_rfl) (by kernel_rfl) (by intro _ _ _ h; exact h) (Or.inl ⟨by rfl, ?hy⟩) (by assumption) ?_
      case hy => (intro W_ hW_; go_simp; first | done | with_reducible rfl)
      try simp only [Act.put, List.setIfInBounds_toArray, List.set_cons_zero, List.set_cons_succ]
      refine wpAnyH_take (i := 15) (v := ?_) (by simp only [List.getElem?_toArray, List.getElem?_cons_succ, List.getElem?_cons_zero]; rfl) (by kernel_rfl) (by kernel_rfl) (by kernel_rfl) (by intro _ _ _ h; exact h) (Or.inl ⟨by rfl, ?hy⟩) (by assumption) ?_
      case hy => (intro W_ hW_; go_simp; first | done | with_reducible rfl)
      try simp only [Act.put, List.setIfInBounds_toArray, List.set_cons_zero, List.set_cons_succ]
      refine wpAnyH_take (i := 16) (v := ?_) (by simp only [List.getElem?_toArray, List.getElem?_cons_succ, List.getElem?_cons_zero]; rfl) (by kernel_rfl) (by kernel_rfl) (by kernel_rfl) (by intro _ _ _ h; exact h) (Or.inl ⟨by rfl, ?hy⟩) (by assumption) ?_
      case hy => (intro W_ hW_; go_simp; first | done | with_reducible rfl)
      try simp only [Act.put, List.setIfInBounds_toArray, List.set_cons_zero, List.set_cons_succ]
      refine wpAnyH_take (i := 17) (v := ?_) (by simp only [List.getElem?_toArray, List.getElem?_cons_succ, List.getElem?_cons_zero]; rfl) (by kernel_rfl) (by kernel_rfl) (by kernel_rfl) (by intro _ _ _ h; exact h) (Or.inl ⟨by rfl, ?hy⟩) (by assumption) ?_
      case hy => (intro W_ hW_; go_simp; first | done | with_reducible rfl)
      try simp only [Act.put, List.setIfInBounds_toArray, List.set_cons_zero, List.set_cons_succ]
      refine wpAnyH_take (i := 18) (v := ?_) (by simp only [List.getElem?_toArray, List.getElem?_cons_succ, List.getElem?_cons_zero]; rfl) (by kernel_rfl) (by kernel_rfl) (by kernel_rfl) (by intro _ _ _ h; exact h) (Or.inl ⟨by rfl, ?hy⟩) (by assumption) ?_
      case hy => (intro W_ hW_; have f_ := hW_.1.cell (i := 6) (by rw [HXL.out]; decide); go_simp; first | done | with_reducible rfl)
      try simp only [Act.put, List.setIfInBounds_toArray, List.set_cons_zero, List.set_cons_succ]
      refine wpAnyH_take (i := 19) (v := ?_) (by simp only [List.getElem?_toArray, List.getElem?_cons_succ, List.getElem?_cons_zero]; rfl) (by kernel_rfl) (by kernel_rfl) (by kernel_rfl) (by intro _ _ _ h; exact h) (Or.inl ⟨by rfl, ?hy⟩) (by assumption) ?_
      case hy => (intro W_ hW_; go_simp; first | done | with_reducible rfl)
      try simp only [Act.put, List.setIfInBounds_toArray, List.set_cons_zero, List.set_cons_succ]
      refine wpAnyH_take (i := 20) (v := ?_) (by simp only [List.getElem?_toArray, List.getElem?_cons_succ, List.getElem?_cons_zero]; rfl) (by kernel_rfl) (by kernel_rfl) (by kernel_rfl) (by intro _ _ _ h; exact h) (Or.inl ⟨by rfl, ?hy⟩) (by assumption) ?_
      case hy => (intro W_ hW_; go_simp; first | done | with_reducible rfl)
      try simp only [Act.put, List.setIfInBounds_toArray, List.set_cons_zero, List.set_cons_succ]
      refine wpAnyH_take (i := 22) (v := ?_) (by simp only [List.getElem?_toArray, List.getElem?_cons_succ, List.getElem?_cons_zero]; rfl) (by kernel_rfl) (by kernel_rfl) (by kernel_rfl) (by intro _ _ _ h; exact h) (Or.inl ⟨by rfl, ?hy⟩) (by assumption) ?_
      case hy => (intro W_ hW_; go_simp; first | done | with_reducible rfl)
      try simp only [Act.put, List.setIfInBounds_toArray, List.set_cons_zero, List.set_cons_succ]
      refine wpAnyH_take (i := 23) (v := ?_) (by simp only [List.getElem?_toArray, List.getElem?_cons_succ, List.getElem?_cons_zero]; rfl) (by kernel_rfl) (by kernel_rfl) (by kernel_rfl) (by intro _ _ _ h; exact h) (Or.inl ⟨by rfl, ?hy⟩) (by assumption) ?_
      case hy => (intro W_ hW_; go_simp; first | done | with_reducible rfl)
      try simp only [Act.put, List.setIfInBounds_toArray, List.set_cons_zero, List.set_cons_succ]
      refine wpAnyH_take (i := 24) (v := ?_) (by simp only [List.getElem?_toArray, List.getElem?_cons_succ, List.getElem?_cons_zero]; rfl) (by kernel_rfl) (by kernel_rfl) (by kernel_rfl) (by intro _ _ _ h; exact h) (Or.inl ⟨by rfl, ?hy⟩) (by assumption) ?_
      case hy => (intro W_ hW_; go_simp; first | done | with_reducible rfl)
      try simp only [Act.put, List.setIfInBounds_toArray, List.set_cons_zero, List.set_cons_succ]
      refine wpAnyH_take (i := 25) (v := ?_) (by simp only [List.getElem?_toArray, List.getElem?_cons_succ, List.getElem?_cons_zero]; rfl) (by kernel_rfl) (by kernel_rfl) (by kernel_rfl) (by intro _ _ _ h; exact h) (Or.inl ⟨by rfl, ?hy⟩) (by assumption) ?_
      case hy => (intro W_ hW_; go_simp; first | done | with_reducible rfl)
      try simp only [Act.put, List.setIfInBounds_toArray, List.set_cons_zero, List.set_cons_succ]
      refine wpAnyH_take (i := 26) (v := ?_) (by simp only [List.getElem?_toArray, List.getElem?_cons_succ, List.getElem?_cons_zero]; rfl) (by kernel_rfl) (by kernel_rfl) (by kernel_rfl) (by intro _ _ _ h; exact h) (Or.inl ⟨by rfl, ?hy⟩) (by assumption) ?_
      case hy => (intro W_ hW_; have f_ := hW_.2.2.cell (i := i) (by rw [HKL.out]; exact hi); go_simp; first | done | with_reducible rfl)
      try simp only [Act.put, List.setIfInBounds_toArray, List.set_cons_zero, List.set_cons_succ]
      refine wpAnyH_take (i := 28) (v := ?_) (by simp only [List.getElem?_toArray, List.getElem?_cons_succ, List.getElem?_cons_zero]; rfl) (by kernel_rfl) (by kernel_rfl) (by kernel_rfl) (by intro _ _ _ h; exact h) (Or.inl ⟨by rfl, ?hy⟩) (by assumption) ?_
      case hy => (intro W_ hW_; go_simp; first | done | with_reducible rfl)
      try simp only [Act.put, List.setIfInBounds_toArray, List.set_cons_zero, List.set_cons_succ]
      refine wpAnyH_take (i := 29) (v := ?_) (by simp only [List.getElem?_toArray, List.getElem?_cons_succ, List.getElem?_cons_zero]; rfl) (by kernel_rfl) (by kernel_rfl) (by kernel_rfl) (by intro _ _ _ h; exact h) (Or.inl ⟨by rfl, ?hy⟩) (by assumption) ?_
      case hy => (intro W_ hW_; go_simp; first | done | with_reducible rfl)
      try simp only [Act.put, List.setIfInBounds_toArray, List.set_cons_zero, List.set_cons_succ]
      refine wpAnyH_take (i := 30) (v := ?_) (by simp only [List.getElem?_toArray, List.getElem?_cons_succ, List.getElem?_cons_zero]; rfl) (by kernel_rfl) (by kernel_rfl) (by kernel_rfl) (by intro _ _ _ h; exact h) (Or.inl ⟨by rfl, ?hy⟩) (by assumption) ?_
      case hy => (intro W_ hW_; have f_ := hW_.2.1.cell (i := i) (by rw [HWL.out]; exact hi); go_simp; first | done | with_reducible rfl)
      try simp only [Act.put, List.setIfInBounds_toArray, List.set_cons_zero, List.set_cons_succ]
      refine wpAnyH_ready (rs := [3]) (by kernel_rfl) (by simp) ?_
      refine AllReadyH.cons (by simp only [List.getElem?_toArray, List.getElem?_cons_succ, List.getElem?_cons_zero]; rfl) (fun K hK => ?_) AllReadyH.nil
      rw [if_pos (by rfl)]
      go_wp2_with fail
      refine (sha_right.calls _ _ _ _ (right_6 _)).mono ?_
      rintro e w2 ⟨rfl, ⟨q_, rfl⟩⟩
      refine hK.out _ _ (hHeld) (fun hHeld2 => ?_)
      clear hK K hHeld
      have hHeld := hHeld2
      clear hHeld2
      try simp only [Act.put, List.setIfInBounds_toArray, List.set_cons_zero, List.set_cons_succ]
      refine wpAnyH_ready (rs := [5]) (by kernel_rfl) (by simp) ?_
      refine AllReadyH.cons (by simp only [List.getElem?_toArray, List.getElem?_cons_succ, List.getElem?_cons_zero]; rfl) (fun K hK => ?_) AllReadyH.nil
      rw [if_pos (by rfl)]
      go_wp2_with fail
      refine (sha_right.calls _ _ _ _ (right_11 _)).mono ?_
      rintro e w2 ⟨rfl, ⟨q_, rfl⟩⟩
      refine hK.out _ _ (hHeld) (fun hHeld2 => ?_)
      clear hK K hHeld
      have hHeld := hHeld2
      clear hHeld2
      try simp only [Act.put, List.setIfInBounds_toArray, List.set_cons_zero, List.set_cons_succ]
      refine wpAnyH_take (i := 6) (v := ?_) (by simp only [List.getElem?_toArray, List.getElem?_cons_succ, List.getElem?_cons_zero]; rfl) (by kernel_rfl) (by kernel_rfl) (by kernel_rfl) (by intro _ _ _ h; exact h) (Or.inl ⟨by rfl, ?hy⟩) (by assumption) ?_
      case hy => (intro W_ hW_; go_simp; first | done | with_reducible rfl)
      try simp only [Act.put, List.setIfInBounds_toArray, List.set_cons_zero, List.set_cons_succ]
      refine wpAnyH_ready (rs := [8]) (by kernel_rfl) (by simp) ?_
      refine AllReadyH.cons (by simp only [List.getElem?_toArray, List.getElem?_cons_succ, List.getElem?_cons_zero]; rfl) (fun K hK => ?_) AllReadyH.nil
      rw [if_pos (by rfl)]
      go_wp2_with fail
      refine (sha_right.calls _ _ _ _ (right_25 _)).mono ?_
      rintro e w2 ⟨rfl, ⟨q_, rfl⟩⟩
      refine hK.out _ _ (hHeld) (fun hHeld2 => ?_)
      clear hK K hHeld
      have hHeld := hHeld2
      clear hHeld2
      try simp only [Act.put, List.setIfInBounds_toArray, List.set_cons_zero, List.set_cons_succ]
      refine wpAnyH_take (i := 9) (v := ?_) (by simp only [List.getElem?_toArray, List.getElem?_cons_succ, List.getElem?_cons_zero]; rfl) (by kernel_rfl) (by kernel_rfl) (by kernel_rfl) (by intro _ _ _ h; exact h) (Or.inl ⟨by rfl, ?hy⟩) (by assumption) ?_
      case hy => (intro W_ hW_; go_simp; first | done | with_reducible rfl)
      try simp only [Act.put, List.setIfInBounds_toArray, List.set_cons_zero, List.set_cons_succ]
      refine wpAnyH_take (i := 10) (v := ?_) (by simp only [List.getElem?_toArray, List.getElem?_cons_succ, List.getElem?_cons_zero]; rfl) (by kernel_rfl) (by kernel_rfl) (by kernel_rfl) (by intro _ _ _ h; exact h) (Or.inl ⟨by rfl, ?hy⟩) (by assumption) ?_
      case hy => (intro W_ hW_; go_simp; first | done | with_reducible rfl)
      try simp only [Act.put, List.setIfInBounds_toArray, List.set_cons_zero, List.set_cons_succ]
      refine wpAnyH_take (i := 21) (v := ?_) (by simp only [List.getElem?_toArray, List.getElem?_cons_succ, List.getElem?_cons_zero]; rfl) (by kernel_rfl) (by kernel_rfl) (by kernel_rfl) (by intro _ _ _ h; exact h) (Or.inl ⟨by rfl, ?hy⟩) (by assumption) ?_
      case hy => (intro W_ hW_; go_simp; first | done | with_reducible rfl)
      try simp only [Act.put, List.setIfInBounds_toArray, List.set_cons_zero, List.set_cons_succ]
      refine wpAnyH_take (i := 27) (v := ?_) (by simp only [List.getElem?_toArray, List.getElem?_cons_succ, List.getElem?_cons_zero]; rfl) (by kernel_rfl) (by kernel_rfl) (by kernel_rfl) (by intro _ _ _ h; exact h) (Or.inl ⟨by rfl, ?hy⟩) (by assumption) ?_
      case hy => (intro W_ hW_; go_simp; first | done | with_reducible rfl)
      try simp only [Act.put, List.setIfInBounds_toArray, List.set_cons_zero, List.set_cons_succ]
      refine wpAnyH_take (i := 31) (v := ?_) (by simp only [List.getElem?_toArray, List.getElem?_cons_succ, List.getElem?_cons_zero]; rfl) (by kernel_rfl) (by kernel_rfl) (by kernel_rfl) (by intro _ _ _ h; exact h) (Or.inl ⟨by rfl, ?hy⟩) (by assumption) ?_
      case hy => (intro W_ hW_; go_simp; first | done | with_reducible rfl)
      try simp only [Act.put, List.setIfInBounds_toArray, List.set_cons_zero, List.set_cons_succ]
      refine wpAnyH_take (i := 32) (v := ?_) (by simp only [List.getElem?_toArray, List.getElem?_cons_succ, List.getElem?_cons_zero]; rfl) (by kernel_rfl) (by kernel_rfl) (by kernel_rfl) (by intro _ _ _ h; exact h) (Or.inl ⟨by rfl, ?hy⟩) (by assumption) ?_
      case hy => (intro W_ hW_; go_simp; first | done | with_reducible rfl)
      try simp only [Act.put, List.setIfInBounds_toArray, List.set_cons_zero, List.set_cons_succ]
      refine wpAnyH_done (by kernel_rfl) ?_ _
      go_wp2_with fail
      refine wp_region_held_drew (S := (fun W => Blk W (w1.heap.size + 1) 187 xs ∧ Blk W w1.heap.size 189 ws ∧ Blk W gq 189 ks)) (by kernel_rfl) (hHeld) (fun hHeld => ?_)
      refine wpAnyH_take (i := 0) (v := ?_) (by simp only [List.getElem?_toArray, List.getElem?_cons_succ, List.getElem?_cons_zero]; rfl) (by kernel_rfl) (by kernel_rfl) (by kernel_rfl) (by intro _ _ _ h; exact h) (Or.inl ⟨by rfl, ?hy⟩) (by assumption) ?_
      case hy => (intro W_ hW_; go_simp; first | done | with_reducible rfl)
      try simp only [Act.put, List.setIfInBounds_toArray, List.set_cons_zero, List.set_cons_succ]
      refine wpAnyH_take (i := 2) (v := ?_) (by simp only [List.getElem?_toArray, List.getElem?_cons_succ, List.getElem?_cons_zero]; rfl) (by kernel_rfl) (by kernel_rfl) (by kernel_rfl) (by intro _ _ _ h; exact h) (Or.inl ⟨by rfl, ?hy⟩) (by assumption) ?_
      case hy => (intro W_ hW_; go_simp; first | done | with_reducible rfl)
      try simp only [Act.put, List.setIfInBounds_toArray, List.set_cons_zero, List.set_cons_succ]
      refine wpAnyH_take (i := 5) (v := ?_) (by simp only [List.getElem?_toArray, List.getElem?_cons_succ, List.getElem?_cons_zero]; rfl) (by kernel_rfl) (by kernel_rfl) (by kernel_rfl) (by intro _ _ _ h; exact h) (Or.inl ⟨by rfl, ?hy⟩) (by assumption) ?_
      case hy => (intro W_ hW_; go_simp; first | done | with_reducible rfl)
      try simp only [Act.put, List.setIfInBounds_toArray, List.set_cons_zero, List.set_cons_succ]
      refine wpAnyH_take (i := 8) (v := ?_) (by simp only [List.getElem?_toArray, List.getElem?_cons_succ, List.getElem?_cons_zero]; rfl) (by kernel_rfl) (by kernel_rfl) (by kernel_rfl) (by intro _ _ _ h; exact h) (Or.inl ⟨by rfl, ?hy⟩) (by assumption) ?_
      case hy => (intro W_ hW_; go_simp; first | done | with_reducible rfl)
      try simp only [Act.put, List.setIfInBounds_toArray, List.set_cons_zero, List.set_cons_succ]
      refine wpAnyH_take (i := 9) (v := ?_) (by simp only [List.getElem?_toArray, List.getElem?_cons_succ, List.getElem?_cons_zero]; rfl) (by kernel_rfl) (by kernel_rfl) (by kernel_rfl) (by intro _ _ _ h; exact h) (Or.inl ⟨by rfl, ?hy⟩) (by assumption) ?_
      case hy => (intro W_ hW_; go_simp; first | done | with_reducible rfl)
      try simp only [Act.put, List.setIfInBounds_toArray, List.set_cons_zero, List.set_cons_succ]
      refine wpAnyH_take (i := 10) (v := ?_) (by simp only [List.getElem?_toArray, List.getElem?_cons_succ, List.getElem?_cons_zero]; rfl) (by kernel_rfl) (by kernel_rfl) (by kernel_rfl) (by intro _ _ _ h; exact h) (Or.inl ⟨by rfl, ?hy⟩) (by assumption) ?_
      case hy => (intro W_ hW_; have f_ := hW_.1.cell (i := 1) (by rw [HXL.out]; decide); go_simp; first | done | with_reducible rfl)
      try simp only [Act.put, List.setIfInBounds_toArray, List.set_cons_zero, List.set_cons_succ]
      refine wpAnyH_take (i := 11) (v := ?_) (by simp only [List.getElem?_toArray, List.getElem?_cons_succ, List.getElem?_cons_zero]; rfl) (by kernel_rfl) (by kernel_rfl) (by kernel_rfl) (by intro _ _ _ h; exact h) (Or.inl ⟨by rfl, ?hy⟩) (by assumption) ?_
      case hy => (intro W_ hW_; go_simp; first | done | with_reducible rfl)
      try simp only [Act.put, List.setIfInBounds_toArray, List.set_cons_zero, List.set_cons_succ]
      refine wpAnyH_take (i := 12) (v := ?_) (by simp only [List.getElem?_toArray, List.getElem?_cons_succ, List.getElem?_cons_zero]; rfl) (by kernel_rfl) (by kernel_rfl) (by kernel_rfl) (by intro _ _ _ h; exact h) (Or.inl ⟨by rfl, ?hy⟩) (by assumption) ?_
      case hy => (intro W_ hW_; go_simp; first | done | with_reducible rfl)
      try simp only [Act.put, List.setIfInBounds_toArray, List.set_cons_zero, List.set_cons_succ]
      refine wpAnyH_take (i := 13) (v := ?_) (by simp only [List.getElem?_toArray, List.getElem?_cons_succ, List.getElem?_cons_zero]; rfl) (by kernel_rfl) (by kernel_rfl) (by kernel_rfl) (by intro _ _ _ h; exact h) (Or.inl ⟨by rfl, ?hy⟩) (by assumption) ?_
      case hy => (intro W_ hW_; go_simp; first | done | with_reducible rfl)
      try simp only [Act.put, List.setIfInBounds_toArray, List.set_cons_zero, List.set_cons_succ]
      refine wpAnyH_take (i := 14) (v := ?_) (by simp only [List.getElem?_toArray, List.getElem?_cons_succ, List.getElem?_cons_zero]; rfl) (by kernel_rfl) (by kernel_rfl) (by kernel_rfl) (by intro _ _ _ h; exact h) (Or.inl ⟨by rfl, ?hy⟩) (by assumption) ?_
      case hy => (intro W_ hW_; have f_ := hW_.1.cell (i := 2) (by rw [HXL.out]; decide); go_simp; first | done | with_reducible rfl)
      try simp only [Act.put, List.setIfInBounds_toArray, List.set_cons_zero, List.set_cons_succ]
      refine wpAnyH_take (i := 15) (v := ?_) (by simp only [List.getElem?_toArray, List.getElem?_cons_succ, List.getElem?_cons_zero]; rfl) (by kernel_rfl) (by kernel_rfl) (by kernel_rfl) (by intro _ _ _ h; exact h) (Or.inl ⟨by rfl, ?hy⟩) (by assumption) ?_
      case hy => (intro W_ hW_; go_simp; first | done | with_reducible rfl)
      try simp only [Act.put, List.setIfInBounds_toArray, List.set_cons_zero, List.set_cons_succ]
      refine wpAnyH_take (i := 16) (v := ?_) (by simp only [List.getElem?_toArray, List.getElem?_cons_succ, List.getElem?_cons_zero]; rfl) (by kernel_rfl) (by kernel_rfl) (by kernel_rfl) (by intro _ _ _ h; exact h) (Or.inl ⟨by rfl, ?hy⟩) (by assumption) ?_
      case hy => (intro W_ hW_; go_simp; first | done | with_reducible rfl)
      try simp only [Act.put, List.setIfInBounds_toArray, List.set_cons_zero, List.set_cons_succ]
      refine wpAnyH_take (i := 17) (v := ?_) (by simp only [List.getElem?_toArray, List.getElem?_cons_succ, List.getElem?_cons_zero]; rfl) (by kernel_rfl) (by kernel_rfl) (by kernel_rfl) (by intro _ _ _ h; exact h) (Or.inl ⟨by rfl, ?hy⟩) (by assumption) ?_
      case hy => (intro W_ hW_; go_simp; first | done | with_reducible rfl)
      try simp only [Act.put, List.setIfInBounds_toArray, List.set_cons_zero, List.set_cons_succ]
      refine wpAnyH_take (i := 18) (v := ?_) (by simp only [List.getElem?_toArray, List.getElem?_cons_succ, List.getElem?_cons_zero]; rfl) (by kernel_rfl) (by kernel_rfl) (by kernel_rfl) (by intro _ _ _ h; exact h) (Or.inl ⟨by rfl, ?hy⟩) (by assumption) ?_
      case hy => (intro W_ hW_; have f_ := hW_.1.cell (i := 1) (by rw [HXL.out]; decide); go_simp; first | done | with_reducible rfl)
      try simp only [Act.put, List.setIfInBounds_toArray, List.set_cons_zero, List.set_cons_succ]
      refine wpAnyH_take (i := 19) (v := ?_) (by simp only [List.getElem?_toArray, List.getElem?_cons_succ, List.getElem?_cons_zero]; rfl) (by kernel_rfl) (by kernel_rfl) (by kernel_rfl) (by intro _ _ _ h; exact h) (Or.inl ⟨by rfl, ?hy⟩) (by assumption) ?_
      case hy => (intro W_ hW_; go_simp; first | done | with_reducible rfl)
      try simp only [Act.put, List.setIfInBounds_toArray, List.set_cons_zero, List.set_cons_succ]
      refine wpAnyH_take (i := 20) (v := ?_) (by simp only [List.getElem?_toArray, List.getElem?_cons_succ, List.getElem?_cons_zero]; rfl) (by kernel_rfl) (by kernel_rfl) (by kernel_rfl) (by intro _ _ _ h; exact h) (Or.inl ⟨by rfl, ?hy⟩) (by assumption) ?_
      case hy => (intro W_ hW_; have f_ := hW_.1.cell (i := 2) (by rw [HXL.out]; decide); go_simp; first | done | with_reducible rfl)
      try simp only [Act.put, List.setIfInBounds_toArray, List.set_cons_zero, List.set_cons_succ]
      refine wpAnyH_take (i := 21) (v := ?_) (by simp only [List.getElem?_toArray, List.getElem?_cons_succ, List.getElem?_cons_zero]; rfl) (by kernel_rfl) (by kernel_rfl) (by kernel_rfl) (by intro _ _ _ h; exact h) (Or.inl ⟨by rfl, ?hy⟩) (by assumption) ?_
      case hy => (intro W_ hW_; go_simp; first | done | with_reducible rfl)
      try simp only [Act.put, List.setIfInBounds_toArray, List.set_cons_zero, List.set_cons_succ]
      refine wpAnyH_take (i := 22) (v := ?_) (by simp only [List.getElem?_toArray, List.getElem?_cons_succ, List.getElem?_cons_zero]; rfl) (by kernel_rfl) (by kernel_rfl) (by kernel_rfl) (by intro _ _ _ h; exact h) (Or.inl ⟨by rfl, ?hy⟩) (by assumption) ?_
      case hy => (intro W_ hW_; go_simp; first | done | with_reducible rfl)
      try simp only [Act.put, List.setIfInBounds_toArray, List.set_cons_zero, List.set_cons_succ]
      refine wpAnyH_ready (rs := [1]) (by kernel_rfl) (by simp) ?_
      refine AllReadyH.cons (by simp only [List.getElem?_toArray, List.getElem?_cons_succ, List.getElem?_cons_zero]; rfl) (fun K hK => ?_) AllReadyH.nil
      rw [if_pos (by rfl)]
      go_wp2_with fail
      refine (sha_right.calls _ _ _ _ (right_2 _)).mono ?_
      rintro e w2 ⟨rfl, ⟨q_, rfl⟩⟩
      refine hK.out _ _ (hHeld) (fun hHeld2 => ?_)
      clear hK K hHeld
      have hHeld := hHeld2
      clear hHeld2
      try simp only [Act.put, List.setIfInBounds_toArray, List.set_cons_zero, List.set_cons_succ]
      refine wpAnyH_ready (rs := [3]) (by kernel_rfl) (by simp) ?_
      refine AllReadyH.cons (by simp only [List.getElem?_toArray, List.getElem?_cons_succ, List.getElem?_cons_zero]; rfl) (fun K hK => ?_) AllReadyH.nil
      rw [if_pos (by rfl)]
      go_wp2_with fail
      refine (sha_right.calls _ _ _ _ (right_13 _)).mono ?_
      rintro e w2 ⟨rfl, ⟨q_, rfl⟩⟩
      refine hK.out _ _ (hHeld) (fun hHeld2 => ?_)
      clear hK K hHeld
      have hHeld := hHeld2
      clear hHeld2
      try simp only [Act.put, List.setIfInBounds_toArray, List.set_cons_zero, List.set_cons_succ]
      refine wpAnyH_take (i := 4) (v := ?_) (by simp only [List.getElem?_toArray, List.getElem?_cons_succ, List.getElem?_cons_zero]; rfl) (by kernel_rfl) (by kernel_rfl) (by kernel_rfl) (by intro _ _ _ h; exact h) (Or.inl ⟨by rfl, ?hy⟩) (by assumption) ?_
      case hy => (intro W_ hW_; go_simp; first | done | with_reducible rfl)
      try simp only [Act.put, List.setIfInBounds_toArray, List.set_cons_zero, List.set_cons_succ]
      refine wpAnyH_ready (rs := [6]) (by kernel_rfl) (by simp) ?_
      refine AllReadyH.cons (by simp only [List.getElem?_toArray, List.getElem?_cons_succ, List.getElem?_cons_zero]; rfl) (fun K hK => ?_) AllReadyH.nil
      rw [if_pos (by rfl)]
      go_wp2_with fail
      refine (sha_right.calls _ _ _ _ (right_22 _)).mono ?_
      rintro e w2 ⟨rfl, ⟨q_, rfl⟩⟩
      refine hK.out _ _ (hHeld) (fun hHeld2 => ?_)
      clear hK K hHeld
      have hHeld := hHeld2
      clear hHeld2
      try simp only [Act.put, List.setIfInBounds_toArray, List.set_cons_zero, List.set_cons_succ]
      refine wpAnyH_take (i := 7) (v := ?_) (by simp only [List.getElem?_toArray, List.getElem?_cons_succ, List.getElem?_cons_zero]; rfl) (by kernel_rfl) (by kernel_rfl) (by kernel_rfl) (by intro _ _ _ h; exact h) (Or.inl ⟨by rfl, ?hy⟩) (by assumption) ?_
      case hy => (intro W_ hW_; go_simp; first | done | with_reducible rfl)
      try simp only [Act.put, List.setIfInBounds_toArray, List.set_cons_zero, List.set_cons_succ]
      refine wpAnyH_take (i := 23) (v := ?_) (by simp only [List.getElem?_toArray, List.getElem?_cons_succ, List.getElem?_cons_zero]; rfl) (by kernel_rfl) (by kernel_rfl) (by kernel_rfl) (by intro _ _ _ h; exact h) (Or.inl ⟨by rfl, ?hy⟩) (by assumption) ?_
      case hy => (intro W_ hW_; go_simp; first | done | with_reducible rfl)
      try simp only [Act.put, List.setIfInBounds_toArray, List.set_cons_zero, List.set_cons_succ]
      refine wpAnyH_take (i := 24) (v := ?_) (by simp only [List.getElem?_toArray, List.getElem?_cons_succ, List.getElem?_cons_zero]; rfl) (by kernel_rfl) (by kernel_rfl) (by kernel_rfl) (by intro _ _ _ h; exact h) (Or.inl ⟨by rfl, ?hy⟩) (by assumption) ?_
      case hy => (intro W_ hW_; go_simp; first | done | with_reducible rfl)
      try simp only [Act.put, List.setIfInBounds_toArray, List.set_cons_zero, List.set_cons_succ]
      refine wpAnyH_done (by kernel_rfl) ?_ _
      go_wp2_with fail
      clear hHeld
      go_still_tail 2, (by kernel_rfl)
      have hxl : (xs.map (Value.int .u32)).length = 8 := by rw [List.length_map]; exact HXL.out
      refine wpList_copy_splice rfl (.tmp 82) (.tmp 83) 225 225 rfl 26 Try.underlying225 info38s (some ⟨w1.heap.size + 1, 1, none⟩) (some ⟨w1.heap.size + 1, 0, none⟩) 7 7 7 8 (by rfl) (by rfl) (w1.heap.size + 1) 1 (xs.map (Value.int .u32)) 187 (by exact HX.out) ((xs.take 7).map (Value.int .u32)) ?c1 ?c2 ?c3 ?c4 (w1.heap.size + 1) _ (Below.refl _ _) (Nat.le_refl _) ?c5
      case c1 => rw [List.length_map, List.length_take, HXL.out]; rfl
      case c2 =>
        intro _
        refine ⟨rfl, _, rfl, fun j v hj => ?_⟩
        obtain ⟨hj7, rfl⟩ := take7_get hj
        have := HX.out.cell (i := j) (by rw [HXL.out]; omega)
        rw [show (⟨w1.heap.size + 1, 0, none⟩ : Addr).add j = ⟨w1.heap.size + 1, j, none⟩ from by simp [Addr.add]; intro h; exact h.symm]
        exact this
      case c3 => rw [List.length_map, List.length_take, HXL.out, hxl]; decide
      case c4 => intro v hv; simp only [List.mem_map] at hv; obtain ⟨z, _, rfl⟩ := hv; rfl
      case c5 =>
        intro w3 hh hb3
        obtain ⟨ys, hys⟩ : ∃ ys, ys = splice xs 1 (xs.take 7) := ⟨_, rfl⟩
        have HYE := Aside0.mk hys
        have HYL : Aside0 (ys.length = 8) := ⟨by rw [hys, length_splice _ _ _ (by rw [List.length_take, HXL.out]; decide)]; exact HXL.out⟩
        have HY : Aside0 (Blk w3 (w1.heap.size + 1) 187 ys) := ⟨by unfold Blk; rw [hys, splice_map]; exact hh⟩
        have HW3 : Aside0 (Blk w3 w1.heap.size 189 ws) := ⟨Blk.below (by exact HW.out) hb3 (Nat.lt_succ_self _)⟩
        have HL3 : Aside0 (Below w.heap.size w w3) := ⟨Below.trans (by exact ⟨HL.out.os, HL.out.tape, HL.out.output, HL.out.size, HL.out.block⟩) (hb3.mono (Nat.le_succ_of_le HB1.out.size))⟩
        have c0 := HY.out.cell (i := 0) (by rw [HYL.out]; decide)
        have c4 := HY.out.cell (i := 4) (by rw [HYL.out]; decide)
        have f0 := HY.out.free 0
        have f4 := HY.out.free 4
        clear hh hb3 hys hxl
        go_wp2_with fail
        go_roundg (64 - (i + 1))
        case measure => have := HI.out; omega
        case rel =>
          refine ⟨i + 1, shaRound xs (ks.getD i 0) (ws.getD i 0), by simp, ⟨rfl, by omega⟩, ⟨by rw [HXE.out]; rfl⟩, ⟨?_⟩, ⟨?_⟩, ⟨?_⟩, ⟨?_⟩⟩
          · unfold shaRound
            rw [← HYE.out, List.length_set, List.length_set]
            exact HYL.out
          · unfold shaRound
            rw [← HYE.out]
            exact (HY.out.set 0 _).set 4 _
          · exact Blk.other (Blk.other HW3.out _ _ (Nat.ne_of_lt (Nat.lt_succ_self _))) _ _ (Nat.ne_of_lt (Nat.lt_succ_self _))
          · exact below_set (below_set HL3.out (Nat.le_succ_of_le HB1.out.size)) (Nat.le_succ_of_le HB1.out.size)
    · have d1 : decide (i < 64) = false := decide_eq_false hi
      have d2 : decide ((i : Int) < 64) = false := decide_eq_false (by omega)
      obtain rfl : i = 64 := by have := HI.out; omega
      clear HI hi
      go_wp2_with fail
      go_loopg [95] 8 (fun k v95 w2 => ∃ (j : Nat), v95 = .int .i64 (j : Int) ∧ Aside0 (k = 8 - j ∧ j ≤ 8) ∧ Aside0 (Blk w2 gs 187 (addUp ss xs j)) ∧ Aside0 (Blk w2 (w1.heap.size + 1) 187 xs) ∧ Aside0 (w.grownBy w2 (some gs)))
      case atStart => exact ⟨0, rfl, ⟨by omega, by omega⟩, ⟨Blk.below HS0.out HL.out (Blk.lt HS0.out)⟩, HX, ⟨grown_below HL.out⟩⟩
      case round =>
        have HGX : Aside0 (w1.heap.size + 1 ≠ gs) := ⟨by have := Blk.lt HS0.out; have := HB1.out.size; omega⟩
        clear HX HW HL d1 d2
        obtain ⟨j, rfl, HJ, HS, HX, HG⟩ := hrel
        by_cases hj : j < 8
        · have d1 : decide (j < 8) = true := decide_eq_true hj
          have d2 : decide ((j : Int) < 8) = true := decide_eq_true (by omega)
          have pi : (0 ≤ (j : Int)) = True := eq_true (by omega)
          have qi : ((j : Int) < 8) = True := eq_true (by omega)
          have hwr : IntKind.i64.wrap ((j : Int) + 1) = ((j + 1 : Nat) : Int) := by rw [i64_w]; unfold wrap64; omega
          have y1 : wr.drew.cell? ⟨gs, j, none⟩ = _ := HS.out.cell (i := j) (by rw [addUp_length, HSL.out]; exact hj)
          have y2 : wr.cell? ⟨gs, j, none⟩ = _ := HS.out.cell (i := j) (by rw [addUp_length, HSL.out]; exact hj)
          have z1 : wr.drew.cell? ⟨w1.heap.size + 1, j, none⟩ = _ := HX.out.cell (i := j) (by rw [HXL.out]; exact hj)
          have z2 : wr.cell? ⟨w1.heap.size + 1, j, none⟩ = _ := HX.out.cell (i := j) (by rw [HXL.out]; exact hj)
          have y3 : wr.drew.frozen? ⟨gs, j, none⟩ = false := HS.out.free j
          have y4 : wr.frozen? ⟨gs, j, none⟩ = false := HS.out.free j
          go_wp2_with fail
          go_still_tail 11, (by kernel_rfl)
          go_wp2_with fail
          go_roundg (8 - (j + 1))
          case measure => have := HJ.out; omega
          case rel =>
            refine ⟨j + 1, by simp, ⟨rfl, by omega⟩, ⟨?_⟩, ⟨?_⟩, ⟨?_⟩⟩
            · exact HS.out.set j _
            · exact Blk.other HX.out _ _ HGX.out
            · exact grown_drew (grown_set HG.out j _)
        · have d1 : decide (j < 8) = false := decide_eq_false hj
          have d2 : decide ((j : Int) < 8) = false := decide_eq_false (by omega)
          obtain rfl : j = 8 := by have := HJ.out; omega
          go_wp2_with fail
          go_end0
          exact ⟨rfl, by rw [← HXE.out]; exact HS.out, HG.out⟩

end Go.Proofs.Ytchaegfdcdlfaaa.X

namespace Go.Proofs.Ytchaegfdcdlfaaa.X
set_option linter.unusedVariables false
set_option linter.unusedSimpArgs false
open Go.RowKit Go.Proofs.YtchaegfdcdlfaaaW.PrintWords Go.Proofs.YtchaegfdcdlfaaaW.PrintLast Go.Proofs.YtchaegfdcdlfaaaW.PrintMore

theorem hinfo5 : (Try.prog.info? 5).map (fun i => (i.zero, i.size, i.bytes)) = some (some (.int .u8 0), 1, 1) := by kernel_rfl
abbrev RdB (w : World) (A : Option Addr) (n : Nat) (l : List Int) : Prop := Kd.C (Kd.int .u8) w A n l
theorem row_slice {w : World} {base : Nat} {ok : Nat → Prop} {v : Value} {l : List Int} (h : Kd.R (Kd.int .u8) 5 w base ok v l) : ∃ A c, v = .slice A l.length c ∧ l.length ≤ c ∧ RdB w A l.length l := Kd.R_reads h
theorem rdb_take {w : World} {A : Option Addr} {l : List Int} (h : RdB w A l.length l) (m : Nat) (hm : m ≤ l.length) : RdB w A m (l.take m) := by
  obtain ⟨i0, hi0, _, hsz0, _⟩ := info_parts hinfo5
  obtain ⟨_, hA, _⟩ := print_take_of (P := Try.prog) (Value.int .u8) 0 40 5 .i64 Try.underlying40 hi0 hsz0 A l.length l (m : Int) (by omega) (by omega) (Nat.le_refl _)
  have := hA w (Kd.reads_of_C h)
  simp only [Int.toNat_natCast] at this
  rw [List.length_take, Nat.min_eq_left hm] at this
  exact Kd.C_of_reads (h1 := fun _ => rfl) this
theorem rdb_drop (A : Option Addr) (c : Nat) (l : List Int) (m : Nat) (hm : m ≤ l.length) (hc : l.length ≤ c) :
    ∃ A' : Option Addr, (∀ W : World, (Instr.slice 40 (.slice A l.length c) (some (.int .i64 (m : Int))) none none).run Try.prog W = .ok (.slice A' (l.length - m) (c - m)) W) ∧ (∀ w : World, RdB w A l.length l → RdB w A' (l.length - m) (l.drop m)) ∧ l.length - m ≤ c - m := by
  obtain ⟨i0, hi0, _, hsz0, _⟩ := info_parts hinfo5
  obtain ⟨A', hcut, hA, hC⟩ := print_drop_of (P := Try.prog) (Value.int .u8) 0 40 5 .i64 Try.underlying40 hi0 hsz0 A c l (m : Int) (by omega) (by omega) hc
  simp only [Int.toNat_natCast, List.length_drop] at hcut hA hC
  exact ⟨A', hcut, fun w h => Kd.C_of_reads (h1 := fun _ => rfl) (hA w (Kd.reads_of_C h)), hC⟩
theorem rdb_cut (A : Option Addr) (c : Nat) (l : List Int) (m : Nat) (hm : m ≤ l.length) (hc : l.length ≤ c) :
    ∀ W : World, (Instr.slice 40 (.slice A l.length c) none (some (.int .i64 (m : Int))) none).run Try.prog W = .ok (.slice A m c) W := by
  obtain ⟨i0, hi0, _, hsz0, _⟩ := info_parts hinfo5
  obtain ⟨h, _, _⟩ := print_take_of (P := Try.prog) (Value.int .u8) 0 40 5 .i64 Try.underlying40 hi0 hsz0 A c l (m : Int) (by omega) (by omega) hc
  simp only [Int.toNat_natCast, List.length_take, Nat.min_eq_left hm] at h
  exact h
theorem rdb_below {w w' : World} {A : Option Addr} {n : Nat} {l : List Int} (h : RdB w A n l) (hb : Below w.heap.size w w') : RdB w' A n l := Kd.C_below h hb
theorem rdb_drewN {w : World} {A : Option Addr} {n : Nat} {l : List Int} (h : RdB w A n l) (q : Nat) : RdB (w.drewN q) A n l := Kd.C_drewN h q
theorem rdb_nil {w : World} {n : Nat} {l : List Int} (h : RdB w none n l) : n = 0 := by
  rcases Nat.eq_zero_or_pos n with h0 | h0
  · exact h0
  · obtain ⟨ad, e, _⟩ := Kd.at_int h 0 (by omega) (by omega)
    cases e
theorem own_row {w : World} {base n : Nat} {v : Value} {l : List Int} (h : w.ownsRow base 5 1 v n (nums .u8 l)) : ∃ A c, v = .slice A n c ∧ n ≤ c ∧ RdB w A n l := by
  have hn : n = l.length := by have := h.1; simp [nums] at this; omega
  subst hn
  exact row_slice (Kd.R_of_own (ok := fun _ => True) h (fun _ _ => trivial))

def Blk8 (w : World) (g : Nat) (t : TypeId) (xs : List Int) : Prop := w.heap[g]? = some (.cells (xs.map (Value.int .u8)).toArray t (0, 0))
theorem Blk8.cell {w : World} {g : Nat} {t : TypeId} {xs : List Int} (h : Blk8 w g t xs) {i : Nat} (hi : i < xs.length) : w.cell? ⟨g, i, none⟩ = some (.int .u8 (xs.getD i 0)) := by
  rw [cell_of_row w g i _ t (0, 0) h]
  simp [hi]
theorem Blk8.set {w : World} {g : Nat} {t : TypeId} {xs : List Int} (h : Blk8 w g t xs) (i : Nat) (v : Int) : Blk8 (w.setCell ⟨g, i, none⟩ (.int .u8 v)) g t (xs.set i v) := by
  rw [setCell_eq_setRow w g i _ t (0, 0) _ h]
  unfold Blk8
  rw [setRow_heap w g _ _ t (0, 0) h]
  congr 2
  simp [List.map_set]
theorem Blk8.free {w : World} {g : Nat} {t : TypeId} {xs : List Int} (h : Blk8 w g t xs) (i : Nat) : w.frozen? ⟨g, i, none⟩ = false := by
  unfold Blk8 at h
  simp [World.frozen?, h]
theorem Blk8.below {B : Nat} {w w' : World} {g : Nat} {t : TypeId} {xs : List Int} (h : Blk8 w g t xs) (hb : Below B w w') (hg : g < B) : Blk8 w' g t xs := (hb.block g hg).trans h
theorem Blk8.lt {w : World} {g : Nat} {t : TypeId} {xs : List Int} (h : Blk8 w g t xs) : g < w.heap.size := (Array.getElem?_eq_some_iff.1 h).1
def cells8 (xs : List Int) : Array Value := (xs.map (Value.int .u8)).toArray
theorem cells8_size (xs : List Int) : (cells8 xs).size = xs.length := by simp [cells8]
theorem cells8_all (xs : List Int) : (cells8 xs).all (·.oneCell') = true := by simp [cells8, Value.oneCell']

theorem setRow_alloc2 (w : World) (old cs : Array Value) (t : TypeId) (B : Obj) : ((w.alloc (.cells old t (0, 0))).alloc B).setRow w.heap.size cs = (w.alloc (.cells cs t (0, 0))).alloc B := by
  unfold World.setRow World.alloc
  congr 1
  apply Array.ext
  · simp
  · intro k h1 h2
    simp only [Array.getElem_modify, Array.getElem_push]
    simp at h1
    by_cases hk : k < w.heap.size
    · rw [if_neg (by omega)]
      simp [hk, Nat.lt_succ_of_lt hk]
    · by_cases hk2 : k = w.heap.size
      · subst hk2
        simp
      · rw [if_neg (by omega)]
        simp [hk, show ¬ k < w.heap.size + 1 by omega]
theorem store_new2 (w : World) (old cs : Array Value) (t : TypeId) (B : Obj) (hs : old.size = cs.size) (h1 : cs.all (·.oneCell') = true) :
    (storeCells ⟨w.heap.size, 0, none⟩ cs.toList).run Try.prog ((w.alloc (.cells old t (0, 0))).alloc B) = .ok () ((w.alloc (.cells cs t (0, 0))).alloc B) := by
  have := run_storeCells_from (P := Try.prog) w.heap.size t cs.toList 0 old ((w.alloc (.cells old t (0, 0))).alloc B) (heap_alloc2_old w _ _) (by simp; omega) (fun v hv => (Array.all_eq_true_iff_forall_mem.1 h1) v (by simpa using hv))
  simp only [List.take_zero, List.nil_append, Array.toArray_toList] at this
  rw [setRow_alloc2] at this
  exact this
theorem begun_call' (w : World) : Calls Try.prog 137 #[] w fun e w' => e = .returned (.agg (cellsOf begunL)) ∧ Below w.heap.size w w' := begun_call w
theorem roots_call' (w : World) : Calls Try.prog 138 #[] w fun e w' => e = .returned (.agg (cellsOf rootsL)) ∧ Below w.heap.size w w' := roots_call w
def nextState (ss l : List Int) : List Int := addUp ss (shaRounds ss (schedAt l 64) rootsL 64) 8
def stateAt (m : List Int) : Nat → List Int
  | 0 => begunL
  | j + 1 => nextState (stateAt m j) ((m.drop (64 * j)).take 64)
theorem stateAt_length (m : List Int) : ∀ j, (stateAt m j).length = 8
  | 0 => rfl
  | j + 1 => by rw [stateAt, nextState, addUp_length]; exact stateAt_length m j
theorem reads_lit (W : World) (y : Int) : ReadsInt (W.alloc (.cells #[.int .u8 y] 5)) .u8 (some ⟨W.heap.size, 0, none⟩) 1 [y] := by
  refine ⟨rfl, by decide, fun _ => ⟨_, rfl, fun j hj => ?_⟩⟩
  obtain rfl : j = 0 := by omega
  rw [add_plain, cell_of_row _ _ _ _ _ _ (heap_alloc_new W _)]
  rfl
theorem app_one {w0 W : World} {ops : Array Oper} {rest : List Oper} {o : Oper} {a : Act} {Q : Exit → Act → World → Prop} (base : Nat) (hgd : o.guard = none) (s x : Operand)
    (ho : o.op = .call { callee := .builtin .append, args := #[s, x], argTypes := #[40, 40] }) (v : Value) (xs : List Int) (y : Int) (hs : a.eval s = v) (hx : a.eval x = .slice (some ⟨W.heap.size, 0, none⟩) 1 1)
    (HO : W.ownsRow base 5 1 v xs.length (nums .u8 xs)) (HB : Below base w0 W) (hbase : base ≤ W.heap.size) (hl : xs.length ≤ 1000000000)
    (h : ∀ v1 w1, Aside0 (w1.ownsRow base 5 1 v1 (xs ++ [y]).length (nums .u8 (xs ++ [y]))) → Aside0 (Below base w0 w1) → wpList Try.prog ops Q rest (a.put o.dst v1) w1) :
    wpList Try.prog ops Q (o :: rest) a (W.alloc (.cells #[.int .u8 y] 5)) :=
  print_append_row (w0 := w0) base hgd s x 40 5 .u8 1 ho Try.underlying40 hinfo5 (by decide) v xs [y] (some ⟨W.heap.size, 0, none⟩) 1 1 hs hx (own_alloc HO _) (reads_lit W y) (HB.alloc hbase _) (by simp; omega) (by omega)
    fun v1 w1 h1 h2 _ _ => h v1 w1 ⟨h1⟩ ⟨h2⟩
set_option maxHeartbeats 1000000 in
set_option maxRecDepth 100000 in
theorem clone_some (ad : Addr) (c : Nat) (l : List Int) (w : World) (hr : RdB w (some ad) l.length l) (hc : l.length ≤ c) (hl : l.length ≤ 1000000000) :
    Calls Try.prog 90 #[.slice (some ad) l.length c] w fun e w' => ∃ v, e = .returned v ∧ Aside0 (w'.ownsRow w.heap.size 5 1 v l.length (nums .u8 l)) ∧ Aside0 (Below w.heap.size w w') := by
  have heq : ∀ W : World, (binOp .eql 40 (.slice (some ad) l.length c) (.slice none 0 0)).run Try.prog W = .ok (.bool false) W := fun W => run_eql_slice_nil W 40 5 _ _ _ Try.underlying40
  have HR := Aside0.mk hr
  clear hr
  go_enter Try.func90, Try.ntmps90
  go_wp2_with (first
    | ((with_reducible refine gate_builtin (b := .append) (xs := #[.tmp 5, .tmp 6]) rfl ?_); at_builtin; refine print_append_row (w0 := w) w.heap.size rfl _ _ 40 5 .u8 1 rfl Try.underlying40 hinfo5 (by decide) _ [] l (some ad) l.length c rfl rfl (by exact own_lit w w.heap.size 5 .u8 [] (Nat.le_refl _) (by decide)) (Kd.reads_of_C (rdb_below HR.out (below_alloc (Below.refl _ _) _))) (below_alloc (Below.refl _ _) _) (by simp) (by simp; omega) ?_; intro v1 w3 ho3 hB3 hg3 _)
    | fail)
  go_ret
  exact ⟨_, rfl, ⟨by simpa using ho3⟩, ⟨hB3⟩⟩
theorem clone_none (c : Nat) (w : World) :
    Calls Try.prog 90 #[.slice none 0 c] w fun e w' => ∃ v, e = .returned v ∧ Aside0 (w'.ownsRow w.heap.size 5 1 v 0 (nums .u8 [])) ∧ Aside0 (Below w.heap.size w w') := by
  have heq : ∀ W : World, (binOp .eql 40 (.slice none 0 c) (.slice none 0 0)).run Try.prog W = .ok (.bool true) W := fun W => run_eql_slice_nil W 40 5 _ _ _ Try.underlying40
  go_enter Try.func90, Try.ntmps90
  go_wp2_with fail
  go_ret
  exact ⟨_, rfl, ⟨own_nil _ _ _ _⟩, ⟨Below.refl _ _⟩⟩
theorem clone_call (A : Option Addr) (c : Nat) (l : List Int) (w : World) (hr : RdB w A l.length l) (hc : l.length ≤ c) (hl : l.length ≤ 1000000000) :
    Calls Try.prog 90 #[.slice A l.length c] w fun e w' => ∃ v, e = .returned v ∧ Aside0 (w'.ownsRow w.heap.size 5 1 v l.length (nums .u8 l)) ∧ Aside0 (Below w.heap.size w w') := by
  cases A with
  | some ad => exact clone_some ad c l w hr hc hl
  | none =>
    have h0 := rdb_nil hr
    obtain rfl : l = [] := List.eq_nil_of_length_eq_zero h0
    exact clone_none c w

end Go.Proofs.Ytchaegfdcdlfaaa.X

namespace Go.Proofs.Ytchaegfdcdlfaaa.X
set_option linter.unusedVariables false
set_option linter.unusedSimpArgs false
open Go.RowKit Go.Proofs.YtchaegfdcdlfaaaW.PrintWords Go.Proofs.YtchaegfdcdlfaaaW.PrintLast Go.Proofs.YtchaegfdcdlfaaaW.PrintMore

def padN (n : Nat) : Nat := (119 - n % 64) % 64
theorem padN_at (n : Nat) : (n + 1 + padN n) % 64 = 56 := by unfold padN; omega
theorem padN_lt (n : Nat) : padN n < 64 := by unfold padN; omega
theorem padN_not (n j : Nat) (h : j < padN n) : (n + 1 + j) % 64 ≠ 56 := by unfold padN at h; omega
def msg1 (l : List Int) (j : Nat) : List Int := (l ++ [128]) ++ List.replicate j 0
theorem msg1_length (l : List Int) (j : Nat) : (msg1 l j).length = l.length + 1 + j := by simp [msg1]; omega
theorem msg1_snoc (l : List Int) (j : Nat) : msg1 l j ++ [0] = msg1 l (j + 1) := by simp [msg1, List.replicate_succ']
def lenByte (n i : Nat) : Int := (n : Int) * 8 / 2 ^ (8 * (7 - i)) % 256
def outByte (st : List Int) (i : Nat) : Int := st.getD (i / 4) 0 / 2 ^ (24 - 8 * (i % 4)) % 256
def outAt (st : List Int) : Nat → List Int
  | 0 => List.replicate 32 0
  | i + 1 => (outAt st i).set i (outByte st i)
theorem outAt_length (st : List Int) : ∀ i, (outAt st i).length = 32
  | 0 => by simp [outAt]
  | i + 1 => by simp [outAt, outAt_length st i]
def msg2 (l : List Int) (j : Nat) : List Int := msg1 l (padN l.length) ++ (List.range j).map (lenByte l.length)
theorem msg2_length (l : List Int) (j : Nat) : (msg2 l j).length = l.length + 1 + padN l.length + j := by simp [msg2, msg1_length]
theorem msg2_snoc (l : List Int) (j : Nat) : msg2 l j ++ [lenByte l.length j] = msg2 l (j + 1) := by simp [msg2, List.range_succ]
def shaOf (l : List Int) : List Int := outAt (stateAt (msg2 l 8) ((msg2 l 8).length / 64)) 32

set_option maxHeartbeats 4000000 in
set_option maxRecDepth 100000 in
theorem sum_call (A : Option Addr) (c : Nat) (l : List Int) (w : World) (hr : RdB w A l.length l) (hc : l.length ≤ c) (hl : l.length ≤ 100000000) :
    Calls Try.prog 82 #[.slice A l.length c] w fun e w' => e = .returned (.agg (cells8 (shaOf l))) ∧ Below w.heap.size w w' := by
  have HR := Aside0.mk hr
  clear hr
  go_enter Try.func82, Try.ntmps82
  go_wp2_with fail
  refine (clone_call A c l _ (rdb_below HR.out (below_alloc (Below.refl _ _) _)) hc (by omega)).mono ?_
  rintro e w1 ⟨v, rfl, HO, HB⟩
  have HBw : Aside0 (Below w.heap.size w w1) := ⟨(below_alloc (Below.refl _ _) _).trans (HB.out.mono (by simp))⟩
  have HZ : Aside0 (Blk8 w1 w.heap.size 28 (List.replicate 32 0)) := ⟨Blk8.below (w := w.alloc _) (heap_alloc_new w _) HB.out (by simp)⟩
  have HO1 : Aside0 (w1.ownsRow (w.heap.size + 1) 5 1 v l.length (nums .u8 l)) := ⟨by simpa using HO.out⟩
  have HS1 : Aside0 (w.heap.size + 1 ≤ w1.heap.size) := ⟨by simpa using HB.out.size⟩
  clear HB HO
  go_wp2_with (first
    | ((with_reducible refine gate_builtin (b := .append) (xs := #[.tmp 10, .tmp 11]) rfl ?_); at_builtin; refine app_one (w0 := w1) (w.heap.size + 1) rfl (.tmp 10) (.tmp 11) rfl v l 128 (by rfl) (by rfl) HO1.out (Below.refl _ _) HS1.out (by omega) ?_; intro v2 w2 HO2 HB2)
    | fail)
  clear HO1
  go_loopg [3] (padN l.length) (fun k v3 w' => ∃ (j m : Nat), Aside0 (k = padN l.length - j ∧ j ≤ padN l.length) ∧ Aside0 (m = l.length + 1 + j) ∧ Aside0 (w'.ownsRow (w.heap.size + 1) 5 1 v3 m (nums .u8 (msg1 l j))) ∧ Aside0 (Below (w.heap.size + 1) w1 w'))
  case atStart => exact ⟨0, l.length + 1, ⟨by omega, by omega⟩, ⟨by omega⟩, ⟨by simpa [msg1] using HO2.out⟩, HB2⟩
  case round =>
    clear HO2 HB2
    obtain ⟨j, m, HJ, HM, HO, HB⟩ := hrel
    obtain ⟨A3, c3, rfl⟩ := own_slice HO.out
    have hm : m ≤ 200000000 := by have := HM.out; have := HJ.out; have := padN_lt l.length; omega
    by_cases hj : j < padN l.length
    · have e1 : ((m : Int) % 64 != 56) = true := by
        have := padN_not l.length j hj
        have := HM.out
        simp only [bne_iff_ne, ne_eq]
        omega
      have HML : Aside0 ((msg1 l j).length = m) := ⟨by rw [msg1_length]; exact HM.out.symm⟩
      go_wp2_with (first
        | ((with_reducible refine gate_builtin (b := .append) (xs := #[.tmp 17, .tmp 18]) rfl ?_); at_builtin; refine app_one (w0 := w1) (w.heap.size + 1) rfl (.tmp 17) (.tmp 18) rfl _ (msg1 l j) 0 (by rfl) (by rfl) (by rw [HML.out]; exact HO.out) HB.out (Nat.le_trans HS1.out HB.out.size) (by rw [HML.out]; omega) ?_; intro v4 w4 HO4 HB4)
        | fail)
      go_roundg (padN l.length - (j + 1))
      case measure => have := HJ.out; omega
      case rel => exact ⟨j + 1, m + 1, ⟨rfl, by omega⟩, ⟨by have := HM.out; omega⟩, ⟨by have h_ := HO4.out; rw [msg1_snoc, msg1_length] at h_; have h2_ := HM.out; rw [show m + 1 = l.length + 1 + (j + 1) by omega]; exact h_⟩, HB4⟩
    · obtain rfl : j = padN l.length := by have := HJ.out; omega
      have e1 : ((m : Int) % 64 != 56) = false := by
        have := padN_at l.length
        have := HM.out
        simp only [bne_eq_false_iff_eq]
        omega
      clear hj
      go_wp2_with fail
      go_loopg [3, 20] 8 (fun k v3 v20 w' => ∃ (i p : Nat), v20 = .int .i64 (i : Int) ∧ Aside0 (k = 8 - i ∧ i ≤ 8) ∧ Aside0 (p = m + i) ∧ Aside0 (w'.ownsRow (w.heap.size + 1) 5 1 v3 p (nums .u8 (msg2 l i))) ∧ Aside0 (Below (w.heap.size + 1) w1 w'))
      case atStart => exact ⟨0, m, rfl, ⟨by omega, by omega⟩, ⟨rfl⟩, ⟨by simpa [msg2] using HO.out⟩, HB⟩
      case round =>
        clear HO HB e1
        obtain ⟨i, p, rfl, HI, HP, HO, HB⟩ := hrel
        obtain ⟨A4, c4, rfl⟩ := own_slice HO.out
        by_cases hi : i < 8
        · have d1 : decide (i < 8) = true := decide_eq_true hi
          have d2 : decide ((i : Int) < 8) = true := decide_eq_true (by omega)
          have HML : Aside0 ((msg2 l i).length = p) := ⟨by rw [msg2_length, HP.out, HM.out]⟩
          have hp : p ≤ 300000000 := by have := HP.out; omega
          have b0 : 0 ≤ (i : Int) := by omega
          have b1 : (i : Int) < 8 := by omega
          have hwr : IntKind.i64.wrap ((i : Int) + 1) = ((i + 1 : Nat) : Int) := by rw [i64_w]; unfold wrap64; omega
          go_wp2_with (first
            | ((with_reducible refine gate_builtin (b := .append) (xs := #[.tmp 23, .tmp 33]) rfl ?_); at_builtin; refine app_one (w0 := w1) (w.heap.size + 1) rfl (.tmp 23) (.tmp 33) rfl _ (msg2 l i) (lenByte l.length i) (by rfl) (by rfl) (by rw [HML.out]; exact HO.out) HB.out (Nat.le_trans HS1.out HB.out.size) (by rw [HML.out]; omega) ?_; intro v4 w4 HO4 HB4)
            | fail)
          go_roundg (8 - (i + 1))
          case measure => have := HI.out; omega
          case rel => exact ⟨i + 1, p + 1, by simp, ⟨rfl, by omega⟩, ⟨by have := HP.out; omega⟩, ⟨by have h_ := HO4.out; rw [msg2_snoc, msg2_length] at h_; have h2_ := HM.out; have h3_ := HP.out; rw [show p + 1 = l.length + 1 + padN l.length + (i + 1) by omega]; exact h_⟩, HB4⟩
        · have d1 : decide (i < 8) = false := decide_eq_false hi
          have d2 : decide ((i : Int) < 8) = false := decide_eq_false (by omega)
          obtain rfl : i = 8 := by have := HI.out; omega
          have HN : Aside0 (p % 64 = 0) := ⟨by have := HP.out; have := HM.out; have := padN_at l.length; omega⟩
          have HPL : Aside0 ((msg2 l 8).length = p) := ⟨by rw [msg2_length, HP.out, HM.out]⟩
          obtain ⟨msg, hmsg⟩ : ∃ msg, msg2 l 8 = msg := ⟨_, rfl⟩
          rw [hmsg] at HPL HO
          have HMSG := Aside0.mk hmsg
          clear hmsg hi HI
          obtain ⟨A5, c5, he5, hc5, hR5⟩ := own_row HO.out
          obtain ⟨rfl, rfl⟩ : A4 = A5 ∧ c4 = c5 := by injection he5 with h1 _ h3; exact ⟨h1, h3⟩
          have HR5 := Aside0.mk hR5
          clear he5 hR5 HO
          go_wp2_with fail
          refine (begun_call' _).mono ?_
          rintro e w5 ⟨rfl, hb5⟩
          have HB5 := Aside0.mk hb5
          clear hb5
          go_wp2_with fail
          refine (roots_call' _).mono ?_
          rintro e w6 ⟨rfl, hb6⟩
          have HB6 : Aside0 (Below (w.heap.size + 1) w1 w6) := ⟨(HB.out.trans (HB5.out.mono (Nat.le_trans HS1.out HB.out.size))).trans (hb6.mono (Nat.le_trans (Nat.le_trans HS1.out HB.out.size) HB5.out.size))⟩
          have HR6 : Aside0 (RdB w6 A4 p msg) := ⟨rdb_below (rdb_below HR5.out HB5.out) hb6⟩
          clear hb6 HB5 HR5
          have hz8 : (cellsOf begunL).size = 8 := by kernel_rfl
          have hz64 : (cellsOf rootsL).size = 64 := by kernel_rfl
          have hst1 := store_new2 w6 #[.int .u32 0, .int .u32 0, .int .u32 0, .int .u32 0, .int .u32 0, .int .u32 0, .int .u32 0, .int .u32 0] (cellsOf begunL) 187 (.cells #[.int .u32 0, .int .u32 0, .int .u32 0, .int .u32 0, .int .u32 0, .int .u32 0, .int .u32 0, .int .u32 0, .int .u32 0, .int .u32 0, .int .u32 0, .int .u32 0, .int .u32 0, .int .u32 0, .int .u32 0, .int .u32 0, .int .u32 0, .int .u32 0, .int .u32 0, .int .u32 0, .int .u32 0, .int .u32 0, .int .u32 0, .int .u32 0, .int .u32 0, .int .u32 0, .int .u32 0, .int .u32 0, .int .u32 0, .int .u32 0, .int .u32 0, .int .u32 0, .int .u32 0, .int .u32 0, .int .u32 0, .int .u32 0, .int .u32 0, .int .u32 0, .int .u32 0, .int .u32 0, .int .u32 0, .int .u32 0, .int .u32 0, .int .u32 0, .int .u32 0, .int .u32 0, .int .u32 0, .int .u32 0, .int .u32 0, .int .u32 0, .int .u32 0, .int .u32 0, .int .u32 0, .int .u32 0, .int .u32 0, .int .u32 0, .int .u32 0, .int .u32 0, .int .u32 0, .int .u32 0, .int .u32 0, .int .u32 0, .int .u32 0, .int .u32 0] 189 (0, 0)) (by rw [hz8]; kernel_rfl) (cellsOf_all _)
          have hst2 : (storeCells ⟨w6.heap.size + 1, 0, none⟩ (cellsOf rootsL).toList).run Try.prog ((w6.alloc (.cells (cellsOf begunL) 187 (0, 0))).alloc (.cells #[.int .u32 0, .int .u32 0, .int .u32 0, .int .u32 0, .int .u32 0, .int .u32 0, .int .u32 0, .int .u32 0, .int .u32 0, .int .u32 0, .int .u32 0, .int .u32 0, .int .u32 0, .int .u32 0, .int .u32 0, .int .u32 0, .int .u32 0, .int .u32 0, .int .u32 0, .int .u32 0, .int .u32 0, .int .u32 0, .int .u32 0, .int .u32 0, .int .u32 0, .int .u32 0, .int .u32 0, .int .u32 0, .int .u32 0, .int .u32 0, .int .u32 0, .int .u32 0, .int .u32 0, .int .u32 0, .int .u32 0, .int .u32 0, .int .u32 0, .int .u32 0, .int .u32 0, .int .u32 0, .int .u32 0, .int .u32 0, .int .u32 0, .int .u32 0, .int .u32 0, .int .u32 0, .int .u32 0, .int .u32 0, .int .u32 0, .int .u32 0, .int .u32 0, .int .u32 0, .int .u32 0, .int .u32 0, .int .u32 0, .int .u32 0, .int .u32 0, .int .u32 0, .int .u32 0, .int .u32 0, .int .u32 0, .int .u32 0, .int .u32 0, .int .u32 0] 189 (0, 0))) = .ok () ((w6.alloc (.cells (cellsOf begunL) 187 (0, 0))).alloc (.cells (cellsOf rootsL) 189 (0, 0))) := by
            have h_ := store_new (w6.alloc (.cells (cellsOf begunL) 187 (0, 0))) #[.int .u32 0, .int .u32 0, .int .u32 0, .int .u32 0, .int .u32 0, .int .u32 0, .int .u32 0, .int .u32 0, .int .u32 0, .int .u32 0, .int .u32 0, .int .u32 0, .int .u32 0, .int .u32 0, .int .u32 0, .int .u32 0, .int .u32 0, .int .u32 0, .int .u32 0, .int .u32 0, .int .u32 0, .int .u32 0, .int .u32 0, .int .u32 0, .int .u32 0, .int .u32 0, .int .u32 0, .int .u32 0, .int .u32 0, .int .u32 0, .int .u32 0, .int .u32 0, .int .u32 0, .int .u32 0, .int .u32 0, .int .u32 0, .int .u32 0, .int .u32 0, .int .u32 0, .int .u32 0, .int .u32 0, .int .u32 0, .int .u32 0, .int .u32 0, .int .u32 0, .int .u32 0, .int .u32 0, .int .u32 0, .int .u32 0, .int .u32 0, .int .u32 0, .int .u32 0, .int .u32 0, .int .u32 0, .int .u32 0, .int .u32 0, .int .u32 0, .int .u32 0, .int .u32 0, .int .u32 0, .int .u32 0, .int .u32 0, .int .u32 0, .int .u32 0] (cellsOf rootsL) 189 (by rw [hz64]; kernel_rfl) (cellsOf_all _)
            rw [show (w6.alloc (.cells (cellsOf begunL) 187 (0, 0))).heap.size = w6.heap.size + 1 from Array.size_push ..] at h_
            exact h_
          go_wp2_with fail
          clear hst1 hst2 hz8 hz64
          have HS7 : Aside0 (Blk ((w6.alloc (.cells (cellsOf begunL) 187 (0, 0))).alloc (.cells (cellsOf rootsL) 189 (0, 0))) w6.heap.size 187 begunL) := ⟨heap_alloc2_old w6 _ _⟩
          have HK7 : Aside0 (Blk ((w6.alloc (.cells (cellsOf begunL) 187 (0, 0))).alloc (.cells (cellsOf rootsL) 189 (0, 0))) (w6.heap.size + 1) 189 rootsL) := ⟨heap_alloc2_new w6 _ _⟩
          have HB7 : Aside0 (Below w6.heap.size w6 ((w6.alloc (.cells (cellsOf begunL) 187 (0, 0))).alloc (.cells (cellsOf rootsL) 189 (0, 0)))) := ⟨below_alloc (below_alloc (Below.refl _ _) _) _⟩
          go_loopg [3] (p / 64) (fun k v3 w' => ∃ (j n : Nat) (q : List Int) (A : Option Addr) (c : Nat), v3 = .slice A n c ∧ Aside0 (k = p / 64 - j ∧ j ≤ p / 64) ∧ Aside0 (n ≤ c) ∧ Aside0 (n = p - 64 * j) ∧ Aside0 (q = msg.drop (64 * j)) ∧ Aside0 (q.length = n) ∧ Aside0 (RdB w6 A n q) ∧ Aside0 (Blk w' w6.heap.size 187 (stateAt msg j)) ∧ Aside0 (Blk w' (w6.heap.size + 1) 189 rootsL) ∧ Aside0 (Below w6.heap.size w6 w'))
          case atStart => exact ⟨0, p, msg, A4, c4, rfl, ⟨by omega, by omega⟩, ⟨hc5⟩, ⟨by omega⟩, ⟨by simp⟩, HPL, HR6, HS7, HK7, HB7⟩
          case round =>
            clear HS7 HK7 HB7 d1 d2 hc5 HR6
            obtain ⟨j, n, q, A, c, rfl, HJ3, HC, HN3, HQ, HQL, HR, HS, HK, HL⟩ := hrel
            have hn : n ≤ 300000000 := by have := HN3.out; have := HP.out; omega
            by_cases hj : j < p / 64
            · have hn64 : 64 ≤ n := by have := HN3.out; have := HN.out; omega
              have d1 : decide (0 < n) = true := decide_eq_true (by omega)
              have d2 : decide (0 < (n : Int)) = true := decide_eq_true (by omega)
              have hcut := rdb_cut A c q 64 (by rw [HQL.out]; exact hn64) (by rw [HQL.out]; exact HC.out)
              obtain ⟨A', hdrop, hA', hc'⟩ := rdb_drop A c q 64 (by rw [HQL.out]; exact hn64) (by rw [HQL.out]; exact HC.out)
              rw [HQL.out] at hcut hdrop hc'
              replace hcut : ∀ W : World, (Instr.slice 40 (.slice A n c) none (some (.int .i64 64)) none).run Try.prog W = .ok (.slice A 64 c) W := hcut
              replace hdrop : ∀ W : World, (Instr.slice 40 (.slice A n c) (some (.int .i64 64)) none none).run Try.prog W = .ok (.slice A' (n - 64) (c - 64)) W := hdrop
              have HA' : Aside0 (RdB w6 A' (n - 64) (q.drop 64)) := ⟨by have := hA' w6 (by rw [HQL.out]; exact HR.out); rw [HQL.out] at this; exact this⟩
              have HT : Aside0 (RdB w6 A 64 (q.take 64)) := ⟨rdb_take (by rw [HQL.out]; exact HR.out) 64 (by rw [HQL.out]; exact hn64)⟩
              have HTL : Aside0 ((q.take 64).length = 64) := ⟨by rw [List.length_take, HQL.out]; omega⟩
              clear hA'
              have HC' := Aside0.mk hc'
              clear hc'
              go_wp2_with fail
              refine (take_call w6.heap.size (w6.heap.size + 1) A c (q.take 64) (stateAt msg j) rootsL _ HS.out (stateAt_length _ _) HK.out rfl (by omega) (by rw [HTL.out]; exact rdb_below HT.out HL.out) (by have := HC.out; omega) HTL.out).mono ?_
              rintro e w8 ⟨rfl, hs8, hg8⟩
              have HS8 := Aside0.mk hs8
              have HK8 : Aside0 (Blk w8 (w6.heap.size + 1) 189 rootsL) := ⟨(hg8.block _ (Blk.lt HK.out) (by simp)).trans HK.out⟩
              have HL8 : Aside0 (Below w6.heap.size w6 w8) := ⟨pw_below_grown HL.out _ HL.out.size hg8 (by intro k hk; injection hk with hk; omega)⟩
              clear hs8 hg8
              go_wp2_with fail
              go_roundg (p / 64 - (j + 1))
              case measure => have := HJ3.out; omega
              case rel =>
                refine ⟨j + 1, n - 64, q.drop 64, A', c - 64, rfl, ⟨rfl, by omega⟩, HC', ⟨by have := HN3.out; omega⟩, ⟨by rw [HQ.out, List.drop_drop]; congr 1⟩, ⟨by rw [List.length_drop, HQL.out]⟩, HA', ⟨?_⟩, HK8, HL8⟩
                have := HS8.out
                rw [HQ.out] at this
                exact this
            · obtain rfl : j = p / 64 := by have := HJ3.out; omega
              obtain rfl : n = 0 := by have := HN3.out; have := HN.out; omega
              have HST : Aside0 ((stateAt msg (p / 64)).length = 8) := ⟨stateAt_length _ _⟩
              obtain ⟨st, hst⟩ : ∃ st, st = stateAt msg (p / 64) := ⟨_, rfl⟩
              have HSTE := Aside0.mk hst
              rw [← hst] at HS HST
              have HB8 : Aside0 (Below (w.heap.size + 1) w1 wr) := ⟨HB6.out.trans (HL.out.mono (Nat.le_trans HS1.out HB6.out.size))⟩
              have HSZ8 : Aside0 (w6.heap.size < wr.heap.size) := ⟨Blk.lt HS.out⟩
              clear hst hj HJ3 hn HN3
              go_wp2_with fail
              obtain ⟨wo, rfl⟩ : ∃ wo : World, wo = wr := ⟨_, rfl⟩
              go_loopg [46] 32 (fun k v46 w' => ∃ (i : Nat), v46 = .int .i64 (i : Int) ∧ Aside0 (k = 32 - i ∧ i ≤ 32) ∧ Aside0 (Blk8 w' wo.heap.size 28 (outAt st i)) ∧ Aside0 (Blk w' w6.heap.size 187 st) ∧ Aside0 (Below (w.heap.size + 1) w1 w'))
              case atStart => exact ⟨0, rfl, ⟨by omega, by omega⟩, ⟨heap_alloc_new wo _⟩, ⟨Blk.below HS.out (below_alloc (Below.refl _ _) _) HSZ8.out⟩, ⟨HB8.out.alloc (Nat.le_trans HS1.out HB8.out.size) _⟩⟩
              case round =>
                clear HS HK HL HB8
                obtain ⟨i, rfl, HI, HO, HS, HB⟩ := hrel
                by_cases hi : i < 32
                · have d1 : decide (i < 32) = true := decide_eq_true hi
                  have d2 : decide ((i : Int) < 32) = true := decide_eq_true (by omega)
                  have hwr : IntKind.i64.wrap ((i : Int) + 1) = ((i + 1 : Nat) : Int) := by rw [i64_w]; unfold wrap64; omega
                  have b0 : 0 ≤ (i : Int) := by omega
                  have b1 : (i : Int) < 32 := by omega
                  have pi : (0 ≤ (i : Int)) = True := eq_true (by omega)
                  have qi : ((i : Int) < 32) = True := eq_true (by omega)
                  have y1 : wr.drew.cell? ⟨w6.heap.size, i / 4, none⟩ = _ := HS.out.cell (i := i / 4) (by rw [HST.out]; omega)
                  have y2 : wr.cell? ⟨w6.heap.size, i / 4, none⟩ = _ := HS.out.cell (i := i / 4) (by rw [HST.out]; omega)
                  have y3 : wr.cell? ⟨wo.heap.size, i, none⟩ = _ := HO.out.cell (i := i) (by rw [outAt_length]; exact hi)
                  have y4 : wr.frozen? ⟨wo.heap.size, i, none⟩ = false := HO.out.free i
                  clear y1
                  go_wp2_with fail
                  go_roundg (32 - (i + 1))
                  case measure => have := HI.out; omega
                  case rel =>
                    refine ⟨i + 1, by simp, ⟨rfl, by omega⟩, ⟨?_⟩, ⟨?_⟩, ⟨?_⟩⟩
                    · exact HO.out.set i (outByte st i)
                    · exact Blk.other HS.out _ _ (Nat.ne_of_lt HSZ8.out)
                    · exact HB.out.setCell (Nat.le_trans HS1.out (Nat.le_trans HB6.out.size (Nat.le_of_lt HSZ8.out))) _
                · obtain rfl : i = 32 := by have := HI.out; omega
                  have d1 : decide (32 < 32) = false := by decide
                  have HZ2 : Aside0 (Blk8 wr w.heap.size 28 (List.replicate 32 0)) := ⟨Blk8.below HZ.out HB.out (Nat.lt_succ_self _)⟩
                  obtain ⟨cs, hcs⟩ : ∃ cs, cs = cells8 (outAt st 32) := ⟨_, rfl⟩
                  have hsz : cs.size = 32 := by rw [hcs, cells8_size, outAt_length]
                  have hall : cs.all (·.oneCell') = true := by rw [hcs]; exact cells8_all _
                  have hB : wr.heap[wo.heap.size]? = some (.cells cs 28 (0, 0)) := by rw [hcs]; exact HO.out
                  have HCS : Aside0 (cs = cells8 (shaOf l)) := ⟨by rw [hcs]; unfold shaOf; rw [HMSG.out, HPL.out, ← HSTE.out]⟩
                  clear hcs
                  have HBB := Aside0.mk hB
                  have HSZ := Aside0.mk hsz
                  have HALL := Aside0.mk hall
                  have hst : (storeCells ⟨w.heap.size, 0, none⟩ cs.toList).run Try.prog wr = .ok () (wr.setRow w.heap.size cs) := by
                    have := run_storeCells_from (P := Try.prog) w.heap.size 28 cs.toList 0 _ wr HZ2.out (by simp [hsz]) (fun v hv => (Array.all_eq_true_iff_forall_mem.1 hall) v (by simpa using hv))
                    simpa using this
                  have HROW := Aside0.mk (setRow_heap wr w.heap.size _ cs 28 (0, 0) HZ2.out)
                  have HBL : Aside0 (Below w.heap.size w (wr.setRow w.heap.size cs)) := ⟨(HBw.out.trans (HB.out.mono (Nat.le_succ _))).trans ⟨rfl, rfl, rfl, by rw [setRow_size]; exact Nat.le_refl _, fun k hk => by rw [setRow_other _ _ _ _ (by omega)]⟩⟩
                  clear hB hall hi
                  go_wp2_with (first
                    | ((with_reducible refine gate_dst (N := 62) rfl ?_); refine wpList_load_row rfl 28 (.tmp 7) rfl wo.heap.size rfl 28 cs (0, 0) _ HBB.out rfl (by kernel_rfl) (by rw [HSZ.out]; kernel_rfl) ?_)
                    | fail)
                  refine bodyPost_ret (v := .agg cs) ?_ rfl ⟨by rw [HCS.out], HBL.out⟩
                  exact results_cell_row (P := Try.prog) Try.results82 _ _ w.heap.size 28 cs (0, 0) _ rfl HROW.out rfl (by kernel_rfl) (by rw [hsz]; kernel_rfl)

end Go.Proofs.Ytchaegfdcdlfaaa.X

namespace Go.Proofs.Ytchaegfdcdlfaaa.X
set_option linter.unusedVariables false
set_option linter.unusedSimpArgs false
open Go.RowKit Go.Proofs.YtchaegfdcdlfaaaW.PrintWords Go.Proofs.YtchaegfdcdlfaaaW.PrintLast Go.Proofs.YtchaegfdcdlfaaaW.PrintMore

theorem part8 {P : Program} {w : World} {e : TypeId} (he : P.underlying e = some (.int .u8)) {a : List Int} {j : Nat} (hj : j < a.length) : (part e (cells8 a) (j * 1)).run P w = .ok (.int .u8 (a.getD j 0)) w := by
  simp [part, isAgg, run_underlying he, cells8, hj]
theorem eqItems8 {P : Program} {w : World} (d : Nat) {e : TypeId} (he : P.underlying e = some (.int .u8)) (hc : P.cellsOf e = 1) (a b : List Int) (n : Nat) (ha : a.length = n) (hb : b.length = n) :
    ∀ js : List Nat, (∀ j ∈ js, j < n) → (Op.eqItems (d + 1) e (P.cellsOf e) (cells8 a) (cells8 b) js).run P w = .ok (js.all fun j => a.getD j 0 == b.getD j 0) w := by
  intro js
  induction js with
  | nil => intro _; simp [Op.eqItems]
  | cons j js ih =>
    intro h
    have hj := h j (by simp)
    simp only [Op.eqItems, Sem.run_bind, hc]
    rw [part8 he (by omega), Result.andThen_ok, part8 he (by omega), Result.andThen_ok, run_equalIn_int w d e .u8 .u8 _ _ he, Result.andThen_ok]
    have h2 := ih (fun k hk => h k (by simp [hk]))
    rw [hc] at h2
    cases hq : (a.getD j 0 == b.getD j 0)
    · rw [List.all_cons, hq]; simp
    · rw [List.all_cons, hq, Bool.true_and, ← h2]; simp
theorem all_eq (a b : List Int) (n : Nat) (ha : a.length = n) (hb : b.length = n) : ((List.range n).all fun j => a.getD j 0 == b.getD j 0) = (a == b) := by
  rw [Bool.eq_iff_iff, List.all_eq_true, beq_iff_eq]
  constructor
  · intro h
    apply List.ext_getElem (by omega)
    intro i h1 h2
    have := h i (by simp; omega)
    simpa [h1, h2] using this
  · rintro rfl
    simp
theorem equal8 {P : Program} {w : World} {t e : TypeId} {n : Nat} {i : TypeInfo} (hu : P.underlying t = some (.array n e)) (hi : P.info? e = some i) (he : P.underlying e = some (.int .u8)) (hc : P.cellsOf e = 1) (a b : List Int) (ha : a.length = n) (hb : b.length = n) :
    (Op.equalIn 10000 t (.agg (cells8 a)) (.agg (cells8 b))).run P w = .ok (a == b) w := by
  rw [run_equalIn_array w 9999 _ _ hu hi, eqItems8 9998 he hc a b n ha hb _ (fun j hj => List.mem_range.1 hj), all_eq a b n ha hb]
theorem eql8 {P : Program} {w : World} {t e : TypeId} {n : Nat} {i : TypeInfo} (hu : P.underlying t = some (.array n e)) (hi : P.info? e = some i) (he : P.underlying e = some (.int .u8)) (hc : P.cellsOf e = 1) (a b : List Int) (ha : a.length = n) (hb : b.length = n) :
    (binOp .eql t (.agg (cells8 a)) (.agg (cells8 b))).run P w = .ok (.bool (a == b)) w := by
  rw [run_eql_struct, equal8 hu hi he hc a b ha hb]; rfl
theorem neq8 {P : Program} {w : World} {t e : TypeId} {n : Nat} {i : TypeInfo} (hu : P.underlying t = some (.array n e)) (hi : P.info? e = some i) (he : P.underlying e = some (.int .u8)) (hc : P.cellsOf e = 1) (a b : List Int) (ha : a.length = n) (hb : b.length = n) :
    (binOp .neq t (.agg (cells8 a)) (.agg (cells8 b))).run P w = .ok (.bool (!(a == b))) w := by
  rw [run_neq_struct, equal8 hu hi he hc a b ha hb]; rfl

end Go.Proofs.Ytchaegfdcdlfaaa.X

namespace Go.Proofs.Ytchaegfdcdlfaaa.X
set_option linter.unusedVariables false
set_option linter.unusedSimpArgs false
open Go.RowKit Go.Proofs.YtchaegfdcdlfaaaW.PrintWords Go.Proofs.YtchaegfdcdlfaaaW.PrintLast Go.Proofs.YtchaegfdcdlfaaaW.PrintMore

theorem Blk8.load {P : Program} {w : World} {g : Nat} {t : TypeId} {xs : List Int} (h : Blk8 w g t xs) (n : Nat) (hn : xs.length = n) : (loadCellsFrom ⟨g, 0, none⟩ 0 n #[]).run P w = .ok (cells8 xs) w := by
  have := run_loadCells_list (P := P) w ⟨g, 0, none⟩ (cells8 xs).toList (fun j v hv => by
    rw [add_plain, cell_of_row w g j _ t (0, 0) h]
    simpa [cells8] using hv)
  simpa [loadCells, cells8, hn] using this
theorem Blk8.reads {w : World} {g : Nat} {t : TypeId} {xs : List Int} (h : Blk8 w g t xs) (hm : xs.length ≤ 1000000000) : RdB w (some ⟨g, 0, none⟩) xs.length xs :=
  Kd.C_of_reads (d := (0 : Int)) (h1 := fun _ => rfl) ⟨rfl, by omega, fun _ => ⟨_, rfl, fun j hj => by rw [add_plain]; exact h.cell hj⟩⟩
theorem rdb_bytes {P : Program} {w : World} {A : Option Addr} {l : List Int} (h : RdB w A l.length l) (c : Nat) : (Extern.Bytes.bytesOf (.slice A l.length c)).run P w = .ok ⟨(Lib.bytesOf l).toArray⟩ w := by
  cases A with
  | none =>
    have h0 := rdb_nil h
    obtain rfl : l = [] := List.eq_nil_of_length_eq_zero h0
    simp [Extern.Bytes.bytesOf, Lib.bytesOf]
    rfl
  | some ad =>
    have := Lib.run_loadBytesX (P := P) w l ad .empty (fun j x hj => by
      have hjl : j < l.length := (List.getElem?_eq_some_iff.1 hj).1
      obtain ⟨ad2, e, hc⟩ := Kd.at_int h (j : Int) (by omega) (by omega)
      obtain rfl : ad = ad2 := by injection e
      rw [Int.toNat_natCast] at hc
      rw [hc]
      simp [rd, hj])
    simp only [Extern.Bytes.bytesOf]
    rw [this]
    simp [show ByteArray.empty.data = #[] from rfl]
theorem exec_load_row {P : Program} {a : Act} {o : Oper} {W : World} (ty : TypeId) (x : Operand) (ho : o.op = .load ty x) (g : Nat) (hx : a.eval x = .pointer (some ⟨g, 0, none⟩)) (t : TypeId) (cs : Array Value) (fr : Nat × Nat) (d : TypeDesc) (hg : W.heap[g]? = some (.cells cs t fr))
    (hu : P.underlying ty = some d) (hd : (match d with | .struct _ | .array _ _ => true | _ => false) = true) (hi : (P.info? ty).map (·.size) = some cs.size) : (execOp a.eval o).run P W = .ok (.value (.agg cs)) W := by
  have h := run_loadVar_row (P := P) W g t ty cs fr d hg hu hd hi
  simp only [execOp, ho, hx, Instr.loadAt, Instr.sureAddr, Sem.run_bind, Sem.run_pure, Result.andThen_ok, h]
theorem wpList_load_row_g {P : Program} {ops : Array Oper} {rest : List Oper} {o : Oper} {a : Act} {w : World} {Q : Exit → Act → World → Prop} (hgd : Region.wanted o (yielded ops a.tmps) = true) (ty : TypeId) (x : Operand) (ho : o.op = .load ty x)
    (g : Nat) (hx : a.eval x = .pointer (some ⟨g, 0, none⟩)) (t : TypeId) (cs : Array Value) (fr : Nat × Nat) (d : TypeDesc) (hg : w.heap[g]? = some (.cells cs t fr))
    (hu : P.underlying ty = some d) (hd : (match d with | .struct _ | .array _ _ => true | _ => false) = true) (hi : (P.info? ty).map (·.size) = some cs.size)
    (h : wpList P ops Q rest (a.put o.dst (.agg cs)) w) : wpList P ops Q (o :: rest) a w := by
  unfold wpList
  rw [if_pos hgd]
  exact .inl (wp_load_row ty x ho g hx t cs fr d hg hu hd hi h)
def cmpL (a b : List Int) : Int := Lib.compareBytes (Lib.bytesOf a) (Lib.bytesOf b)
def lessL (a b : List Int) : Bool := !(a == b) && decide (cmpL a b < 0)

set_option maxHeartbeats 1000000 in
set_option maxRecDepth 100000 in
theorem compare_call (A B : Option Addr) (c d : Nat) (a b : List Int) (w : World) (ha : RdB w A a.length a) (hb : RdB w B b.length b) :
    Calls Try.prog 151 #[.slice A a.length c, .slice B b.length d] w fun e w' => e = .returned (.int .i64 (cmpL a b)) ∧ w = w' := by
  have hrun : (Extern.BytealgCompare.compare #[.slice A a.length c, .slice B b.length d]).run Try.prog w = .ok (.int .i64 (cmpL a b)) w := by
    change Sem.run Try.prog (do pure (goInt (Extern.BytealgCompare.cmp (← Extern.Bytes.bytesOf (.slice A a.length c)) (← Extern.Bytes.bytesOf (.slice B b.length d))))) w = _
    simp only [Sem.run_bind, rdb_bytes ha, rdb_bytes hb, Sem.run_pure, Result.andThen]
    rw [Lib.cmp_eq]
    rfl
  have HRUN := Aside0.mk hrun
  clear hrun ha hb
  go_enter Try.func151, Try.ntmps151
  go_wp2
  rw [run_callFunc_extern Try.func175 (by kernel_rfl) (by kernel_rfl) (by kernel_rfl) (e := Extern.BytealgCompare.compare) (by kernel_rfl), HRUN.out]
  simp only [Result.andThen]
  rw [Oper.upon_value]
  go_wp2
  go_ret
  exact ⟨rfl, rfl⟩

theorem cells5 : Try.prog.cellsOf 5 = 1 := by kernel_rfl
theorem Try.info5i : Try.prog.info? 5 = some Try.t5 := by kernel_rfl
theorem shaOf_length (l : List Int) : (shaOf l).length = 32 := outAt_length _ _
theorem store8 {w : World} {g : Nat} {t : TypeId} {old xs : List Int} (h : Blk8 w g t old) (hl : old.length = xs.length) : (storeCells ⟨g, 0, none⟩ (cells8 xs).toList).run Try.prog w = .ok () (w.setRow g (cells8 xs)) := by
  have := run_storeCells_from (P := Try.prog) g t (cells8 xs).toList 0 _ w h (by simp [cells8, hl]) (fun v hv => (Array.all_eq_true_iff_forall_mem.1 (cells8_all xs)) v (by simpa using hv))
  simpa using this
theorem below_row {w W : World} {g : Nat} {cs : Array Value} (h : Below w.heap.size w W) (hg : w.heap.size ≤ g) : Below w.heap.size w (W.setRow g cs) :=
  h.trans ⟨rfl, rfl, rfl, by rw [setRow_size]; exact Nat.le_refl _, fun k hk => by rw [setRow_other _ _ _ _ (by omega)]⟩
end Go.Proofs.Ytchaegfdcdlfaaa.X

namespace Go.Proofs.Ytchaegfdcdlfaaa.X
set_option linter.unusedVariables false
set_option linter.unusedSimpArgs false
open Go.RowKit Go.Maps Go.Proofs.YtchaegfdcdlfaaaW.PrintWords Go.Proofs.YtchaegfdcdlfaaaW.PrintLast Go.Proofs.YtchaegfdcdlfaaaW.PrintMore

def arrK (n : Nat) : Kd (List Int) where
  sz := n
  E := []
  K := fun _ x cs => cs = nums .u8 x ∧ x.length = n
  M := fun _ _ _ x cs => cs = nums .u8 x ∧ x.length = n
  K_len := fun h => by rw [h.1]; simp [nums, h.2]
  K_one := fun h u hu => by
    rw [h.1] at hu
    simp only [nums, List.mem_map] at hu
    obtain ⟨q, _, rfl⟩ := hu
    rfl
  K_below := fun _ h => h
  K_of_M := fun h => h
  M_mono := fun _ h => h
  M_bound := fun h => h
  M_move := fun _ h => h
  M_lower := fun _ h => h

abbrev Sg := Int × List Int
def sgL (s : Sg) : List Value := .int .u32 s.1 :: nums .u8 s.2
def sgA (s : Sg) : Array Value := (sgL s).toArray
structure SgOk (s : Sg) : Prop where
  len : s.2.length = 32
  wf8 : ∀ x ∈ s.2, (Lit.int .u8 x).wf = true
  wf32 : (Lit.int .u32 s.1).wf = true
def sgK : Kd Sg := Kd.pair (Kd.int .u32) (arrK 32)
theorem sgK_sz : sgK.sz = 33 := rfl
theorem sgL_length {s : Sg} (h : s.2.length = 32) : (sgL s).length = 33 := by simp [sgL, nums, h]
theorem sgK_K {w : World} {s : Sg} {cs : List Value} : sgK.K w s cs ↔ cs = sgL s ∧ s.2.length = 32 := by
  constructor
  · rintro ⟨c0, c1, rfl, h0, h1, h2⟩
    obtain rfl : c0 = [.int .u32 s.1] := h0
    subst h1
    exact ⟨rfl, h2⟩
  · rintro ⟨rfl, h⟩
    exact ⟨[.int .u32 s.1], _, rfl, rfl, rfl, h⟩
theorem sgK_M {w : World} {base : Nat} {ok : Nat → Prop} {s : Sg} (h : s.2.length = 32) : sgK.M w base ok s (sgL s) := ⟨[.int .u32 s.1], _, rfl, rfl, rfl, h⟩

theorem run_loadVar_cells {P : Program} (w : World) (a : Addr) (ty : TypeId) (cs : Array Value) (d : TypeDesc) (hc : ∀ j v, cs[j]? = some v → w.cell? (a.add j) = some v)
    (hu : P.underlying ty = some d) (hd : (match d with | .struct _ | .array _ _ => true | _ => false) = true) (hi : (P.info? ty).map (·.size) = some cs.size) :
    (loadVar ty a).run P w = .ok (.agg cs) w := by
  have hl := run_loadCells_list (P := P) w a cs.toList (fun j v hv => hc j v (by simpa using hv))
  simp only [Array.length_toList, Array.toArray_toList] at hl
  cases hq : P.info? ty with
  | none => simp [hq] at hi
  | some i =>
    have hs : i.size = cs.size := by simpa [hq] using hi
    have hagg : (isAgg ty).run P w = .ok true w := by
      unfold isAgg
      rw [Sem.run_bind, run_underlying hu w]
      cases d <;> simp_all
    simp [loadVar, Sem.run_bind, hagg, sizeOf, typeInfo, hq, hs, hl]
theorem wp_load_cells {P : Program} {o : Oper} {a : Act} {w : World} {K : Act → World → Prop} {Q : Exit → Act → World → Prop} (ty : TypeId) (x : Operand) (ho : o.op = .load ty x)
    (ad : Addr) (hx : a.eval x = .pointer (some ad)) (cs : Array Value) (d : TypeDesc) (hc : ∀ j v, cs[j]? = some v → w.cell? (ad.add j) = some v)
    (hu : P.underlying ty = some d) (hd : (match d with | .struct _ | .array _ _ => true | _ => false) = true) (hi : (P.info? ty).map (·.size) = some cs.size)
    (h : K (a.put o.dst (.agg cs)) w) : o.wp P a w K Q := by
  unfold Oper.wp execOp
  simp only [ho, hx, Instr.loadAt, Instr.sureAddr, Sem.run_bind, Sem.run_pure, Result.andThen_ok, run_loadVar_cells w ad ty cs d hc hu hd hi]
  exact h
theorem wpList_load_cells {P : Program} {ops : Array Oper} {rest : List Oper} {o : Oper} {a : Act} {w : World} {Q : Exit → Act → World → Prop} (hgd : o.guard = none) (ty : TypeId) (x : Operand) (ho : o.op = .load ty x)
    (ad : Addr) (hx : a.eval x = .pointer (some ad)) (cs : Array Value) (d : TypeDesc) (hc : ∀ j v, cs[j]? = some v → w.cell? (ad.add j) = some v)
    (hu : P.underlying ty = some d) (hd : (match d with | .struct _ | .array _ _ => true | _ => false) = true) (hi : (P.info? ty).map (·.size) = some cs.size)
    (h : wpList P ops Q rest (a.put o.dst (.agg cs)) w) : wpList P ops Q (o :: rest) a w :=
  wpList_plain hgd fun _ hK => wp_load_cells ty x ho ad hx cs d hc hu hd hi (hK _ _ h)
theorem exec_load_cells {P : Program} {a : Act} {o : Oper} {W : World} (ty : TypeId) (x : Operand) (ho : o.op = .load ty x)
    (ad : Addr) (hx : a.eval x = .pointer (some ad)) (cs : Array Value) (d : TypeDesc) (hc : ∀ j v, cs[j]? = some v → W.cell? (ad.add j) = some v)
    (hu : P.underlying ty = some d) (hd : (match d with | .struct _ | .array _ _ => true | _ => false) = true) (hi : (P.info? ty).map (·.size) = some cs.size) :
    (execOp a.eval o).run P W = .ok (.value (.agg cs)) W := by
  unfold execOp
  simp only [ho, hx, Instr.loadAt, Instr.sureAddr, Sem.run_bind, Sem.run_pure, Result.andThen_ok, run_loadVar_cells W ad ty cs d hc hu hd hi]

theorem sgs_at {W : World} {A : Option Addr} {n : Nat} {l : List Sg} (h : sgK.C W A n l) {i : Nat} (hi : i < n) :
    ∃ ad, A = some ad ∧ (l.getD i (0, [])).2.length = 32 ∧ ∀ j v, (sgA (l.getD i (0, [])))[j]? = some v → W.cell? ((ad.add (i * 33)).add j) = some v := by
  obtain ⟨ad, c, rfl, hc, hk, hcell⟩ := Kd.C_get h (0, []) (i : Int) (by omega) (by omega)
  obtain ⟨rfl, h32⟩ := sgK_K.1 hk
  refine ⟨ad, rfl, by simpa using h32, fun j v hv => ?_⟩
  have := hcell j v (by simpa [sgA] using hv)
  rw [show (ad.add (i * 33)).add j = ad.add (i * 33 + j) by unfold Addr.add; by_cases h1 : i * 33 = 0 <;> by_cases h2 : j = 0 <;> simp [h1, h2, Nat.add_assoc]]
  simpa [sgK_sz] using this

theorem infoSig : (Try.prog.info? 30).map (·.size) = some 33 := by kernel_rfl
theorem zeroSig : (Try.prog.info? 30).map (fun i => (i.zero, i.size, i.bytes)) = some (some (.agg (sgA (0, List.replicate 32 0))), 33, 36) := by kernel_rfl
theorem cellsSig : Try.prog.cellsOf 30 = 33 := by kernel_rfl
theorem cellsDig : Try.prog.cellsOf 28 = 32 := by kernel_rfl
theorem cellsU32 : Try.prog.cellsOf 26 = 1 := by kernel_rfl
theorem keySig : Try.prog.keyTypeAt 3 30 = true := by kernel_rfl
theorem mapM_some_ {α β : Type} {f : α → Option β} {g : α → β} : ∀ (l : List α), (∀ a ∈ l, f a = some (g a)) → l.mapM f = some (l.map g)
  | [], _ => by simp
  | a :: l, h => by
    rw [List.mapM_cons, h a (by simp), mapM_some_ l (fun b hb => h b (by simp [hb]))]
    rfl
theorem flatten_single {α β : Type} (f : α → β) : ∀ l : List α, (l.map fun x => [f x]).flatten = l.map f
  | [] => rfl
  | a :: l => by simp [flatten_single f l]

theorem lits_arr {P : Program} {t e : TypeId} {n : Nat} (hu : P.underlying t = some (.array n e)) (he : P.underlying e = some (.int .u8)) (hc : P.cellsOf e = 1) (ht : P.cellsOf t = n) (D : Nat) (l : List Int) (hl : l.length = n) (hw : ∀ x ∈ l, (Lit.int .u8 x).wf = true) :
    P.keyLits (D + 2) t (nums .u8 l) = some (l.map (Lit.int .u8)) := by
  unfold Program.keyLits
  rw [hu]
  simp only [ht, hc, Nat.mul_one]
  rw [if_pos (by simp [nums, hl]), mapM_some_ (g := fun i => [Lit.int .u8 (l.getD i 0)])]
  · rw [Option.map_some, flatten_single]
    congr 1
    apply List.ext_getElem
    · simp [hl]
    · intro i h1 h2
      simp at h1 h2
      simp [List.getD_eq_getElem?_getD, h2]
  · intro i hi
    have hi' : i < l.length := by rw [hl]; exact List.mem_range.1 hi
    have hd : ((nums .u8 l).drop i).take 1 = [Value.int .u8 (l.getD i 0)] := by
      apply List.ext_getElem?
      intro j
      cases j with
      | zero => simp [nums, hi', List.getD_eq_getElem?_getD]
      | succ j => simp [nums]; omega
    rw [hd]
    unfold Program.keyLits
    rw [he]
    have hwf : (Lit.int .u8 (l.getD i 0)).wf = true := hw _ (by simp [List.getD_eq_getElem?_getD, hi'])
    simp only [hwf, and_self, if_true]
def sgLits (s : Sg) : List Lit := Lit.int .u32 s.1 :: s.2.map (Lit.int .u8)
theorem lits_sg (s : Sg) (h : SgOk s) (D : Nat) : Try.prog.keyLits (D + 3) 30 (sgL s) = some (sgLits s) := by
  have h1 := lits_arr (P := Try.prog) Try.underlying28 Try.underlying5 cells5 cellsDig D s.2 h.len h.wf8
  have h0 : Try.prog.keyLits (D + 2) 26 [.int .u32 s.1] = some [Lit.int .u32 s.1] := by
    unfold Program.keyLits
    rw [Try.underlying26]
    simp only [h.wf32, and_self, if_true]
  have hl : (sgL s).length = 33 := sgL_length h.len
  have e0 : ((sgL s).drop 0).take 1 = [.int .u32 s.1] := rfl
  have e1 : ((sgL s).drop 1).take 32 = nums .u8 s.2 := by
    show (nums .u8 s.2).take 32 = _
    exact List.take_of_length_le (by simp [nums, h.len])
  unfold Program.keyLits
  rw [Try.underlying30]
  simp only [hl, cellsSig]
  rw [if_pos (by refine ⟨trivial, by kernel_rfl⟩)]
  simp only [List.mapM_cons, List.mapM_nil, cellsDig, cellsU32, e0, e1, h0, h1, Option.pure_def, Option.bind_eq_bind, Option.bind_some, Option.map_some]
  simp [sgLits]
theorem sgLits_inj {a b : Sg} (h : sgLits a = sgLits b) : a = b := by
  unfold sgLits at h
  injection h with h1 h2
  injection h1 with _ h1
  have := (List.map_inj_right (fun (x y : Int) (e : Lit.int .u8 x = Lit.int .u8 y) => by injection e)).1 h2
  exact Prod.ext h1 this
theorem formedSg (s : Sg) (h : SgOk s) : (Value.agg (sgA s)).formed Try.prog 30 = true := by
  simp only [Value.formed, Try.underlying30]
  simp [sgA, sgL_length h.len, cellsSig]
theorem equal_sg (a b : Sg) (ha : SgOk a) (hb : SgOk b) (w : World) : (Op.equalIn 10000 30 (.agg (sgA a)) (.agg (sgA b))).run Try.prog w = .ok (a == b) w := by
  obtain ⟨N, hN⟩ : ∃ N, N = 9997 := ⟨_, rfl⟩
  obtain ⟨r, hr, hiff⟩ := run_equalIn_deep (P := Try.prog) N 3 30 keySig w 3 3 (.agg (sgA a)) (.agg (sgA b)) _ _ (formedSg a ha) (formedSg b hb) (by simpa [Value.cells, sgA] using lits_sg a ha 0) (by simpa [Value.cells, sgA] using lits_sg b hb 0)
  have key : ∀ n, n = 9997 + 3 → (Op.equalIn n 30 (.agg (sgA a)) (.agg (sgA b))).run Try.prog w = .ok r w := fun n hn => by rw [hn, ← hN]; exact hr
  have hab : r = (a == b) := by
    rw [Bool.eq_iff_iff, hiff, beq_iff_eq]
    exact ⟨sgLits_inj, fun h => by rw [h]⟩
  rw [key 10000 (by decide), hab]
theorem neq_sg (a b : Sg) (ha : SgOk a) (hb : SgOk b) (w : World) : (binOp .neq 30 (.agg (sgA a)) (.agg (sgA b))).run Try.prog w = .ok (.bool (!(a == b))) w := by
  rw [run_neq_struct, equal_sg a b ha hb]; rfl
end Go.Proofs.Ytchaegfdcdlfaaa.X

namespace Go.Proofs.Ytchaegfdcdlfaaa.X
set_option linter.unusedVariables false
set_option linter.unusedSimpArgs false
open Go.RowKit Go.Proofs.YtchaegfdcdlfaaaW.PrintWords Go.Proofs.YtchaegfdcdlfaaaW.PrintLast Go.Proofs.YtchaegfdcdlfaaaW.PrintMore

theorem fill_fold (off : Nat) : ∀ (v : List Value) (n : Nat) (cs : Array Value), off + n + v.length ≤ cs.size →
    ((v.zipIdx n).foldl (fun cs (p : Value × Nat) => cs.setIfInBounds (off + p.2) p.1) cs).toList = cs.toList.take (off + n) ++ v ++ cs.toList.drop (off + n + v.length)
  | [], n, cs, h => by simp
  | x :: v, n, cs, h => by
    simp only [List.length_cons] at h
    rw [List.zipIdx_cons, List.foldl_cons, fill_fold off v (n + 1) _ (by simp; omega)]
    have hn : off + n < cs.toList.length := by simp; omega
    have hset : (cs.setIfInBounds (off + n) x).toList = cs.toList.take (off + n) ++ x :: cs.toList.drop (off + n + 1) := by
      rw [Array.toList_setIfInBounds, List.set_eq_take_append_cons_drop, if_pos hn]
    have hl : (cs.toList.take (off + n)).length = off + n := by simp; omega
    have hB : cs.toList.drop (off + n + (x :: v).length) = (cs.toList.drop (off + n + 1)).drop v.length := by
      rw [List.drop_drop]; congr 1; simp; omega
    rw [hset, hB]
    generalize cs.toList.take (off + n) = A at hl
    generalize cs.toList.drop (off + n + 1) = B
    rw [show off + (n + 1) + v.length = A.length + (v.length + 1) by rw [hl]; omega, List.drop_length_add_append, show off + (n + 1) = A.length + 1 by rw [hl]; omega, List.take_length_add_append]
    simp
def Laid (place : Nat → Option (Nat × Nat)) : Nat → List (Nat × Value) → Prop
  | _, [] => True
  | off, (i, v) :: rest => place i = some (off, v.cells.size) ∧ Laid place (off + v.cells.size) rest
def partsL : List (Nat × Value) → List Value
  | [] => []
  | (_, v) :: rest => v.cells.toList ++ partsL rest
theorem fill_laid (place : Nat → Option (Nat × Nat)) : ∀ (parts : List (Nat × Value)) (off : Nat) (cells : Array Value), Laid place off parts → off + (partsL parts).length = cells.size →
    Instr.fill place cells parts = some (cells.toList.take off ++ partsL parts).toArray
  | [], off, cells, _, h => by
    simp only [partsL, List.length_nil, Nat.add_zero] at h
    simp only [Instr.fill, partsL, List.append_nil, List.take_of_length_le (show cells.toList.length ≤ off by simp; omega), Array.toArray_toList]
  | (i, v) :: rest, off, cells, hl, h => by
    obtain ⟨hp, hr⟩ := hl
    simp only [partsL, List.length_append, Array.length_toList] at h
    unfold Instr.fill
    simp only [hp]
    rw [if_neg (by simp; omega)]
    have hf := fill_fold off v.cells.toList 0 cells (by simp; omega)
    have he : ((v.cells.toList.zipIdx 0).foldl (fun cs (p : Value × Nat) => cs.setIfInBounds (off + p.2) p.1) cells) = v.cells.zipIdx.foldl (fun cs (x : Value × Nat) => match x with | (c, j) => cs.setIfInBounds (off + j) c) cells := by
      rw [← Array.foldl_toList, Array.toList_zipIdx]
    rw [he] at hf
    generalize Array.foldl _ _ _ = cs' at hf
    simp only [Nat.add_zero, Array.length_toList] at hf
    have hs : cs'.size = cells.size := by
      have := congrArg List.length hf
      simp at this
      omega
    rw [fill_laid place rest (off + v.cells.size) cs' hr (by rw [hs]; omega), hf]
    congr 2
    have hl2 : (cells.toList.take off ++ v.cells.toList).length = off + v.cells.size := by simp; omega
    rw [show off + v.cells.size = (cells.toList.take off ++ v.cells.toList).length + 0 by rw [hl2]; rfl, List.take_length_add_append, List.take_zero, List.append_nil, partsL, List.append_assoc]
theorem fill_whole (place : Nat → Option (Nat × Nat)) (parts : List (Nat × Value)) (cells : Array Value) (h : Laid place 0 parts) (hl : (partsL parts).length = cells.size) : Instr.fill place cells parts = some (partsL parts).toArray := by
  have := fill_laid place parts 0 cells h (by omega)
  simpa using this
theorem wpList_build_cells {P : Program} {ops : Array Oper} {rest : List Oper} {o : Oper} {a : Act} {w : World} {Q : Exit → Act → World → Prop} (hg : o.guard = none) (t : TypeId) (parts : Array (Nat × Operand)) (ho : o.op = .build t parts)
    (cs : Array Value) (hf : P.built t (parts.map fun (i, x) => (i, a.eval x)).toList = some cs) (h : wpList P ops Q rest (a.put o.dst (.agg cs)) w) : wpList P ops Q (o :: rest) a w :=
  wpList_build hg t parts ho (by rw [hf]; rfl) (by rw [hf]; exact h)
theorem zeroSig2 : (Try.prog.info? 30).map (fun i => (i.zero, i.size)) = some (some (.agg (sgA (0, List.replicate 32 0))), 33) := by kernel_rfl
theorem built_sg (x : Int) (d : List Int) (hd : d.length = 32) : Try.prog.built 30 [(0, .int .u32 x), (1, .agg (cells8 d))] = some (sgA (x, d)) := by
  obtain ⟨i, hi, hz⟩ := Option.map_eq_some_iff.1 zeroSig
  simp only [Prod.mk.injEq] at hz
  obtain ⟨hz0, hz1, hz2⟩ := hz
  unfold Program.built
  have e0 : (Try.prog.info? 26).map (·.size) = some 1 := by kernel_rfl
  have e1 : (Try.prog.info? 28).map (·.size) = some 32 := by kernel_rfl
  obtain ⟨i0, hi0, hs0⟩ := Option.map_eq_some_iff.1 e0
  obtain ⟨i1, hi1, hs1⟩ := Option.map_eq_some_iff.1 e1
  rw [hi, Try.underlying30]
  simp only [hz0, List.mapM_cons, List.mapM_nil, hi0, hi1, Option.map_some, hs0, hs1, Option.pure_def, Option.bind_eq_bind, Option.bind_some]
  have := fill_whole (([(0, 1), (1, 32)] : List (Nat × Nat)).toArray[·]?) [(0, .int .u32 x), (1, .agg (cells8 d))] (sgA (0, List.replicate 32 0)) ⟨rfl, by simp [Value.cells, cells8, hd], trivial⟩ (by simp [partsL, Value.cells, cells8, hd, sgA, sgL, nums])
  rw [show (Value.agg (sgA (0, List.replicate 32 0))).cells = sgA (0, List.replicate 32 0) from rfl]
  refine Eq.trans this ?_
  simp [partsL, Value.cells, cells8, sgA, sgL, nums]
end Go.Proofs.Ytchaegfdcdlfaaa.X

namespace Go.Proofs.Ytchaegfdcdlfaaa.X
open Go.RowKit Go.Proofs.YtchaegfdcdlfaaaW.PrintWords Go.Proofs.YtchaegfdcdlfaaaW.PrintLast Go.Proofs.YtchaegfdcdlfaaaW.PrintMore
attribute [local go_sem] max2_int min2_int max_two min_two max_three min_three max_four min_four   -- for this text's walks alone
set_option linter.unusedVariables false
set_option linter.unusedSimpArgs false

def rolodexref09_Sum.l0 : Nat → ByteArray → Int → Int → Int → Option (Int)
  | 0, _, _, _, _ => none
  | k + 1, x0, x3, x4, x5 => if x5 < (x0.size : Int) then (if 0 ≤ x5 then (rolodexref09_Sum.l0 k x0 (Int.tmod (wrap64 (x3 + (wrap64 (bt x0 x5)))) 65536) (Int.tmod (wrap64 (x4 + (wrap64 ((Int.tmod (wrap64 ((x0.size : Int) - x5)) 65536) * (wrap64 (bt x0 x5)))))) 65536) (wrap64 (x5 + 1))) else (none)) else (some ((wrap64 ((wrap64 (65536 * x4)) + x3)) % 4294967296))
def rolodexref09_Sum.f (k : Nat) (a0 : ByteArray) : Option (Int) := rolodexref09_Sum.l0 k a0 0 0 0
theorem rolodexref09_Sum.mono_l : ∀ k, (∀ y0 y1 y2 y3, LeO (rolodexref09_Sum.l0 k y0 y1 y2 y3) (rolodexref09_Sum.l0 (k + 1) y0 y1 y2 y3))
  | 0 => fun _ _ _ _ r h => by simp [rolodexref09_Sum.l0] at h
  | k + 1 => by
    have ih0 := rolodexref09_Sum.mono_l k
    · intro y0 y1 y2 y3
      unfold rolodexref09_Sum.l0
      repeat' first
      | (with_reducible exact ih0 _ _ _ _)
      | (with_reducible exact LeO.refl _)
      | (with_reducible exact LeO.none _)
      | (with_reducible refine LeO.ite ?_ ?_)
      | (with_reducible refine LeO.bind ?_ (fun _ => ?_))
      | exact ih0 _ _ _ _
      | exact LeO.none _
      | refine LeO.ite ?_ ?_
      | refine LeO.bind ?_ (fun _ => ?_)
theorem rolodexref09_Sum.mono : ∀ a0 k, LeO (rolodexref09_Sum.f k a0) (rolodexref09_Sum.f (k + 1) a0) := by
  intro a0 k
  have ih0 := rolodexref09_Sum.mono_l k
  unfold rolodexref09_Sum.f
  repeat' first
      | (with_reducible exact ih0 _ _ _ _)
      | (with_reducible exact LeO.refl _)
      | (with_reducible exact LeO.none _)
      | (with_reducible refine LeO.ite ?_ ?_)
      | (with_reducible refine LeO.bind ?_ (fun _ => ?_))
      | exact ih0 _ _ _ _
      | exact LeO.none _
      | refine LeO.ite ?_ ?_
      | refine LeO.bind ?_ (fun _ => ?_)
set_option maxHeartbeats 8000000 in
set_option maxRecDepth 100000 in
theorem rolodexref09_Sum.calls (k : Nat) (a0 : ByteArray) (r : Int) (w : World) (h : rolodexref09_Sum.f k a0 = some r) :
    Calls Try.prog 77 #[.string a0] w fun e w' => e = .returned (.int .u32 r) ∧ Drawn0 w w' := by
  have H : (rolodexref09_Sum.l0 k a0 0 0 0) = some r := h
  clear h
  have H' := Aside0.mk H
  clear H
  go_enter Try.func77, Try.ntmps77
  go_wp2
  go_loopg [3, 4, 5] k (fun kq v3 v4 v5 w' => ∃ (x3_1 : Int) (x4_1 : Int) (x5_1 : Int), v3 = .int .i64 x3_1 ∧ v4 = .int .i64 x4_1 ∧ v5 = .int .i64 x5_1 ∧ Aside0 (rolodexref09_Sum.l0 kq a0 x3_1 x4_1 x5_1 = some r) ∧ Aside0 (kq ≤ k) ∧ Drawn0 w w')
  case atStart => exact ⟨(0), (0), (0), (by first | rfl | (simp; done) | (simp [*]; done)), (by first | rfl | (simp; done) | (simp [*]; done)), (by first | rfl | (simp; done) | (simp [*]; done)), H', ⟨Nat.le_refl _⟩, by repeat (first | exact Drawn0.refl _ | apply Drawn0.step)⟩
  case round =>
    clear H'
    obtain ⟨x3_1, x4_1, x5_1, rfl, rfl, rfl, HA, HK1, ⟨m1, rfl⟩⟩ := hrel
    cases gk with
    | zero => exact absurd HA.out (by simp [rolodexref09_Sum.l0])
    | succ k1 =>
      have H := HA.out
      clear HA
      simp only [rolodexref09_Sum.l0] at H
      by_cases c2 : x5_1 < (a0.size : Int)
      · rw [if_pos c2] at H
        have c2b0 : decide (x5_1 < (a0.size : Int)) = true := decide_eq_true c2
        clear c2
        by_cases c3 : 0 ≤ x5_1
        · rw [if_pos c3] at H
          have c3b0 : decide (0 ≤ x5_1) = true := decide_eq_true c3
          clear c3
          have H' := Aside0.mk H
          clear H
          have p4 : 0 ≤ (x5_1 : Int) := of_decide_eq_true (by first | (with_reducible assumption) | assumption)
          have q4 : x5_1 < (a0.size : Int) := of_decide_eq_true (by first | (with_reducible assumption) | assumption)
          have hx4 := bt_at a0 x5_1
          replace p4 := eq_true p4
          replace q4 := eq_true q4
          have p5 : 0 ≤ (x5_1 : Int) := of_decide_eq_true (by first | (with_reducible assumption) | assumption)
          have q5 : x5_1 < (a0.size : Int) := of_decide_eq_true (by first | (with_reducible assumption) | assumption)
          have hx5 := bt_at a0 x5_1
          replace p5 := eq_true p5
          replace q5 := eq_true q5
          go_wp2
          go_roundg k1
          case measure => have := HK1.out; omega
          case rel => exact ⟨(Int.tmod (wrap64 (x3_1 + (wrap64 (bt a0 x5_1)))) 65536), (Int.tmod (wrap64 (x4_1 + (wrap64 ((Int.tmod (wrap64 ((a0.size : Int) - x5_1)) 65536) * (wrap64 (bt a0 x5_1)))))) 65536), (wrap64 (x5_1 + 1)), (by first | rfl | (simp; done) | (simp [*]; done)), (by first | rfl | (simp; done) | (simp [*]; done)), (by first | rfl | (simp; done) | (simp [*]; done)), H', ⟨by have := HK1.out; omega⟩, by repeat (first | exact Drawn0.refl _ | apply Drawn0.step)⟩
        · rw [if_neg c3] at H
          exact absurd H (by simp)
      · rw [if_neg c2] at H
        have c2b0 : decide (x5_1 < (a0.size : Int)) = false := decide_eq_false c2
        clear c2
        obtain rfl := Option.some.inj H
        go_wp2
        go_ret
        exact ⟨by first | rfl | (simp; done) | (simp [*]; done), by repeat (first | exact Drawn0.refl _ | apply Drawn0.step)⟩

end Go.Proofs.Ytchaegfdcdlfaaa.X

namespace Go.Proofs.Ytchaegfdcdlfaaa.X
open Go.RowKit Go.Proofs.YtchaegfdcdlfaaaW.PrintWords Go.Proofs.YtchaegfdcdlfaaaW.PrintLast Go.Proofs.YtchaegfdcdlfaaaW.PrintMore
attribute [local go_sem] max2_int min2_int max_two min_two max_three min_three max_four min_four   -- for this text's walks alone
set_option linter.unusedVariables false
set_option linter.unusedSimpArgs false

def roll_pair.f (a0 : Int) (a1 : Int) : Option (Int) := some (Go.bits .or .u32 ((((a1) % 4294967296) * 65536) % 4294967296) ((a0) % 4294967296))
set_option maxHeartbeats 8000000 in
set_option maxRecDepth 100000 in
theorem roll_pair.calls (a0 : Int) (a1 : Int) (r : Int) (w : World) (h : roll_pair.f a0 a1 = some r) :
    Calls Try.prog 81 #[.int .u16 a0, .int .u16 a1] w fun e w' => e = .returned (.int .u32 r) ∧ Drawn0 w w' := by
  have H : (some (Go.bits .or .u32 ((((a1) % 4294967296) * 65536) % 4294967296) ((a0) % 4294967296))) = some r := h
  clear h
  obtain rfl := Option.some.inj H
  go_enter Try.func81, Try.ntmps81
  go_wp2
  go_ret
  exact ⟨by first | rfl | (simp; done) | (simp [*]; done), by repeat (first | exact Drawn0.refl _ | apply Drawn0.step)⟩

end Go.Proofs.Ytchaegfdcdlfaaa.X

namespace Go.Proofs.Ytchaegfdcdlfaaa.X
open Go.RowKit Go.Proofs.YtchaegfdcdlfaaaW.PrintWords Go.Proofs.YtchaegfdcdlfaaaW.PrintLast Go.Proofs.YtchaegfdcdlfaaaW.PrintMore
attribute [local go_sem] max2_int min2_int max_two min_two max_three min_three max_four min_four   -- for this text's walks alone
set_option linter.unusedVariables false
set_option linter.unusedSimpArgs false

def roll_Sum.l0 : Nat → ByteArray → Int → Int → Int → Int → Option (Int)
  | 0, _, _, _, _, _ => none
  | k + 1, x0, x3, x4, x7, x8 => if x8 < x7 then (if 0 ≤ x8 then (if x8 < (x0.size : Int) then (roll_Sum.l0 k x0 (IntKind.u16.wrap (x3 + (IntKind.u16.wrap (bt x0 x8)))) (IntKind.u16.wrap (x4 + (IntKind.u16.wrap (x3 + (IntKind.u16.wrap (bt x0 x8)))))) x7 (wrap64 (x8 + 1))) else (none)) else (none)) else ((roll_pair.f x3 x4).bind fun t101 => (some t101))
def roll_Sum.f (k : Nat) (a0 : ByteArray) : Option (Int) := roll_Sum.l0 k a0 0 0 (a0.size : Int) 0
theorem roll_Sum.mono_l : ∀ k, (∀ y0 y1 y2 y3 y4, LeO (roll_Sum.l0 k y0 y1 y2 y3 y4) (roll_Sum.l0 (k + 1) y0 y1 y2 y3 y4))
  | 0 => fun _ _ _ _ _ r h => by simp [roll_Sum.l0] at h
  | k + 1 => by
    have ih0 := roll_Sum.mono_l k
    · intro y0 y1 y2 y3 y4
      unfold roll_Sum.l0
      repeat' first
      | (with_reducible exact ih0 _ _ _ _ _)
      | (with_reducible exact LeO.refl _)
      | (with_reducible exact LeO.none _)
      | (with_reducible refine LeO.ite ?_ ?_)
      | (with_reducible refine LeO.bind ?_ (fun _ => ?_))
      | exact ih0 _ _ _ _ _
      | exact LeO.none _
      | refine LeO.ite ?_ ?_
      | refine LeO.bind ?_ (fun _ => ?_)
theorem roll_Sum.mono : ∀ a0 k, LeO (roll_Sum.f k a0) (roll_Sum.f (k + 1) a0) := by
  intro a0 k
  have ih0 := roll_Sum.mono_l k
  unfold roll_Sum.f
  repeat' first
      | (with_reducible exact ih0 _ _ _ _ _)
      | (with_reducible exact LeO.refl _)
      | (with_reducible exact LeO.none _)
      | (with_reducible refine LeO.ite ?_ ?_)
      | (with_reducible refine LeO.bind ?_ (fun _ => ?_))
      | exact ih0 _ _ _ _ _
      | exact LeO.none _
      | refine LeO.ite ?_ ?_
      | refine LeO.bind ?_ (fun _ => ?_)
set_option maxHeartbeats 8000000 in
set_option maxRecDepth 100000 in
theorem roll_Sum.calls (k : Nat) (a0 : ByteArray) (r : Int) (w : World) (h : roll_Sum.f k a0 = some r) :
    Calls Try.prog 39 #[.string a0] w fun e w' => e = .returned (.int .u32 r) ∧ Drawn0 w w' := by
  have H : (roll_Sum.l0 k a0 0 0 (a0.size : Int) 0) = some r := h
  clear h
  have H' := Aside0.mk H
  clear H
  go_enter Try.func39, Try.ntmps39
  go_wp2
  go_loopg [3, 4, 8] k (fun kq v3 v4 v8 w' => ∃ (x3_1 : Int) (x4_1 : Int) (x8_1 : Int), v3 = .int .u16 x3_1 ∧ v4 = .int .u16 x4_1 ∧ v8 = .int .i64 x8_1 ∧ Aside0 (roll_Sum.l0 kq a0 x3_1 x4_1 (a0.size : Int) x8_1 = some r) ∧ Aside0 (kq ≤ k) ∧ Drawn0 w w')
  case atStart => exact ⟨(0), (0), (0), (by first | rfl | (simp; done) | (simp [*]; done)), (by first | rfl | (simp; done) | (simp [*]; done)), (by first | rfl | (simp; done) | (simp [*]; done)), H', ⟨Nat.le_refl _⟩, by repeat (first | exact Drawn0.refl _ | apply Drawn0.step)⟩
  case round =>
    clear H'
    obtain ⟨x3_1, x4_1, x8_1, rfl, rfl, rfl, HA, HK1, ⟨m1, rfl⟩⟩ := hrel
    cases gk with
    | zero => exact absurd HA.out (by simp [roll_Sum.l0])
    | succ k1 =>
      have H := HA.out
      clear HA
      simp only [roll_Sum.l0] at H
      by_cases c2 : x8_1 < (a0.size : Int)
      · rw [if_pos c2] at H
        have c2b0 : decide (x8_1 < (a0.size : Int)) = true := decide_eq_true c2
        clear c2
        by_cases c3 : 0 ≤ x8_1
        · rw [if_pos c3] at H
          have c3b0 : decide (0 ≤ x8_1) = true := decide_eq_true c3
          clear c3
          by_cases c4 : x8_1 < (a0.size : Int)
          · rw [if_pos c4] at H
            have c4b0 : decide (x8_1 < (a0.size : Int)) = true := decide_eq_true c4
            clear c4
            have H' := Aside0.mk H
            clear H
            have p5 : 0 ≤ (x8_1 : Int) := of_decide_eq_true (by first | (with_reducible assumption) | assumption)
            have q5 : x8_1 < (a0.size : Int) := of_decide_eq_true (by first | (with_reducible assumption) | assumption)
            have hx5 := bt_at a0 x8_1
            replace p5 := eq_true p5
            replace q5 := eq_true q5
            go_wp2
            go_roundg k1
            case measure => have := HK1.out; omega
            case rel => exact ⟨(IntKind.u16.wrap (x3_1 + (IntKind.u16.wrap (bt a0 x8_1)))), (IntKind.u16.wrap (x4_1 + (IntKind.u16.wrap (x3_1 + (IntKind.u16.wrap (bt a0 x8_1)))))), (wrap64 (x8_1 + 1)), (by first | rfl | (simp; done) | (simp [*]; done)), (by first | rfl | (simp; done) | (simp [*]; done)), (by first | rfl | (simp; done) | (simp [*]; done)), H', ⟨by have := HK1.out; omega⟩, by repeat (first | exact Drawn0.refl _ | apply Drawn0.step)⟩
          · rw [if_neg c4] at H
            exact absurd H (by simp)
        · rw [if_neg c3] at H
          exact absurd H (by simp)
      · rw [if_neg c2] at H
        have c2b0 : decide (x8_1 < (a0.size : Int)) = false := decide_eq_false c2
        clear c2
        replace H := Option.bind_eq_some_iff.mp H
        obtain ⟨t101, A60, H⟩ := H
        replace H : (some t101) = some r := H
        have A6 := Aside0.mk A60
        clear A60
        obtain rfl := Option.some.inj H
        go_wp2_with (first | ((with_reducible refine gate_callee (f := 81) rfl ?_); refine goesL_ (some 23) rfl rfl Try.func81 (by kernel_rfl) rfl #[.int .u16 x3_1, .int .u16 x4_1] rfl (by (try simp only [List.map_toArray, List.map_cons, List.map_nil]); first | done | rfl | (simp only [List.length_drop, List.length_take]; rfl)) ?_; (with_reducible refine (roll_pair.calls x3_1 x4_1 t101 _ A6.out).mono ?_); rintro e w' ⟨rfl, ⟨nd, rfl⟩⟩; refine ⟨_, rfl, ?_⟩))
        go_ret
        exact ⟨by first | rfl | (simp; done) | (simp [*]; done), by repeat (first | exact Drawn0.refl _ | apply Drawn0.step)⟩

end Go.Proofs.Ytchaegfdcdlfaaa.X

namespace Go.Proofs.Ytchaegfdcdlfaaa.X
set_option linter.unusedSimpArgs false
set_option linter.unusedVariables false
open Go.RowKit Go.Proofs.YtchaegfdcdlfaaaW.PrintWords Go.Proofs.YtchaegfdcdlfaaaW.PrintLast

def sA : List Int → Int
  | [] => 0
  | x :: l => x + sA l
def sB : List Int → Int
  | [] => 0
  | x :: l => ((l.length : Int) + 1) * x + sB l
def bs (s : ByteArray) : List Int := s.data.toList.map fun c => (c.toNat : Int)
def roll (l : List Int) : Int := 65536 * (sB l % 65536) + sA l % 65536

theorem wraps_u32 (n : Int) (h₀ : 0 ≤ n) (h₁ : n < 2 ^ 32) : IntKind.u32.wrap n = n := by rw [IntKind.wrap_u32]; omega

theorem wrap64_small (n : Int) (h0 : -9223372036854775808 ≤ n) (h1 : n ≤ 9223372036854775807) : wrap64 n = n := by unfold wrap64; omega

end Go.Proofs.Ytchaegfdcdlfaaa.X

namespace Go.Proofs.Ytchaegfdcdlfaaa.X
set_option linter.unusedVariables false
set_option linter.unusedSimpArgs false
open Go.RowKit Go.Maps Go.Proofs.YtchaegfdcdlfaaaW.PrintWords Go.Proofs.YtchaegfdcdlfaaaW.PrintLast Go.Proofs.YtchaegfdcdlfaaaW.PrintMore

theorem outAt_byt (st : List Int) : ∀ i, ∀ x ∈ outAt st i, 0 ≤ x ∧ x ≤ 255
  | 0 => fun x hx => by
    have := List.eq_of_mem_replicate hx
    omega
  | i + 1 => fun x hx => by
    rcases List.mem_or_eq_of_mem_set hx with h | rfl
    · exact outAt_byt st i x h
    · unfold outByte; omega
def oneOf (s : ByteArray) : Sg := (roll (bs s), shaOf (bytesOf s))
theorem storeA {w : World} {g : Nat} {t : TypeId} {old cs : Array Value} (h : w.heap[g]? = some (.cells old t (0, 0))) (hl : old.size = cs.size) (h1 : cs.all (·.oneCell') = true) : (storeCells ⟨g, 0, none⟩ cs.toList).run Try.prog w = .ok () (w.setRow g cs) := by
  have := run_storeCells_from (P := Try.prog) g t cs.toList 0 _ w h (by simp [hl]) (fun v hv => (Array.all_eq_true_iff_forall_mem.1 h1) v (by simpa using hv))
  simpa using this
theorem sgA_size {s : Sg} (h : s.2.length = 32) : (sgA s).size = 33 := by simp [sgA, sgL_length h]
theorem sgA_all (s : Sg) : (sgA s).all (·.oneCell') = true := by
  rw [Array.all_eq_true_iff_forall_mem]
  intro v hv
  simp only [sgA, sgL, List.mem_toArray, List.mem_cons, nums, List.mem_map] at hv
  rcases hv with rfl | ⟨q, _, rfl⟩ <;> rfl
theorem sgInfo {s : Sg} (h : s.2.length = 32) : (Try.prog.info? 30).map (·.size) = some (sgA s).size := by rw [sgA_size h]; exact infoSig

end Go.Proofs.Ytchaegfdcdlfaaa.X

namespace Go.Proofs.Ytchaegfdcdlfaaa.X
set_option linter.unusedVariables false
set_option linter.unusedSimpArgs false
open Go.RowKit Go.Maps Go.Proofs.YtchaegfdcdlfaaaW.PrintWords Go.Proofs.YtchaegfdcdlfaaaW.PrintLast Go.Proofs.YtchaegfdcdlfaaaW.PrintMore

theorem below_grown {B : Nat} {a w w' : World} {r : Option Nat} (h : Below B a w) (hg : w.grownBy w' r) (hB : B ≤ w.heap.size) (hr : ∀ k, r = some k → B ≤ k) : Below B a w' := h.grown hg hB hr
end Go.Proofs.Ytchaegfdcdlfaaa.X

namespace Go.Proofs.Ytchaegfdcdlfaaa.X
set_option linter.unusedVariables false
set_option linter.unusedSimpArgs false
open Go.RowKit Go.Maps Go.Proofs.YtchaegfdcdlfaaaW.PrintWords Go.Proofs.YtchaegfdcdlfaaaW.PrintLast Go.Proofs.YtchaegfdcdlfaaaW.PrintMore

def blockAt (s : ByteArray) (i : Nat) : Sg := oneOf (s.extract (8 * i) (8 * i + 8))
def blocks (s : ByteArray) (n : Nat) : List Sg := (List.range n).map (blockAt s)
end Go.Proofs.Ytchaegfdcdlfaaa.X

namespace Go.Proofs.Ytchaegfdcdlfaaa.X
set_option linter.unusedVariables false
open Go.ChangeShapes Go.WideShapes Go.ChangeAt Go.RowKit Go.Deep Go.Proofs.YtchaegfdcdlfaaaW.PrintWords Go.Proofs.YtchaegfdcdlfaaaW.PrintLast Go.Proofs.YtchaegfdcdlfaaaW.PrintMore

section
variable {H : Type} {enc : TypeId × Value → H} {P : Program} {w : World} {base : Nat} {spare : Nat → Bool} {held : Bool}
theorem trod_arr8 {t e : TypeId} {n fuel : Nat} {cs : List Value} {x : DataW H × List MemPlace} (hu : P.underlying t = some (.array n e)) (he : P.underlying e = some (.int .u8)) (hc : P.cellsOf e = 1) (hct : P.cellsOf t = n)
    (h : DataW.trod enc P w base spare held fuel t cs = some x) : ∃ l : List Int, cs = nums .u8 l ∧ l.length = n ∧ ∀ x ∈ l, (Lit.int .u8 x).wf = true := by
  obtain ⟨xs, m, _, _, hl, hxl, hel⟩ := DataW.trod_array hu h
  rw [hct] at hl
  have hat : ∀ i (hi : i < n), ∃ x, cs[i]? = some (.int .u8 x) ∧ (Lit.int .u8 x).wf = true := by
    intro i hi
    have h1 := hel i hi
    rw [List.getElem?_eq_getElem (by omega)] at h1
    obtain ⟨x, hx, _, hw⟩ := DataW.trod_int he h1
    refine ⟨x, ?_, hw⟩
    rw [hc, Nat.mul_one] at hx
    have h2 := congrArg (·[0]?) hx
    simp only [List.getElem?_take, Nat.zero_lt_one, if_true, List.getElem?_drop, Nat.add_zero, List.getElem?_cons_zero] at h2
    simpa using h2
  refine ⟨cs.map fun v => match v with | .int _ x => x | _ => 0, ?_, by simp [hl], ?_⟩
  · apply List.ext_getElem
    · simp [nums]
    · intro i h1 h2
      obtain ⟨x, hx, _⟩ := hat i (by omega)
      have hx2 : cs[i] = .int .u8 x := by rw [List.getElem?_eq_getElem h1] at hx; injection hx
      simp [nums, hx2]
  · intro x hx
    obtain ⟨u, hu2, rfl⟩ := List.mem_map.1 hx
    obtain ⟨i, hi, rfl⟩ := List.mem_iff_getElem.1 hu2
    obtain ⟨y, hy, hw⟩ := hat i (by omega)
    have hy2 : cs[i] = .int .u8 y := by
      rw [List.getElem?_eq_getElem hi] at hy
      injection hy
    rw [hy2]
    exact hw
end
section
variable {H : Type} {enc : TypeId × Value → H} {w : World} {base : Nat} {spare : Nat → Bool} {held : Bool}
set_option maxRecDepth 100000 in
theorem trod_sg {fuel : Nat} {cs : List Value} {x : DataW H × List MemPlace} (h : DataW.trod enc Try.prog w base spare held fuel 30 cs = some x) : ∃ s : Sg, cs = sgL s ∧ SgOk s := by
  obtain ⟨y0, y1, n, rfl, hl, h0, h1⟩ := trod_struct2 Try.underlying30 h
  rw [cellsSig] at hl
  obtain ⟨q, hq, _, hw⟩ := DataW.trod_int (k := .u32) (by kernel_rfl) h0
  obtain ⟨l, hl2, h32, hw8⟩ := trod_arr8 (n := 32) (e := 5) (by kernel_rfl) Try.underlying5 cells5 (by kernel_rfl) h1
  have hq2 : cs.take 1 = [.int .u32 q] := hq
  have hl3 : (cs.drop 1).take 32 = nums .u8 l := hl2
  rw [List.take_of_length_le (by simp [hl])] at hl3
  refine ⟨(q, l), ?_, ⟨h32, hw8, hw⟩⟩
  show cs = .int .u32 q :: nums .u8 l
  rw [← hl3, ← List.singleton_append, ← hq2, List.take_append_drop]
set_option maxRecDepth 100000 in
theorem open_sigs {A : Option Addr} {len cap : Nat} {d : DataW H} {p : List MemPlace} (h : DataW.Trod enc Try.prog w base spare held 22 (.slice A len cap) d p) :
    ∃ l : List Sg, l.length = len ∧ len ≤ cap ∧ sgK.C w A len l ∧ ∀ s ∈ l, SgOk s := by
  obtain ⟨fuel, hf⟩ := h
  rcases open_slice Try.underlying22 hf with ⟨hcs, _⟩ | ⟨a, l, c, m, n, D, Pl, hcs, hb, hl, hm, hmm, _, hx⟩
  · simp [Value.cells] at hcs
    obtain ⟨rfl, rfl, rfl⟩ := hcs
    exact ⟨[], rfl, Nat.le_refl _, ⟨rfl, by omega, fun h => absurd h (by omega)⟩, fun s hs => absurd hs (by simp)⟩
  · simp [Value.cells] at hcs
    obtain ⟨rfl, rfl, rfl⟩ := hcs
    have hlm : len ≤ m := by rw [hmm]; split <;> omega
    rw [cellsSig] at hx
    obtain ⟨S, hS⟩ := choose_lt (α := Sg) (n := len) (p := fun i s => SgOk s ∧ w.cells? base (a.add (i * 33)) 33 = some (sgL s)) (fun i hi => by
      obtain ⟨cs', h1, h2⟩ := hx i (by omega)
      obtain ⟨s, rfl, hs⟩ := trod_sg h2
      exact ⟨s, hs, h1⟩)
    refine ⟨(List.range len).map S, by simp, hl, ⟨by simp, by unfold maxLen at hm; omega, fun _ => ⟨a, rfl, fun j s hj => ?_⟩⟩, ?_⟩
    · have hjl : j < len := by
        have := (List.getElem?_eq_some_iff.1 hj).1
        simpa using this
      have hs : S j = s := by simpa [hjl] using hj
      subst hs
      refine ⟨sgL (S j), sgL_length (hS j hjl).1.len, sgK_K.2 ⟨rfl, (hS j hjl).1.len⟩, fun i u hi => ?_⟩
      obtain ⟨_, hlen, hcell⟩ := World.cells?_some (hS j hjl).2
      have hi2 : i < 33 := by
        have := (List.getElem?_eq_some_iff.1 hi).1
        rw [sgL_length (hS j hjl).1.len] at this
        exact this
      have := hcell i hi2
      rw [Go.Deep.add_add] at this
      rw [sgK_sz, this, hi]
    · intro s hs
      obtain ⟨i, hi, rfl⟩ := List.mem_map.1 hs
      exact (hS i (List.mem_range.1 hi)).1
end
end Go.Proofs.Ytchaegfdcdlfaaa.X

namespace Go.Proofs.Ytchaegfdcdlfaaa.X
set_option linter.unusedVariables false
set_option linter.unusedSimpArgs false
open Go.RowKit Go.Maps Go.Proofs.YtchaegfdcdlfaaaW.PrintWords Go.Proofs.YtchaegfdcdlfaaaW.PrintLast Go.Proofs.YtchaegfdcdlfaaaW.PrintMore

theorem guardSig : Try.prog.eqGuardType Try.prog.depth 30 = false := by kernel_rfl
theorem exec_neq_sg {a : Act} {o : Oper} {W : World} (s y : Sg) (hs : SgOk s) (hy : SgOk y) (p q : Operand) (ho : o.op = .binOp .neq 30 p q 30) (hp : a.eval p = .agg (sgA s)) (hq : a.eval q = .agg (sgA y)) :
    (execOp a.eval o).run Try.prog W = .ok (.value (.bool (!(s == y)))) W := by
  unfold execOp
  simp [ho, hp, hq, Sem.run_bind, eqGuard, guardSig, neq_sg s y hs hy W]

def SgAt (W : World) (a : Addr) (s : Sg) : Prop := ∀ j v, (sgA s)[j]? = some v → W.cell? (a.add j) = some v
theorem SgAt.below {W W' : World} {a : Addr} {s : Sg} (h : SgAt W a s) (hb : Below W.heap.size W W') : SgAt W' a s := fun j v hv => (hb.cell (World.block_lt_of_cell? _ _ (h j v hv))).trans (h j v hv)
theorem SgAt.dig {W : World} {a : Addr} {s : Sg} (h : SgAt W a s) : ∀ j v, (cells8 s.2)[j]? = some v → W.cell? ((a.add 1).add j) = some v := fun j v hv => by
  have h1 := h (1 + j) v (by
    rw [Nat.add_comm]
    show (sgL s).toArray[j + 1]? = some v
    rw [List.getElem?_toArray]
    unfold sgL
    rw [List.getElem?_cons_succ]
    simpa [cells8, nums] using hv)
  rw [← h1]
  congr 1
  unfold Addr.add
  by_cases h2 : j = 0 <;> simp [h2, Nat.add_assoc]
end Go.Proofs.Ytchaegfdcdlfaaa.X

namespace Go.Proofs.Ytchaegfdcdlfaaa.X
set_option linter.unusedVariables false
set_option linter.unusedSimpArgs false
open Go.RowKit Go.Maps Go.Proofs.YtchaegfdcdlfaaaW.PrintWords Go.Proofs.YtchaegfdcdlfaaaW.PrintLast Go.Proofs.YtchaegfdcdlfaaaW.PrintMore

structure Ent where
  no : Int
  n : Int
  rep : Int
  len : Int
  d : List Int
  b : List Sg
structure Lin where
  id : List Int
  n : Int
  rep : Int
  f : List Ent
def entK : Kd Ent := Kd.iso (Kd.pair (Kd.int .i64) (Kd.pair (Kd.int .i64) (Kd.pair (Kd.int .i64) (Kd.pair (Kd.int .i64) (Kd.pair (arrK 32) (Kd.slice 30 sgK)))))) (fun x : Ent => (x.no, x.n, x.rep, x.len, x.d, x.b))
def linK : Kd Lin := Kd.iso (Kd.pair (arrK 16) (Kd.pair (Kd.int .i64) (Kd.pair (Kd.int .i64) (Kd.slice 149 entK)))) (fun x : Lin => (x.id, x.n, x.rep, x.f))
theorem cellsEnt : Try.prog.cellsOf 149 = 37 := by kernel_rfl
theorem cellsLin : Try.prog.cellsOf 147 = 19 := by kernel_rfl
theorem cellsMan : Try.prog.cellsOf 71 = 33 := by kernel_rfl
def entC (x : Ent) (A : Option Addr) (c : Nat) : List Value := .int .i64 x.no :: .int .i64 x.n :: .int .i64 x.rep :: .int .i64 x.len :: (nums .u8 x.d ++ [.slice A x.b.length c])
def linC (x : Lin) (A : Option Addr) (c : Nat) : List Value := nums .u8 x.id ++ (.int .i64 x.n :: .int .i64 x.rep :: [.slice A x.f.length c])
theorem entK_K {w : World} {x : Ent} {cs : List Value} : entK.K w x cs ↔ ∃ A c, cs = entC x A c ∧ x.d.length = 32 ∧ x.b.length ≤ c ∧ Kd.C sgK w A x.b.length x.b := by
  constructor
  · rintro ⟨c0, _, rfl, h0, c1, _, rfl, h1, c2, _, rfl, h2, c3, _, rfl, h3, c4, _, rfl, h4, A, c, rfl, hc, hC⟩
    obtain rfl : c0 = [.int .i64 x.no] := h0
    obtain rfl : c1 = [.int .i64 x.n] := h1
    obtain rfl : c2 = [.int .i64 x.rep] := h2
    obtain rfl : c3 = [.int .i64 x.len] := h3
    obtain ⟨rfl, hd⟩ : c4 = nums .u8 x.d ∧ x.d.length = 32 := h4
    exact ⟨A, c, rfl, hd, hc, hC⟩
  · rintro ⟨A, c, rfl, hd, hc, hC⟩
    exact ⟨[.int .i64 x.no], _, rfl, rfl, [.int .i64 x.n], _, rfl, rfl, [.int .i64 x.rep], _, rfl, rfl, [.int .i64 x.len], _, rfl, rfl, nums .u8 x.d, _, rfl, ⟨rfl, hd⟩, A, c, rfl, hc, hC⟩
theorem linK_K {w : World} {x : Lin} {cs : List Value} : linK.K w x cs ↔ ∃ A c, cs = linC x A c ∧ x.id.length = 16 ∧ x.f.length ≤ c ∧ Kd.C entK w A x.f.length x.f := by
  constructor
  · rintro ⟨c0, _, rfl, h0, c1, _, rfl, h1, c2, _, rfl, h2, A, c, rfl, hc, hC⟩
    obtain ⟨rfl, hd⟩ : c0 = nums .u8 x.id ∧ x.id.length = 16 := h0
    obtain rfl : c1 = [.int .i64 x.n] := h1
    obtain rfl : c2 = [.int .i64 x.rep] := h2
    exact ⟨A, c, rfl, hd, hc, hC⟩
  · rintro ⟨A, c, rfl, hd, hc, hC⟩
    exact ⟨nums .u8 x.id, _, rfl, ⟨rfl, hd⟩, [.int .i64 x.n], _, rfl, rfl, [.int .i64 x.rep], _, rfl, rfl, A, c, rfl, hc, hC⟩
def zEnt : Ent := ⟨0, 0, 0, 0, [], []⟩
def zLin : Lin := ⟨[], 0, 0, []⟩
theorem lin_at {W : World} {A : Option Addr} {n : Nat} {l : List Lin} (h : Kd.C linK W A n l) {i : Nat} (hi : i < n) (x : Lin) (hx : l.getD i zLin = x) :
    ∃ ad B c, A = some ad ∧ x.id.length = 16 ∧ x.f.length ≤ c ∧ Kd.C entK W B x.f.length x.f ∧ ∀ j v, (linC x B c)[j]? = some v → W.cell? ((ad.add (i * 19)).add j) = some v := by
  obtain ⟨ad, cs, hA, hcl, hk, hcell⟩ := Kd.C_get h zLin (i : Int) (by omega) (by omega)
  rw [Int.toNat_natCast, hx] at hk
  rw [Int.toNat_natCast] at hcell
  obtain ⟨B, c, rfl, hd, hc, hC⟩ := linK_K.1 hk
  refine ⟨ad, B, c, hA, hd, hc, hC, fun j v hv => ?_⟩
  rw [show (ad.add (i * 19)).add j = ad.add (i * 19 + j) by unfold Addr.add; by_cases h1 : i * 19 = 0 <;> by_cases h2 : j = 0 <;> simp [h1, h2, Nat.add_assoc]]
  exact hcell j v hv
theorem ent_at {W : World} {A : Option Addr} {n : Nat} {l : List Ent} (h : Kd.C entK W A n l) {i : Nat} (hi : i < n) (x : Ent) (hx : l.getD i zEnt = x) :
    ∃ ad B c, A = some ad ∧ x.d.length = 32 ∧ x.b.length ≤ c ∧ Kd.C sgK W B x.b.length x.b ∧ ∀ j v, (entC x B c)[j]? = some v → W.cell? ((ad.add (i * 37)).add j) = some v := by
  obtain ⟨ad, cs, hA, hcl, hk, hcell⟩ := Kd.C_get h zEnt (i : Int) (by omega) (by omega)
  rw [Int.toNat_natCast, hx] at hk
  rw [Int.toNat_natCast] at hcell
  obtain ⟨B, c, rfl, hd, hc, hC⟩ := entK_K.1 hk
  refine ⟨ad, B, c, hA, hd, hc, hC, fun j v hv => ?_⟩
  rw [show (ad.add (i * 37)).add j = ad.add (i * 37 + j) by unfold Addr.add; by_cases h1 : i * 37 = 0 <;> by_cases h2 : j = 0 <;> simp [h1, h2, Nat.add_assoc]]
  exact hcell j v hv
end Go.Proofs.Ytchaegfdcdlfaaa.X

namespace Go.Proofs.Ytchaegfdcdlfaaa.X
set_option linter.unusedVariables false
set_option linter.unusedSimpArgs false
open Go.RowKit Go.Proofs.YtchaegfdcdlfaaaW.PrintWords Go.Proofs.YtchaegfdcdlfaaaW.PrintLast Go.Proofs.YtchaegfdcdlfaaaW.PrintMore
attribute [local go_sem] max2_int min2_int max_two min_two max_three min_three max_four min_four
theorem results_ctt {P : Program} {fn : Func} {p u v : Tmp} {ty : TypeId} (h : fn.results = #[.cell p ty, .tmp u, .tmp v]) (tmps : Array Value) (w : World) (g : Nat) (t : TypeId) (cs : Array Value) (fr : Nat × Nat) (d : TypeDesc)
    (hp : tmps.getD p undef = .pointer (some ⟨g, 0, none⟩)) (hg : w.heap[g]? = some (.cells cs t fr))
    (hu : P.underlying ty = some d) (hd : (match d with | .struct _ | .array _ _ => true | _ => false) = true) (hi : (P.info? ty).map (·.size) = some cs.size) :
    (results fn tmps).run P w = .ok (.tuple #[.agg cs, tmps.getD u undef, tmps.getD v undef]) w := by
  have hp' : tmps[p]?.getD undef = .pointer (some ⟨g, 0, none⟩) := by simpa using hp
  simp [results, h, hp', asAddr, run_loadVar_row w g t ty cs fr d hg hu hd hi]
set_option maxHeartbeats 4000000 in
set_option maxRecDepth 100000 in
theorem stget_no (k : Nat) (A0 : Option Addr) (c0 : Nat) (l0 : List Int) (n u : Nat) (w : World) (hr0 : Kd.C (Kd.int .u8) w A0 l0.length l0) (hc0 : l0.length ≤ c0)
    (h : wire_Get.f k l0 = some ((n : Int), (u : Int), false)) (hn : n < 18446744073709551616) :
    Calls Try.prog 161 #[.slice A0 l0.length c0] w fun e w' => e = .returned (.tuple #[.agg #[.int .i64 0, .int .i64 0], .int .i64 0, .bool false]) ∧ Below w.heap.size w w' := by
  have HG := Aside0.mk h
  have HR := Aside0.mk hr0
  clear h hr0
  go_enter Try.func161, Try.ntmps161
  go_wp2_with (go_at_call 88; refine (wire_Get.calls k _ _ l0 n u false _ (Kd.C_alloc HR.out _) hc0 HG.out).mono ?_; rintro e w' ⟨rfl, ⟨nd, rfl⟩⟩)
  refine bodyPost_ret (results_ctt rfl _ _ w.heap.size 96 #[.int .i64 0, .int .i64 0] (0, 0) _ rfl (blk_alloc (blk_put (blk_put (blk_drewN (blk_new w _) nd) 0 _ rfl) 1 _ rfl) _) Try.underlying96 rfl (by kernel_rfl)) rfl ⟨rfl, ?_⟩
  refine below_alloc ?_ _
  refine below_set ?_ (Nat.le_refl _)
  refine below_set ?_ (Nat.le_refl _)
  exact pw_below_drewN (below_alloc (Below.refl _ _) _) _
set_option maxHeartbeats 4000000 in
set_option maxRecDepth 100000 in
theorem stget_yes (k : Nat) (A0 : Option Addr) (c0 : Nat) (l0 : List Int) (n u : Nat) (w : World) (hr0 : Kd.C (Kd.int .u8) w A0 l0.length l0) (hc0 : l0.length ≤ c0)
    (h : wire_Get.f k l0 = some ((n : Int), (u : Int), true)) (hn : n < 18446744073709551616) (hm : stMay ((n : Int) / 8) ((n : Int) % 8) = true) :
    Calls Try.prog 161 #[.slice A0 l0.length c0] w fun e w' => e = .returned (.tuple #[.agg #[.int .i64 ((n : Int) / 8), .int .i64 ((n : Int) % 8)], .int .i64 u, .bool true]) ∧ Below w.heap.size w w' := by
  have HG := Aside0.mk h
  have HR := Aside0.mk hr0
  have HM := Aside0.mk ((StMay_eq _ _).trans (congrArg some hm))
  have e7 : Go.bits .and .u64 (n : Int) 7 = (n : Int) % 8 := by
    have := u64_and_nat n 7 hn (by decide)
    rw [show (n &&& 7) = n % 8 from Nat.and_two_pow_sub_one_eq_mod n 3] at this
    exact this
  have e8 : wrap64 ((n : Int) % 8) = (n : Int) % 8 := by unfold wrap64; omega
  clear h hr0 hm
  go_enter Try.func161, Try.ntmps161
  go_wp2_with (first
    | (go_at_call 88; refine (wire_Get.calls k _ _ l0 n u true _ (Kd.C_alloc HR.out _) hc0 HG.out).mono ?_; rintro e w' ⟨rfl, ⟨nd, rfl⟩⟩)
    | (go_at_call 149; refine (stamp_May.calls _ _ true _ HM.out).mono ?_; rintro e w' ⟨rfl, hb⟩
       have es : ((w.alloc (Obj.cells #[Value.int IntKind.i64 0, Value.int IntKind.i64 0] 96)).drewN nd).heap.size = w.heap.size + 1 := Array.size_push ..
       have HZ := Aside0.mk (blk_below (blk_alloc (blk_drewN (blk_new w _) nd) _) hb)
       have HS := blk_below (blk_new _ _) hb
       rw [es] at HS
       have q0 := (blk_cell HS 0).trans rfl
       have q1 := (blk_cell HS 1).trans rfl
       have z0 := (blk_cell HZ.out 0).trans rfl
       have z1 := (blk_cell HZ.out 1).trans rfl
       have f0 := blk_frozen HZ.out 0
       have f1 := blk_frozen HZ.out 1
       have HBB := Aside0.mk (below_step (below_alloc (pw_below_drewN (below_alloc (Below.refl w.heap.size w) _) nd) _) hb)
       clear hb HS es))
  refine bodyPost_ret (results_ctt rfl _ _ w.heap.size 96 #[.int .i64 ((n : Int) / 8), .int .i64 ((n : Int) % 8)] (0, 0) _ rfl (blk_put (blk_put HZ.out 0 _ rfl) 1 _ rfl) Try.underlying96 rfl (by kernel_rfl)) rfl ⟨rfl, ?_⟩
  refine below_set ?_ (Nat.le_refl _)
  refine below_set ?_ (Nat.le_refl _)
  exact HBB.out
set_option maxHeartbeats 4000000 in
set_option maxRecDepth 100000 in
theorem stget_bad (k : Nat) (A0 : Option Addr) (c0 : Nat) (l0 : List Int) (n u : Nat) (w : World) (hr0 : Kd.C (Kd.int .u8) w A0 l0.length l0) (hc0 : l0.length ≤ c0)
    (h : wire_Get.f k l0 = some ((n : Int), (u : Int), true)) (hn : n < 18446744073709551616) (hm : stMay ((n : Int) / 8) ((n : Int) % 8) = false) :
    Calls Try.prog 161 #[.slice A0 l0.length c0] w fun e w' => e = .returned (.tuple #[.agg #[.int .i64 0, .int .i64 0], .int .i64 0, .bool false]) ∧ Below w.heap.size w w' := by
  have HG := Aside0.mk h
  have HR := Aside0.mk hr0
  have HM := Aside0.mk ((StMay_eq _ _).trans (congrArg some hm))
  have e7 : Go.bits .and .u64 (n : Int) 7 = (n : Int) % 8 := by
    have := u64_and_nat n 7 hn (by decide)
    rw [show (n &&& 7) = n % 8 from Nat.and_two_pow_sub_one_eq_mod n 3] at this
    exact this
  have e8 : wrap64 ((n : Int) % 8) = (n : Int) % 8 := by unfold wrap64; omega
  clear h hr0 hm
  go_enter Try.func161, Try.ntmps161
  go_wp2_with (first
    | (go_at_call 88; refine (wire_Get.calls k _ _ l0 n u true _ (Kd.C_alloc HR.out _) hc0 HG.out).mono ?_; rintro e w' ⟨rfl, ⟨nd, rfl⟩⟩)
    | (go_at_call 149; refine (stamp_May.calls _ _ false _ HM.out).mono ?_; rintro e w' ⟨rfl, hb⟩
       have es : ((w.alloc (Obj.cells #[Value.int IntKind.i64 0, Value.int IntKind.i64 0] 96)).drewN nd).heap.size = w.heap.size + 1 := Array.size_push ..
       have HZ := Aside0.mk (blk_below (blk_alloc (blk_drewN (blk_new w _) nd) _) hb)
       have HS := blk_below (blk_new _ _) hb
       rw [es] at HS
       have q0 := (blk_cell HS 0).trans rfl
       have q1 := (blk_cell HS 1).trans rfl
       have z0 := (blk_cell HZ.out 0).trans rfl
       have z1 := (blk_cell HZ.out 1).trans rfl
       have f0 := blk_frozen HZ.out 0
       have f1 := blk_frozen HZ.out 1
       have HBB := Aside0.mk (below_step (below_alloc (pw_below_drewN (below_alloc (Below.refl w.heap.size w) _) nd) _) hb)
       clear hb HS es))
  refine bodyPost_ret (results_ctt rfl _ _ w.heap.size 96 #[.int .i64 0, .int .i64 0] (0, 0) _ rfl (blk_put (blk_put HZ.out 0 _ rfl) 1 _ rfl) Try.underlying96 rfl (by kernel_rfl)) rfl ⟨rfl, ?_⟩
  refine below_set ?_ (Nat.le_refl _)
  refine below_set ?_ (Nat.le_refl _)
  exact HBB.out
def stGetP (g : Int × Int × Bool) : (Int × Int) × Int × Bool :=
  if g.2.2 = true ∧ stMay (g.1 / 8) (g.1 % 8) = true then ((g.1 / 8, g.1 % 8), g.2.1, true) else ((0, 0), 0, false)
theorem stamp_Get.calls (k : Nat) (A0 : Option Addr) (c0 : Nat) (l0 : List Int) (n u : Nat) (is : Bool) (w : World) (hr0 : Kd.C (Kd.int .u8) w A0 l0.length l0) (hc0 : l0.length ≤ c0)
    (h : wire_Get.f k l0 = some ((n : Int), (u : Int), is)) (hn : n < 18446744073709551616) :
    Calls Try.prog 161 #[.slice A0 l0.length c0] w fun e w' => e = .returned (.tuple #[.agg #[.int .i64 (stGetP ((n : Int), (u : Int), is)).1.1, .int .i64 (stGetP ((n : Int), (u : Int), is)).1.2], .int .i64 (stGetP ((n : Int), (u : Int), is)).2.1, .bool (stGetP ((n : Int), (u : Int), is)).2.2]) ∧ Below w.heap.size w w' := by
  cases is with
  | false =>
    have e : stGetP ((n : Int), (u : Int), false) = ((0, 0), 0, false) := if_neg (fun h => Bool.noConfusion h.1)
    rw [e]
    exact stget_no k A0 c0 l0 n u w hr0 hc0 h hn
  | true =>
    cases hm : stMay ((n : Int) / 8) ((n : Int) % 8) with
    | false =>
      have e : stGetP ((n : Int), (u : Int), true) = ((0, 0), 0, false) := if_neg (fun h => Bool.noConfusion (hm.symm.trans h.2))
      rw [e]
      exact stget_bad k A0 c0 l0 n u w hr0 hc0 h hn hm
    | true =>
      have e : stGetP ((n : Int), (u : Int), true) = (((n : Int) / 8, (n : Int) % 8), (u : Int), true) := if_pos ⟨rfl, hm⟩
      rw [e]
      exact stget_yes k A0 c0 l0 n u w hr0 hc0 h hn hm
end Go.Proofs.Ytchaegfdcdlfaaa.X

namespace Go.Proofs.Ytchaegfdcdlfaaa.X
set_option linter.unusedVariables false
set_option linter.unusedSimpArgs false
open Go.RowKit Go.Proofs.YtchaegfdcdlfaaaW.PrintWords Go.Proofs.YtchaegfdcdlfaaaW.PrintLast Go.Proofs.YtchaegfdcdlfaaaW.PrintMore
def blkM (n : Int) : Int := if n < 24 then 0 else n / 8
theorem Blocks_eq (n : Int) (h : 0 ≤ n) (hn : n ≤ 4611686018427387904) : manifest_blocks.f n = some (blkM n) := by
  unfold manifest_blocks.f blkM
  split
  · rfl
  · first
    | rfl
    | (congr 1; first | rfl | (simp [Int.tdiv_eq_ediv_of_nonneg h]; try (unfold wrap64; omega)))
def entM (maxNo maxVal : Int) (e : Ent) (dn dr : Int) : Bool :=
  decide (0 ≤ e.no) && (decide (e.no < maxNo) && (decide (0 ≤ e.len) && (decide (e.len ≤ maxVal) && (decide ((e.b.length : Int) = blkM e.len) && (stMay e.n e.rep && stLess dn dr e.n e.rep)))))
def entsM (maxNo maxVal dn dr : Int) : Option Int → List Ent → Bool
  | _, [] => true
  | p, e :: l => entM maxNo maxVal e dn dr && ((match p with | none => true | some q => decide (q < e.no)) && entsM maxNo maxVal dn dr (some e.no) l)
theorem entsM_cons (a b dn dr : Int) (p : Option Int) (e : Ent) (l : List Ent) : entsM a b dn dr p (e :: l) = (entM a b e dn dr && ((match p with | none => true | some q => decide (q < e.no)) && entsM a b dn dr (some e.no) l)) := rfl
def linM (maxNo maxVal : Int) (x : Lin) : Bool :=
  entsM maxNo maxVal x.n x.rep none x.f && (stMay x.n x.rep && (decide (0 < x.f.length) || !(x.n == 0 && x.rep == 0)))
end Go.Proofs.Ytchaegfdcdlfaaa.X

namespace Go.Proofs.Ytchaegfdcdlfaaa.X
set_option linter.unusedVariables false
set_option linter.unusedSimpArgs false
open Go.RowKit Go.Proofs.YtchaegfdcdlfaaaW.PrintWords Go.Proofs.YtchaegfdcdlfaaaW.PrintLast Go.Proofs.YtchaegfdcdlfaaaW.PrintMore

def At (W : World) (a : Addr) (cs : Array Value) : Prop := ∀ j v, cs[j]? = some v → W.cell? (a.add j) = some v
theorem At.below {W W1 : World} {a : Addr} {cs : Array Value} (h : At W a cs) (hb : Below W.heap.size W W1) : At W1 a cs := fun j v hj => (hb.cell (World.block_lt_of_cell? W _ (h j v hj))).trans (h j v hj)
theorem At.load {W : World} {a : Addr} {cs : Array Value} (h : At W a cs) {t : TypeId} {d : TypeDesc} (hu : Try.prog.underlying t = some d) (hd : d.isRow = true) (hi : (Try.prog.info? t).map (·.size) = some cs.size) :
    (Instr.loadAt t (.pointer (some a))).run Try.prog W = .ok (.agg cs) W := by
  simp only [Instr.loadAt, Instr.sureAddr, Sem.run_bind, Sem.run_pure, Result.andThen_ok, run_loadVar_cells W a t cs d h hu (by cases d <;> first | rfl | cases hd) hi]
theorem At.cell {W : World} {a : Addr} {cs : Array Value} (h : At W a cs) {j : Nat} {v : Value} (hj : cs[j]? = some v) : W.cell? (a.add j) = some v := h j v hj
theorem add_lit (a : Addr) {k : Nat} (h : k ≠ 0) : a.add k = ⟨a.block, a.off + k, none⟩ := by unfold Addr.add; rw [if_neg h]
theorem add_at (b j : Nat) : (⟨b, 0, none⟩ : Addr).add j = ⟨b, j, none⟩ := by unfold Addr.add; split <;> simp_all
theorem At.blk {W : World} {g t : Nat} {cs : Array Value} (h : W.heap[g]? = some (.cells cs t (0, 0))) : At W ⟨g, 0, none⟩ cs := fun j v hj => by rw [add_at, blk_cell h]; exact hj
theorem At.part {W : World} {a : Addr} {l m r : List Value} (h : At W a (l ++ (m ++ r)).toArray) (k : Nat) (hk : l.length = k) : At W (a.add k) m.toArray := fun j v hj => by
  rw [List.getElem?_toArray] at hj
  have hjl : j < m.length := (List.getElem?_eq_some_iff.1 hj).1
  have := h (k + j) v (by rw [List.getElem?_toArray, List.getElem?_append_right (by omega), hk, show k + j - k = j by omega, List.getElem?_append_left hjl]; exact hj)
  rw [show (a.add k).add j = a.add (k + j) by unfold Addr.add; by_cases h1 : k = 0 <;> by_cases h2 : j = 0 <;> simp [h1, h2, Nat.add_assoc]]
  exact this
theorem At.head {W : World} {a : Addr} {m r : List Value} (h : At W a (m ++ r).toArray) : At W a m.toArray := fun j v hj => by
  rw [List.getElem?_toArray] at hj
  have hjl : j < m.length := (List.getElem?_eq_some_iff.1 hj).1
  exact h j v (by rw [List.getElem?_toArray, List.getElem?_append_left hjl]; exact hj)
theorem load_of {W : World} {g : Nat} {t : TypeId} {cs : Array Value} {d : TypeDesc} (h : W.heap[g]? = some (.cells cs t (0, 0))) (hu : Try.prog.underlying t = some d) (hd : d.isRow = true) (hi : (Try.prog.info? t).map (·.size) = some cs.size) :
    (Instr.loadAt t (.pointer (some ⟨g, 0, none⟩))).run Try.prog W = .ok (.agg cs) W := (At.blk h).load hu hd hi
theorem one_of {P : Value → Prop} {l : List Value} (h : ∀ v ∈ l, v.oneCell' = true) : l.toArray.all (·.oneCell') = true := Array.all_eq_true_iff_forall_mem.2 (fun v hv => h v (by simpa using hv))
theorem entC_len {x : Ent} (h : x.d.length = 32) (A : Option Addr) (c : Nat) : (entC x A c).length = 37 := by simp [entC, nums, h]
theorem entC_one (x : Ent) (A : Option Addr) (c : Nat) : (entC x A c).toArray.all (·.oneCell') = true := by
  rw [Array.all_eq_true_iff_forall_mem]
  intro v hv
  simp only [entC, List.mem_toArray, List.mem_cons, List.mem_append, nums, List.mem_map, List.not_mem_nil, or_false] at hv
  rcases hv with rfl | rfl | rfl | rfl | ⟨q, _, rfl⟩ | rfl <;> rfl
theorem infoEnt : (Try.prog.info? 149).map (·.size) = some 37 := by kernel_rfl
theorem linC_len {x : Lin} (h : x.id.length = 16) (A : Option Addr) (c : Nat) : (linC x A c).length = 19 := by simp [linC, nums, h]
theorem linC_one (x : Lin) (A : Option Addr) (c : Nat) : (linC x A c).toArray.all (·.oneCell') = true := by
  rw [Array.all_eq_true_iff_forall_mem]
  intro v hv
  simp only [linC, List.mem_toArray, List.mem_cons, List.mem_append, nums, List.mem_map, List.not_mem_nil, or_false] at hv
  rcases hv with ⟨q, _, rfl⟩ | rfl | rfl | rfl <;> rfl
theorem infoLin : (Try.prog.info? 147).map (·.size) = some 19 := by kernel_rfl
theorem linC_at {x : Lin} (h : x.id.length = 16) (A : Option Addr) (c : Nat) : (linC x A c).toArray[16]? = some (.int .i64 x.n) ∧ (linC x A c).toArray[17]? = some (.int .i64 x.rep) ∧ (linC x A c).toArray[18]? = some (.slice A x.f.length c) := by
  have hl : (nums .u8 x.id).length = 16 := by simp [nums, h]
  unfold linC
  refine ⟨?_, ?_, ?_⟩ <;> (rw [List.getElem?_toArray, List.getElem?_append_right (by omega), hl]; rfl)
theorem entC_36 {x : Ent} (h : x.d.length = 32) (A : Option Addr) (c : Nat) : (entC x A c).toArray[36]? = some (.slice A x.b.length c) := by
  rw [List.getElem?_toArray]
  show (nums .u8 x.d ++ [Value.slice A x.b.length c])[32]? = _
  rw [List.getElem?_append_right (by simp [nums, h])]
  simp [nums, h]
section
variable {P : Program} {md : Region.Mode} {ops : Array Oper} {Q : Exit → Act → World → Prop} {S : World → Prop}
theorem tk {i : Nat} {oi : Oper} {v : Value} {fuel : Nat} {listed : Array Bool} {a : Act} {w : World} (hi : ops[i]? = some oi)
    (hb : (Region.noSelect ops && (Region.free md ops listed i && (Region.ready md ops listed).contains i)) = true)
    (hQ : ∀ c a w, Q (.panic c) (a.put oi.dst v) w → Q (.panic c) a w) (hS : S w) (hw : Region.wanted oi (yielded ops a.tmps) = true) (hy : ∀ W, S W → (execOp a.eval oi).run P W = .ok (.value v) W)
    (h : wpAnyH P md ops Q S fuel (listed.setIfInBounds i true) (a.put oi.dst v) w) : wpAnyH P md ops Q S (fuel + 1) listed a w := by
  simp only [Bool.and_eq_true] at hb
  exact wpAnyH_take hi hb.1 hb.2.1 hb.2.2 hQ (.inl ⟨hw, hy⟩) hS h
theorem tf {i : Nat} {oi : Oper} {fuel : Nat} {listed : Array Bool} {a : Act} {w : World} (hi : ops[i]? = some oi)
    (hb : (Region.noSelect ops && (Region.free md ops listed i && (Region.ready md ops listed).contains i)) = true)
    (hQ : ∀ c a w, Q (.panic c) (a.put oi.dst undef) w → Q (.panic c) a w) (hS : S w) (hw : Region.wanted oi (yielded ops a.tmps) = false)
    (h : wpAnyH P md ops Q S fuel (listed.setIfInBounds i true) (a.put oi.dst undef) w) : wpAnyH P md ops Q S (fuel + 1) listed a w := by
  simp only [Bool.and_eq_true] at hb
  exact wpAnyH_take hi hb.1 hb.2.1 hb.2.2 hQ (.inr ⟨hw, rfl⟩) hS h
theorem tq {i : Nat} {oi : Oper} {v : Value} {fuel : Nat} {listed : Array Bool} {a : Act} {w : World} (hy : ∀ W, S W → (execOp a.eval oi).run P W = .ok (.value v) W)
    (h : wpAnyH P md ops Q S fuel (listed.setIfInBounds i true) (a.put oi.dst v) w) (hi : ops[i]? = some oi := by simp only [List.getElem?_toArray, List.getElem?_cons_succ, List.getElem?_cons_zero]; rfl)
    (hb : (Region.noSelect ops && (Region.free md ops listed i && (Region.ready md ops listed).contains i)) = true := by kernel_rfl)
    (hQ : ∀ c a w, Q (.panic c) (a.put oi.dst v) w → Q (.panic c) a w := by exact fun _ _ _ h => h) (hS : S w := by assumption) (hw : Region.wanted oi (yielded ops a.tmps) = true := by rfl) : wpAnyH P md ops Q S (fuel + 1) listed a w := tk hi hb hQ hS hw hy h
theorem tg {i : Nat} {oi : Oper} {fuel : Nat} {listed : Array Bool} {a : Act} {w : World}
    (h : wpAnyH P md ops Q S fuel (listed.setIfInBounds i true) (a.put oi.dst undef) w) (hi : ops[i]? = some oi := by simp only [List.getElem?_toArray, List.getElem?_cons_succ, List.getElem?_cons_zero]; rfl)
    (hb : (Region.noSelect ops && (Region.free md ops listed i && (Region.ready md ops listed).contains i)) = true := by kernel_rfl)
    (hQ : ∀ c a w, Q (.panic c) (a.put oi.dst undef) w → Q (.panic c) a w := by exact fun _ _ _ h => h) (hS : S w := by assumption) (hw : Region.wanted oi (yielded ops a.tmps) = false := by rfl) : wpAnyH P md ops Q S (fuel + 1) listed a w := tf hi hb hQ hS hw h
end
end Go.Proofs.Ytchaegfdcdlfaaa.X
