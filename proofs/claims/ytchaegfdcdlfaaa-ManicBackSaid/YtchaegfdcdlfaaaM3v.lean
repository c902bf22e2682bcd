/- Texts of this claim, what it reaches. -/
import Derived.Deep.DrawnRows
import Derived.Test.YtchaegfdcdlfaaaM2v
import Derived.ProofKit
import Derived.OpenShut
import Derived.Deep.Slices
import Derived.Deep.Strs
import Derived.Lib.SmallJoins
import Derived.Laws.Strings
import Derived.Test.YtchaegfdcdlfaaaM1v
import Derived.Deep.RegionHeld

namespace Go.Proofs.Ytchaegfdcdlfaaa.X
set_option linter.unusedVariables false
set_option linter.unusedSimpArgs false
open Go.RowKit Go.Proofs.YtchaegfdcdlfaaaW.PrintWords Go.Proofs.YtchaegfdcdlfaaaW.PrintLast Go.Proofs.YtchaegfdcdlfaaaW.PrintMore
attribute [local go_sem] max2_int min2_int max_two min_two max_three min_three max_four min_four
theorem bel_cell {w w1 : World} {g i : Nat} {v : Value} (hb : Below w.heap.size w w1) (h : w.cell? ⟨g, i, none⟩ = some v) : w1.cell? ⟨g, i, none⟩ = some v := by
  have hl : g < w.heap.size := by
    unfold World.cell? at h
    cases hq : w.heap[g]? with
    | none => simp [hq] at h
    | some o => exact blk_lt hq
  have := hb.cell (p := ⟨g, i, none⟩) hl
  exact this.trans h
theorem stmay_call (n r : Int) (w : World) : Calls Try.prog 149 #[.agg #[.int .i64 n, .int .i64 r]] w fun e w' => e = .returned (.bool (stMay n r)) ∧ Below w.heap.size w w' :=
  stamp_May.calls n r (stMay n r) w (StMay_eq n r)
theorem stless_call (n r m q : Int) (w : World) : Calls Try.prog 174 #[.agg #[.int .i64 n, .int .i64 r], .agg #[.int .i64 m, .int .i64 q]] w fun e w' => e = .returned (.bool (stLess n r m q)) ∧ Below w.heap.size w w' :=
  stamp_Less.calls 9 n r m q (stLess n r m q) w (StLess_eq n r m q 9 (by decide))
theorem blocks_call (n : Int) (h : 0 ≤ n) (h2 : n ≤ 1000) (w : World) : Calls Try.prog 173 #[.int .i64 n] w fun e w' => e = .returned (.int .i64 (blkM n)) ∧ Below w.heap.size w w' :=
  (manifest_blocks.calls n (blkM n) w (Blocks_eq n h (by omega))).mono fun e w' h => ⟨h.1, by obtain ⟨_, q, rfl⟩ := h; exact pw_below_drewN (Below.refl _ _) _⟩
abbrev EntS (w0 : World) (no n rep len : Int) (A : Option Addr) (l c : Nat) (dn dr : Int) (W : World) : Prop :=
  W.cell? ⟨w0.heap.size, 0, none⟩ = some (.int .i64 no) ∧ W.cell? ⟨w0.heap.size, 1, none⟩ = some (.int .i64 n) ∧ W.cell? ⟨w0.heap.size, 2, none⟩ = some (.int .i64 rep) ∧ W.cell? ⟨w0.heap.size, 3, none⟩ = some (.int .i64 len) ∧ W.cell? ⟨w0.heap.size, 36, none⟩ = some (.slice A l c) ∧ W.cell? ⟨w0.heap.size + 1, 0, none⟩ = some (.int .i64 dn) ∧ W.cell? ⟨w0.heap.size + 1, 1, none⟩ = some (.int .i64 dr) ∧ Below w0.heap.size w0 W
theorem EntS.step {w0 : World} {no n rep len : Int} {A : Option Addr} {l c : Nat} {dn dr : Int} {W W1 : World} (h : EntS w0 no n rep len A l c dn dr W) (hb : Below W.heap.size W W1) : EntS w0 no n rep len A l c dn dr W1 :=
  ⟨bel_cell hb h.1, bel_cell hb h.2.1, bel_cell hb h.2.2.1, bel_cell hb h.2.2.2.1, bel_cell hb h.2.2.2.2.1, bel_cell hb h.2.2.2.2.2.1, bel_cell hb h.2.2.2.2.2.2.1, below_step h.2.2.2.2.2.2.2 hb⟩
theorem EntS.begin (w0 : World) (cs : Array Value) (no n rep len : Int) (A : Option Addr) (l c : Nat) (h0 : cs[0]? = some (.int .i64 no)) (h1 : cs[1]? = some (.int .i64 n)) (h2 : cs[2]? = some (.int .i64 rep)) (h3 : cs[3]? = some (.int .i64 len)) (h4 : cs[36]? = some (.slice A l c)) (dn dr : Int) : EntS w0 no n rep len A l c dn dr ((w0.alloc (.cells cs 149)).alloc (.cells #[.int .i64 dn, .int .i64 dr] 96)).drew := by
  have HE := blk_alloc (blk_new w0 (.cells cs 149)) (.cells #[.int .i64 dn, .int .i64 dr] 96)
  have HD := blk_new (w0.alloc (.cells cs 149)) (.cells #[.int .i64 dn, .int .i64 dr] 96)
  have es : (w0.alloc (.cells cs 149)).heap.size = w0.heap.size + 1 := Array.size_push ..
  rw [es] at HD
  exact ⟨(blk_cell HE 0).trans h0, (blk_cell HE 1).trans h1, (blk_cell HE 2).trans h2, (blk_cell HE 3).trans h3, (blk_cell HE 36).trans h4, (blk_cell HD 0).trans rfl, (blk_cell HD 1).trans rfl, below_drew (below_alloc (below_alloc (Below.refl _ _) _) _)⟩
theorem EntS.below {w0 : World} {no n rep len : Int} {A : Option Addr} {l c : Nat} {dn dr : Int} {W : World} (h : EntS w0 no n rep len A l c dn dr W) : Below w0.heap.size w0 W := h.2.2.2.2.2.2.2
set_option maxHeartbeats 4000000 in
set_option maxRecDepth 100000 in
theorem ent_way0 (cs : Array Value) (no n rep len : Int) (A : Option Addr) (l c : Nat) (h0 : cs[0]? = some (.int .i64 no)) (h1 : cs[1]? = some (.int .i64 n)) (h2 : cs[2]? = some (.int .i64 rep)) (h3 : cs[3]? = some (.int .i64 len)) (h4 : cs[36]? = some (.slice A l c)) (dn dr : Int) (w : World)  (c1 : decide (no ≥ 0) = false) :
    Calls Try.prog 150 #[.agg cs, .agg #[.int .i64 dn, .int .i64 dr]] w fun e w' => e = .returned (.bool false) ∧ Below w.heap.size w w' := by
  have HB := Aside0.mk (EntS.begin w cs no n rep len A l c h0 h1 h2 h3 h4 dn dr)
  clear h0 h1 h2 h3 h4
  go_enter Try.func150, Try.ntmps150
  go_wp2_with fail
  refine wp_region_held_drew (S := (fun W => EntS w no n rep len A l c dn dr W)) (by kernel_rfl) (HB.out) (fun hHeld => ?_)
  refine tq (i := 0) (v := ?_) ?hy ?_
  case hy => (intro W_ hW_; go_simp; first | done | with_reducible rfl)
  try simp only [Act.put, List.setIfInBounds_toArray, List.set_cons_zero, List.set_cons_succ]
  refine tq (i := 1) (v := ?_) ?hy ?_
  case hy => (intro W_ hW_; go_simp; first | done | with_reducible rfl)
  try simp only [Act.put, List.setIfInBounds_toArray, List.set_cons_zero, List.set_cons_succ]
  refine tq (i := 2) (v := ?_) ?hy ?_
  case hy => (intro W_ hW_; go_simp; first | done | with_reducible rfl)
  try simp only [Act.put, List.setIfInBounds_toArray, List.set_cons_zero, List.set_cons_succ]
  refine tq (i := 3) (v := ?_) ?hy ?_
  case hy => (intro W_ hW_; go_simp; first | done | with_reducible rfl)
  try simp only [Act.put, List.setIfInBounds_toArray, List.set_cons_zero, List.set_cons_succ]
  refine tg (i := 4) ?_
  try simp only [Act.put, List.setIfInBounds_toArray, List.set_cons_zero, List.set_cons_succ]
  refine tg (i := 5) ?_
  try simp only [Act.put, List.setIfInBounds_toArray, List.set_cons_zero, List.set_cons_succ]
  refine tg (i := 6) ?_
  try simp only [Act.put, List.setIfInBounds_toArray, List.set_cons_zero, List.set_cons_succ]
  refine tq (i := 7) (v := ?_) ?hy ?_
  case hy => (intro W_ hW_; go_simp; first | done | with_reducible rfl)
  try simp only [Act.put, List.setIfInBounds_toArray, List.set_cons_zero, List.set_cons_succ]
  refine tq (i := 8) (v := ?_) ?hy ?_
  case hy => (intro W_ hW_; go_simp; first | done | with_reducible rfl)
  try simp only [Act.put, List.setIfInBounds_toArray, List.set_cons_zero, List.set_cons_succ]
  refine tg (i := 9) ?_
  try simp only [Act.put, List.setIfInBounds_toArray, List.set_cons_zero, List.set_cons_succ]
  refine tg (i := 10) ?_
  try simp only [Act.put, List.setIfInBounds_toArray, List.set_cons_zero, List.set_cons_succ]
  refine tg (i := 11) ?_
  try simp only [Act.put, List.setIfInBounds_toArray, List.set_cons_zero, List.set_cons_succ]
  refine tq (i := 12) (v := ?_) ?hy ?_
  case hy => (intro W_ hW_; go_simp; first | done | with_reducible rfl)
  try simp only [Act.put, List.setIfInBounds_toArray, List.set_cons_zero, List.set_cons_succ]
  refine tq (i := 13) (v := ?_) ?hy ?_
  case hy => (intro W_ hW_; go_simp; first | done | with_reducible rfl)
  try simp only [Act.put, List.setIfInBounds_toArray, List.set_cons_zero, List.set_cons_succ]
  refine tg (i := 14) ?_
  try simp only [Act.put, List.setIfInBounds_toArray, List.set_cons_zero, List.set_cons_succ]
  refine tg (i := 15) ?_
  try simp only [Act.put, List.setIfInBounds_toArray, List.set_cons_zero, List.set_cons_succ]
  refine tg (i := 16) ?_
  try simp only [Act.put, List.setIfInBounds_toArray, List.set_cons_zero, List.set_cons_succ]
  refine tq (i := 17) (v := ?_) ?hy ?_
  case hy => (intro W_ hW_; go_simp; first | done | with_reducible rfl)
  try simp only [Act.put, List.setIfInBounds_toArray, List.set_cons_zero, List.set_cons_succ]
  refine tq (i := 18) (v := ?_) ?hy ?_
  case hy => (intro W_ hW_; go_simp; first | done | with_reducible rfl)
  try simp only [Act.put, List.setIfInBounds_toArray, List.set_cons_zero, List.set_cons_succ]
  refine tg (i := 19) ?_
  try simp only [Act.put, List.setIfInBounds_toArray, List.set_cons_zero, List.set_cons_succ]
  refine tg (i := 20) ?_
  try simp only [Act.put, List.setIfInBounds_toArray, List.set_cons_zero, List.set_cons_succ]
  refine tg (i := 21) ?_
  try simp only [Act.put, List.setIfInBounds_toArray, List.set_cons_zero, List.set_cons_succ]
  refine tg (i := 22) ?_
  try simp only [Act.put, List.setIfInBounds_toArray, List.set_cons_zero, List.set_cons_succ]
  refine tg (i := 23) ?_
  try simp only [Act.put, List.setIfInBounds_toArray, List.set_cons_zero, List.set_cons_succ]
  refine tg (i := 24) ?_
  try simp only [Act.put, List.setIfInBounds_toArray, List.set_cons_zero, List.set_cons_succ]
  refine tg (i := 25) ?_
  try simp only [Act.put, List.setIfInBounds_toArray, List.set_cons_zero, List.set_cons_succ]
  refine tq (i := 26) (v := ?_) ?hy ?_
  case hy => (intro W_ hW_; go_simp; first | done | with_reducible rfl)
  try simp only [Act.put, List.setIfInBounds_toArray, List.set_cons_zero, List.set_cons_succ]
  refine tq (i := 27) (v := ?_) ?hy ?_
  case hy => (intro W_ hW_; go_simp; first | done | with_reducible rfl)
  try simp only [Act.put, List.setIfInBounds_toArray, List.set_cons_zero, List.set_cons_succ]
  refine tg (i := 28) ?_
  try simp only [Act.put, List.setIfInBounds_toArray, List.set_cons_zero, List.set_cons_succ]
  refine tg (i := 29) ?_
  try simp only [Act.put, List.setIfInBounds_toArray, List.set_cons_zero, List.set_cons_succ]
  refine tg (i := 30) ?_
  try simp only [Act.put, List.setIfInBounds_toArray, List.set_cons_zero, List.set_cons_succ]
  refine tq (i := 31) (v := ?_) ?hy ?_
  case hy => (intro W_ hW_; go_simp; first | done | with_reducible rfl)
  try simp only [Act.put, List.setIfInBounds_toArray, List.set_cons_zero, List.set_cons_succ]
  refine tq (i := 32) (v := ?_) ?hy ?_
  case hy => (intro W_ hW_; go_simp; first | done | with_reducible rfl)
  try simp only [Act.put, List.setIfInBounds_toArray, List.set_cons_zero, List.set_cons_succ]
  refine tg (i := 33) ?_
  try simp only [Act.put, List.setIfInBounds_toArray, List.set_cons_zero, List.set_cons_succ]
  refine tg (i := 34) ?_
  try simp only [Act.put, List.setIfInBounds_toArray, List.set_cons_zero, List.set_cons_succ]
  refine tg (i := 35) ?_
  try simp only [Act.put, List.setIfInBounds_toArray, List.set_cons_zero, List.set_cons_succ]
  refine tg (i := 36) ?_
  try simp only [Act.put, List.setIfInBounds_toArray, List.set_cons_zero, List.set_cons_succ]
  refine tq (i := 37) (v := ?_) ?hy ?_
  case hy => (intro W_ hW_; go_simp; first | done | with_reducible rfl)
  try simp only [Act.put, List.setIfInBounds_toArray, List.set_cons_zero, List.set_cons_succ]
  refine tq (i := 38) (v := ?_) ?hy ?_
  case hy => (intro W_ hW_; go_simp; first | done | with_reducible rfl)
  try simp only [Act.put, List.setIfInBounds_toArray, List.set_cons_zero, List.set_cons_succ]
  refine wpAnyH_done (by kernel_rfl) ?_ _
  have hHB := EntS.below hHeld
  clear hHeld
  go_wp2_with fail
  go_ret
  exact ⟨rfl, hHB⟩
set_option maxHeartbeats 4000000 in
set_option maxRecDepth 100000 in
theorem ent_way1 (cs : Array Value) (no n rep len : Int) (A : Option Addr) (l c : Nat) (h0 : cs[0]? = some (.int .i64 no)) (h1 : cs[1]? = some (.int .i64 n)) (h2 : cs[2]? = some (.int .i64 rep)) (h3 : cs[3]? = some (.int .i64 len)) (h4 : cs[36]? = some (.slice A l c)) (dn dr : Int) (w : World) (c1 : decide (no ≥ 0) = true) (c2 : decide (no < 8) = false) :
    Calls Try.prog 150 #[.agg cs, .agg #[.int .i64 dn, .int .i64 dr]] w fun e w' => e = .returned (.bool false) ∧ Below w.heap.size w w' := by
  have HB := Aside0.mk (EntS.begin w cs no n rep len A l c h0 h1 h2 h3 h4 dn dr)
  clear h0 h1 h2 h3 h4
  go_enter Try.func150, Try.ntmps150
  go_wp2_with fail
  refine wp_region_held_drew (S := (fun W => EntS w no n rep len A l c dn dr W)) (by kernel_rfl) (HB.out) (fun hHeld => ?_)
  refine tq (i := 0) (v := ?_) ?hy ?_
  case hy => (intro W_ hW_; go_simp; first | done | with_reducible rfl)
  try simp only [Act.put, List.setIfInBounds_toArray, List.set_cons_zero, List.set_cons_succ]
  refine tq (i := 1) (v := ?_) ?hy ?_
  case hy => (intro W_ hW_; go_simp; first | done | with_reducible rfl)
  try simp only [Act.put, List.setIfInBounds_toArray, List.set_cons_zero, List.set_cons_succ]
  refine tq (i := 2) (v := ?_) ?hy ?_
  case hy => (intro W_ hW_; go_simp; first | done | with_reducible rfl)
  try simp only [Act.put, List.setIfInBounds_toArray, List.set_cons_zero, List.set_cons_succ]
  refine tq (i := 3) (v := ?_) ?hy ?_
  case hy => (intro W_ hW_; go_simp; first | done | with_reducible rfl)
  try simp only [Act.put, List.setIfInBounds_toArray, List.set_cons_zero, List.set_cons_succ]
  refine tq (i := 4) (v := ?_) ?hy ?_
  case hy => (intro W_ hW_; go_simp; first | done | with_reducible rfl)
  try simp only [Act.put, List.setIfInBounds_toArray, List.set_cons_zero, List.set_cons_succ]
  refine tq (i := 5) (v := ?_) ?hy ?_
  case hy => (intro W_ hW_; go_simp; first | done | with_reducible rfl)
  try simp only [Act.put, List.setIfInBounds_toArray, List.set_cons_zero, List.set_cons_succ]
  refine tq (i := 6) (v := ?_) ?hy ?_
  case hy => (intro W_ hW_; go_simp; first | done | with_reducible rfl)
  try simp only [Act.put, List.setIfInBounds_toArray, List.set_cons_zero, List.set_cons_succ]
  refine tq (i := 7) (v := ?_) ?hy ?_
  case hy => (intro W_ hW_; go_simp; first | done | with_reducible rfl)
  try simp only [Act.put, List.setIfInBounds_toArray, List.set_cons_zero, List.set_cons_succ]
  refine tq (i := 8) (v := ?_) ?hy ?_
  case hy => (intro W_ hW_; go_simp; first | done | with_reducible rfl)
  try simp only [Act.put, List.setIfInBounds_toArray, List.set_cons_zero, List.set_cons_succ]
  refine tg (i := 9) ?_
  try simp only [Act.put, List.setIfInBounds_toArray, List.set_cons_zero, List.set_cons_succ]
  refine tg (i := 10) ?_
  try simp only [Act.put, List.setIfInBounds_toArray, List.set_cons_zero, List.set_cons_succ]
  refine tg (i := 11) ?_
  try simp only [Act.put, List.setIfInBounds_toArray, List.set_cons_zero, List.set_cons_succ]
  refine tq (i := 12) (v := ?_) ?hy ?_
  case hy => (intro W_ hW_; go_simp; first | done | with_reducible rfl)
  try simp only [Act.put, List.setIfInBounds_toArray, List.set_cons_zero, List.set_cons_succ]
  refine tq (i := 13) (v := ?_) ?hy ?_
  case hy => (intro W_ hW_; go_simp; first | done | with_reducible rfl)
  try simp only [Act.put, List.setIfInBounds_toArray, List.set_cons_zero, List.set_cons_succ]
  refine tg (i := 14) ?_
  try simp only [Act.put, List.setIfInBounds_toArray, List.set_cons_zero, List.set_cons_succ]
  refine tg (i := 15) ?_
  try simp only [Act.put, List.setIfInBounds_toArray, List.set_cons_zero, List.set_cons_succ]
  refine tg (i := 16) ?_
  try simp only [Act.put, List.setIfInBounds_toArray, List.set_cons_zero, List.set_cons_succ]
  refine tq (i := 17) (v := ?_) ?hy ?_
  case hy => (intro W_ hW_; go_simp; first | done | with_reducible rfl)
  try simp only [Act.put, List.setIfInBounds_toArray, List.set_cons_zero, List.set_cons_succ]
  refine tq (i := 18) (v := ?_) ?hy ?_
  case hy => (intro W_ hW_; go_simp; first | done | with_reducible rfl)
  try simp only [Act.put, List.setIfInBounds_toArray, List.set_cons_zero, List.set_cons_succ]
  refine tg (i := 19) ?_
  try simp only [Act.put, List.setIfInBounds_toArray, List.set_cons_zero, List.set_cons_succ]
  refine tg (i := 20) ?_
  try simp only [Act.put, List.setIfInBounds_toArray, List.set_cons_zero, List.set_cons_succ]
  refine tg (i := 21) ?_
  try simp only [Act.put, List.setIfInBounds_toArray, List.set_cons_zero, List.set_cons_succ]
  refine tg (i := 22) ?_
  try simp only [Act.put, List.setIfInBounds_toArray, List.set_cons_zero, List.set_cons_succ]
  refine tg (i := 23) ?_
  try simp only [Act.put, List.setIfInBounds_toArray, List.set_cons_zero, List.set_cons_succ]
  refine tg (i := 24) ?_
  try simp only [Act.put, List.setIfInBounds_toArray, List.set_cons_zero, List.set_cons_succ]
  refine tg (i := 25) ?_
  try simp only [Act.put, List.setIfInBounds_toArray, List.set_cons_zero, List.set_cons_succ]
  refine tq (i := 26) (v := ?_) ?hy ?_
  case hy => (intro W_ hW_; go_simp; first | done | with_reducible rfl)
  try simp only [Act.put, List.setIfInBounds_toArray, List.set_cons_zero, List.set_cons_succ]
  refine tq (i := 27) (v := ?_) ?hy ?_
  case hy => (intro W_ hW_; go_simp; first | done | with_reducible rfl)
  try simp only [Act.put, List.setIfInBounds_toArray, List.set_cons_zero, List.set_cons_succ]
  refine tg (i := 28) ?_
  try simp only [Act.put, List.setIfInBounds_toArray, List.set_cons_zero, List.set_cons_succ]
  refine tg (i := 29) ?_
  try simp only [Act.put, List.setIfInBounds_toArray, List.set_cons_zero, List.set_cons_succ]
  refine tg (i := 30) ?_
  try simp only [Act.put, List.setIfInBounds_toArray, List.set_cons_zero, List.set_cons_succ]
  refine tq (i := 31) (v := ?_) ?hy ?_
  case hy => (intro W_ hW_; go_simp; first | done | with_reducible rfl)
  try simp only [Act.put, List.setIfInBounds_toArray, List.set_cons_zero, List.set_cons_succ]
  refine tq (i := 32) (v := ?_) ?hy ?_
  case hy => (intro W_ hW_; go_simp; first | done | with_reducible rfl)
  try simp only [Act.put, List.setIfInBounds_toArray, List.set_cons_zero, List.set_cons_succ]
  refine tg (i := 33) ?_
  try simp only [Act.put, List.setIfInBounds_toArray, List.set_cons_zero, List.set_cons_succ]
  refine tg (i := 34) ?_
  try simp only [Act.put, List.setIfInBounds_toArray, List.set_cons_zero, List.set_cons_succ]
  refine tg (i := 35) ?_
  try simp only [Act.put, List.setIfInBounds_toArray, List.set_cons_zero, List.set_cons_succ]
  refine tg (i := 36) ?_
  try simp only [Act.put, List.setIfInBounds_toArray, List.set_cons_zero, List.set_cons_succ]
  refine tq (i := 37) (v := ?_) ?hy ?_
  case hy => (intro W_ hW_; go_simp; first | done | with_reducible rfl)
  try simp only [Act.put, List.setIfInBounds_toArray, List.set_cons_zero, List.set_cons_succ]
  refine tq (i := 38) (v := ?_) ?hy ?_
  case hy => (intro W_ hW_; go_simp; first | done | with_reducible rfl)
  try simp only [Act.put, List.setIfInBounds_toArray, List.set_cons_zero, List.set_cons_succ]
  refine wpAnyH_done (by kernel_rfl) ?_ _
  have hHB := EntS.below hHeld
  clear hHeld
  go_wp2_with fail
  go_ret
  exact ⟨rfl, hHB⟩
set_option maxHeartbeats 4000000 in
set_option maxRecDepth 100000 in
theorem ent_way2 (cs : Array Value) (no n rep len : Int) (A : Option Addr) (l c : Nat) (h0 : cs[0]? = some (.int .i64 no)) (h1 : cs[1]? = some (.int .i64 n)) (h2 : cs[2]? = some (.int .i64 rep)) (h3 : cs[3]? = some (.int .i64 len)) (h4 : cs[36]? = some (.slice A l c)) (dn dr : Int) (w : World) (c1 : decide (no ≥ 0) = true) (c2 : decide (no < 8) = true) (c3 : decide (len ≥ 0) = false) :
    Calls Try.prog 150 #[.agg cs, .agg #[.int .i64 dn, .int .i64 dr]] w fun e w' => e = .returned (.bool false) ∧ Below w.heap.size w w' := by
  have HB := Aside0.mk (EntS.begin w cs no n rep len A l c h0 h1 h2 h3 h4 dn dr)
  clear h0 h1 h2 h3 h4
  go_enter Try.func150, Try.ntmps150
  go_wp2_with fail
  refine wp_region_held_drew (S := (fun W => EntS w no n rep len A l c dn dr W)) (by kernel_rfl) (HB.out) (fun hHeld => ?_)
  refine tq (i := 0) (v := ?_) ?hy ?_
  case hy => (intro W_ hW_; go_simp; first | done | with_reducible rfl)
  try simp only [Act.put, List.setIfInBounds_toArray, List.set_cons_zero, List.set_cons_succ]
  refine tq (i := 1) (v := ?_) ?hy ?_
  case hy => (intro W_ hW_; go_simp; first | done | with_reducible rfl)
  try simp only [Act.put, List.setIfInBounds_toArray, List.set_cons_zero, List.set_cons_succ]
  refine tq (i := 2) (v := ?_) ?hy ?_
  case hy => (intro W_ hW_; go_simp; first | done | with_reducible rfl)
  try simp only [Act.put, List.setIfInBounds_toArray, List.set_cons_zero, List.set_cons_succ]
  refine tq (i := 3) (v := ?_) ?hy ?_
  case hy => (intro W_ hW_; go_simp; first | done | with_reducible rfl)
  try simp only [Act.put, List.setIfInBounds_toArray, List.set_cons_zero, List.set_cons_succ]
  refine tq (i := 4) (v := ?_) ?hy ?_
  case hy => (intro W_ hW_; go_simp; first | done | with_reducible rfl)
  try simp only [Act.put, List.setIfInBounds_toArray, List.set_cons_zero, List.set_cons_succ]
  refine tq (i := 5) (v := ?_) ?hy ?_
  case hy => (intro W_ hW_; go_simp; first | done | with_reducible rfl)
  try simp only [Act.put, List.setIfInBounds_toArray, List.set_cons_zero, List.set_cons_succ]
  refine tq (i := 6) (v := ?_) ?hy ?_
  case hy => (intro W_ hW_; go_simp; first | done | with_reducible rfl)
  try simp only [Act.put, List.setIfInBounds_toArray, List.set_cons_zero, List.set_cons_succ]
  refine tq (i := 7) (v := ?_) ?hy ?_
  case hy => (intro W_ hW_; go_simp; first | done | with_reducible rfl)
  try simp only [Act.put, List.setIfInBounds_toArray, List.set_cons_zero, List.set_cons_succ]
  refine tq (i := 8) (v := ?_) ?hy ?_
  case hy => (intro W_ hW_; go_simp; first | done | with_reducible rfl)
  try simp only [Act.put, List.setIfInBounds_toArray, List.set_cons_zero, List.set_cons_succ]
  refine tq (i := 9) (v := ?_) ?hy ?_
  case hy => (intro W_ hW_; go_simp; first | done | with_reducible rfl)
  try simp only [Act.put, List.setIfInBounds_toArray, List.set_cons_zero, List.set_cons_succ]
  refine tq (i := 10) (v := ?_) ?hy ?_
  case hy => (intro W_ hW_; go_simp; first | done | with_reducible rfl)
  try simp only [Act.put, List.setIfInBounds_toArray, List.set_cons_zero, List.set_cons_succ]
  refine tq (i := 11) (v := ?_) ?hy ?_
  case hy => (intro W_ hW_; go_simp; first | done | with_reducible rfl)
  try simp only [Act.put, List.setIfInBounds_toArray, List.set_cons_zero, List.set_cons_succ]
  refine tq (i := 12) (v := ?_) ?hy ?_
  case hy => (intro W_ hW_; go_simp; first | done | with_reducible rfl)
  try simp only [Act.put, List.setIfInBounds_toArray, List.set_cons_zero, List.set_cons_succ]
  refine tq (i := 13) (v := ?_) ?hy ?_
  case hy => (intro W_ hW_; go_simp; first | done | with_reducible rfl)
  try simp only [Act.put, List.setIfInBounds_toArray, List.set_cons_zero, List.set_cons_succ]
  refine tg (i := 14) ?_
  try simp only [Act.put, List.setIfInBounds_toArray, List.set_cons_zero, List.set_cons_succ]
  refine tg (i := 15) ?_
  try simp only [Act.put, List.setIfInBounds_toArray, List.set_cons_zero, List.set_cons_succ]
  refine tg (i := 16) ?_
  try simp only [Act.put, List.setIfInBounds_toArray, List.set_cons_zero, List.set_cons_succ]
  refine tq (i := 17) (v := ?_) ?hy ?_
  case hy => (intro W_ hW_; go_simp; first | done | with_reducible rfl)
  try simp only [Act.put, List.setIfInBounds_toArray, List.set_cons_zero, List.set_cons_succ]
  refine tq (i := 18) (v := ?_) ?hy ?_
  case hy => (intro W_ hW_; go_simp; first | done | with_reducible rfl)
  try simp only [Act.put, List.setIfInBounds_toArray, List.set_cons_zero, List.set_cons_succ]
  refine tg (i := 19) ?_
  try simp only [Act.put, List.setIfInBounds_toArray, List.set_cons_zero, List.set_cons_succ]
  refine tg (i := 20) ?_
  try simp only [Act.put, List.setIfInBounds_toArray, List.set_cons_zero, List.set_cons_succ]
  refine tg (i := 21) ?_
  try simp only [Act.put, List.setIfInBounds_toArray, List.set_cons_zero, List.set_cons_succ]
  refine tg (i := 22) ?_
  try simp only [Act.put, List.setIfInBounds_toArray, List.set_cons_zero, List.set_cons_succ]
  refine tg (i := 23) ?_
  try simp only [Act.put, List.setIfInBounds_toArray, List.set_cons_zero, List.set_cons_succ]
  refine tg (i := 24) ?_
  try simp only [Act.put, List.setIfInBounds_toArray, List.set_cons_zero, List.set_cons_succ]
  refine tg (i := 25) ?_
  try simp only [Act.put, List.setIfInBounds_toArray, List.set_cons_zero, List.set_cons_succ]
  refine tq (i := 26) (v := ?_) ?hy ?_
  case hy => (intro W_ hW_; go_simp; first | done | with_reducible rfl)
  try simp only [Act.put, List.setIfInBounds_toArray, List.set_cons_zero, List.set_cons_succ]
  refine tq (i := 27) (v := ?_) ?hy ?_
  case hy => (intro W_ hW_; go_simp; first | done | with_reducible rfl)
  try simp only [Act.put, List.setIfInBounds_toArray, List.set_cons_zero, List.set_cons_succ]
  refine tg (i := 28) ?_
  try simp only [Act.put, List.setIfInBounds_toArray, List.set_cons_zero, List.set_cons_succ]
  refine tg (i := 29) ?_
  try simp only [Act.put, List.setIfInBounds_toArray, List.set_cons_zero, List.set_cons_succ]
  refine tg (i := 30) ?_
  try simp only [Act.put, List.setIfInBounds_toArray, List.set_cons_zero, List.set_cons_succ]
  refine tq (i := 31) (v := ?_) ?hy ?_
  case hy => (intro W_ hW_; go_simp; first | done | with_reducible rfl)
  try simp only [Act.put, List.setIfInBounds_toArray, List.set_cons_zero, List.set_cons_succ]
  refine tq (i := 32) (v := ?_) ?hy ?_
  case hy => (intro W_ hW_; go_simp; first | done | with_reducible rfl)
  try simp only [Act.put, List.setIfInBounds_toArray, List.set_cons_zero, List.set_cons_succ]
  refine tg (i := 33) ?_
  try simp only [Act.put, List.setIfInBounds_toArray, List.set_cons_zero, List.set_cons_succ]
  refine tg (i := 34) ?_
  try simp only [Act.put, List.setIfInBounds_toArray, List.set_cons_zero, List.set_cons_succ]
  refine tg (i := 35) ?_
  try simp only [Act.put, List.setIfInBounds_toArray, List.set_cons_zero, List.set_cons_succ]
  refine tg (i := 36) ?_
  try simp only [Act.put, List.setIfInBounds_toArray, List.set_cons_zero, List.set_cons_succ]
  refine tq (i := 37) (v := ?_) ?hy ?_
  case hy => (intro W_ hW_; go_simp; first | done | with_reducible rfl)
  try simp only [Act.put, List.setIfInBounds_toArray, List.set_cons_zero, List.set_cons_succ]
  refine tq (i := 38) (v := ?_) ?hy ?_
  case hy => (intro W_ hW_; go_simp; first | done | with_reducible rfl)
  try simp only [Act.put, List.setIfInBounds_toArray, List.set_cons_zero, List.set_cons_succ]
  refine wpAnyH_done (by kernel_rfl) ?_ _
  have hHB := EntS.below hHeld
  clear hHeld
  go_wp2_with fail
  go_ret
  exact ⟨rfl, hHB⟩
set_option maxHeartbeats 4000000 in
set_option maxRecDepth 100000 in
theorem ent_way3 (cs : Array Value) (no n rep len : Int) (A : Option Addr) (l c : Nat) (h0 : cs[0]? = some (.int .i64 no)) (h1 : cs[1]? = some (.int .i64 n)) (h2 : cs[2]? = some (.int .i64 rep)) (h3 : cs[3]? = some (.int .i64 len)) (h4 : cs[36]? = some (.slice A l c)) (dn dr : Int) (w : World) (c1 : decide (no ≥ 0) = true) (c2 : decide (no < 8) = true) (c3 : decide (len ≥ 0) = true) (c4 : decide (len ≤ 200) = false) :
    Calls Try.prog 150 #[.agg cs, .agg #[.int .i64 dn, .int .i64 dr]] w fun e w' => e = .returned (.bool false) ∧ Below w.heap.size w w' := by
  have HB := Aside0.mk (EntS.begin w cs no n rep len A l c h0 h1 h2 h3 h4 dn dr)
  clear h0 h1 h2 h3 h4
  go_enter Try.func150, Try.ntmps150
  go_wp2_with fail
  refine wp_region_held_drew (S := (fun W => EntS w no n rep len A l c dn dr W)) (by kernel_rfl) (HB.out) (fun hHeld => ?_)
  refine tq (i := 0) (v := ?_) ?hy ?_
  case hy => (intro W_ hW_; go_simp; first | done | with_reducible rfl)
  try simp only [Act.put, List.setIfInBounds_toArray, List.set_cons_zero, List.set_cons_succ]
  refine tq (i := 1) (v := ?_) ?hy ?_
  case hy => (intro W_ hW_; go_simp; first | done | with_reducible rfl)
  try simp only [Act.put, List.setIfInBounds_toArray, List.set_cons_zero, List.set_cons_succ]
  refine tq (i := 2) (v := ?_) ?hy ?_
  case hy => (intro W_ hW_; go_simp; first | done | with_reducible rfl)
  try simp only [Act.put, List.setIfInBounds_toArray, List.set_cons_zero, List.set_cons_succ]
  refine tq (i := 3) (v := ?_) ?hy ?_
  case hy => (intro W_ hW_; go_simp; first | done | with_reducible rfl)
  try simp only [Act.put, List.setIfInBounds_toArray, List.set_cons_zero, List.set_cons_succ]
  refine tq (i := 4) (v := ?_) ?hy ?_
  case hy => (intro W_ hW_; go_simp; first | done | with_reducible rfl)
  try simp only [Act.put, List.setIfInBounds_toArray, List.set_cons_zero, List.set_cons_succ]
  refine tq (i := 5) (v := ?_) ?hy ?_
  case hy => (intro W_ hW_; go_simp; first | done | with_reducible rfl)
  try simp only [Act.put, List.setIfInBounds_toArray, List.set_cons_zero, List.set_cons_succ]
  refine tq (i := 6) (v := ?_) ?hy ?_
  case hy => (intro W_ hW_; go_simp; first | done | with_reducible rfl)
  try simp only [Act.put, List.setIfInBounds_toArray, List.set_cons_zero, List.set_cons_succ]
  refine tq (i := 7) (v := ?_) ?hy ?_
  case hy => (intro W_ hW_; go_simp; first | done | with_reducible rfl)
  try simp only [Act.put, List.setIfInBounds_toArray, List.set_cons_zero, List.set_cons_succ]
  refine tq (i := 8) (v := ?_) ?hy ?_
  case hy => (intro W_ hW_; go_simp; first | done | with_reducible rfl)
  try simp only [Act.put, List.setIfInBounds_toArray, List.set_cons_zero, List.set_cons_succ]
  refine tq (i := 9) (v := ?_) ?hy ?_
  case hy => (intro W_ hW_; go_simp; first | done | with_reducible rfl)
  try simp only [Act.put, List.setIfInBounds_toArray, List.set_cons_zero, List.set_cons_succ]
  refine tq (i := 10) (v := ?_) ?hy ?_
  case hy => (intro W_ hW_; go_simp; first | done | with_reducible rfl)
  try simp only [Act.put, List.setIfInBounds_toArray, List.set_cons_zero, List.set_cons_succ]
  refine tq (i := 11) (v := ?_) ?hy ?_
  case hy => (intro W_ hW_; go_simp; first | done | with_reducible rfl)
  try simp only [Act.put, List.setIfInBounds_toArray, List.set_cons_zero, List.set_cons_succ]
  refine tq (i := 12) (v := ?_) ?hy ?_
  case hy => (intro W_ hW_; go_simp; first | done | with_reducible rfl)
  try simp only [Act.put, List.setIfInBounds_toArray, List.set_cons_zero, List.set_cons_succ]
  refine tq (i := 13) (v := ?_) ?hy ?_
  case hy => (intro W_ hW_; go_simp; first | done | with_reducible rfl)
  try simp only [Act.put, List.setIfInBounds_toArray, List.set_cons_zero, List.set_cons_succ]
  refine tq (i := 14) (v := ?_) ?hy ?_
  case hy => (intro W_ hW_; go_simp; first | done | with_reducible rfl)
  try simp only [Act.put, List.setIfInBounds_toArray, List.set_cons_zero, List.set_cons_succ]
  refine tq (i := 15) (v := ?_) ?hy ?_
  case hy => (intro W_ hW_; go_simp; first | done | with_reducible rfl)
  try simp only [Act.put, List.setIfInBounds_toArray, List.set_cons_zero, List.set_cons_succ]
  refine tq (i := 16) (v := ?_) ?hy ?_
  case hy => (intro W_ hW_; go_simp; first | done | with_reducible rfl)
  try simp only [Act.put, List.setIfInBounds_toArray, List.set_cons_zero, List.set_cons_succ]
  refine tq (i := 17) (v := ?_) ?hy ?_
  case hy => (intro W_ hW_; go_simp; first | done | with_reducible rfl)
  try simp only [Act.put, List.setIfInBounds_toArray, List.set_cons_zero, List.set_cons_succ]
  refine tq (i := 18) (v := ?_) ?hy ?_
  case hy => (intro W_ hW_; go_simp; first | done | with_reducible rfl)
  try simp only [Act.put, List.setIfInBounds_toArray, List.set_cons_zero, List.set_cons_succ]
  refine tg (i := 19) ?_
  try simp only [Act.put, List.setIfInBounds_toArray, List.set_cons_zero, List.set_cons_succ]
  refine tg (i := 20) ?_
  try simp only [Act.put, List.setIfInBounds_toArray, List.set_cons_zero, List.set_cons_succ]
  refine tg (i := 21) ?_
  try simp only [Act.put, List.setIfInBounds_toArray, List.set_cons_zero, List.set_cons_succ]
  refine tg (i := 22) ?_
  try simp only [Act.put, List.setIfInBounds_toArray, List.set_cons_zero, List.set_cons_succ]
  refine tg (i := 23) ?_
  try simp only [Act.put, List.setIfInBounds_toArray, List.set_cons_zero, List.set_cons_succ]
  refine tg (i := 24) ?_
  try simp only [Act.put, List.setIfInBounds_toArray, List.set_cons_zero, List.set_cons_succ]
  refine tg (i := 25) ?_
  try simp only [Act.put, List.setIfInBounds_toArray, List.set_cons_zero, List.set_cons_succ]
  refine tq (i := 26) (v := ?_) ?hy ?_
  case hy => (intro W_ hW_; go_simp; first | done | with_reducible rfl)
  try simp only [Act.put, List.setIfInBounds_toArray, List.set_cons_zero, List.set_cons_succ]
  refine tq (i := 27) (v := ?_) ?hy ?_
  case hy => (intro W_ hW_; go_simp; first | done | with_reducible rfl)
  try simp only [Act.put, List.setIfInBounds_toArray, List.set_cons_zero, List.set_cons_succ]
  refine tg (i := 28) ?_
  try simp only [Act.put, List.setIfInBounds_toArray, List.set_cons_zero, List.set_cons_succ]
  refine tg (i := 29) ?_
  try simp only [Act.put, List.setIfInBounds_toArray, List.set_cons_zero, List.set_cons_succ]
  refine tg (i := 30) ?_
  try simp only [Act.put, List.setIfInBounds_toArray, List.set_cons_zero, List.set_cons_succ]
  refine tq (i := 31) (v := ?_) ?hy ?_
  case hy => (intro W_ hW_; go_simp; first | done | with_reducible rfl)
  try simp only [Act.put, List.setIfInBounds_toArray, List.set_cons_zero, List.set_cons_succ]
  refine tq (i := 32) (v := ?_) ?hy ?_
  case hy => (intro W_ hW_; go_simp; first | done | with_reducible rfl)
  try simp only [Act.put, List.setIfInBounds_toArray, List.set_cons_zero, List.set_cons_succ]
  refine tg (i := 33) ?_
  try simp only [Act.put, List.setIfInBounds_toArray, List.set_cons_zero, List.set_cons_succ]
  refine tg (i := 34) ?_
  try simp only [Act.put, List.setIfInBounds_toArray, List.set_cons_zero, List.set_cons_succ]
  refine tg (i := 35) ?_
  try simp only [Act.put, List.setIfInBounds_toArray, List.set_cons_zero, List.set_cons_succ]
  refine tg (i := 36) ?_
  try simp only [Act.put, List.setIfInBounds_toArray, List.set_cons_zero, List.set_cons_succ]
  refine tq (i := 37) (v := ?_) ?hy ?_
  case hy => (intro W_ hW_; go_simp; first | done | with_reducible rfl)
  try simp only [Act.put, List.setIfInBounds_toArray, List.set_cons_zero, List.set_cons_succ]
  refine tq (i := 38) (v := ?_) ?hy ?_
  case hy => (intro W_ hW_; go_simp; first | done | with_reducible rfl)
  try simp only [Act.put, List.setIfInBounds_toArray, List.set_cons_zero, List.set_cons_succ]
  refine wpAnyH_done (by kernel_rfl) ?_ _
  have hHB := EntS.below hHeld
  clear hHeld
  go_wp2_with fail
  go_ret
  exact ⟨rfl, hHB⟩
set_option maxHeartbeats 4000000 in
set_option maxRecDepth 100000 in
theorem ent_way4 (cs : Array Value) (no n rep len : Int) (A : Option Addr) (l c : Nat) (h0 : cs[0]? = some (.int .i64 no)) (h1 : cs[1]? = some (.int .i64 n)) (h2 : cs[2]? = some (.int .i64 rep)) (h3 : cs[3]? = some (.int .i64 len)) (h4 : cs[36]? = some (.slice A l c)) (dn dr : Int) (w : World) (c1 : decide (no ≥ 0) = true) (c2 : decide (no < 8) = true) (c3 : decide (len ≥ 0) = true) (c4 : decide (len ≤ 200) = true) (c5 : ((l : Int) == blkM len) = false) :
    Calls Try.prog 150 #[.agg cs, .agg #[.int .i64 dn, .int .i64 dr]] w fun e w' => e = .returned (.bool false) ∧ Below w.heap.size w w' := by
  have HB := Aside0.mk (EntS.begin w cs no n rep len A l c h0 h1 h2 h3 h4 dn dr)
  have k3 : 0 ≤ len := by simpa using c3
  have k4 : len ≤ 200 := by simpa using c4
  clear h0 h1 h2 h3 h4
  go_enter Try.func150, Try.ntmps150
  go_wp2_with fail
  refine wp_region_held_drew (S := (fun W => EntS w no n rep len A l c dn dr W)) (by kernel_rfl) (HB.out) (fun hHeld => ?_)
  refine tq (i := 0) (v := ?_) ?hy ?_
  case hy => (intro W_ hW_; go_simp; first | done | with_reducible rfl)
  try simp only [Act.put, List.setIfInBounds_toArray, List.set_cons_zero, List.set_cons_succ]
  refine tq (i := 1) (v := ?_) ?hy ?_
  case hy => (intro W_ hW_; go_simp; first | done | with_reducible rfl)
  try simp only [Act.put, List.setIfInBounds_toArray, List.set_cons_zero, List.set_cons_succ]
  refine tq (i := 2) (v := ?_) ?hy ?_
  case hy => (intro W_ hW_; go_simp; first | done | with_reducible rfl)
  try simp only [Act.put, List.setIfInBounds_toArray, List.set_cons_zero, List.set_cons_succ]
  refine tq (i := 3) (v := ?_) ?hy ?_
  case hy => (intro W_ hW_; go_simp; first | done | with_reducible rfl)
  try simp only [Act.put, List.setIfInBounds_toArray, List.set_cons_zero, List.set_cons_succ]
  refine tq (i := 4) (v := ?_) ?hy ?_
  case hy => (intro W_ hW_; go_simp; first | done | with_reducible rfl)
  try simp only [Act.put, List.setIfInBounds_toArray, List.set_cons_zero, List.set_cons_succ]
  refine tq (i := 5) (v := ?_) ?hy ?_
  case hy => (intro W_ hW_; go_simp; first | done | with_reducible rfl)
  try simp only [Act.put, List.setIfInBounds_toArray, List.set_cons_zero, List.set_cons_succ]
  refine tq (i := 6) (v := ?_) ?hy ?_
  case hy => (intro W_ hW_; go_simp; first | done | with_reducible rfl)
  try simp only [Act.put, List.setIfInBounds_toArray, List.set_cons_zero, List.set_cons_succ]
  refine tq (i := 7) (v := ?_) ?hy ?_
  case hy => (intro W_ hW_; go_simp; first | done | with_reducible rfl)
  try simp only [Act.put, List.setIfInBounds_toArray, List.set_cons_zero, List.set_cons_succ]
  refine tq (i := 8) (v := ?_) ?hy ?_
  case hy => (intro W_ hW_; go_simp; first | done | with_reducible rfl)
  try simp only [Act.put, List.setIfInBounds_toArray, List.set_cons_zero, List.set_cons_succ]
  refine tq (i := 9) (v := ?_) ?hy ?_
  case hy => (intro W_ hW_; go_simp; first | done | with_reducible rfl)
  try simp only [Act.put, List.setIfInBounds_toArray, List.set_cons_zero, List.set_cons_succ]
  refine tq (i := 10) (v := ?_) ?hy ?_
  case hy => (intro W_ hW_; go_simp; first | done | with_reducible rfl)
  try simp only [Act.put, List.setIfInBounds_toArray, List.set_cons_zero, List.set_cons_succ]
  refine tq (i := 11) (v := ?_) ?hy ?_
  case hy => (intro W_ hW_; go_simp; first | done | with_reducible rfl)
  try simp only [Act.put, List.setIfInBounds_toArray, List.set_cons_zero, List.set_cons_succ]
  refine tq (i := 12) (v := ?_) ?hy ?_
  case hy => (intro W_ hW_; go_simp; first | done | with_reducible rfl)
  try simp only [Act.put, List.setIfInBounds_toArray, List.set_cons_zero, List.set_cons_succ]
  refine tq (i := 13) (v := ?_) ?hy ?_
  case hy => (intro W_ hW_; go_simp; first | done | with_reducible rfl)
  try simp only [Act.put, List.setIfInBounds_toArray, List.set_cons_zero, List.set_cons_succ]
  refine tq (i := 14) (v := ?_) ?hy ?_
  case hy => (intro W_ hW_; go_simp; first | done | with_reducible rfl)
  try simp only [Act.put, List.setIfInBounds_toArray, List.set_cons_zero, List.set_cons_succ]
  refine tq (i := 15) (v := ?_) ?hy ?_
  case hy => (intro W_ hW_; go_simp; first | done | with_reducible rfl)
  try simp only [Act.put, List.setIfInBounds_toArray, List.set_cons_zero, List.set_cons_succ]
  refine tq (i := 16) (v := ?_) ?hy ?_
  case hy => (intro W_ hW_; go_simp; first | done | with_reducible rfl)
  try simp only [Act.put, List.setIfInBounds_toArray, List.set_cons_zero, List.set_cons_succ]
  refine tq (i := 17) (v := ?_) ?hy ?_
  case hy => (intro W_ hW_; go_simp; first | done | with_reducible rfl)
  try simp only [Act.put, List.setIfInBounds_toArray, List.set_cons_zero, List.set_cons_succ]
  refine tq (i := 18) (v := ?_) ?hy ?_
  case hy => (intro W_ hW_; go_simp; first | done | with_reducible rfl)
  try simp only [Act.put, List.setIfInBounds_toArray, List.set_cons_zero, List.set_cons_succ]
  refine tq (i := 19) (v := ?_) ?hy ?_
  case hy => (intro W_ hW_; go_simp; first | done | with_reducible rfl)
  try simp only [Act.put, List.setIfInBounds_toArray, List.set_cons_zero, List.set_cons_succ]
  refine tq (i := 20) (v := ?_) ?hy ?_
  case hy => (intro W_ hW_; go_simp; first | done | with_reducible rfl)
  try simp only [Act.put, List.setIfInBounds_toArray, List.set_cons_zero, List.set_cons_succ]
  refine tq (i := 21) (v := ?_) ?hy ?_
  case hy => (intro W_ hW_; go_simp; first | done | with_reducible rfl)
  try simp only [Act.put, List.setIfInBounds_toArray, List.set_cons_zero, List.set_cons_succ]
  refine tq (i := 22) (v := ?_) ?hy ?_
  case hy => (intro W_ hW_; go_simp; first | done | with_reducible rfl)
  try simp only [Act.put, List.setIfInBounds_toArray, List.set_cons_zero, List.set_cons_succ]
  refine tq (i := 23) (v := ?_) ?hy ?_
  case hy => (intro W_ hW_; go_simp; first | done | with_reducible rfl)
  try simp only [Act.put, List.setIfInBounds_toArray, List.set_cons_zero, List.set_cons_succ]
  refine wpAnyH_ready (rs := [24]) (by kernel_rfl) (by simp) ?_
  refine AllReadyH.cons (by simp only [List.getElem?_toArray, List.getElem?_cons_succ, List.getElem?_cons_zero]; rfl) (fun K hK => ?_) AllReadyH.nil
  rw [if_pos (by rfl)]
  go_wp2_with fail
  refine (blocks_call len k3 (by omega) _).mono ?_
  rintro e w1 ⟨rfl, hb1⟩
  refine hK.out _ _ (EntS.step hHeld hb1) (fun hHeld2 => ?_)
  clear hK K hHeld
  have hHeld := hHeld2
  clear hHeld2
  try simp only [Act.put, List.setIfInBounds_toArray, List.set_cons_zero, List.set_cons_succ]
  refine tq (i := 25) (v := ?_) ?hy ?_
  case hy => (intro W_ hW_; go_simp; first | done | with_reducible rfl)
  try simp only [Act.put, List.setIfInBounds_toArray, List.set_cons_zero, List.set_cons_succ]
  refine tq (i := 26) (v := ?_) ?hy ?_
  case hy => (intro W_ hW_; go_simp; first | done | with_reducible rfl)
  try simp only [Act.put, List.setIfInBounds_toArray, List.set_cons_zero, List.set_cons_succ]
  refine tq (i := 27) (v := ?_) ?hy ?_
  case hy => (intro W_ hW_; go_simp; first | done | with_reducible rfl)
  try simp only [Act.put, List.setIfInBounds_toArray, List.set_cons_zero, List.set_cons_succ]
  refine tg (i := 28) ?_
  try simp only [Act.put, List.setIfInBounds_toArray, List.set_cons_zero, List.set_cons_succ]
  refine tg (i := 29) ?_
  try simp only [Act.put, List.setIfInBounds_toArray, List.set_cons_zero, List.set_cons_succ]
  refine tg (i := 30) ?_
  try simp only [Act.put, List.setIfInBounds_toArray, List.set_cons_zero, List.set_cons_succ]
  refine tq (i := 31) (v := ?_) ?hy ?_
  case hy => (intro W_ hW_; go_simp; first | done | with_reducible rfl)
  try simp only [Act.put, List.setIfInBounds_toArray, List.set_cons_zero, List.set_cons_succ]
  refine tq (i := 32) (v := ?_) ?hy ?_
  case hy => (intro W_ hW_; go_simp; first | done | with_reducible rfl)
  try simp only [Act.put, List.setIfInBounds_toArray, List.set_cons_zero, List.set_cons_succ]
  refine tg (i := 33) ?_
  try simp only [Act.put, List.setIfInBounds_toArray, List.set_cons_zero, List.set_cons_succ]
  refine tg (i := 34) ?_
  try simp only [Act.put, List.setIfInBounds_toArray, List.set_cons_zero, List.set_cons_succ]
  refine tg (i := 35) ?_
  try simp only [Act.put, List.setIfInBounds_toArray, List.set_cons_zero, List.set_cons_succ]
  refine tg (i := 36) ?_
  try simp only [Act.put, List.setIfInBounds_toArray, List.set_cons_zero, List.set_cons_succ]
  refine tq (i := 37) (v := ?_) ?hy ?_
  case hy => (intro W_ hW_; go_simp; first | done | with_reducible rfl)
  try simp only [Act.put, List.setIfInBounds_toArray, List.set_cons_zero, List.set_cons_succ]
  refine tq (i := 38) (v := ?_) ?hy ?_
  case hy => (intro W_ hW_; go_simp; first | done | with_reducible rfl)
  try simp only [Act.put, List.setIfInBounds_toArray, List.set_cons_zero, List.set_cons_succ]
  refine wpAnyH_done (by kernel_rfl) ?_ _
  have hHB := EntS.below hHeld
  clear hHeld
  go_wp2_with fail
  go_ret
  exact ⟨rfl, hHB⟩
set_option maxHeartbeats 4000000 in
set_option maxRecDepth 100000 in
theorem ent_way5 (cs : Array Value) (no n rep len : Int) (A : Option Addr) (l c : Nat) (h0 : cs[0]? = some (.int .i64 no)) (h1 : cs[1]? = some (.int .i64 n)) (h2 : cs[2]? = some (.int .i64 rep)) (h3 : cs[3]? = some (.int .i64 len)) (h4 : cs[36]? = some (.slice A l c)) (dn dr : Int) (w : World) (c1 : decide (no ≥ 0) = true) (c2 : decide (no < 8) = true) (c3 : decide (len ≥ 0) = true) (c4 : decide (len ≤ 200) = true) (c5 : ((l : Int) == blkM len) = true) (c6 : stMay n rep = false) :
    Calls Try.prog 150 #[.agg cs, .agg #[.int .i64 dn, .int .i64 dr]] w fun e w' => e = .returned (.bool false) ∧ Below w.heap.size w w' := by
  have HB := Aside0.mk (EntS.begin w cs no n rep len A l c h0 h1 h2 h3 h4 dn dr)
  have k3 : 0 ≤ len := by simpa using c3
  have k4 : len ≤ 200 := by simpa using c4
  clear h0 h1 h2 h3 h4
  go_enter Try.func150, Try.ntmps150
  go_wp2_with fail
  refine wp_region_held_drew (S := (fun W => EntS w no n rep len A l c dn dr W)) (by kernel_rfl) (HB.out) (fun hHeld => ?_)
  refine tq (i := 0) (v := ?_) ?hy ?_
  case hy => (intro W_ hW_; go_simp; first | done | with_reducible rfl)
  try simp only [Act.put, List.setIfInBounds_toArray, List.set_cons_zero, List.set_cons_succ]
  refine tq (i := 1) (v := ?_) ?hy ?_
  case hy => (intro W_ hW_; go_simp; first | done | with_reducible rfl)
  try simp only [Act.put, List.setIfInBounds_toArray, List.set_cons_zero, List.set_cons_succ]
  refine tq (i := 2) (v := ?_) ?hy ?_
  case hy => (intro W_ hW_; go_simp; first | done | with_reducible rfl)
  try simp only [Act.put, List.setIfInBounds_toArray, List.set_cons_zero, List.set_cons_succ]
  refine tq (i := 3) (v := ?_) ?hy ?_
  case hy => (intro W_ hW_; go_simp; first | done | with_reducible rfl)
  try simp only [Act.put, List.setIfInBounds_toArray, List.set_cons_zero, List.set_cons_succ]
  refine tq (i := 4) (v := ?_) ?hy ?_
  case hy => (intro W_ hW_; go_simp; first | done | with_reducible rfl)
  try simp only [Act.put, List.setIfInBounds_toArray, List.set_cons_zero, List.set_cons_succ]
  refine tq (i := 5) (v := ?_) ?hy ?_
  case hy => (intro W_ hW_; go_simp; first | done | with_reducible rfl)
  try simp only [Act.put, List.setIfInBounds_toArray, List.set_cons_zero, List.set_cons_succ]
  refine tq (i := 6) (v := ?_) ?hy ?_
  case hy => (intro W_ hW_; go_simp; first | done | with_reducible rfl)
  try simp only [Act.put, List.setIfInBounds_toArray, List.set_cons_zero, List.set_cons_succ]
  refine tq (i := 7) (v := ?_) ?hy ?_
  case hy => (intro W_ hW_; go_simp; first | done | with_reducible rfl)
  try simp only [Act.put, List.setIfInBounds_toArray, List.set_cons_zero, List.set_cons_succ]
  refine tq (i := 8) (v := ?_) ?hy ?_
  case hy => (intro W_ hW_; go_simp; first | done | with_reducible rfl)
  try simp only [Act.put, List.setIfInBounds_toArray, List.set_cons_zero, List.set_cons_succ]
  refine tq (i := 9) (v := ?_) ?hy ?_
  case hy => (intro W_ hW_; go_simp; first | done | with_reducible rfl)
  try simp only [Act.put, List.setIfInBounds_toArray, List.set_cons_zero, List.set_cons_succ]
  refine tq (i := 10) (v := ?_) ?hy ?_
  case hy => (intro W_ hW_; go_simp; first | done | with_reducible rfl)
  try simp only [Act.put, List.setIfInBounds_toArray, List.set_cons_zero, List.set_cons_succ]
  refine tq (i := 11) (v := ?_) ?hy ?_
  case hy => (intro W_ hW_; go_simp; first | done | with_reducible rfl)
  try simp only [Act.put, List.setIfInBounds_toArray, List.set_cons_zero, List.set_cons_succ]
  refine tq (i := 12) (v := ?_) ?hy ?_
  case hy => (intro W_ hW_; go_simp; first | done | with_reducible rfl)
  try simp only [Act.put, List.setIfInBounds_toArray, List.set_cons_zero, List.set_cons_succ]
  refine tq (i := 13) (v := ?_) ?hy ?_
  case hy => (intro W_ hW_; go_simp; first | done | with_reducible rfl)
  try simp only [Act.put, List.setIfInBounds_toArray, List.set_cons_zero, List.set_cons_succ]
  refine tq (i := 14) (v := ?_) ?hy ?_
  case hy => (intro W_ hW_; go_simp; first | done | with_reducible rfl)
  try simp only [Act.put, List.setIfInBounds_toArray, List.set_cons_zero, List.set_cons_succ]
  refine tq (i := 15) (v := ?_) ?hy ?_
  case hy => (intro W_ hW_; go_simp; first | done | with_reducible rfl)
  try simp only [Act.put, List.setIfInBounds_toArray, List.set_cons_zero, List.set_cons_succ]
  refine tq (i := 16) (v := ?_) ?hy ?_
  case hy => (intro W_ hW_; go_simp; first | done | with_reducible rfl)
  try simp only [Act.put, List.setIfInBounds_toArray, List.set_cons_zero, List.set_cons_succ]
  refine tq (i := 17) (v := ?_) ?hy ?_
  case hy => (intro W_ hW_; go_simp; first | done | with_reducible rfl)
  try simp only [Act.put, List.setIfInBounds_toArray, List.set_cons_zero, List.set_cons_succ]
  refine tq (i := 18) (v := ?_) ?hy ?_
  case hy => (intro W_ hW_; go_simp; first | done | with_reducible rfl)
  try simp only [Act.put, List.setIfInBounds_toArray, List.set_cons_zero, List.set_cons_succ]
  refine tq (i := 19) (v := ?_) ?hy ?_
  case hy => (intro W_ hW_; go_simp; first | done | with_reducible rfl)
  try simp only [Act.put, List.setIfInBounds_toArray, List.set_cons_zero, List.set_cons_succ]
  refine tq (i := 20) (v := ?_) ?hy ?_
  case hy => (intro W_ hW_; go_simp; first | done | with_reducible rfl)
  try simp only [Act.put, List.setIfInBounds_toArray, List.set_cons_zero, List.set_cons_succ]
  refine tq (i := 21) (v := ?_) ?hy ?_
  case hy => (intro W_ hW_; go_simp; first | done | with_reducible rfl)
  try simp only [Act.put, List.setIfInBounds_toArray, List.set_cons_zero, List.set_cons_succ]
  refine tq (i := 22) (v := ?_) ?hy ?_
  case hy => (intro W_ hW_; go_simp; first | done | with_reducible rfl)
  try simp only [Act.put, List.setIfInBounds_toArray, List.set_cons_zero, List.set_cons_succ]
  refine tq (i := 23) (v := ?_) ?hy ?_
  case hy => (intro W_ hW_; go_simp; first | done | with_reducible rfl)
  try simp only [Act.put, List.setIfInBounds_toArray, List.set_cons_zero, List.set_cons_succ]
  refine wpAnyH_ready (rs := [24]) (by kernel_rfl) (by simp) ?_
  refine AllReadyH.cons (by simp only [List.getElem?_toArray, List.getElem?_cons_succ, List.getElem?_cons_zero]; rfl) (fun K hK => ?_) AllReadyH.nil
  rw [if_pos (by rfl)]
  go_wp2_with fail
  refine (blocks_call len k3 (by omega) _).mono ?_
  rintro e w1 ⟨rfl, hb1⟩
  refine hK.out _ _ (EntS.step hHeld hb1) (fun hHeld2 => ?_)
  clear hK K hHeld
  have hHeld := hHeld2
  clear hHeld2
  try simp only [Act.put, List.setIfInBounds_toArray, List.set_cons_zero, List.set_cons_succ]
  refine tq (i := 25) (v := ?_) ?hy ?_
  case hy => (intro W_ hW_; go_simp; first | done | with_reducible rfl)
  try simp only [Act.put, List.setIfInBounds_toArray, List.set_cons_zero, List.set_cons_succ]
  refine tq (i := 26) (v := ?_) ?hy ?_
  case hy => (intro W_ hW_; go_simp; first | done | with_reducible rfl)
  try simp only [Act.put, List.setIfInBounds_toArray, List.set_cons_zero, List.set_cons_succ]
  refine tq (i := 27) (v := ?_) ?hy ?_
  case hy => (intro W_ hW_; go_simp; first | done | with_reducible rfl)
  try simp only [Act.put, List.setIfInBounds_toArray, List.set_cons_zero, List.set_cons_succ]
  refine tq (i := 28) (v := ?_) ?hy ?_
  case hy => (intro W_ hW_; go_simp; first | done | with_reducible rfl)
  try simp only [Act.put, List.setIfInBounds_toArray, List.set_cons_zero, List.set_cons_succ]
  refine tq (i := 29) (v := ?_) ?hy ?_
  case hy => (intro W_ hW_; go_simp; first | done | with_reducible rfl)
  try simp only [Act.put, List.setIfInBounds_toArray, List.set_cons_zero, List.set_cons_succ]
  refine wpAnyH_ready (rs := [30]) (by kernel_rfl) (by simp) ?_
  refine AllReadyH.cons (by simp only [List.getElem?_toArray, List.getElem?_cons_succ, List.getElem?_cons_zero]; rfl) (fun K hK => ?_) AllReadyH.nil
  rw [if_pos (by rfl)]
  go_wp2_with fail
  refine (stmay_call _ _ _).mono ?_
  rintro e w1 ⟨rfl, hb1⟩
  refine hK.out _ _ (EntS.step hHeld hb1) (fun hHeld2 => ?_)
  clear hK K hHeld
  have hHeld := hHeld2
  clear hHeld2
  try simp only [Act.put, List.setIfInBounds_toArray, List.set_cons_zero, List.set_cons_succ]
  refine tq (i := 31) (v := ?_) ?hy ?_
  case hy => (intro W_ hW_; go_simp; first | done | with_reducible rfl)
  try simp only [Act.put, List.setIfInBounds_toArray, List.set_cons_zero, List.set_cons_succ]
  refine tq (i := 32) (v := ?_) ?hy ?_
  case hy => (intro W_ hW_; go_simp; first | done | with_reducible rfl)
  try simp only [Act.put, List.setIfInBounds_toArray, List.set_cons_zero, List.set_cons_succ]
  refine tg (i := 33) ?_
  try simp only [Act.put, List.setIfInBounds_toArray, List.set_cons_zero, List.set_cons_succ]
  refine tg (i := 34) ?_
  try simp only [Act.put, List.setIfInBounds_toArray, List.set_cons_zero, List.set_cons_succ]
  refine tg (i := 35) ?_
  try simp only [Act.put, List.setIfInBounds_toArray, List.set_cons_zero, List.set_cons_succ]
  refine tg (i := 36) ?_
  try simp only [Act.put, List.setIfInBounds_toArray, List.set_cons_zero, List.set_cons_succ]
  refine tq (i := 37) (v := ?_) ?hy ?_
  case hy => (intro W_ hW_; go_simp; first | done | with_reducible rfl)
  try simp only [Act.put, List.setIfInBounds_toArray, List.set_cons_zero, List.set_cons_succ]
  refine tq (i := 38) (v := ?_) ?hy ?_
  case hy => (intro W_ hW_; go_simp; first | done | with_reducible rfl)
  try simp only [Act.put, List.setIfInBounds_toArray, List.set_cons_zero, List.set_cons_succ]
  refine wpAnyH_done (by kernel_rfl) ?_ _
  have hHB := EntS.below hHeld
  clear hHeld
  go_wp2_with fail
  go_ret
  exact ⟨rfl, hHB⟩
set_option maxHeartbeats 4000000 in
set_option maxRecDepth 100000 in
theorem ent_way6 (cs : Array Value) (no n rep len : Int) (A : Option Addr) (l c : Nat) (h0 : cs[0]? = some (.int .i64 no)) (h1 : cs[1]? = some (.int .i64 n)) (h2 : cs[2]? = some (.int .i64 rep)) (h3 : cs[3]? = some (.int .i64 len)) (h4 : cs[36]? = some (.slice A l c)) (dn dr : Int) (w : World) (c1 : decide (no ≥ 0) = true) (c2 : decide (no < 8) = true) (c3 : decide (len ≥ 0) = true) (c4 : decide (len ≤ 200) = true) (c5 : ((l : Int) == blkM len) = true) (c6 : stMay n rep = true) :
    Calls Try.prog 150 #[.agg cs, .agg #[.int .i64 dn, .int .i64 dr]] w fun e w' => e = .returned (.bool (stLess dn dr n rep)) ∧ Below w.heap.size w w' := by
  have HB := Aside0.mk (EntS.begin w cs no n rep len A l c h0 h1 h2 h3 h4 dn dr)
  have k3 : 0 ≤ len := by simpa using c3
  have k4 : len ≤ 200 := by simpa using c4
  clear h0 h1 h2 h3 h4
  go_enter Try.func150, Try.ntmps150
  go_wp2_with fail
  refine wp_region_held_drew (S := (fun W => EntS w no n rep len A l c dn dr W)) (by kernel_rfl) (HB.out) (fun hHeld => ?_)
  refine tq (i := 0) (v := ?_) ?hy ?_
  case hy => (intro W_ hW_; go_simp; first | done | with_reducible rfl)
  try simp only [Act.put, List.setIfInBounds_toArray, List.set_cons_zero, List.set_cons_succ]
  refine tq (i := 1) (v := ?_) ?hy ?_
  case hy => (intro W_ hW_; go_simp; first | done | with_reducible rfl)
  try simp only [Act.put, List.setIfInBounds_toArray, List.set_cons_zero, List.set_cons_succ]
  refine tq (i := 2) (v := ?_) ?hy ?_
  case hy => (intro W_ hW_; go_simp; first | done | with_reducible rfl)
  try simp only [Act.put, List.setIfInBounds_toArray, List.set_cons_zero, List.set_cons_succ]
  refine tq (i := 3) (v := ?_) ?hy ?_
  case hy => (intro W_ hW_; go_simp; first | done | with_reducible rfl)
  try simp only [Act.put, List.setIfInBounds_toArray, List.set_cons_zero, List.set_cons_succ]
  refine tq (i := 4) (v := ?_) ?hy ?_
  case hy => (intro W_ hW_; go_simp; first | done | with_reducible rfl)
  try simp only [Act.put, List.setIfInBounds_toArray, List.set_cons_zero, List.set_cons_succ]
  refine tq (i := 5) (v := ?_) ?hy ?_
  case hy => (intro W_ hW_; go_simp; first | done | with_reducible rfl)
  try simp only [Act.put, List.setIfInBounds_toArray, List.set_cons_zero, List.set_cons_succ]
  refine tq (i := 6) (v := ?_) ?hy ?_
  case hy => (intro W_ hW_; go_simp; first | done | with_reducible rfl)
  try simp only [Act.put, List.setIfInBounds_toArray, List.set_cons_zero, List.set_cons_succ]
  refine tq (i := 7) (v := ?_) ?hy ?_
  case hy => (intro W_ hW_; go_simp; first | done | with_reducible rfl)
  try simp only [Act.put, List.setIfInBounds_toArray, List.set_cons_zero, List.set_cons_succ]
  refine tq (i := 8) (v := ?_) ?hy ?_
  case hy => (intro W_ hW_; go_simp; first | done | with_reducible rfl)
  try simp only [Act.put, List.setIfInBounds_toArray, List.set_cons_zero, List.set_cons_succ]
  refine tq (i := 9) (v := ?_) ?hy ?_
  case hy => (intro W_ hW_; go_simp; first | done | with_reducible rfl)
  try simp only [Act.put, List.setIfInBounds_toArray, List.set_cons_zero, List.set_cons_succ]
  refine tq (i := 10) (v := ?_) ?hy ?_
  case hy => (intro W_ hW_; go_simp; first | done | with_reducible rfl)
  try simp only [Act.put, List.setIfInBounds_toArray, List.set_cons_zero, List.set_cons_succ]
  refine tq (i := 11) (v := ?_) ?hy ?_
  case hy => (intro W_ hW_; go_simp; first | done | with_reducible rfl)
  try simp only [Act.put, List.setIfInBounds_toArray, List.set_cons_zero, List.set_cons_succ]
  refine tq (i := 12) (v := ?_) ?hy ?_
  case hy => (intro W_ hW_; go_simp; first | done | with_reducible rfl)
  try simp only [Act.put, List.setIfInBounds_toArray, List.set_cons_zero, List.set_cons_succ]
  refine tq (i := 13) (v := ?_) ?hy ?_
  case hy => (intro W_ hW_; go_simp; first | done | with_reducible rfl)
  try simp only [Act.put, List.setIfInBounds_toArray, List.set_cons_zero, List.set_cons_succ]
  refine tq (i := 14) (v := ?_) ?hy ?_
  case hy => (intro W_ hW_; go_simp; first | done | with_reducible rfl)
  try simp only [Act.put, List.setIfInBounds_toArray, List.set_cons_zero, List.set_cons_succ]
  refine tq (i := 15) (v := ?_) ?hy ?_
  case hy => (intro W_ hW_; go_simp; first | done | with_reducible rfl)
  try simp only [Act.put, List.setIfInBounds_toArray, List.set_cons_zero, List.set_cons_succ]
  refine tq (i := 16) (v := ?_) ?hy ?_
  case hy => (intro W_ hW_; go_simp; first | done | with_reducible rfl)
  try simp only [Act.put, List.setIfInBounds_toArray, List.set_cons_zero, List.set_cons_succ]
  refine tq (i := 17) (v := ?_) ?hy ?_
  case hy => (intro W_ hW_; go_simp; first | done | with_reducible rfl)
  try simp only [Act.put, List.setIfInBounds_toArray, List.set_cons_zero, List.set_cons_succ]
  refine tq (i := 18) (v := ?_) ?hy ?_
  case hy => (intro W_ hW_; go_simp; first | done | with_reducible rfl)
  try simp only [Act.put, List.setIfInBounds_toArray, List.set_cons_zero, List.set_cons_succ]
  refine tq (i := 19) (v := ?_) ?hy ?_
  case hy => (intro W_ hW_; go_simp; first | done | with_reducible rfl)
  try simp only [Act.put, List.setIfInBounds_toArray, List.set_cons_zero, List.set_cons_succ]
  refine tq (i := 20) (v := ?_) ?hy ?_
  case hy => (intro W_ hW_; go_simp; first | done | with_reducible rfl)
  try simp only [Act.put, List.setIfInBounds_toArray, List.set_cons_zero, List.set_cons_succ]
  refine tq (i := 21) (v := ?_) ?hy ?_
  case hy => (intro W_ hW_; go_simp; first | done | with_reducible rfl)
  try simp only [Act.put, List.setIfInBounds_toArray, List.set_cons_zero, List.set_cons_succ]
  refine tq (i := 22) (v := ?_) ?hy ?_
  case hy => (intro W_ hW_; go_simp; first | done | with_reducible rfl)
  try simp only [Act.put, List.setIfInBounds_toArray, List.set_cons_zero, List.set_cons_succ]
  refine tq (i := 23) (v := ?_) ?hy ?_
  case hy => (intro W_ hW_; go_simp; first | done | with_reducible rfl)
  try simp only [Act.put, List.setIfInBounds_toArray, List.set_cons_zero, List.set_cons_succ]
  refine wpAnyH_ready (rs := [24]) (by kernel_rfl) (by simp) ?_
  refine AllReadyH.cons (by simp only [List.getElem?_toArray, List.getElem?_cons_succ, List.getElem?_cons_zero]; rfl) (fun K hK => ?_) AllReadyH.nil
  rw [if_pos (by rfl)]
  go_wp2_with fail
  refine (blocks_call len k3 (by omega) _).mono ?_
  rintro e w1 ⟨rfl, hb1⟩
  refine hK.out _ _ (EntS.step hHeld hb1) (fun hHeld2 => ?_)
  clear hK K hHeld
  have hHeld := hHeld2
  clear hHeld2
  try simp only [Act.put, List.setIfInBounds_toArray, List.set_cons_zero, List.set_cons_succ]
  refine tq (i := 25) (v := ?_) ?hy ?_
  case hy => (intro W_ hW_; go_simp; first | done | with_reducible rfl)
  try simp only [Act.put, List.setIfInBounds_toArray, List.set_cons_zero, List.set_cons_succ]
  refine tq (i := 26) (v := ?_) ?hy ?_
  case hy => (intro W_ hW_; go_simp; first | done | with_reducible rfl)
  try simp only [Act.put, List.setIfInBounds_toArray, List.set_cons_zero, List.set_cons_succ]
  refine tq (i := 27) (v := ?_) ?hy ?_
  case hy => (intro W_ hW_; go_simp; first | done | with_reducible rfl)
  try simp only [Act.put, List.setIfInBounds_toArray, List.set_cons_zero, List.set_cons_succ]
  refine tq (i := 28) (v := ?_) ?hy ?_
  case hy => (intro W_ hW_; go_simp; first | done | with_reducible rfl)
  try simp only [Act.put, List.setIfInBounds_toArray, List.set_cons_zero, List.set_cons_succ]
  refine tq (i := 29) (v := ?_) ?hy ?_
  case hy => (intro W_ hW_; go_simp; first | done | with_reducible rfl)
  try simp only [Act.put, List.setIfInBounds_toArray, List.set_cons_zero, List.set_cons_succ]
  refine wpAnyH_ready (rs := [30]) (by kernel_rfl) (by simp) ?_
  refine AllReadyH.cons (by simp only [List.getElem?_toArray, List.getElem?_cons_succ, List.getElem?_cons_zero]; rfl) (fun K hK => ?_) AllReadyH.nil
  rw [if_pos (by rfl)]
  go_wp2_with fail
  refine (stmay_call _ _ _).mono ?_
  rintro e w1 ⟨rfl, hb1⟩
  refine hK.out _ _ (EntS.step hHeld hb1) (fun hHeld2 => ?_)
  clear hK K hHeld
  have hHeld := hHeld2
  clear hHeld2
  try simp only [Act.put, List.setIfInBounds_toArray, List.set_cons_zero, List.set_cons_succ]
  refine tq (i := 31) (v := ?_) ?hy ?_
  case hy => (intro W_ hW_; go_simp; first | done | with_reducible rfl)
  try simp only [Act.put, List.setIfInBounds_toArray, List.set_cons_zero, List.set_cons_succ]
  refine tq (i := 32) (v := ?_) ?hy ?_
  case hy => (intro W_ hW_; go_simp; first | done | with_reducible rfl)
  try simp only [Act.put, List.setIfInBounds_toArray, List.set_cons_zero, List.set_cons_succ]
  refine tq (i := 33) (v := ?_) ?hy ?_
  case hy => (intro W_ hW_; go_simp; first | done | with_reducible rfl)
  try simp only [Act.put, List.setIfInBounds_toArray, List.set_cons_zero, List.set_cons_succ]
  refine tq (i := 34) (v := ?_) ?hy ?_
  case hy => (intro W_ hW_; go_simp; first | done | with_reducible rfl)
  try simp only [Act.put, List.setIfInBounds_toArray, List.set_cons_zero, List.set_cons_succ]
  refine tq (i := 35) (v := ?_) ?hy ?_
  case hy => (intro W_ hW_; go_simp; first | done | with_reducible rfl)
  try simp only [Act.put, List.setIfInBounds_toArray, List.set_cons_zero, List.set_cons_succ]
  refine wpAnyH_ready (rs := [36]) (by kernel_rfl) (by simp) ?_
  refine AllReadyH.cons (by simp only [List.getElem?_toArray, List.getElem?_cons_succ, List.getElem?_cons_zero]; rfl) (fun K hK => ?_) AllReadyH.nil
  rw [if_pos (by rfl)]
  go_wp2_with fail
  refine (stless_call _ _ _ _ _).mono ?_
  rintro e w1 ⟨rfl, hb1⟩
  refine hK.out _ _ (EntS.step hHeld hb1) (fun hHeld2 => ?_)
  clear hK K hHeld
  have hHeld := hHeld2
  clear hHeld2
  try simp only [Act.put, List.setIfInBounds_toArray, List.set_cons_zero, List.set_cons_succ]
  refine tq (i := 37) (v := ?_) ?hy ?_
  case hy => (intro W_ hW_; go_simp; first | done | with_reducible rfl)
  try simp only [Act.put, List.setIfInBounds_toArray, List.set_cons_zero, List.set_cons_succ]
  refine tq (i := 38) (v := ?_) ?hy ?_
  case hy => (intro W_ hW_; go_simp; first | done | with_reducible rfl)
  try simp only [Act.put, List.setIfInBounds_toArray, List.set_cons_zero, List.set_cons_succ]
  refine wpAnyH_done (by kernel_rfl) ?_ _
  have hHB := EntS.below hHeld
  clear hHeld
  go_wp2_with fail
  go_ret
  exact ⟨rfl, hHB⟩
theorem ent_call (x : Ent) (A : Option Addr) (c : Nat) (dn dr : Int) (w : World) (hd : x.d.length = 32) :
    Calls Try.prog 150 #[.agg (entC x A c).toArray, .agg #[.int .i64 dn, .int .i64 dr]] w fun e w' => e = .returned (.bool (entM 8 200 x dn dr)) ∧ Below w.heap.size w w' := by
  have k4 : (entC x A c).toArray[36]? = some (.slice A x.b.length c) := by
    rw [List.getElem?_toArray]
    show (nums .u8 x.d ++ [Value.slice A x.b.length c])[32]? = _
    rw [List.getElem?_append_right (by simp [nums, hd])]
    simp [nums, hd]
  unfold entM
  by_cases c1 : decide (x.no ≥ 0) = true
  · by_cases c2 : decide (x.no < 8) = true
    · by_cases c3 : decide (x.len ≥ 0) = true
      · by_cases c4 : decide (x.len ≤ 200) = true
        · by_cases c5 : ((x.b.length : Int) == blkM x.len) = true
          · by_cases c6 : stMay x.n x.rep = true
            · have e : (decide (0 ≤ x.no) && (decide (x.no < 8) && (decide (0 ≤ x.len) && (decide (x.len ≤ 200) && (decide ((x.b.length : Int) = blkM x.len) && (stMay x.n x.rep && stLess dn dr x.n x.rep)))))) = stLess dn dr x.n x.rep := by
                have c5' := beq_iff_eq.1 c5
                simp only [decide_eq_true_eq] at c1 c2 c3 c4
                rw [decide_eq_true (show 0 ≤ x.no from c1), decide_eq_true c2, decide_eq_true (show 0 ≤ x.len from c3), decide_eq_true c4, decide_eq_true c5', c6]
                rfl
              rw [e]
              exact ent_way6 _ x.no x.n x.rep x.len A x.b.length c rfl rfl rfl rfl k4 dn dr w c1 c2 c3 c4 c5 c6
            · have c6' : stMay x.n x.rep = false := by simpa using c6
              rw [c6']
              simp only [Bool.false_and, Bool.and_false]
              exact ent_way5 _ x.no x.n x.rep x.len A x.b.length c rfl rfl rfl rfl k4 dn dr w c1 c2 c3 c4 c5 c6'
          · have c5' : ((x.b.length : Int) == blkM x.len) = false := by simpa using c5
            rw [show decide ((x.b.length : Int) = blkM x.len) = false from decide_eq_false (by simpa using c5')]
            simp only [Bool.false_and, Bool.and_false]
            exact ent_way4 _ x.no x.n x.rep x.len A x.b.length c rfl rfl rfl rfl k4 dn dr w c1 c2 c3 c4 c5'
        · have c4' : decide (x.len ≤ 200) = false := by simpa using c4
          rw [c4']
          simp only [Bool.false_and, Bool.and_false]
          exact ent_way3 _ x.no x.n x.rep x.len A x.b.length c rfl rfl rfl rfl k4 dn dr w c1 c2 c3 c4'
      · have c3' : decide (x.len ≥ 0) = false := by simpa using c3
        rw [show decide (0 ≤ x.len) = false from c3']
        simp only [Bool.false_and, Bool.and_false]
        exact ent_way2 _ x.no x.n x.rep x.len A x.b.length c rfl rfl rfl rfl k4 dn dr w c1 c2 c3'
    · have c2' : decide (x.no < 8) = false := by simpa using c2
      rw [c2']
      simp only [Bool.false_and, Bool.and_false]
      exact ent_way1 _ x.no x.n x.rep x.len A x.b.length c rfl rfl rfl rfl k4 dn dr w c1 c2'
  · have c1' : decide (x.no ≥ 0) = false := by simpa using c1
    rw [show decide (0 ≤ x.no) = false from c1']
    simp only [Bool.false_and]
    exact ent_way0 _ x.no x.n x.rep x.len A x.b.length c rfl rfl rfl rfl k4 dn dr w c1'
end Go.Proofs.Ytchaegfdcdlfaaa.X

namespace Go.Proofs.Ytchaegfdcdlfaaa.X
set_option linter.unusedVariables false
set_option linter.unusedSimpArgs false
open Go.RowKit Go.Proofs.YtchaegfdcdlfaaaW.PrintWords Go.Proofs.YtchaegfdcdlfaaaW.PrintLast Go.Proofs.YtchaegfdcdlfaaaW.PrintMore
attribute [local go_sem] max2_int min2_int max_two min_two max_three min_three max_four min_four
def prevNo (l : List Ent) (i : Nat) : Option Int := if i = 0 then none else some (l.getD (i - 1) zEnt).no
theorem ents_step (dn dr : Int) (l : List Ent) (i : Nat) (hi : i < l.length) : entsM 8 200 dn dr (prevNo l i) (l.drop i) = (entM 8 200 (l.getD i zEnt) dn dr && ((match prevNo l i with | none => true | some q => decide (q < (l.getD i zEnt).no)) && entsM 8 200 dn dr (prevNo l (i + 1)) (l.drop (i + 1)))) := by
  have e : l.drop i = l.getD i zEnt :: l.drop (i + 1) := by
    rw [List.drop_eq_getElem_cons hi, List.getD_eq_getElem?_getD, List.getElem?_eq_getElem hi, Option.getD_some]
  rw [e, entsM_cons]
  congr 3
abbrev LnS (w0 : World) (bt : Nat) (cs ls : Array Value) (pa : Addr) (pno : Value) (W : World) : Prop :=
  W.heap[bt]? = some (.cells cs 149 (0, 0)) ∧ W.heap[w0.heap.size]? = some (.cells ls 147 (0, 0)) ∧ W.cell? pa = some pno ∧ Below w0.heap.size w0 W
theorem LnS.step {w0 : World} {bt : Nat} {cs ls : Array Value} {pa : Addr} {pno : Value} {W W1 : World} (h : LnS w0 bt cs ls pa pno W) (hb : Below W.heap.size W W1) : LnS w0 bt cs ls pa pno W1 :=
  ⟨blk_below h.1 hb, blk_below h.2.1 hb, (hb.cell (World.block_lt_of_cell? W _ h.2.2.1)).trans h.2.2.1, below_step h.2.2.2 hb⟩
set_option maxHeartbeats 4000000 in
set_option maxRecDepth 100000 in
theorem line_call (x : Lin) (A : Option Addr) (c : Nat) (w : World) (hid : x.id.length = 16) (hc : x.f.length ≤ c) (hC : Kd.C entK w A x.f.length x.f) :
    Calls Try.prog 106 #[.agg (linC x A c).toArray] w fun e w' => e = .returned (.bool (linM 8 200 x)) ∧ Below w.heap.size w w' := by
  have HC := Aside0.mk hC
  have HLEN := Aside0.mk hC.2.1
  have HCC := Aside0.mk hc
  obtain ⟨k16, k17, k18⟩ := linC_at hid A c
  obtain ⟨ls, hls⟩ : ∃ ls, (linC x A c).toArray = ls := ⟨_, rfl⟩
  rw [hls] at k16 k17 k18 ⊢
  have HBK := Aside0.mk (blk_new w (.cells ls 147))
  have K16 := Aside0.mk k16
  have K17 := Aside0.mk k17
  have K18 := Aside0.mk k18
  have g18 := (blk_cell HBK.out 18).trans k18
  clear hid hc hC hls k16 k17 k18
  go_enter Try.func106, Try.ntmps106
  go_wp2_with fail
  clear g18
  go_loopg [8] x.f.length (fun kq v8 W => ∃ i : Nat, v8 = .int .i64 i ∧ Aside0 (kq + i = x.f.length) ∧ Aside0 (entsM 8 200 x.n x.rep (prevNo x.f i) (x.f.drop i) = entsM 8 200 x.n x.rep none x.f) ∧ Aside0 (W.heap[w.heap.size]? = some (.cells ls 147 (0, 0))) ∧ Aside0 (Below w.heap.size w W))
  case atStart => exact ⟨0, rfl, ⟨rfl⟩, ⟨rfl⟩, HBK, ⟨below_alloc (Below.refl _ _) _⟩⟩
  case round =>
    obtain ⟨i, rfl, HK, HE, HBW, HB⟩ := hrel
    by_cases hi : i < x.f.length
    · obtain ⟨e, he⟩ : ∃ e, e = x.f.getD i zEnt := ⟨_, rfl⟩
      obtain ⟨ad, B, cb, hA, hd, hbc, hCb, hcell⟩ := ent_at (Kd.C_below HC.out HB.out) hi e he.symm
      have HSTEP := Aside0.mk (ents_step x.n x.rep x.f i hi)
      rw [← he] at HSTEP
      subst hA
      have e1 : decide ((i : Int) < (x.f.length : Int)) = true := by simpa using hi
      have e2 : ((i : Int) < (x.f.length : Int)) = True := by simpa using hi
      have e3 : (0 ≤ (i : Int)) = True := by simp
      have e4 : IntKind.i64.wrap ((i : Int) + 1) = ((i + 1 : Nat) : Int) := by have := HLEN.out; simp [IntKind.wrap, IntKind.bits, IntKind.signed]; omega
      have HI := Aside0.mk hi
      obtain ⟨cs, hcs⟩ : ∃ cs, (entC e B cb).toArray = cs := ⟨_, rfl⟩
      have hsz : cs.size = 37 := by rw [← hcs, List.size_toArray, entC_len hd]
      have hone : cs.all (·.oneCell') = true := by rw [← hcs]; exact entC_one e B cb
      have k0 : cs[0]? = some (.int .i64 e.no) := by rw [← hcs]; rfl
      have HCELL : Aside0 (∀ j v, cs[j]? = some v → wr.cell? ((ad.add (i * 37)).add j) = some v) := ⟨fun j v h => hcell j v (by rw [← hcs] at h; simpa using h)⟩
      have HINFO : Aside0 ((Try.prog.info? 149).map (·.size) = some cs.size) := ⟨by rw [hsz]; exact infoEnt⟩
      have HCALL : Aside0 (∀ W : World, Calls Try.prog 150 #[.agg cs, .agg #[.int .i64 x.n, .int .i64 x.rep]] W fun e' w' => e' = .returned (.bool (entM 8 200 e x.n x.rep)) ∧ Below W.heap.size W w') := ⟨fun W => by rw [← hcs]; exact ent_call e B cb x.n x.rep W hd⟩
      have hst := store_new wr #[.int .i64 0, .int .i64 0, .int .i64 0, .int .i64 0, .int .u8 0, .int .u8 0, .int .u8 0, .int .u8 0, .int .u8 0, .int .u8 0, .int .u8 0, .int .u8 0, .int .u8 0, .int .u8 0, .int .u8 0, .int .u8 0, .int .u8 0, .int .u8 0, .int .u8 0, .int .u8 0, .int .u8 0, .int .u8 0, .int .u8 0, .int .u8 0, .int .u8 0, .int .u8 0, .int .u8 0, .int .u8 0, .int .u8 0, .int .u8 0, .int .u8 0, .int .u8 0, .int .u8 0, .int .u8 0, .int .u8 0, .int .u8 0, .slice none 0 0] cs 149 (by rw [hsz]; rfl) hone
      have HNEW := Aside0.mk (blk_new wr (.cells cs 149))
      have HOLD := Aside0.mk (blk_alloc HBW.out (.cells cs 149))
      have HBN := Aside0.mk (below_alloc HB.out (.cells cs 149))
      have f0 := (blk_cell HNEW.out 0).trans k0
      have hl1 : ∀ W : World, W.heap[wr.heap.size]? = some (.cells cs 149 (0, 0)) → (Instr.loadAt 149 (.pointer (some ⟨wr.heap.size, 0, none⟩))).run Try.prog W = .ok (.agg cs) W := fun W h => load_of h Try.underlying149 rfl HINFO.out
      have hl16 : ∀ W : World, W.heap[w.heap.size]? = some (.cells ls 147 (0, 0)) → W.cell? ⟨w.heap.size, 16, none⟩ = some (.int .i64 x.n) := fun W h => (blk_cell h 16).trans K16.out
      have hl17 : ∀ W : World, W.heap[w.heap.size]? = some (.cells ls 147 (0, 0)) → W.cell? ⟨w.heap.size, 17, none⟩ = some (.int .i64 x.rep) := fun W h => (blk_cell h 17).trans K17.out
      have hl18 : ∀ W : World, W.heap[w.heap.size]? = some (.cells ls 147 (0, 0)) → W.cell? ⟨w.heap.size, 18, none⟩ = some (.slice (some ad) x.f.length c) := fun W h => (blk_cell h 18).trans K18.out
      have hl0 : ∀ W : World, W.heap[wr.heap.size]? = some (.cells cs 149 (0, 0)) → W.cell? ⟨wr.heap.size, 0, none⟩ = some (.int .i64 e.no) := fun W h => (blk_cell h 0).trans k0
      clear hi hcs hd hbc hCb hcell f0 he hone k0
      cases hent : entM 8 200 e x.n x.rep
      · have HRES : Aside0 (linM 8 200 x = false) := ⟨by
          unfold linM
          rw [← HE.out, HSTEP.out, hent]; rfl⟩
        have HENT := Aside0.mk hent
        clear hent
        go_wp2_with (first
          | ((with_reducible refine gate_dst (N := 12) rfl ?_); refine wpList_load_cells rfl 149 (.tmp 11) rfl (ad.add (i * 37)) rfl cs _ HCELL.out Try.underlying149 rfl HINFO.out ?_)
          | fail)
        refine wp_region_held_drew (S := (fun W => LnS w wr.heap.size cs ls ⟨wr.heap.size, 0, none⟩ (.int .i64 e.no) W)) (by kernel_rfl) (⟨HNEW.out, HOLD.out, hl0 _ HNEW.out, below_drew HBN.out⟩) (fun hHeld => ?_)
        refine tq (i := 0) (v := ?_) ?hy ?_
        case hy => (intro W_ hW_; refine Eq.trans (exec_load_row 149 (.tmp 4) ?_ wr.heap.size ?_ 149 cs (0, 0) _ hW_.1 Try.underlying149 rfl HINFO.out) ?_ <;> (first | with_reducible rfl | rfl))
        try simp only [Act.put, List.setIfInBounds_toArray, List.set_cons_zero, List.set_cons_succ]
        refine tq (i := 1) (v := ?_) ?hy ?_
        case hy => (intro W_ hW_; go_simp; first | done | with_reducible rfl)
        try simp only [Act.put, List.setIfInBounds_toArray, List.set_cons_zero, List.set_cons_succ]
        refine tq (i := 2) (v := ?_) ?hy ?_
        case hy => (intro W_ hW_; have f16 := hl16 W_ hW_.2.1; have f17 := hl17 W_ hW_.2.1; go_simp; first | done | with_reducible rfl)
        try simp only [Act.put, List.setIfInBounds_toArray, List.set_cons_zero, List.set_cons_succ]
        refine wpAnyH_ready (rs := [3]) (by kernel_rfl) (by simp) ?_
        refine AllReadyH.cons (by simp only [List.getElem?_toArray, List.getElem?_cons_succ, List.getElem?_cons_zero]; rfl) (fun K hK => ?_) AllReadyH.nil
        rw [if_pos (by rfl)]
        go_wp2_with fail
        refine (HCALL.out _).mono ?_
        rintro e_ w1 ⟨rfl, hb1⟩; rw [HENT.out]
        refine hK.out _ _ (LnS.step hHeld hb1) (fun hHeld2 => ?_)
        clear hK K hHeld
        have hHeld := hHeld2
        clear hHeld2
        try simp only [Act.put, List.setIfInBounds_toArray, List.set_cons_zero, List.set_cons_succ]
        refine tq (i := 4) (v := ?_) ?hy ?_
        case hy => (intro W_ hW_; go_simp; first | done | with_reducible rfl)
        try simp only [Act.put, List.setIfInBounds_toArray, List.set_cons_zero, List.set_cons_succ]
        refine tq (i := 5) (v := ?_) ?hy ?_
        case hy => (intro W_ hW_; go_simp; first | done | with_reducible rfl)
        try simp only [Act.put, List.setIfInBounds_toArray, List.set_cons_zero, List.set_cons_succ]
        refine tg (i := 6) ?_
        try simp only [Act.put, List.setIfInBounds_toArray, List.set_cons_zero, List.set_cons_succ]
        refine tg (i := 7) ?_
        try simp only [Act.put, List.setIfInBounds_toArray, List.set_cons_zero, List.set_cons_succ]
        refine tg (i := 8) ?_
        try simp only [Act.put, List.setIfInBounds_toArray, List.set_cons_zero, List.set_cons_succ]
        refine tg (i := 9) ?_
        try simp only [Act.put, List.setIfInBounds_toArray, List.set_cons_zero, List.set_cons_succ]
        refine tg (i := 10) ?_
        try simp only [Act.put, List.setIfInBounds_toArray, List.set_cons_zero, List.set_cons_succ]
        refine tg (i := 11) ?_
        try simp only [Act.put, List.setIfInBounds_toArray, List.set_cons_zero, List.set_cons_succ]
        refine tg (i := 12) ?_
        try simp only [Act.put, List.setIfInBounds_toArray, List.set_cons_zero, List.set_cons_succ]
        refine tg (i := 13) ?_
        try simp only [Act.put, List.setIfInBounds_toArray, List.set_cons_zero, List.set_cons_succ]
        refine tg (i := 14) ?_
        try simp only [Act.put, List.setIfInBounds_toArray, List.set_cons_zero, List.set_cons_succ]
        refine tg (i := 15) ?_
        try simp only [Act.put, List.setIfInBounds_toArray, List.set_cons_zero, List.set_cons_succ]
        refine tg (i := 16) ?_
        try simp only [Act.put, List.setIfInBounds_toArray, List.set_cons_zero, List.set_cons_succ]
        refine tg (i := 17) ?_
        try simp only [Act.put, List.setIfInBounds_toArray, List.set_cons_zero, List.set_cons_succ]
        refine tg (i := 18) ?_
        try simp only [Act.put, List.setIfInBounds_toArray, List.set_cons_zero, List.set_cons_succ]
        refine tg (i := 19) ?_
        try simp only [Act.put, List.setIfInBounds_toArray, List.set_cons_zero, List.set_cons_succ]
        refine tq (i := 20) (v := ?_) ?hy ?_
        case hy => (intro W_ hW_; go_simp; first | done | with_reducible rfl)
        try simp only [Act.put, List.setIfInBounds_toArray, List.set_cons_zero, List.set_cons_succ]
        refine wpAnyH_done (by kernel_rfl) ?_ _
        have HH := Aside0.mk hHeld
        clear hHeld
        go_wp2_with fail
        go_ret
        exact ⟨by rw [HRES.out]; rfl, HH.out.2.2.2⟩
      · have HENT := Aside0.mk hent
        clear hent
        by_cases hi0 : i = 0
        · have HNEXT : Aside0 (entsM 8 200 x.n x.rep (prevNo x.f (i + 1)) (x.f.drop (i + 1)) = entsM 8 200 x.n x.rep none x.f) := ⟨by
            rw [← HE.out, HSTEP.out, HENT.out, show prevNo x.f i = none from if_pos hi0]; rfl⟩
          have c0 : decide ((i : Int) > 0) = false := by simp; omega
          have c1 : decide (i > 0) = false := by simp; omega
          have c2 : decide (0 < i) = false := by simp; omega
          clear hi0
          go_wp2_with (first
            | ((with_reducible refine gate_dst (N := 12) rfl ?_); refine wpList_load_cells rfl 149 (.tmp 11) rfl (ad.add (i * 37)) rfl cs _ HCELL.out Try.underlying149 rfl HINFO.out ?_)
            | fail)
          refine wp_region_held_drew (S := (fun W => LnS w wr.heap.size cs ls ⟨wr.heap.size, 0, none⟩ (.int .i64 e.no) W)) (by kernel_rfl) (⟨HNEW.out, HOLD.out, hl0 _ HNEW.out, below_drew HBN.out⟩) (fun hHeld => ?_)
          refine tq (i := 0) (v := ?_) ?hy ?_
          case hy => (intro W_ hW_; refine Eq.trans (exec_load_row 149 (.tmp 4) ?_ wr.heap.size ?_ 149 cs (0, 0) _ hW_.1 Try.underlying149 rfl HINFO.out) ?_ <;> (first | with_reducible rfl | rfl))
          try simp only [Act.put, List.setIfInBounds_toArray, List.set_cons_zero, List.set_cons_succ]
          refine tq (i := 1) (v := ?_) ?hy ?_
          case hy => (intro W_ hW_; go_simp; first | done | with_reducible rfl)
          try simp only [Act.put, List.setIfInBounds_toArray, List.set_cons_zero, List.set_cons_succ]
          refine tq (i := 2) (v := ?_) ?hy ?_
          case hy => (intro W_ hW_; have f16 := hl16 W_ hW_.2.1; have f17 := hl17 W_ hW_.2.1; go_simp; first | done | with_reducible rfl)
          try simp only [Act.put, List.setIfInBounds_toArray, List.set_cons_zero, List.set_cons_succ]
          refine wpAnyH_ready (rs := [3]) (by kernel_rfl) (by simp) ?_
          refine AllReadyH.cons (by simp only [List.getElem?_toArray, List.getElem?_cons_succ, List.getElem?_cons_zero]; rfl) (fun K hK => ?_) AllReadyH.nil
          rw [if_pos (by rfl)]
          go_wp2_with fail
          refine (HCALL.out _).mono ?_
          rintro e_ w1 ⟨rfl, hb1⟩; rw [HENT.out]
          refine hK.out _ _ (LnS.step hHeld hb1) (fun hHeld2 => ?_)
          clear hK K hHeld
          have hHeld := hHeld2
          clear hHeld2
          try simp only [Act.put, List.setIfInBounds_toArray, List.set_cons_zero, List.set_cons_succ]
          refine tq (i := 4) (v := ?_) ?hy ?_
          case hy => (intro W_ hW_; go_simp; first | done | with_reducible rfl)
          try simp only [Act.put, List.setIfInBounds_toArray, List.set_cons_zero, List.set_cons_succ]
          refine tq (i := 5) (v := ?_) ?hy ?_
          case hy => (intro W_ hW_; go_simp; first | done | with_reducible rfl)
          try simp only [Act.put, List.setIfInBounds_toArray, List.set_cons_zero, List.set_cons_succ]
          refine tq (i := 6) (v := ?_) ?hy ?_
          case hy => (intro W_ hW_; go_simp; first | done | with_reducible rfl)
          try simp only [Act.put, List.setIfInBounds_toArray, List.set_cons_zero, List.set_cons_succ]
          refine tq (i := 7) (v := ?_) ?hy ?_
          case hy => (intro W_ hW_; go_simp; first | done | with_reducible rfl)
          try simp only [Act.put, List.setIfInBounds_toArray, List.set_cons_zero, List.set_cons_succ]
          refine tq (i := 8) (v := ?_) ?hy ?_
          case hy => (intro W_ hW_; go_simp; first | done | with_reducible rfl)
          try simp only [Act.put, List.setIfInBounds_toArray, List.set_cons_zero, List.set_cons_succ]
          refine tg (i := 9) ?_
          try simp only [Act.put, List.setIfInBounds_toArray, List.set_cons_zero, List.set_cons_succ]
          refine tg (i := 10) ?_
          try simp only [Act.put, List.setIfInBounds_toArray, List.set_cons_zero, List.set_cons_succ]
          refine tg (i := 11) ?_
          try simp only [Act.put, List.setIfInBounds_toArray, List.set_cons_zero, List.set_cons_succ]
          refine tg (i := 12) ?_
          try simp only [Act.put, List.setIfInBounds_toArray, List.set_cons_zero, List.set_cons_succ]
          refine tg (i := 13) ?_
          try simp only [Act.put, List.setIfInBounds_toArray, List.set_cons_zero, List.set_cons_succ]
          refine tg (i := 14) ?_
          try simp only [Act.put, List.setIfInBounds_toArray, List.set_cons_zero, List.set_cons_succ]
          refine tg (i := 15) ?_
          try simp only [Act.put, List.setIfInBounds_toArray, List.set_cons_zero, List.set_cons_succ]
          refine tg (i := 16) ?_
          try simp only [Act.put, List.setIfInBounds_toArray, List.set_cons_zero, List.set_cons_succ]
          refine tg (i := 17) ?_
          try simp only [Act.put, List.setIfInBounds_toArray, List.set_cons_zero, List.set_cons_succ]
          refine tg (i := 18) ?_
          try simp only [Act.put, List.setIfInBounds_toArray, List.set_cons_zero, List.set_cons_succ]
          refine tq (i := 19) (v := ?_) ?hy ?_
          case hy => (intro W_ hW_; go_simp; first | done | with_reducible rfl)
          try simp only [Act.put, List.setIfInBounds_toArray, List.set_cons_zero, List.set_cons_succ]
          refine tq (i := 20) (v := ?_) ?hy ?_
          case hy => (intro W_ hW_; go_simp; first | done | with_reducible rfl)
          try simp only [Act.put, List.setIfInBounds_toArray, List.set_cons_zero, List.set_cons_succ]
          refine wpAnyH_done (by kernel_rfl) ?_ _
          have HH := Aside0.mk hHeld
          clear hHeld
          go_wp2_with fail
          go_roundg (x.f.length - (i + 1))
          case measure => have := HK.out; have := HI.out; omega
          case rel => exact ⟨i + 1, by first | rfl | (simp [e4]; done), ⟨by have := HI.out; omega⟩, HNEXT, ⟨HH.out.2.1⟩, ⟨HH.out.2.2.2⟩⟩
        · have c0 : decide ((i : Int) > 0) = true := by simp; omega
          have c1 : decide (i > 0) = true := by simp; omega
          have c2 : decide (0 < i) = true := by simp; omega
          obtain ⟨m, hm⟩ : ∃ m, m = i - 1 := ⟨_, rfl⟩
          have e5 : IntKind.i64.wrap ((i : Int) - 1) = (m : Int) := by have := HLEN.out; have := HI.out; simp [IntKind.wrap, IntKind.bits, IntKind.signed]; omega
          obtain ⟨p, hp⟩ : ∃ p, p = x.f.getD m zEnt := ⟨_, rfl⟩
          have hmi : m < x.f.length := by have := HI.out; omega
          have HPREV : Aside0 (prevNo x.f i = some p.no) := ⟨by unfold prevNo; rw [if_neg hi0, hp, hm]⟩
          obtain ⟨ad2, B2, cb2, hA2, _, _, _, hcell2⟩ := ent_at (Kd.C_below HC.out HB.out) hmi p hp.symm
          injection hA2 with hA2
          subst hA2
          have HPC : Aside0 ((wr.alloc (.cells cs 149)).drew.cell? (ad.add (m * 37)) = some (.int .i64 p.no)) := ⟨by
            have h0 := hcell2 0 _ rfl
            exact ((below_drew (below_alloc (Below.refl wr.heap.size wr) (.cells cs 149))).cell (World.block_lt_of_cell? wr _ h0)).trans h0⟩
          have e6 : decide ((m : Int) < (x.f.length : Int)) = true := by simpa using hmi
          have e7 : ((m : Int) < (x.f.length : Int)) = True := by simpa using hmi
          have e8 : (0 ≤ (m : Int)) = True := by simp
          have e9 : (m < x.f.length) = True := by simpa using hmi
          clear hcell2 hm hp hi0 hmi
          by_cases hle : e.no ≤ p.no
          · have HRES : Aside0 (linM 8 200 x = false) := ⟨by
              unfold linM
              rw [← HE.out, HSTEP.out, HENT.out, HPREV.out]
              simp only [Bool.true_and]
              rw [decide_eq_false (show ¬ p.no < e.no by omega)]; rfl⟩
            have c3 : decide (e.no ≤ p.no) = true := decide_eq_true hle
            clear hle
            go_wp2_with (first
              | ((with_reducible refine gate_dst (N := 12) rfl ?_); refine wpList_load_cells rfl 149 (.tmp 11) rfl (ad.add (i * 37)) rfl cs _ HCELL.out Try.underlying149 rfl HINFO.out ?_)
              | fail)
            refine wp_region_held_drew (S := (fun W => LnS w wr.heap.size cs ls (ad.add (m * 37)) (.int .i64 p.no) W)) (by kernel_rfl) (⟨HNEW.out, HOLD.out, HPC.out, below_drew HBN.out⟩) (fun hHeld => ?_)
            refine tq (i := 0) (v := ?_) ?hy ?_
            case hy => (intro W_ hW_; refine Eq.trans (exec_load_row 149 (.tmp 4) ?_ wr.heap.size ?_ 149 cs (0, 0) _ hW_.1 Try.underlying149 rfl HINFO.out) ?_ <;> (first | with_reducible rfl | rfl))
            try simp only [Act.put, List.setIfInBounds_toArray, List.set_cons_zero, List.set_cons_succ]
            refine tq (i := 1) (v := ?_) ?hy ?_
            case hy => (intro W_ hW_; go_simp; first | done | with_reducible rfl)
            try simp only [Act.put, List.setIfInBounds_toArray, List.set_cons_zero, List.set_cons_succ]
            refine tq (i := 2) (v := ?_) ?hy ?_
            case hy => (intro W_ hW_; have f16 := hl16 W_ hW_.2.1; have f17 := hl17 W_ hW_.2.1; go_simp; first | done | with_reducible rfl)
            try simp only [Act.put, List.setIfInBounds_toArray, List.set_cons_zero, List.set_cons_succ]
            refine wpAnyH_ready (rs := [3]) (by kernel_rfl) (by simp) ?_
            refine AllReadyH.cons (by simp only [List.getElem?_toArray, List.getElem?_cons_succ, List.getElem?_cons_zero]; rfl) (fun K hK => ?_) AllReadyH.nil
            rw [if_pos (by rfl)]
            go_wp2_with fail
            refine (HCALL.out _).mono ?_
            rintro e_ w1 ⟨rfl, hb1⟩; rw [HENT.out]
            refine hK.out _ _ (LnS.step hHeld hb1) (fun hHeld2 => ?_)
            clear hK K hHeld
            have hHeld := hHeld2
            clear hHeld2
            try simp only [Act.put, List.setIfInBounds_toArray, List.set_cons_zero, List.set_cons_succ]
            refine tq (i := 4) (v := ?_) ?hy ?_
            case hy => (intro W_ hW_; go_simp; first | done | with_reducible rfl)
            try simp only [Act.put, List.setIfInBounds_toArray, List.set_cons_zero, List.set_cons_succ]
            refine tq (i := 5) (v := ?_) ?hy ?_
            case hy => (intro W_ hW_; go_simp; first | done | with_reducible rfl)
            try simp only [Act.put, List.setIfInBounds_toArray, List.set_cons_zero, List.set_cons_succ]
            refine tq (i := 6) (v := ?_) ?hy ?_
            case hy => (intro W_ hW_; go_simp; first | done | with_reducible rfl)
            try simp only [Act.put, List.setIfInBounds_toArray, List.set_cons_zero, List.set_cons_succ]
            refine tq (i := 7) (v := ?_) ?hy ?_
            case hy => (intro W_ hW_; go_simp; first | done | with_reducible rfl)
            try simp only [Act.put, List.setIfInBounds_toArray, List.set_cons_zero, List.set_cons_succ]
            refine tq (i := 8) (v := ?_) ?hy ?_
            case hy => (intro W_ hW_; go_simp; first | done | with_reducible rfl)
            try simp only [Act.put, List.setIfInBounds_toArray, List.set_cons_zero, List.set_cons_succ]
            refine tq (i := 9) (v := ?_) ?hy ?_
            case hy => (intro W_ hW_; go_simp; first | done | with_reducible rfl)
            try simp only [Act.put, List.setIfInBounds_toArray, List.set_cons_zero, List.set_cons_succ]
            refine tq (i := 10) (v := ?_) ?hy ?_
            case hy => (intro W_ hW_; have f0 := hl0 W_ hW_.1; go_simp; first | done | with_reducible rfl)
            try simp only [Act.put, List.setIfInBounds_toArray, List.set_cons_zero, List.set_cons_succ]
            refine tq (i := 11) (v := ?_) ?hy ?_
            case hy => (intro W_ hW_; go_simp; first | done | with_reducible rfl)
            try simp only [Act.put, List.setIfInBounds_toArray, List.set_cons_zero, List.set_cons_succ]
            refine tq (i := 12) (v := ?_) ?hy ?_
            case hy => (intro W_ hW_; have f18 := hl18 W_ hW_.2.1; go_simp; first | done | with_reducible rfl)
            try simp only [Act.put, List.setIfInBounds_toArray, List.set_cons_zero, List.set_cons_succ]
            refine tq (i := 13) (v := ?_) ?hy ?_
            case hy => (intro W_ hW_; go_simp; first | done | with_reducible rfl)
            try simp only [Act.put, List.setIfInBounds_toArray, List.set_cons_zero, List.set_cons_succ]
            refine tq (i := 14) (v := ?_) ?hy ?_
            case hy => (intro W_ hW_; go_simp; first | done | with_reducible rfl)
            try simp only [Act.put, List.setIfInBounds_toArray, List.set_cons_zero, List.set_cons_succ]
            refine tq (i := 15) (v := ?_) ?hy ?_
            case hy => (intro W_ hW_; go_simp; first | done | with_reducible rfl)
            try simp only [Act.put, List.setIfInBounds_toArray, List.set_cons_zero, List.set_cons_succ]
            refine tq (i := 16) (v := ?_) ?hy ?_
            case hy => (intro W_ hW_; go_simp; first | done | with_reducible rfl)
            try simp only [Act.put, List.setIfInBounds_toArray, List.set_cons_zero, List.set_cons_succ]
            refine tq (i := 17) (v := ?_) ?hy ?_
            case hy => (intro W_ hW_; have fp := hW_.2.2.1; go_simp; first | done | with_reducible rfl)
            try simp only [Act.put, List.setIfInBounds_toArray, List.set_cons_zero, List.set_cons_succ]
            refine tq (i := 18) (v := ?_) ?hy ?_
            case hy => (intro W_ hW_; go_simp; first | done | with_reducible rfl)
            try simp only [Act.put, List.setIfInBounds_toArray, List.set_cons_zero, List.set_cons_succ]
            refine tq (i := 19) (v := ?_) ?hy ?_
            case hy => (intro W_ hW_; go_simp; first | done | with_reducible rfl)
            try simp only [Act.put, List.setIfInBounds_toArray, List.set_cons_zero, List.set_cons_succ]
            refine tq (i := 20) (v := ?_) ?hy ?_
            case hy => (intro W_ hW_; go_simp; first | done | with_reducible rfl)
            try simp only [Act.put, List.setIfInBounds_toArray, List.set_cons_zero, List.set_cons_succ]
            refine wpAnyH_done (by kernel_rfl) ?_ _
            have HH := Aside0.mk hHeld
            clear hHeld
            go_wp2_with fail
            go_ret
            exact ⟨by rw [HRES.out]; rfl, HH.out.2.2.2⟩
          · have HNEXT : Aside0 (entsM 8 200 x.n x.rep (prevNo x.f (i + 1)) (x.f.drop (i + 1)) = entsM 8 200 x.n x.rep none x.f) := ⟨by
              rw [← HE.out, HSTEP.out, HENT.out, HPREV.out]
              simp only [Bool.true_and]
              rw [decide_eq_true (show p.no < e.no by omega)]; rfl⟩
            have c3 : decide (e.no ≤ p.no) = false := decide_eq_false hle
            clear hle
            go_wp2_with (first
              | ((with_reducible refine gate_dst (N := 12) rfl ?_); refine wpList_load_cells rfl 149 (.tmp 11) rfl (ad.add (i * 37)) rfl cs _ HCELL.out Try.underlying149 rfl HINFO.out ?_)
              | fail)
            refine wp_region_held_drew (S := (fun W => LnS w wr.heap.size cs ls (ad.add (m * 37)) (.int .i64 p.no) W)) (by kernel_rfl) (⟨HNEW.out, HOLD.out, HPC.out, below_drew HBN.out⟩) (fun hHeld => ?_)
            refine tq (i := 0) (v := ?_) ?hy ?_
            case hy => (intro W_ hW_; refine Eq.trans (exec_load_row 149 (.tmp 4) ?_ wr.heap.size ?_ 149 cs (0, 0) _ hW_.1 Try.underlying149 rfl HINFO.out) ?_ <;> (first | with_reducible rfl | rfl))
            try simp only [Act.put, List.setIfInBounds_toArray, List.set_cons_zero, List.set_cons_succ]
            refine tq (i := 1) (v := ?_) ?hy ?_
            case hy => (intro W_ hW_; go_simp; first | done | with_reducible rfl)
            try simp only [Act.put, List.setIfInBounds_toArray, List.set_cons_zero, List.set_cons_succ]
            refine tq (i := 2) (v := ?_) ?hy ?_
            case hy => (intro W_ hW_; have f16 := hl16 W_ hW_.2.1; have f17 := hl17 W_ hW_.2.1; go_simp; first | done | with_reducible rfl)
            try simp only [Act.put, List.setIfInBounds_toArray, List.set_cons_zero, List.set_cons_succ]
            refine wpAnyH_ready (rs := [3]) (by kernel_rfl) (by simp) ?_
            refine AllReadyH.cons (by simp only [List.getElem?_toArray, List.getElem?_cons_succ, List.getElem?_cons_zero]; rfl) (fun K hK => ?_) AllReadyH.nil
            rw [if_pos (by rfl)]
            go_wp2_with fail
            refine (HCALL.out _).mono ?_
            rintro e_ w1 ⟨rfl, hb1⟩; rw [HENT.out]
            refine hK.out _ _ (LnS.step hHeld hb1) (fun hHeld2 => ?_)
            clear hK K hHeld
            have hHeld := hHeld2
            clear hHeld2
            try simp only [Act.put, List.setIfInBounds_toArray, List.set_cons_zero, List.set_cons_succ]
            refine tq (i := 4) (v := ?_) ?hy ?_
            case hy => (intro W_ hW_; go_simp; first | done | with_reducible rfl)
            try simp only [Act.put, List.setIfInBounds_toArray, List.set_cons_zero, List.set_cons_succ]
            refine tq (i := 5) (v := ?_) ?hy ?_
            case hy => (intro W_ hW_; go_simp; first | done | with_reducible rfl)
            try simp only [Act.put, List.setIfInBounds_toArray, List.set_cons_zero, List.set_cons_succ]
            refine tq (i := 6) (v := ?_) ?hy ?_
            case hy => (intro W_ hW_; go_simp; first | done | with_reducible rfl)
            try simp only [Act.put, List.setIfInBounds_toArray, List.set_cons_zero, List.set_cons_succ]
            refine tq (i := 7) (v := ?_) ?hy ?_
            case hy => (intro W_ hW_; go_simp; first | done | with_reducible rfl)
            try simp only [Act.put, List.setIfInBounds_toArray, List.set_cons_zero, List.set_cons_succ]
            refine tq (i := 8) (v := ?_) ?hy ?_
            case hy => (intro W_ hW_; go_simp; first | done | with_reducible rfl)
            try simp only [Act.put, List.setIfInBounds_toArray, List.set_cons_zero, List.set_cons_succ]
            refine tq (i := 9) (v := ?_) ?hy ?_
            case hy => (intro W_ hW_; go_simp; first | done | with_reducible rfl)
            try simp only [Act.put, List.setIfInBounds_toArray, List.set_cons_zero, List.set_cons_succ]
            refine tq (i := 10) (v := ?_) ?hy ?_
            case hy => (intro W_ hW_; have f0 := hl0 W_ hW_.1; go_simp; first | done | with_reducible rfl)
            try simp only [Act.put, List.setIfInBounds_toArray, List.set_cons_zero, List.set_cons_succ]
            refine tq (i := 11) (v := ?_) ?hy ?_
            case hy => (intro W_ hW_; go_simp; first | done | with_reducible rfl)
            try simp only [Act.put, List.setIfInBounds_toArray, List.set_cons_zero, List.set_cons_succ]
            refine tq (i := 12) (v := ?_) ?hy ?_
            case hy => (intro W_ hW_; have f18 := hl18 W_ hW_.2.1; go_simp; first | done | with_reducible rfl)
            try simp only [Act.put, List.setIfInBounds_toArray, List.set_cons_zero, List.set_cons_succ]
            refine tq (i := 13) (v := ?_) ?hy ?_
            case hy => (intro W_ hW_; go_simp; first | done | with_reducible rfl)
            try simp only [Act.put, List.setIfInBounds_toArray, List.set_cons_zero, List.set_cons_succ]
            refine tq (i := 14) (v := ?_) ?hy ?_
            case hy => (intro W_ hW_; go_simp; first | done | with_reducible rfl)
            try simp only [Act.put, List.setIfInBounds_toArray, List.set_cons_zero, List.set_cons_succ]
            refine tq (i := 15) (v := ?_) ?hy ?_
            case hy => (intro W_ hW_; go_simp; first | done | with_reducible rfl)
            try simp only [Act.put, List.setIfInBounds_toArray, List.set_cons_zero, List.set_cons_succ]
            refine tq (i := 16) (v := ?_) ?hy ?_
            case hy => (intro W_ hW_; go_simp; first | done | with_reducible rfl)
            try simp only [Act.put, List.setIfInBounds_toArray, List.set_cons_zero, List.set_cons_succ]
            refine tq (i := 17) (v := ?_) ?hy ?_
            case hy => (intro W_ hW_; have fp := hW_.2.2.1; go_simp; first | done | with_reducible rfl)
            try simp only [Act.put, List.setIfInBounds_toArray, List.set_cons_zero, List.set_cons_succ]
            refine tq (i := 18) (v := ?_) ?hy ?_
            case hy => (intro W_ hW_; go_simp; first | done | with_reducible rfl)
            try simp only [Act.put, List.setIfInBounds_toArray, List.set_cons_zero, List.set_cons_succ]
            refine tq (i := 19) (v := ?_) ?hy ?_
            case hy => (intro W_ hW_; go_simp; first | done | with_reducible rfl)
            try simp only [Act.put, List.setIfInBounds_toArray, List.set_cons_zero, List.set_cons_succ]
            refine tq (i := 20) (v := ?_) ?hy ?_
            case hy => (intro W_ hW_; go_simp; first | done | with_reducible rfl)
            try simp only [Act.put, List.setIfInBounds_toArray, List.set_cons_zero, List.set_cons_succ]
            refine wpAnyH_done (by kernel_rfl) ?_ _
            have HH := Aside0.mk hHeld
            clear hHeld
            go_wp2_with fail
            go_roundg (x.f.length - (i + 1))
            case measure => have := HK.out; have := HI.out; omega
            case rel => exact ⟨i + 1, by first | rfl | (simp [e4]; done), ⟨by have := HI.out; omega⟩, HNEXT, ⟨HH.out.2.1⟩, ⟨HH.out.2.2.2⟩⟩
    · have e1 : decide ((i : Int) < (x.f.length : Int)) = false := by simpa using hi
      have e2 : ((i : Int) < (x.f.length : Int)) = False := by simpa using hi
      have hil : i = x.f.length := by have := HK.out; omega
      have HENTS : Aside0 (entsM 8 200 x.n x.rep none x.f = true) := ⟨by rw [← HE.out, hil, List.drop_length]; unfold entsM; rfl⟩
      have g16 := (blk_cell HBW.out 16).trans K16.out
      have g17 := (blk_cell HBW.out 17).trans K17.out
      clear hi hil
      cases hm : stMay x.n x.rep
      · have HRES : Aside0 (linM 8 200 x = false) := ⟨by unfold linM; rw [hm, Bool.false_and, Bool.and_false]⟩
        have HM := Aside0.mk hm
        clear hm
        go_wp2_with (first
          | (go_at_call 149; refine (stmay_call _ _ _).mono ?_; rintro e_ w1 ⟨rfl, hb1⟩
             rw [HM.out]
             have HW1 := Aside0.mk (blk_below HBW.out hb1)
             have q16 := (blk_cell HW1.out 16).trans K16.out
             have q17 := (blk_cell HW1.out 17).trans K17.out
             have q18 := (blk_cell HW1.out 18).trans K18.out
             have HB1 := Aside0.mk (below_step HB.out hb1)
             clear hb1)
          | fail)
        go_ret
        exact ⟨by rw [HRES.out]; rfl, HB1.out⟩
      · have HM := Aside0.mk hm
        clear hm
        by_cases h0 : 0 < x.f.length
        · have HRES : Aside0 (linM 8 200 x = true) := ⟨by unfold linM; rw [HENTS.out, HM.out, decide_eq_true h0]; rfl⟩
          have c0 : decide ((x.f.length : Int) > 0) = true := by simp; omega
          have c1 : decide (x.f.length > 0) = true := by simp; omega
          clear h0
          go_wp2_with (first
            | (go_at_call 149; refine (stmay_call _ _ _).mono ?_; rintro e_ w1 ⟨rfl, hb1⟩
               rw [HM.out]
               have HW1 := Aside0.mk (blk_below HBW.out hb1)
               have q16 := (blk_cell HW1.out 16).trans K16.out
               have q17 := (blk_cell HW1.out 17).trans K17.out
               have q18 := (blk_cell HW1.out 18).trans K18.out
               have HB1 := Aside0.mk (below_step HB.out hb1)
               clear hb1)
            | fail)
          go_ret
          exact ⟨by rw [HRES.out]; rfl, HB1.out⟩
        · have HRES : Aside0 (linM 8 200 x = !(x.n == 0 && x.rep == 0)) := ⟨by unfold linM; rw [HENTS.out, HM.out, decide_eq_false h0]; rfl⟩
          have c0 : decide ((x.f.length : Int) > 0) = false := decide_eq_false (by omega)
          have c1 : decide (x.f.length > 0) = false := decide_eq_false (by omega)
          clear h0
          go_wp2_with (first
            | (go_at_call 149; refine (stmay_call _ _ _).mono ?_; rintro e_ w1 ⟨rfl, hb1⟩
               rw [HM.out]
               have HW1 := Aside0.mk (blk_below HBW.out hb1)
               have q16 := (blk_cell HW1.out 16).trans K16.out
               have q17 := (blk_cell HW1.out 17).trans K17.out
               have q18 := (blk_cell HW1.out 18).trans K18.out
               have HB1 := Aside0.mk (below_step HB.out hb1)
               clear hb1)
            | fail)
          all_goals
            go_ret
            exact ⟨by rw [HRES.out]; first | rfl | (simp [*]; done), HB1.out⟩
end Go.Proofs.Ytchaegfdcdlfaaa.X

namespace Go.Proofs.Ytchaegfdcdlfaaa.X
set_option linter.unusedVariables false
set_option linter.unusedSimpArgs false
open Go.RowKit Go.Proofs.YtchaegfdcdlfaaaW.PrintWords Go.Proofs.YtchaegfdcdlfaaaW.PrintLast Go.Proofs.YtchaegfdcdlfaaaW.PrintMore
attribute [local go_sem] max2_int min2_int max_two min_two max_three min_three max_four min_four
theorem infoId16 : (Try.prog.info? 94).map (·.size) = some 16 := by kernel_rfl
theorem load_id {W : World} {g : Nat} {xs : List Int} (h : Blk8 W g 94 xs) (hl : xs.length = 16) {a : Act} {o : Oper} (x : Operand) (ho : o.op = .load 94 x) (hx : a.eval x = .pointer (some ⟨g, 0, none⟩)) : (execOp a.eval o).run Try.prog W = .ok (.value (.agg (cells8 xs))) W :=
  exec_load_row 94 x ho g hx 94 (cells8 xs) (0, 0) _ h Try.underlying94 rfl (by rw [cells8_size, hl]; exact infoId16)
theorem cmp16_call (g h : Nat) (a b : List Int) (w : World) (ha : Blk8 w g 94 a) (hb : Blk8 w h 94 b) (hal : a.length = 16) (hbl : b.length = 16) :
    Calls Try.prog 151 #[.slice (some ⟨g, 0, none⟩) 16 16, .slice (some ⟨h, 0, none⟩) 16 16] w fun e w' => e = .returned (.int .i64 (cmpL a b)) ∧ w = w' := by
  have := compare_call (some ⟨g, 0, none⟩) (some ⟨h, 0, none⟩) 16 16 a b w (ha.reads (by omega)) (hb.reads (by omega))
  rw [hal, hbl] at this
  exact this
abbrev LsS (w0 : World) (a b : List Int) (W : World) : Prop := Blk8 W w0.heap.size 94 a ∧ Blk8 W (w0.heap.size + 1) 94 b ∧ Below w0.heap.size w0 W
theorem LsS.begin (w0 : World) (a b : List Int) : LsS w0 a b ((w0.alloc (.cells (cells8 a) 94)).alloc (.cells (cells8 b) 94)).drew := by
  have HE := blk_alloc (blk_new w0 (.cells (cells8 a) 94)) (.cells (cells8 b) 94)
  have HD := blk_new (w0.alloc (.cells (cells8 a) 94)) (.cells (cells8 b) 94)
  have es : (w0.alloc (.cells (cells8 a) 94)).heap.size = w0.heap.size + 1 := Array.size_push ..
  rw [es] at HD
  exact ⟨HE, HD, below_drew (below_alloc (below_alloc (Below.refl _ _) _) _)⟩
set_option maxHeartbeats 4000000 in
set_option maxRecDepth 100000 in
theorem less_same (a b : List Int) (w : World) (ha : a.length = 16) (hb : b.length = 16) (h : (a == b) = true) :
    Calls Try.prog 107 #[.agg (cells8 a), .agg (cells8 b)] w fun e w' => e = .returned (.bool false) ∧ Below w.heap.size w w' := by
  have HB := Aside0.mk (LsS.begin w a b)
  have hne : ∀ W : World, (binOp .neq 94 (.agg (cells8 a)) (.agg (cells8 b))).run Try.prog W = .ok (.bool false) W := fun W => by
    have := neq8 (P := Try.prog) (w := W) Try.underlying94 Try.info5i Try.underlying5 cells5 a b ha hb
    rw [h] at this
    exact this
  have HA := Aside0.mk ha
  have HB2 := Aside0.mk hb
  clear h ha hb
  go_enter Try.func107, Try.ntmps107
  go_wp2_with fail
  refine wp_region_held_drew (S := (fun W => LsS w a b W)) (by kernel_rfl) (HB.out) (fun hHeld => ?_)
  refine wpAnyH_take (i := 0) (v := ?_) (by simp only [List.getElem?_toArray, List.getElem?_cons_succ, List.getElem?_cons_zero]; rfl) (by kernel_rfl) (by kernel_rfl) (by kernel_rfl) (by intro _ _ _ h; exact h) (Or.inl ⟨by rfl, ?hy⟩) (by assumption) ?_
  case hy => (intro W_ hW_; refine Eq.trans (load_id hW_.1 HA.out (.tmp 2) ?_ ?_) ?_ <;> (first | with_reducible rfl | rfl))
  try simp only [Act.put, List.setIfInBounds_toArray, List.set_cons_zero, List.set_cons_succ]
  refine wpAnyH_take (i := 1) (v := ?_) (by simp only [List.getElem?_toArray, List.getElem?_cons_succ, List.getElem?_cons_zero]; rfl) (by kernel_rfl) (by kernel_rfl) (by kernel_rfl) (by intro _ _ _ h; exact h) (Or.inl ⟨by rfl, ?hy⟩) (by assumption) ?_
  case hy => (intro W_ hW_; refine Eq.trans (load_id hW_.2.1 HB2.out (.tmp 3) ?_ ?_) ?_ <;> (first | with_reducible rfl | rfl))
  try simp only [Act.put, List.setIfInBounds_toArray, List.set_cons_zero, List.set_cons_succ]
  refine wpAnyH_take (i := 2) (v := ?_) (by simp only [List.getElem?_toArray, List.getElem?_cons_succ, List.getElem?_cons_zero]; rfl) (by kernel_rfl) (by kernel_rfl) (by kernel_rfl) (by intro _ _ _ h; exact h) (Or.inl ⟨by rfl, ?hy⟩) (by assumption) ?_
  case hy => (intro W_ hW_; go_simp; first | done | with_reducible rfl)
  try simp only [Act.put, List.setIfInBounds_toArray, List.set_cons_zero, List.set_cons_succ]
  refine wpAnyH_take (i := 3) (v := ?_) (by simp only [List.getElem?_toArray, List.getElem?_cons_succ, List.getElem?_cons_zero]; rfl) (by kernel_rfl) (by kernel_rfl) (by kernel_rfl) (by intro _ _ _ h; exact h) (Or.inl ⟨by rfl, ?hy⟩) (by assumption) ?_
  case hy => (intro W_ hW_; go_simp; first | done | with_reducible rfl)
  try simp only [Act.put, List.setIfInBounds_toArray, List.set_cons_zero, List.set_cons_succ]
  refine wpAnyH_take (i := 4) (v := undef) (by simp only [List.getElem?_toArray, List.getElem?_cons_succ, List.getElem?_cons_zero]; rfl) (by kernel_rfl) (by kernel_rfl) (by kernel_rfl) (by intro _ _ _ h; exact h) (Or.inr ⟨by rfl, rfl⟩) (by assumption) ?_
  try simp only [Act.put, List.setIfInBounds_toArray, List.set_cons_zero, List.set_cons_succ]
  refine wpAnyH_take (i := 5) (v := undef) (by simp only [List.getElem?_toArray, List.getElem?_cons_succ, List.getElem?_cons_zero]; rfl) (by kernel_rfl) (by kernel_rfl) (by kernel_rfl) (by intro _ _ _ h; exact h) (Or.inr ⟨by rfl, rfl⟩) (by assumption) ?_
  try simp only [Act.put, List.setIfInBounds_toArray, List.set_cons_zero, List.set_cons_succ]
  refine wpAnyH_take (i := 6) (v := undef) (by simp only [List.getElem?_toArray, List.getElem?_cons_succ, List.getElem?_cons_zero]; rfl) (by kernel_rfl) (by kernel_rfl) (by kernel_rfl) (by intro _ _ _ h; exact h) (Or.inr ⟨by rfl, rfl⟩) (by assumption) ?_
  try simp only [Act.put, List.setIfInBounds_toArray, List.set_cons_zero, List.set_cons_succ]
  refine wpAnyH_take (i := 7) (v := undef) (by simp only [List.getElem?_toArray, List.getElem?_cons_succ, List.getElem?_cons_zero]; rfl) (by kernel_rfl) (by kernel_rfl) (by kernel_rfl) (by intro _ _ _ h; exact h) (Or.inr ⟨by rfl, rfl⟩) (by assumption) ?_
  try simp only [Act.put, List.setIfInBounds_toArray, List.set_cons_zero, List.set_cons_succ]
  refine wpAnyH_take (i := 8) (v := ?_) (by simp only [List.getElem?_toArray, List.getElem?_cons_succ, List.getElem?_cons_zero]; rfl) (by kernel_rfl) (by kernel_rfl) (by kernel_rfl) (by intro _ _ _ h; exact h) (Or.inl ⟨by rfl, ?hy⟩) (by assumption) ?_
  case hy => (intro W_ hW_; go_simp; first | done | with_reducible rfl)
  try simp only [Act.put, List.setIfInBounds_toArray, List.set_cons_zero, List.set_cons_succ]
  refine wpAnyH_take (i := 9) (v := ?_) (by simp only [List.getElem?_toArray, List.getElem?_cons_succ, List.getElem?_cons_zero]; rfl) (by kernel_rfl) (by kernel_rfl) (by kernel_rfl) (by intro _ _ _ h; exact h) (Or.inl ⟨by rfl, ?hy⟩) (by assumption) ?_
  case hy => (intro W_ hW_; go_simp; first | done | with_reducible rfl)
  try simp only [Act.put, List.setIfInBounds_toArray, List.set_cons_zero, List.set_cons_succ]
  refine wpAnyH_done (by kernel_rfl) ?_ _
  have hHB := hHeld.2.2
  clear hHeld
  go_wp2_with fail
  go_ret
  exact ⟨rfl, hHB⟩
set_option maxHeartbeats 4000000 in
set_option maxRecDepth 100000 in
theorem less_not (a b : List Int) (w : World) (ha : a.length = 16) (hb : b.length = 16) (h : (a == b) = false) :
    Calls Try.prog 107 #[.agg (cells8 a), .agg (cells8 b)] w fun e w' => e = .returned (.bool (decide (cmpL a b < 0))) ∧ Below w.heap.size w w' := by
  have HB := Aside0.mk (LsS.begin w a b)
  have hne : ∀ W : World, (binOp .neq 94 (.agg (cells8 a)) (.agg (cells8 b))).run Try.prog W = .ok (.bool true) W := fun W => by
    have := neq8 (P := Try.prog) (w := W) Try.underlying94 Try.info5i Try.underlying5 cells5 a b ha hb
    rw [h] at this
    exact this
  have HA := Aside0.mk ha
  have HB2 := Aside0.mk hb
  clear h ha hb
  go_enter Try.func107, Try.ntmps107
  go_wp2_with fail
  refine wp_region_held_drew (S := (fun W => LsS w a b W)) (by kernel_rfl) (HB.out) (fun hHeld => ?_)
  refine wpAnyH_take (i := 0) (v := ?_) (by simp only [List.getElem?_toArray, List.getElem?_cons_succ, List.getElem?_cons_zero]; rfl) (by kernel_rfl) (by kernel_rfl) (by kernel_rfl) (by intro _ _ _ h; exact h) (Or.inl ⟨by rfl, ?hy⟩) (by assumption) ?_
  case hy => (intro W_ hW_; refine Eq.trans (load_id hW_.1 HA.out (.tmp 2) ?_ ?_) ?_ <;> (first | with_reducible rfl | rfl))
  try simp only [Act.put, List.setIfInBounds_toArray, List.set_cons_zero, List.set_cons_succ]
  refine wpAnyH_take (i := 1) (v := ?_) (by simp only [List.getElem?_toArray, List.getElem?_cons_succ, List.getElem?_cons_zero]; rfl) (by kernel_rfl) (by kernel_rfl) (by kernel_rfl) (by intro _ _ _ h; exact h) (Or.inl ⟨by rfl, ?hy⟩) (by assumption) ?_
  case hy => (intro W_ hW_; refine Eq.trans (load_id hW_.2.1 HB2.out (.tmp 3) ?_ ?_) ?_ <;> (first | with_reducible rfl | rfl))
  try simp only [Act.put, List.setIfInBounds_toArray, List.set_cons_zero, List.set_cons_succ]
  refine wpAnyH_take (i := 2) (v := ?_) (by simp only [List.getElem?_toArray, List.getElem?_cons_succ, List.getElem?_cons_zero]; rfl) (by kernel_rfl) (by kernel_rfl) (by kernel_rfl) (by intro _ _ _ h; exact h) (Or.inl ⟨by rfl, ?hy⟩) (by assumption) ?_
  case hy => (intro W_ hW_; go_simp; first | done | with_reducible rfl)
  try simp only [Act.put, List.setIfInBounds_toArray, List.set_cons_zero, List.set_cons_succ]
  refine wpAnyH_take (i := 3) (v := ?_) (by simp only [List.getElem?_toArray, List.getElem?_cons_succ, List.getElem?_cons_zero]; rfl) (by kernel_rfl) (by kernel_rfl) (by kernel_rfl) (by intro _ _ _ h; exact h) (Or.inl ⟨by rfl, ?hy⟩) (by assumption) ?_
  case hy => (intro W_ hW_; go_simp; first | done | with_reducible rfl)
  try simp only [Act.put, List.setIfInBounds_toArray, List.set_cons_zero, List.set_cons_succ]
  refine wpAnyH_take (i := 4) (v := ?_) (by simp only [List.getElem?_toArray, List.getElem?_cons_succ, List.getElem?_cons_zero]; rfl) (by kernel_rfl) (by kernel_rfl) (by kernel_rfl) (by intro _ _ _ h; exact h) (Or.inl ⟨by rfl, ?hy⟩) (by assumption) ?_
  case hy => (intro W_ hW_; go_simp; first | done | with_reducible rfl)
  try simp only [Act.put, List.setIfInBounds_toArray, List.set_cons_zero, List.set_cons_succ]
  refine wpAnyH_take (i := 5) (v := ?_) (by simp only [List.getElem?_toArray, List.getElem?_cons_succ, List.getElem?_cons_zero]; rfl) (by kernel_rfl) (by kernel_rfl) (by kernel_rfl) (by intro _ _ _ h; exact h) (Or.inl ⟨by rfl, ?hy⟩) (by assumption) ?_
  case hy => (intro W_ hW_; go_simp; first | done | with_reducible rfl)
  try simp only [Act.put, List.setIfInBounds_toArray, List.set_cons_zero, List.set_cons_succ]
  refine wpAnyH_ready (rs := [6]) (by kernel_rfl) (by simp) ?_
  refine AllReadyH.cons (by simp only [List.getElem?_toArray, List.getElem?_cons_succ, List.getElem?_cons_zero]; rfl) (fun K hK => ?_) AllReadyH.nil
  rw [if_pos (by rfl)]
  go_wp2_with fail
  refine (cmp16_call _ _ a b _ hHeld.1 hHeld.2.1 HA.out HB2.out).mono ?_
  rintro e w1 ⟨rfl, rfl⟩
  refine hK.out _ _ (hHeld) (fun hHeld2 => ?_)
  clear hK K hHeld
  have hHeld := hHeld2
  clear hHeld2
  try simp only [Act.put, List.setIfInBounds_toArray, List.set_cons_zero, List.set_cons_succ]
  refine wpAnyH_take (i := 7) (v := ?_) (by simp only [List.getElem?_toArray, List.getElem?_cons_succ, List.getElem?_cons_zero]; rfl) (by kernel_rfl) (by kernel_rfl) (by kernel_rfl) (by intro _ _ _ h; exact h) (Or.inl ⟨by rfl, ?hy⟩) (by assumption) ?_
  case hy => (intro W_ hW_; go_simp; first | done | with_reducible rfl)
  try simp only [Act.put, List.setIfInBounds_toArray, List.set_cons_zero, List.set_cons_succ]
  refine wpAnyH_take (i := 8) (v := ?_) (by simp only [List.getElem?_toArray, List.getElem?_cons_succ, List.getElem?_cons_zero]; rfl) (by kernel_rfl) (by kernel_rfl) (by kernel_rfl) (by intro _ _ _ h; exact h) (Or.inl ⟨by rfl, ?hy⟩) (by assumption) ?_
  case hy => (intro W_ hW_; go_simp; first | done | with_reducible rfl)
  try simp only [Act.put, List.setIfInBounds_toArray, List.set_cons_zero, List.set_cons_succ]
  refine wpAnyH_take (i := 9) (v := ?_) (by simp only [List.getElem?_toArray, List.getElem?_cons_succ, List.getElem?_cons_zero]; rfl) (by kernel_rfl) (by kernel_rfl) (by kernel_rfl) (by intro _ _ _ h; exact h) (Or.inl ⟨by rfl, ?hy⟩) (by assumption) ?_
  case hy => (intro W_ hW_; go_simp; first | done | with_reducible rfl)
  try simp only [Act.put, List.setIfInBounds_toArray, List.set_cons_zero, List.set_cons_succ]
  refine wpAnyH_done (by kernel_rfl) ?_ _
  have hHB := hHeld.2.2
  clear hHeld
  go_wp2_with fail
  go_ret
  exact ⟨rfl, hHB⟩
theorem less_call (a b : List Int) (w : World) (ha : a.length = 16) (hb : b.length = 16) :
    Calls Try.prog 107 #[.agg (cells8 a), .agg (cells8 b)] w fun e w' => e = .returned (.bool (lessL a b)) ∧ Below w.heap.size w w' := by
  unfold lessL
  cases h : (a == b)
  · exact less_not a b w ha hb h
  · exact less_same a b w ha hb h
end Go.Proofs.Ytchaegfdcdlfaaa.X

namespace Go.Proofs.Ytchaegfdcdlfaaa.X
set_option linter.unusedVariables false
set_option linter.unusedSimpArgs false
open Go.ChangeShapes Go.WideShapes Go.ChangeAt Go.RowKit Go.Deep Go.Proofs.YtchaegfdcdlfaaaW.PrintWords Go.Proofs.YtchaegfdcdlfaaaW.PrintLast Go.Proofs.YtchaegfdcdlfaaaW.PrintMore

section
variable {H : Type} {enc : TypeId × Value → H} {w : World} {base : Nat} {spare : Nat → Bool} {held : Bool}
theorem trod_struct5 {P : Program} {t : TypeId} {f0 f1 f2 f3 f4 : Field} {fuel : Nat} {cs : List Value} {x : DataW H × List MemPlace} (ht : P.underlying t = some (.struct #[f0, f1, f2, f3, f4])) (h : DataW.trod enc P w base spare held fuel t cs = some x) :
    ∃ y0 y1 y2 y3 y4 n, cs.length = P.cellsOf t ∧ DataW.trod enc P w base spare held n f0.type ((cs.drop f0.offset).take (P.cellsOf f0.type)) = some y0 ∧
      DataW.trod enc P w base spare held n f1.type ((cs.drop f1.offset).take (P.cellsOf f1.type)) = some y1 ∧ DataW.trod enc P w base spare held n f2.type ((cs.drop f2.offset).take (P.cellsOf f2.type)) = some y2 ∧
      DataW.trod enc P w base spare held n f3.type ((cs.drop f3.offset).take (P.cellsOf f3.type)) = some y3 ∧ DataW.trod enc P w base spare held n f4.type ((cs.drop f4.offset).take (P.cellsOf f4.type)) = some y4 := by
  obtain ⟨xs, n, _, rfl, hl, hlen, hf⟩ := DataW.trod_struct ht h
  match xs, hlen with
  | [y0, y1, y2, y3, y4], _ => exact ⟨y0, y1, y2, y3, y4, n, hl, by simpa using hf 0 f0 rfl, by simpa using hf 1 f1 rfl, by simpa using hf 2 f2 rfl, by simpa using hf 3 f3 rfl, by simpa using hf 4 f4 rfl⟩
structure EntOk (x : Ent) : Prop where
  no : (Lit.int .i64 x.no).wf = true
  n : (Lit.int .i64 x.n).wf = true
  rep : (Lit.int .i64 x.rep).wf = true
  len : (Lit.int .i64 x.len).wf = true
  d : x.d.length = 32 ∧ ∀ q ∈ x.d, (Lit.int .u8 q).wf = true
  b : ∀ s ∈ x.b, SgOk s
set_option maxRecDepth 100000 in
theorem trod_sigs {fuel : Nat} {cs : List Value} {x : DataW H × List MemPlace} (h : DataW.trod enc Try.prog w base spare held fuel 22 cs = some x) :
    ∃ (A : Option Addr) (c : Nat) (l : List Sg), cs = [.slice A l.length c] ∧ l.length ≤ c ∧ sgK.C w A l.length l ∧ ∀ s ∈ l, SgOk s := by
  have hs : ∃ A len cap, cs = [.slice A len cap] := by
    rcases open_slice Try.underlying22 h with ⟨hcs, _⟩ | ⟨a, l, c, m, n, D, Pl, hcs, _⟩
    · exact ⟨_, _, _, hcs⟩
    · exact ⟨_, _, _, hcs⟩
  obtain ⟨A, len, cap, rfl⟩ := hs
  obtain ⟨l, rfl, hc, hC, hok⟩ := open_sigs (A := A) (len := len) (cap := cap) (d := x.1) (p := x.2) ⟨fuel, h⟩
  exact ⟨A, cap, l, rfl, hc, hC, hok⟩
set_option maxRecDepth 100000 in
theorem trod_stamp {fuel : Nat} {cs : List Value} {x : DataW H × List MemPlace} (h : DataW.trod enc Try.prog w base spare held fuel 96 cs = some x) : ∃ n r : Int, cs = [.int .i64 n, .int .i64 r] ∧ (Lit.int .i64 n).wf = true ∧ (Lit.int .i64 r).wf = true := by
  obtain ⟨y0, y1, n, rfl, hl, h0, h1⟩ := trod_struct2 Try.underlying96 h
  obtain ⟨a, ha, _, hwa⟩ := DataW.trod_int (k := .i64) (by kernel_rfl) h0
  obtain ⟨b, hb, _, hwb⟩ := DataW.trod_int (k := .i64) (by kernel_rfl) h1
  have h2 : cs.length = 2 := by rw [hl]; kernel_rfl
  refine ⟨a, b, ?_, hwa, hwb⟩
  match cs, h2 with
  | [v0, v1], _ =>
    have ha2 : [v0] = [.int .i64 a] := ha
    have hb2 : [v1] = [.int .i64 b] := hb
    simp only [List.cons.injEq, and_true] at ha2 hb2
    rw [ha2, hb2]
set_option maxRecDepth 100000 in
theorem trod_ent {fuel : Nat} {cs : List Value} {x : DataW H × List MemPlace} (h : DataW.trod enc Try.prog w base spare held fuel 149 cs = some x) : ∃ (e : Ent) (A : Option Addr) (c : Nat), cs = entC e A c ∧ EntOk e ∧ e.b.length ≤ c ∧ Kd.C sgK w A e.b.length e.b := by
  obtain ⟨y0, y1, y2, y3, y4, n, hl, h0, h1, h2, h3, h4⟩ := trod_struct5 Try.underlying149 h
  rw [cellsEnt] at hl
  obtain ⟨no, e0, _, w0⟩ := DataW.trod_int (k := .i64) (by kernel_rfl) h0
  obtain ⟨sn, sr, e1, w1, w1'⟩ := trod_stamp h1
  obtain ⟨ln, e2, _, w2⟩ := DataW.trod_int (k := .i64) (by kernel_rfl) h2
  obtain ⟨d, e3, h32, w3⟩ := trod_arr8 (n := 32) (e := 5) (by kernel_rfl) Try.underlying5 cells5 (by kernel_rfl) h3
  obtain ⟨A, c, l, e4, hc, hC, hok⟩ := trod_sigs h4
  have f0 : cs.take 1 = [.int .i64 no] := e0
  have f1 : (cs.drop 1).take 2 = [.int .i64 sn, .int .i64 sr] := e1
  have f2 : (cs.drop 3).take 1 = [.int .i64 ln] := e2
  have f3 : (cs.drop 4).take 32 = nums .u8 d := e3
  have f4 : (cs.drop 36).take 1 = [.slice A l.length c] := e4
  refine ⟨⟨no, sn, sr, ln, d, l⟩, A, c, ?_, ⟨w0, w1, w1', w2, ⟨h32, w3⟩, hok⟩, hc, hC⟩
  show cs = [.int .i64 no] ++ ([.int .i64 sn, .int .i64 sr] ++ ([.int .i64 ln] ++ (nums .u8 d ++ [.slice A l.length c])))
  have g4 : cs.drop 36 = [.slice A l.length c] := by rw [← f4, List.take_of_length_le (by rw [List.length_drop]; omega)]
  rw [← g4, ← f3, ← f2, ← f1, ← f0]
  rw [show cs.drop 36 = (cs.drop 4).drop 32 by rw [List.drop_drop], List.take_append_drop, show cs.drop 4 = (cs.drop 3).drop 1 by rw [List.drop_drop], List.take_append_drop, show cs.drop 3 = (cs.drop 1).drop 2 by rw [List.drop_drop], List.take_append_drop, List.take_append_drop]
set_option maxRecDepth 100000 in
theorem trod_ents {fuel : Nat} {cs : List Value} {x : DataW H × List MemPlace} (h : DataW.trod enc Try.prog w base spare held fuel 145 cs = some x) :
    ∃ (A : Option Addr) (c : Nat) (l : List Ent), cs = [.slice A l.length c] ∧ l.length ≤ c ∧ Kd.C entK w A l.length l ∧ ∀ s ∈ l, EntOk s := by
  rcases open_slice Try.underlying145 h with ⟨hcs, _⟩ | ⟨a, len, c, m, n, D, Pl, hcs, hb, hl, hm, hmm, _, hx⟩
  · exact ⟨none, 0, [], hcs, Nat.le_refl _, ⟨rfl, by simp, fun h => absurd h (by simp)⟩, fun s hs => absurd hs (by simp)⟩
  · have hlm : len ≤ m := by rw [hmm]; split <;> omega
    rw [cellsEnt] at hx
    haveI : Inhabited Ent := ⟨zEnt⟩
    obtain ⟨S, hS⟩ := choose_lt (α := Ent) (n := len) (p := fun i s => EntOk s ∧ ∃ (B : Option Addr) (d : Nat), s.b.length ≤ d ∧ Kd.C sgK w B s.b.length s.b ∧ w.cells? base (a.add (i * 37)) 37 = some (entC s B d)) (fun i hi => by
      obtain ⟨cs', h1, h2⟩ := hx i (by omega)
      obtain ⟨s, B, d, rfl, hs, hd, hC⟩ := trod_ent h2
      exact ⟨s, hs, B, d, hd, hC, h1⟩)
    refine ⟨some a, c, (List.range len).map S, by rw [hcs]; simp, by simpa using hl, ⟨by simp, by simp only [List.length_map, List.length_range]; unfold maxLen at hm; omega, fun _ => ⟨a, rfl, fun j s hj => ?_⟩⟩, ?_⟩
    · have hjl : j < len := by
        have := (List.getElem?_eq_some_iff.1 hj).1
        simpa using this
      have hs : S j = s := by simpa [hjl] using hj
      subst hs
      obtain ⟨hok, B, d, hd, hC, hcells⟩ := hS j hjl
      have hlen : (entC (S j) B d).length = 37 := by simp [entC, nums, hok.d.1]
      refine ⟨entC (S j) B d, hlen, entK_K.2 ⟨B, d, rfl, hok.d.1, hd, hC⟩, fun i u hi => ?_⟩
      obtain ⟨_, _, hcell⟩ := World.cells?_some hcells
      have hi2 : i < 37 := by
        have := (List.getElem?_eq_some_iff.1 hi).1
        omega
      have := hcell i hi2
      rw [Go.Deep.add_add] at this
      have e : j * entK.sz + i = j * 37 + i := rfl
      rw [e, this, hi]
    · intro s hs
      obtain ⟨i, hi, rfl⟩ := List.mem_map.1 hs
      exact (hS i (List.mem_range.1 hi)).1
structure LinOk (x : Lin) : Prop where
  id : x.id.length = 16 ∧ ∀ q ∈ x.id, (Lit.int .u8 q).wf = true
  n : (Lit.int .i64 x.n).wf = true
  rep : (Lit.int .i64 x.rep).wf = true
  f : ∀ s ∈ x.f, EntOk s
set_option maxRecDepth 100000 in
theorem trod_lin {fuel : Nat} {cs : List Value} {x : DataW H × List MemPlace} (h : DataW.trod enc Try.prog w base spare held fuel 147 cs = some x) : ∃ (e : Lin) (A : Option Addr) (c : Nat), cs = linC e A c ∧ LinOk e ∧ e.f.length ≤ c ∧ Kd.C entK w A e.f.length e.f := by
  obtain ⟨y0, y1, y2, n, rfl, hl, h0, h1, h2⟩ := trod_struct3 Try.underlying147 h
  rw [cellsLin] at hl
  obtain ⟨d, e0, h16, w0⟩ := trod_arr8 (n := 16) (e := 5) (by kernel_rfl) Try.underlying5 cells5 (by kernel_rfl) h0
  obtain ⟨sn, sr, e1, w1, w1'⟩ := trod_stamp h1
  obtain ⟨A, c, l, e2, hc, hC, hok⟩ := trod_ents h2
  have f0 : cs.take 16 = nums .u8 d := e0
  have f1 : (cs.drop 16).take 2 = [.int .i64 sn, .int .i64 sr] := e1
  have f2 : (cs.drop 18).take 1 = [.slice A l.length c] := e2
  refine ⟨⟨d, sn, sr, l⟩, A, c, ?_, ⟨⟨h16, w0⟩, w1, w1', hok⟩, hc, hC⟩
  show cs = nums .u8 d ++ ([.int .i64 sn, .int .i64 sr] ++ [.slice A l.length c])
  have g2 : cs.drop 18 = [.slice A l.length c] := by rw [← f2, List.take_of_length_le (by rw [List.length_drop]; omega)]
  rw [← g2, ← f1, ← f0]
  rw [show cs.drop 18 = (cs.drop 16).drop 2 by rw [List.drop_drop], List.take_append_drop, List.take_append_drop]
set_option maxRecDepth 100000 in
theorem trod_lins {fuel : Nat} {cs : List Value} {x : DataW H × List MemPlace} (h : DataW.trod enc Try.prog w base spare held fuel 69 cs = some x) :
    ∃ (A : Option Addr) (c : Nat) (l : List Lin), cs = [.slice A l.length c] ∧ l.length ≤ c ∧ Kd.C linK w A l.length l ∧ ∀ s ∈ l, LinOk s := by
  rcases open_slice Try.underlying69 h with ⟨hcs, _⟩ | ⟨a, len, c, m, n, D, Pl, hcs, hb, hl, hm, hmm, _, hx⟩
  · exact ⟨none, 0, [], hcs, Nat.le_refl _, ⟨rfl, by simp, fun h => absurd h (by simp)⟩, fun s hs => absurd hs (by simp)⟩
  · have hlm : len ≤ m := by rw [hmm]; split <;> omega
    rw [cellsLin] at hx
    haveI : Inhabited Lin := ⟨zLin⟩
    obtain ⟨S, hS⟩ := choose_lt (α := Lin) (n := len) (p := fun i s => LinOk s ∧ ∃ (B : Option Addr) (d : Nat), s.f.length ≤ d ∧ Kd.C entK w B s.f.length s.f ∧ w.cells? base (a.add (i * 19)) 19 = some (linC s B d)) (fun i hi => by
      obtain ⟨cs', h1, h2⟩ := hx i (by omega)
      obtain ⟨s, B, d, rfl, hs, hd, hC⟩ := trod_lin h2
      exact ⟨s, hs, B, d, hd, hC, h1⟩)
    refine ⟨some a, c, (List.range len).map S, by rw [hcs]; simp, by simpa using hl, ⟨by simp, by simp only [List.length_map, List.length_range]; unfold maxLen at hm; omega, fun _ => ⟨a, rfl, fun j s hj => ?_⟩⟩, ?_⟩
    · have hjl : j < len := by
        have := (List.getElem?_eq_some_iff.1 hj).1
        simpa using this
      have hs : S j = s := by simpa [hjl] using hj
      subst hs
      obtain ⟨hok, B, d, hd, hC, hcells⟩ := hS j hjl
      have hlen : (linC (S j) B d).length = 19 := by simp [linC, nums, hok.id.1]
      refine ⟨linC (S j) B d, hlen, linK_K.2 ⟨B, d, rfl, hok.id.1, hd, hC⟩, fun i u hi => ?_⟩
      obtain ⟨_, _, hcell⟩ := World.cells?_some hcells
      have hi2 : i < 19 := by
        have := (List.getElem?_eq_some_iff.1 hi).1
        omega
      have := hcell i hi2
      rw [Go.Deep.add_add] at this
      have e : j * linK.sz + i = j * 19 + i := rfl
      rw [e, this, hi]
    · intro s hs
      obtain ⟨i, hi, rfl⟩ := List.mem_map.1 hs
      exact (hS i (List.mem_range.1 hi)).1
structure Man where
  base : List Int
  l : List Lin
def manC (x : Man) (A : Option Addr) (c : Nat) : List Value := nums .u8 x.base ++ [.slice A x.l.length c]
structure ManOk (x : Man) : Prop where
  base : x.base.length = 32 ∧ ∀ q ∈ x.base, (Lit.int .u8 q).wf = true
  l : ∀ s ∈ x.l, LinOk s
set_option maxRecDepth 100000 in
theorem open_man {W0 : World} {b0 : Nat} {r : Reach} {v : Value} {d : DataW H} {p : List MemPlace} (hv : Value.okWide Try.prog W0 r b0 71 v) (h : DataW.Trod enc Try.prog w base spare held 71 v d p) :
    ∃ (x : Man) (A : Option Addr) (c : Nat), v = .agg (manC x A c).toArray ∧ ManOk x ∧ x.l.length ≤ c ∧ Kd.C linK w A x.l.length x.l := by
  unfold Value.okWide at hv
  rw [Try.underlying71] at hv
  obtain ⟨cs, rfl, hsz, _⟩ := hv
  obtain ⟨fuel, hf⟩ := h
  have hf2 : DataW.trod enc Try.prog w base spare held fuel 71 cs.toList = some (d, p) := hf
  obtain ⟨y0, y1, n, _, hl, h0, h1⟩ := trod_struct2 Try.underlying71 hf2
  rw [cellsMan] at hl
  obtain ⟨q, e0, h32, w0⟩ := trod_arr8 (n := 32) (e := 5) (by kernel_rfl) Try.underlying5 cells5 (by kernel_rfl) h0
  obtain ⟨A, c, l, e1, hc, hC, hok⟩ := trod_lins h1
  have f0 : cs.toList.take 32 = nums .u8 q := e0
  have f1 : (cs.toList.drop 32).take 1 = [.slice A l.length c] := e1
  have g1 : cs.toList.drop 32 = [.slice A l.length c] := by rw [← f1, List.take_of_length_le (by rw [List.length_drop]; omega)]
  refine ⟨⟨q, l⟩, A, c, ?_, ⟨⟨h32, w0⟩, hok⟩, hc, hC⟩
  have e : cs.toList = manC ⟨q, l⟩ A c := by
    show cs.toList = nums .u8 q ++ [.slice A l.length c]
    rw [← g1, ← f0, List.take_append_drop]
  rw [← e]
end
end Go.Proofs.Ytchaegfdcdlfaaa.X

namespace Go.Proofs.Ytchaegfdcdlfaaa.X
set_option linter.unusedVariables false
set_option linter.unusedSimpArgs false
open Go.RowKit Go.Proofs.YtchaegfdcdlfaaaW.PrintWords Go.Proofs.YtchaegfdcdlfaaaW.PrintLast Go.Proofs.YtchaegfdcdlfaaaW.PrintMore
attribute [local go_sem] max2_int min2_int max_two min_two max_three min_three max_four min_four
def fewE (e : Ent) : Bool := decide (e.b.length ≤ 40)
def fewX (x : Lin) : Bool := decide (x.f.length ≤ 12) && x.f.all fewE
def fewM (m : Man) : Bool := decide (m.l.length ≤ 14) && m.l.all fewX
theorem all_drop {α : Type} (p : α → Bool) (l : List α) (i : Nat) (z : α) (hi : i < l.length) : (l.drop i).all p = (p (l.getD i z) && (l.drop (i + 1)).all p) := by
  rw [List.drop_eq_getElem_cons hi, List.all_cons, List.getD_eq_getElem?_getD, List.getElem?_eq_getElem hi, Option.getD_some]
theorem manC_32 {m : Man} (h : m.base.length = 32) (A : Option Addr) (c : Nat) : (manC m A c).toArray[32]? = some (.slice A m.l.length c) := by
  have hl : (nums .u8 m.base).length = 32 := by simp [nums, h]
  unfold manC
  rw [List.getElem?_toArray, List.getElem?_append_right (by omega), hl]
  rfl
set_option maxHeartbeats 4000000 in
set_option maxRecDepth 100000 in
theorem few_call (m : Man) (A : Option Addr) (c : Nat) (w : World) (hb : m.base.length = 32) (hc : m.l.length ≤ c) (hC : Kd.C linK w A m.l.length m.l) :
    Calls Try.prog 63 #[.agg (manC m A c).toArray] w fun e w' => e = .returned (.bool (fewM m)) ∧ Below w.heap.size w w' := by
  have HLEN := Aside0.mk hC.2.1
  have hC1 : Kd.C linK (w.alloc (.cells (manC m A c).toArray 71)) A m.l.length m.l := Kd.C_alloc hC _
  have k32 := manC_32 hb A c
  obtain ⟨cs, hcs⟩ : ∃ cs, (manC m A c).toArray = cs := ⟨_, rfl⟩
  rw [hcs] at k32 hC1 ⊢
  have HC := Aside0.mk hC1
  have g32 := (blk_cell (blk_new w (.cells cs 71)) 32).trans k32
  clear hb hc hC hC1 hcs k32
  by_cases h14 : m.l.length > 14
  · have HRES : Aside0 (fewM m = false) := ⟨by unfold fewM; rw [decide_eq_false (by omega)]; rfl⟩
    have e1 : decide ((m.l.length : Int) > 14) = true := by simp; omega
    have e2 : decide (m.l.length > 14) = true := by simp; omega
    clear h14
    go_enter Try.func63, Try.ntmps63
    go_wp2_with fail
    go_ret
    exact ⟨by rw [HRES.out]; rfl, below_alloc (Below.refl _ _) _⟩
  have HRES : Aside0 (fewM m = m.l.all fewX) := ⟨by unfold fewM; rw [decide_eq_true (by omega)]; rfl⟩
  have e1 : decide ((m.l.length : Int) > 14) = false := by simp; omega
  have e2 : decide (m.l.length > 14) = false := by simp; omega
  clear h14
  go_enter Try.func63, Try.ntmps63
  go_wp2_with fail
  go_loop [3] (fun v3 => ∃ i : Nat, v3 = .int .i64 i ∧ Aside0 (i ≤ m.l.length) ∧ Aside0 ((m.l.drop i).all fewX = m.l.all fewX)) (fun v3 => m.l.length - (intOf v3).toNat)
  case atStart => exact ⟨0, rfl, ⟨Nat.zero_le _⟩, ⟨rfl⟩⟩
  case round =>
    obtain ⟨i, rfl, HI0, HE⟩ := hrel
    by_cases hi : i < m.l.length
    · obtain ⟨x, hx⟩ : ∃ x, x = m.l.getD i zLin := ⟨_, rfl⟩
      obtain ⟨ad, B, cb, hA, hid, hbc, hCb, hcell⟩ := lin_at HC.out hi x hx.symm
      have hl := hCb.2.1
      have HLX := Aside0.mk hl
      have HCB := Aside0.mk hCb
      have HSTEP := Aside0.mk (all_drop fewX m.l i zLin hi)
      rw [← hx] at HSTEP
      subst hA
      have g18 := hcell 18 _ (by have := (linC_at hid B cb).2.2; rw [List.getElem?_toArray] at this; exact this)
      rw [add_lit _ (by decide)] at g18
      have e3 : decide ((i : Int) < (m.l.length : Int)) = true := by simpa using hi
      have e4 : ((i : Int) < (m.l.length : Int)) = True := by simpa using hi
      have e4n : (i < m.l.length) = True := by simpa using hi
      have e5 : (0 ≤ (i : Int)) = True := by simp
      have e6 : IntKind.i64.wrap ((i : Int) + 1) = ((i + 1 : Nat) : Int) := by have := HLEN.out; simp [IntKind.wrap, IntKind.bits, IntKind.signed]; omega
      have HI := Aside0.mk hi
      clear hi hl hcell hCb hbc hid hx
      by_cases h12 : x.f.length > 12
      · have HR2 : Aside0 (m.l.all fewX = false) := ⟨by rw [← HE.out, HSTEP.out]; unfold fewX; rw [decide_eq_false (by omega)]; rfl⟩
        have e7 : decide ((x.f.length : Int) > 12) = true := by simp; omega
        have e8 : decide (x.f.length > 12) = true := by simp; omega
        clear h12
        go_wp2_with fail
        go_ret
        exact ⟨by rw [HRES.out, HR2.out]; rfl, below_alloc (Below.refl _ _) _⟩
      · have HFX : Aside0 (fewX x = x.f.all fewE) := ⟨by unfold fewX; rw [decide_eq_true (by omega)]; rfl⟩
        have e7 : decide ((x.f.length : Int) > 12) = false := by simp; omega
        have e8 : decide (x.f.length > 12) = false := by simp; omega
        clear h12
        go_wp2_with fail
        go_loop [4] (fun v4 => ∃ j : Nat, v4 = .int .i64 j ∧ Aside0 (j ≤ x.f.length) ∧ Aside0 ((x.f.drop j).all fewE = x.f.all fewE)) (fun v4 => x.f.length - (intOf v4).toNat)
        case atStart => exact ⟨0, rfl, ⟨Nat.zero_le _⟩, ⟨rfl⟩⟩
        case round =>
          obtain ⟨j, rfl, HJ0, HF⟩ := hrel
          by_cases hj : j < x.f.length
          · obtain ⟨e, he⟩ : ∃ e, e = x.f.getD j zEnt := ⟨_, rfl⟩
            obtain ⟨bd, B2, cb2, hA, hd, hbc, hCb, hcell⟩ := ent_at HCB.out hj e he.symm
            have HSJ := Aside0.mk (all_drop fewE x.f j zEnt hj)
            rw [← he] at HSJ
            have HLE := Aside0.mk hCb.2.1
            subst hA
            have g36 := hcell 36 _ (by have := entC_36 hd B2 cb2; rw [List.getElem?_toArray] at this; exact this)
            rw [add_lit _ (by decide)] at g36
            have c3 : decide ((j : Int) < (x.f.length : Int)) = true := by simpa using hj
            have c4 : ((j : Int) < (x.f.length : Int)) = True := by simpa using hj
            have c4n : (j < x.f.length) = True := by simpa using hj
            have c5 : (0 ≤ (j : Int)) = True := by simp
            have c6 : IntKind.i64.wrap ((j : Int) + 1) = ((j + 1 : Nat) : Int) := by have := HLX.out; simp [IntKind.wrap, IntKind.bits, IntKind.signed]; omega
            have HJ := Aside0.mk hj
            clear hj hcell hCb hbc hd he
            by_cases h40 : e.b.length > 40
            · have HR3 : Aside0 (m.l.all fewX = false) := ⟨by rw [← HE.out, HSTEP.out, HFX.out, ← HF.out, HSJ.out]; unfold fewE; rw [decide_eq_false (by omega)]; rfl⟩
              have c7 : decide ((e.b.length : Int) > 40) = true := by simp; omega
              have c8 : decide (e.b.length > 40) = true := by simp; omega
              clear h40
              go_wp2_with fail
              go_ret
              exact ⟨by rw [HRES.out, HR3.out]; rfl, below_alloc (Below.refl _ _) _⟩
            · have HFE : Aside0 (fewE e = true) := ⟨by unfold fewE; rw [decide_eq_true (by omega)]⟩
              have c7 : decide ((e.b.length : Int) > 40) = false := by simp; omega
              have c8 : decide (e.b.length > 40) = false := by simp; omega
              clear h40
              go_wp2_with fail
              go_round
              case rel => exact ⟨j + 1, by first | rfl | (simp [c6]; done), ⟨HJ.out⟩, ⟨by rw [← HF.out, HSJ.out, HFE.out]; rfl⟩⟩
              case measure => have := HJ.out; simp [intOf, c6]; omega
          · have hjl : j = x.f.length := by have := HJ0.out; omega
            have c3 : decide ((j : Int) < (x.f.length : Int)) = false := by simpa using hj
            have c4 : ((j : Int) < (x.f.length : Int)) = False := by simpa using hj
            have HX : Aside0 (fewX x = true) := ⟨by rw [HFX.out, ← HF.out, hjl, List.drop_length]; rfl⟩
            clear hj hjl
            go_wp2_with fail
            go_round
            case rel => exact ⟨i + 1, by first | rfl | (simp [e6]; done), ⟨HI.out⟩, ⟨by rw [← HE.out, HSTEP.out, HX.out]; rfl⟩⟩
            case measure => have := HI.out; simp [intOf, e6]; omega
    · have hil : i = m.l.length := by have := HI0.out; omega
      have e3 : decide ((i : Int) < (m.l.length : Int)) = false := by simpa using hi
      have e4 : ((i : Int) < (m.l.length : Int)) = False := by simpa using hi
      have HR : Aside0 (m.l.all fewX = true) := ⟨by rw [← HE.out, hil, List.drop_length]; rfl⟩
      clear hi hil
      go_wp2_with fail
      go_ret
      exact ⟨by rw [HRES.out, HR.out]; rfl, below_alloc (Below.refl _ _) _⟩
end Go.Proofs.Ytchaegfdcdlfaaa.X

namespace Go.Proofs.Ytchaegfdcdlfaaa.Y
set_option linter.unusedVariables false
set_option linter.unusedSimpArgs false
open Go.Proofs.Ytchaegfdcdlfaaa.X Go.RowKit Go.Proofs.YtchaegfdcdlfaaaW.PrintWords Go.Proofs.YtchaegfdcdlfaaaW.PrintLast Go.Proofs.YtchaegfdcdlfaaaW.PrintMore

def readR (l : List Int) (r : Int × Int × Bool) (a1 : Int) : ByteArray × Int × Bool :=
  if r.2.2 = true ∧ 0 ≤ a1 ∧ r.1 ≤ a1 ∧ r.1 ≤ (l.length : Int) - r.2.1 then (strOfNums ((l.drop r.2.1.toNat).take r.1.toNat), r.2.1 + r.1, true) else (⟨#[]⟩, 0, false)

theorem IsGet.used {l : List Int} {r : Int × Int × Bool} (h : IsGet l r) : 0 ≤ r.2.1 ∧ r.2.1 ≤ l.length ∧ 0 ≤ r.1 ∧ r.1 < 18446744073709551616 := by
  rcases h with ⟨m, hm, hp, rfl⟩ | ⟨hn, rfl⟩
  · have := hp.length_le
    exact ⟨by show (0 : Int) ≤ ((put m).length : Int); omega, by show ((put m).length : Int) ≤ _; omega, by show (0 : Int) ≤ (m : Int); omega, by show (m : Int) < _; omega⟩
  · exact ⟨by show (0 : Int) ≤ 0; omega, by show (0 : Int) ≤ _; omega, by show (0 : Int) ≤ 0; omega, by show (0 : Int) < _; omega⟩

theorem Read_of {l : List Int} {r : Int × Int × Bool} (h : IsGet l r) (hb : Bytes l) (hl : l.length ≤ 4611686018427387904) (a1 : Int) (k : Nat) (hk : 2 * l.length + 2 < k) :
    wire_Read.f k l a1 = some (readR l r a1) := by
  unfold wire_Read.f readR
  have hu := h.used
  rw [Get_eq h hb hl k hk]
  simp only [Option.bind_some]
  rw [if_pos ⟨hu.1, hu.2.1, hu.2.2.1, hl⟩]
  split <;> rfl

theorem strs_inj {l m : List Int} (hl : Bytes l) (hm : Bytes m) : (strOfNums l).toList = (strOfNums m).toList ↔ l = m := by
  refine ⟨fun h => ?_, fun h => by rw [h]⟩
  rw [ByteArray.toList_eq, ByteArray.toList_eq, strOfNums_data, strOfNums_data] at h
  have hlen : l.length = m.length := by simpa using congrArg List.length h
  apply List.ext_getElem hlen
  intro i h1 h2
  have := congrArg (fun z : List UInt8 => (z[i]?).map UInt8.toNat) h
  simp [h1, h2] at this
  have b1 := hl l[i] (List.getElem_mem h1)
  have b2 := hm m[i] (List.getElem_mem h2)
  omega

end Go.Proofs.Ytchaegfdcdlfaaa.Y

namespace Go.Proofs.Ytchaegfdcdlfaaa.Y
set_option linter.unusedVariables false
set_option linter.unusedSimpArgs false
open Go.Proofs.Ytchaegfdcdlfaaa.X Go.RowKit Go.Proofs.YtchaegfdcdlfaaaW.PrintWords Go.Proofs.YtchaegfdcdlfaaaW.PrintLast Go.Proofs.YtchaegfdcdlfaaaW.PrintMore

abbrev RdB (w : World) (A : Option Addr) (n : Nat) (l : List Int) : Prop := Kd.C (Kd.int .u8) w A n l

theorem row_slice {w : World} {base : Nat} {ok : Nat → Prop} {v : Value} {l : List Int} (h : Kd.R (Kd.int .u8) 5 w base ok v l) : ∃ A c, v = .slice A l.length c ∧ l.length ≤ c ∧ RdB w A l.length l := Kd.R_reads h

theorem put_call (n : Nat) (hn : n < 18446744073709551616) (w : World) : Calls Try.prog 84 #[.int .u64 n] w fun e w' => ∃ A c, e = .returned (.slice A (put n).length c) ∧ (put n).length ≤ c ∧ RdB w' A (put n).length (put n) ∧ Below w.heap.size w w' := by
  refine (wire_Put.calls 20 n _ w (Put_eq n hn 20 (by omega))).mono ?_
  rintro e w' ⟨v, rfl, ho, hb⟩
  obtain ⟨A, c, rfl, hc, hr⟩ := row_slice ho
  exact ⟨A, c, rfl, hc, hr, hb⟩
theorem text_call (s : ByteArray) (hs : s.size ≤ 140737488351232) (w : World) : Calls Try.prog 93 #[.string s] w fun e w' => ∃ A c, e = .returned (.slice A (put s.size ++ bytesOf s).length c) ∧ (put s.size ++ bytesOf s).length ≤ c ∧ RdB w' A (put s.size ++ bytesOf s).length (put s.size ++ bytesOf s) ∧ Below w.heap.size w w' := by
  refine (wire_Text.calls 20 s _ w (Text_eq s hs 20 (by omega))).mono ?_
  rintro e w' ⟨v, rfl, ho, hb⟩
  obtain ⟨A, c, rfl, hc, hr⟩ := row_slice ho
  exact ⟨A, c, rfl, hc, hr, hb⟩
theorem get_call {l : List Int} {n u : Int} {is : Bool} (h : IsGet l (n, u, is)) (hb : Bytes l) (hl : l.length ≤ 4611686018427387904) (A : Option Addr) (c : Nat) (w : World) (hr : RdB w A l.length l) (hc : l.length ≤ c) :
    Calls Try.prog 88 #[.slice A l.length c] w fun e w' => e = .returned (.tuple #[.int .u64 n, .int .i64 u, .bool is]) ∧ ∃ q, w' = w.drewN q := by
  refine (wire_Get.calls (2 * l.length + 3) A c l n u is w hr hc (Get_eq h hb hl _ (by omega))).mono ?_
  rintro e w' ⟨rfl, ⟨q, rfl⟩⟩
  exact ⟨rfl, q, rfl⟩
theorem read_call {l : List Int} {r : Int × Int × Bool} (h : IsGet l r) (hb : Bytes l) (hl : l.length ≤ 4611686018427387904) (a1 : Int) (A : Option Addr) (c : Nat) (w : World) (hr : RdB w A l.length l) (hc : l.length ≤ c) :
    Calls Try.prog 143 #[.slice A l.length c, .int .i64 a1] w fun e w' => e = .returned (.tuple #[.string (readR l r a1).1, .int .i64 (readR l r a1).2.1, .bool (readR l r a1).2.2]) ∧ Below w.heap.size w w' :=
  wire_Read.calls (2 * l.length + 3) A c l a1 _ _ _ w hr hc (Read_of h hb hl a1 _ (by omega))

theorem conv {w : World} {A : Option Addr} {n : Nat} {l : List Int} (h : RdB w A n l) (c q : Nat) : (convert 40 9 (.slice A n c)).run Try.prog (w.drewN q) = .ok (.string (strOfNums l)) (w.drewN q) :=
  Kd.C_string (P := Try.prog) Try.underlying40 Try.underlying5 Try.underlying9 (Kd.C_drewN h q)
theorem conv0 {w : World} {A : Option Addr} {n : Nat} {l : List Int} (h : RdB w A n l) (c : Nat) : (convert 40 9 (.slice A n c)).run Try.prog w = .ok (.string (strOfNums l)) w :=
  Kd.C_string (P := Try.prog) Try.underlying40 Try.underlying5 Try.underlying9 h
theorem rdb_take {w : World} {A : Option Addr} {l : List Int} (h : RdB w A l.length l) (m : Nat) (hm : m ≤ l.length) : RdB w A m (l.take m) := by
  obtain ⟨i0, hi0, _, hsz0, _⟩ := info_parts info5
  obtain ⟨_, hA, _⟩ := print_take_of (P := Try.prog) (Value.int .u8) 0 40 5 .i64 Try.underlying40 hi0 hsz0 A l.length l (m : Int) (by omega) (by omega) (Nat.le_refl _)
  have := hA w (Kd.reads_of_C h)
  simp only [Int.toNat_natCast] at this
  rw [List.length_take, Nat.min_eq_left hm] at this
  exact Kd.C_of_reads (h1 := fun _ => rfl) this
theorem rdb_drop (A : Option Addr) (c : Nat) (l : List Int) (m : Nat) (hm : m ≤ l.length) (hc : l.length ≤ c) :
    ∃ A' : Option Addr, (∀ W : World, (Instr.slice 40 (.slice A l.length c) (some (.int .i64 (m : Int))) none none).run Try.prog W = .ok (.slice A' (l.length - m) (c - m)) W) ∧ (∀ w : World, RdB w A l.length l → RdB w A' (l.length - m) (l.drop m)) ∧ l.length - m ≤ c - m := by
  obtain ⟨i0, hi0, _, hsz0, _⟩ := info_parts info5
  obtain ⟨A', hcut, hA, hC⟩ := print_drop_of (P := Try.prog) (Value.int .u8) 0 40 5 .i64 Try.underlying40 hi0 hsz0 A c l (m : Int) (by omega) (by omega) hc
  simp only [Int.toNat_natCast, List.length_drop] at hcut hA hC
  exact ⟨A', hcut, fun w h => Kd.C_of_reads (h1 := fun _ => rfl) (hA w (Kd.reads_of_C h)), hC⟩
theorem rdb_below {w w' : World} {A : Option Addr} {n : Nat} {l : List Int} (h : RdB w A n l) (hb : Below w.heap.size w w') : RdB w' A n l := Kd.C_below h hb
theorem rdb_drewN {w : World} {A : Option Addr} {n : Nat} {l : List Int} (h : RdB w A n l) (q : Nat) : RdB (w.drewN q) A n l := Kd.C_drewN h q

theorem rdb_cut (A : Option Addr) (c : Nat) (l : List Int) (m : Nat) (hm : m ≤ l.length) (hc : l.length ≤ c) :
    ∀ W : World, (Instr.slice 40 (.slice A l.length c) none (some (.int .i64 (m : Int))) none).run Try.prog W = .ok (.slice A m c) W := by
  obtain ⟨i0, hi0, _, hsz0, _⟩ := info_parts info5
  obtain ⟨h, _, _⟩ := print_take_of (P := Try.prog) (Value.int .u8) 0 40 5 .i64 Try.underlying40 hi0 hsz0 A c l (m : Int) (by omega) (by omega) hc
  simp only [Int.toNat_natCast, List.length_take, Nat.min_eq_left hm] at h
  exact h

theorem wpAnyH_str {P : Program} {md : Region.Mode} {ops : Array Oper} {Q : Exit → Act → World → Prop} {S S2 : World → Prop} (h : ∀ W, S2 W → S W) :
    ∀ (fuel : Nat) (listed : Array Bool) (a : Act) (w : World), wpAnyH P md ops Q S2 fuel listed a w → wpAnyH P md ops Q S fuel listed a w
  | 0, _, _, _, hh => hh
  | fuel + 1, _, _, _, hh => ⟨hh.1, fun i hi => wpOp_mono (fun a' w' h' => ⟨h w' h'.1, wpAnyH_str h fuel _ a' w' h'.2⟩) (hh.2 i hi)⟩

theorem below_of_grown0 {w w1 : World} (h : w.grownBy w1 none) : Below w.heap.size w w1 := ⟨h.os, h.tape, h.output, h.size, fun i hi => h.block i hi (by simp)⟩
theorem own_row {w : World} {base n : Nat} {v : Value} {l : List Int} (h : w.ownsRow base 5 1 v n (nums .u8 l)) : ∃ A c, v = .slice A n c ∧ n ≤ c ∧ RdB w A n l := by
  have hn : n = l.length := by have := h.1; simp [nums] at this; omega
  subst hn
  exact row_slice (Kd.R_of_own (ok := fun _ => True) h (fun _ _ => trivial))
theorem get_call' {l : List Int} {n u : Int} {is : Bool} (h : IsGet l (n, u, is)) (hb : Bytes l) (hl : l.length ≤ 4611686018427387904) (m : Nat) (hm : m = l.length) (A : Option Addr) (c : Nat) (w : World) (hr : RdB w A m l) (hc : m ≤ c) :
    Calls Try.prog 88 #[.slice A m c] w fun e w' => e = .returned (.tuple #[.int .u64 n, .int .i64 u, .bool is]) ∧ ∃ q, w' = w.drewN q := by
  subst hm
  exact get_call h hb hl A c w hr hc
theorem read_call' {l : List Int} {r : Int × Int × Bool} (h : IsGet l r) (hb : Bytes l) (hl : l.length ≤ 4611686018427387904) (a1 : Int) (m : Nat) (hm : m = l.length) (A : Option Addr) (c : Nat) (w : World) (hr : RdB w A m l) (hc : m ≤ c) (x : ByteArray × Int × Bool) (hx : readR l r a1 = x) :
    Calls Try.prog 143 #[.slice A m c, .int .i64 a1] w fun e w' => e = .returned (.tuple #[.string x.1, .int .i64 x.2.1, .bool x.2.2]) ∧ Below w.heap.size w w' := by
  subst hm hx
  exact read_call h hb hl a1 A c w hr hc
theorem bytes_app {l m : List Int} (h : Bytes l) (h2 : Bytes m) : Bytes (l ++ m) := fun x hx => (List.mem_append.1 hx).elim (h x) (h2 x)
theorem bytes_take' {l : List Int} (h : Bytes l) (i : Nat) : Bytes (l.take i) := fun x hx => h x (List.mem_of_mem_take hx)
theorem bytes_drop' {l : List Int} (h : Bytes l) (i : Nat) : Bytes (l.drop i) := fun x hx => h x (List.mem_of_mem_drop hx)
theorem bytes_of_wf {l : List Int} (h : ∀ x ∈ l, (Lit.int .u8 x).wf = true) : Bytes l := fun x hx => by
  have := h x hx
  simp only [Lit.wf, IntKind.min, IntKind.max, IntKind.bits, IntKind.signed, Bool.and_eq_true, decide_eq_true_eq] at this
  simp at this
  exact this

end Go.Proofs.Ytchaegfdcdlfaaa.Y

namespace Go.Proofs.Ytchaegfdcdlfaaa.Y
set_option linter.unusedVariables false
set_option linter.unusedSimpArgs false
open Go.Proofs.Ytchaegfdcdlfaaa.X Go.RowKit Go.Proofs.YtchaegfdcdlfaaaW.PrintWords Go.Proofs.YtchaegfdcdlfaaaW.PrintLast Go.Proofs.YtchaegfdcdlfaaaW.PrintMore

def word (n : Nat) : List Int := [((n / 16777216 % 256 : Nat) : Int), ((n / 65536 % 256 : Nat) : Int), ((n / 256 % 256 : Nat) : Int), ((n % 256 : Nat) : Int)]
theorem word_length (n : Nat) : (word n).length = 4 := rfl
theorem word_bytes (n : Nat) : Bytes (word n) := by
  intro x hx
  simp only [word, List.mem_cons, List.not_mem_nil, or_false] at hx
  omega

theorem shr32 (n : Nat) (y : Int) (j : Nat) (h : y.toNat = j) (hj : j ≤ 32) : shr .u32 (n : Int) y = ((n / 2 ^ j : Nat) : Int) := by
  unfold shr
  rw [show min y.toNat IntKind.u32.bits = j by show min y.toNat 32 = j; omega]
  norm_cast

theorem word_step (n k i : Nat) (hi : i < 4) (x3 : List Int) (hx : x3.length = 4) :
    wire_Word.l0 (k + 1) (n : Int) x3 (i : Int) = wire_Word.l0 k (n : Int) (x3.set (3 - i) ((n / 2 ^ (8 * i) % 256 : Nat) : Int)) ((i + 1 : Nat) : Int) := by
  generalize hR : wire_Word.l0 k (n : Int) (x3.set (3 - i) ((n / 2 ^ (8 * i) % 256 : Nat) : Int)) ((i + 1 : Nat) : Int) = R
  unfold wire_Word.l0
  rw [if_pos (by omega), wrap64_small (8 * (i : Int)) (by omega) (by omega), if_pos (by omega), wrap64_small (3 - (i : Int)) (by omega) (by omega), if_pos (by omega), if_pos (by omega), wrap64_small ((i : Int) + 1) (by omega) (by omega),
    shr32 n (8 * (i : Int)) (8 * i) (by omega) (by omega), show (3 - (i : Int)).toNat = 3 - i by omega]
  rw [← hR]
  generalize n / 2 ^ (8 * i) = z
  rw [show (z : Int) % 256 = ((z % 256 : Nat) : Int) by omega, show ((i : Int) + 1) = ((i + 1 : Nat) : Int) by omega]
theorem word_end (n k : Nat) (x3 : List Int) : wire_Word.l0 (k + 1) (n : Int) x3 ((4 : Nat) : Int) = some x3 := by
  simp only [wire_Word.l0]
  rw [if_neg (by omega)]
theorem Word_eq (n : Nat) (k : Nat) (hk : 5 < k) : wire_Word.f k (n : Int) = some (word n) := by
  obtain ⟨k, rfl⟩ : ∃ m, k = m + 5 := ⟨k - 5, by omega⟩
  unfold wire_Word.f
  rw [if_pos (by decide), show (0 : Int) = ((0 : Nat) : Int) from rfl, word_step n (k + 4) 0 (by decide) _ (by rfl), word_step n (k + 3) 1 (by decide) _ (by rfl), word_step n (k + 2) 2 (by decide) _ (by rfl), word_step n (k + 1) 3 (by decide) _ (by rfl), word_end]
  congr 1
  simp [word, List.replicate]

def four (l : List Int) : Nat := l.foldl (fun a x => a * 256 + x.toNat) 0
theorem wraps_u32 (n : Int) (h₀ : 0 ≤ n) (h₁ : n < 2 ^ 32) : IntKind.u32.wrap n = n := by rw [IntKind.wrap_u32]; omega
theorem four_or (x : Nat) (c : Int) (hx : x < 16777216) (h0 : 0 ≤ c) (h1 : c ≤ 255) : Go.bits .or .u32 (((x : Int) * 256) % 4294967296) (c % 4294967296) = ((x * 256 + c.toNat : Nat) : Int) := by
  rw [show ((x : Int) * 256) % 4294967296 = (x : Int) * 256 by omega, show c % 4294967296 = c by omega]
  rw [bits_join .u32 32 (by decide) wraps_u32 8 _ _ (by omega) (by omega) (by omega) (by omega) (by omega) (by omega)]
  omega
theorem four_l0 (l s : List Int) : ∀ (q : List Int) (k : Nat), l = q ++ s → l.length = 4 → Bytes l → s.length < k → wire_Four.l0 k (four q : Int) l ((4 : Nat) : Int) (q.length : Int) = some ((four l : Int), true) := by
  induction s with
  | nil =>
    intro q k hl h4 hb hk
    obtain ⟨k, rfl⟩ : ∃ m, k = m + 1 := ⟨k - 1, by omega⟩
    rw [List.append_nil] at hl
    subst hl
    simp only [wire_Four.l0]
    rw [if_neg (by omega)]
  | cons c s ih =>
    intro q k hl h4 hb hk
    obtain ⟨k, rfl⟩ : ∃ m, k = m + 1 := ⟨k - 1, by omega⟩
    have hlen : l.length = q.length + (s.length + 1) := by rw [hl]; simp
    have hc := hb c (by rw [hl]; simp)
    have hq : four q < 256 ^ q.length := by
      have hbq : Bytes q := fun x hx => hb x (by rw [hl]; simp [hx])
      clear hl hlen ih
      induction hL : q.length generalizing q with
      | zero => rw [List.eq_nil_of_length_eq_zero hL]; simp [four]
      | succ j ihj =>
        rcases snoc_cases q with rfl | ⟨q', d, rfl⟩
        · simp at hL
        · have h1 := ihj q' (fun x hx => hbq x (by simp [hx])) (by simpa using hL)
          have h2 := hbq d (by simp)
          have h3 : four (q' ++ [d]) = four q' * 256 + d.toNat := by simp [four]
          rw [h3, Nat.pow_succ]
          omega
    have h3 : 256 ^ q.length ≤ 256 ^ 3 := Nat.pow_le_pow_right (by decide) (by omega)
    have e3 : 256 ^ 3 = 16777216 := by decide
    have hrd : rd l (q.length : Int) = c := by
      unfold rd
      rw [hl]
      simp
    simp only [wire_Four.l0]
    rw [if_pos (by omega), if_pos (by omega), if_pos (by omega), hrd, four_or _ _ (by omega) hc.1 hc.2, wrap64_small _ (by omega) (by omega)]
    have e := ih (q ++ [c]) k (by rw [hl]; simp) h4 hb (by simp at hk; omega)
    rw [show (((q ++ [c]).length : Nat) : Int) = (q.length : Int) + 1 by simp, show four (q ++ [c]) = four q * 256 + c.toNat by simp [four]] at e
    exact e
theorem Four_yes (l : List Int) (h4 : l.length = 4) (hb : Bytes l) (k : Nat) (hk : 5 < k) : wire_Four.f k l = some ((four l : Int), true) := by
  unfold wire_Four.f
  rw [if_pos (by omega), show (l.length : Int) = ((4 : Nat) : Int) by omega]
  exact four_l0 l l [] k rfl h4 hb (by omega)
theorem four_word (n : Nat) (h : n < 4294967296) : four (word n) = n := by
  simp only [four, word, List.foldl_cons, List.foldl_nil]
  omega
theorem word_four (l : List Int) (h4 : l.length = 4) (hb : Bytes l) : word (four l) = l := by
  match l, h4, hb with
  | [a, b, c, d], _, hb =>
    have h1 := hb a (by simp)
    have h2 := hb b (by simp)
    have h3 := hb c (by simp)
    have h4 := hb d (by simp)
    simp only [four, word, List.foldl_cons, List.foldl_nil, List.cons.injEq, and_true]
    omega
theorem four_lt (l : List Int) (h4 : l.length = 4) (hb : Bytes l) : four l < 4294967296 := by
  match l, h4, hb with
  | [a, b, c, d], _, hb =>
    have h1 := hb a (by simp)
    have h2 := hb b (by simp)
    have h3 := hb c (by simp)
    have h4 := hb d (by simp)
    simp only [four, List.foldl_cons, List.foldl_nil]
    omega
theorem word_call (n : Nat) (w : World) : Calls Try.prog 85 #[.int .u32 n] w fun e w' => ∃ A c, e = .returned (.slice A 4 c) ∧ 4 ≤ c ∧ RdB w' A 4 (word n) ∧ Below w.heap.size w w' := by
  refine (wire_Word.calls 20 n _ w (Word_eq n 20 (by omega))).mono ?_
  rintro e w' ⟨v, rfl, ho, hb⟩
  obtain ⟨A, c, rfl, hc, hr⟩ := row_slice ho
  exact ⟨A, c, rfl, hc, hr, hb⟩
theorem four_call (l : List Int) (h4 : l.length = 4) (hb : Bytes l) (A : Option Addr) (c : Nat) (w : World) (hr : RdB w A 4 l) (hc : 4 ≤ c) :
    Calls Try.prog 89 #[.slice A 4 c] w fun e w' => e = .returned (.tuple #[.int .u32 (four l), .bool true]) ∧ ∃ q, w' = w.drewN q := by
  have := wire_Four.calls 20 A c l _ _ w (by rw [h4]; exact hr) (by rw [h4]; exact hc) (Four_yes l h4 hb 20 (by omega))
  rw [h4] at this
  refine this.mono ?_
  rintro e w' ⟨rfl, ⟨q, rfl⟩⟩
  exact ⟨rfl, q, rfl⟩
end Go.Proofs.Ytchaegfdcdlfaaa.Y

namespace Go.Proofs.Ytchaegfdcdlfaaa.X
open Go.RowKit Go.Proofs.YtchaegfdcdlfaaaW.PrintWords Go.Proofs.YtchaegfdcdlfaaaW.PrintLast Go.Proofs.YtchaegfdcdlfaaaW.PrintMore
attribute [local go_sem] max2_int min2_int max_two min_two max_three min_three max_four min_four   -- for this text's walks alone
set_option linter.unusedVariables false
set_option linter.unusedSimpArgs false

def rolodexref01_Put.l0 : Nat → Int → List Int → Option (List Int)
  | 0, _, _ => none
  | k + 1, x0, x3 => if x0 ≥ 128 then ((some (([(((Int.tmod (IntKind.u64.wrap (Int.tdiv x0 128)) 128) % 256) + 128) % 256] : List Int) : List Int)).bind fun y216 => (if y216.length + x3.length < 140737488355328 then (rolodexref01_Put.l0 k (IntKind.u64.wrap (Int.tdiv x0 128)) (y216 ++ x3)) else (none))) else (some x3)
def rolodexref01_Put.f (k : Nat) (a0 : Int) : Option (List Int) := rolodexref01_Put.l0 k a0 (([(Int.tmod a0 128) % 256] : List Int))
theorem rolodexref01_Put.mono_l : ∀ k, (∀ y0 y1, LeO (rolodexref01_Put.l0 k y0 y1) (rolodexref01_Put.l0 (k + 1) y0 y1))
  | 0 => fun _ _ r h => by simp [rolodexref01_Put.l0] at h
  | k + 1 => by
    have ih0 := rolodexref01_Put.mono_l k
    · intro y0 y1
      unfold rolodexref01_Put.l0
      repeat' first
      | (with_reducible exact ih0 _ _)
      | (with_reducible exact LeO.refl _)
      | (with_reducible exact LeO.none _)
      | (with_reducible refine LeO.ite ?_ ?_)
      | (with_reducible refine LeO.bind ?_ (fun _ => ?_))
      | exact ih0 _ _
      | exact LeO.none _
      | refine LeO.ite ?_ ?_
      | refine LeO.bind ?_ (fun _ => ?_)
theorem rolodexref01_Put.mono : ∀ a0 k, LeO (rolodexref01_Put.f k a0) (rolodexref01_Put.f (k + 1) a0) := by
  intro a0 k
  have ih0 := rolodexref01_Put.mono_l k
  unfold rolodexref01_Put.f
  repeat' first
      | (with_reducible exact ih0 _ _)
      | (with_reducible exact LeO.refl _)
      | (with_reducible exact LeO.none _)
      | (with_reducible refine LeO.ite ?_ ?_)
      | (with_reducible refine LeO.bind ?_ (fun _ => ?_))
      | exact ih0 _ _
      | exact LeO.none _
      | refine LeO.ite ?_ ?_
      | refine LeO.bind ?_ (fun _ => ?_)
set_option maxHeartbeats 8000000 in
set_option maxRecDepth 100000 in
theorem rolodexref01_Put.calls (k : Nat) (a0 : Int) (r : List Int) (w : World) (h : rolodexref01_Put.f k a0 = some r) :
    Calls Try.prog 86 #[.int .u64 a0] w fun e w' => ∃ v0_ : Value, e = .returned (v0_) ∧ Kd.R (Kd.int .u8) 5 w' w.heap.size (fun _ => True) v0_ r ∧ Below w.heap.size w w' := by
  have HB := Aside0.mk (Below.refl w.heap.size w)
  have H : (rolodexref01_Put.l0 k a0 (([(Int.tmod a0 128) % 256] : List Int))) = some r := h
  clear h
  obtain ⟨y213, hy213⟩ : ∃ y_ : List Int, y_ = (([(Int.tmod a0 128) % 256] : List Int)) := ⟨_, rfl⟩
  replace H : (rolodexref01_Put.l0 k a0 y213) = some r := by first | (rw [hy213]; with_reducible exact H) | (have H2_ := (Option.bind_some _ _).symm.trans H; rw [hy213]; with_reducible exact H2_) | (have H2_ := (Option.bind_some _ _).symm.trans H; with_reducible exact H2_) | with_reducible exact H | (rw [hy213]; exact H) | exact H
  have Ny213 := Aside0.mk hy213
  clear hy213
  have H' := Aside0.mk H
  clear H
  go_enter Try.func86, Try.ntmps86
  go_wp2_with (first | ((with_reducible refine gate_dst (N := 7) rfl ?_); refine Kd.R_lit (Kd.int .u8) _ 5 ?hg (N := 7) ?hd (xs := ([(Int.tmod a0 128) % 256] : List Int)) (inner := [.int .u8 ((Int.tmod a0 128) % 256)]) (ok := fun _ => True) (okp := fun _ => True) ?hr ?hp (fun _ hk => hk) trivial (Below.refl _ _) (Nat.le_refl _) (by simp) ?_; (case hd => rfl); (case hg => rfl); (case hr => first | (go_simp; done) | (go_simp; rfl)); (case hp => exact (Reps.one (show Kd.M (Kd.int .u8) _ _ _ ((Int.tmod a0 128) % 256) [.int .u8 ((Int.tmod a0 128) % 256)] from rfl) (Reps.none _ _))); intro v214 w2 ho3 hb hg_ hnew_; clear hg_ hnew_; (first | rw [← Ny213.out] at ho3 | (simp only [Int.reduceToNat] at ho3; rw [← Ny213.out] at ho3)); have n0_ := Aside0.mk (Kd.R_lower ho3 (below_size (by repeat (first | (with_reducible first | exact HB.out | apply below_alloc | apply pw_below_drewN | apply below_drew1) | exact HB.out)))); have n1_ := Aside0.mk (below_step (by repeat (first | (with_reducible first | exact HB.out | apply below_alloc | apply pw_below_drewN | apply below_drew1) | exact HB.out)) hb); clear HB; have HO215 := n0_; have HB := n1_; clear n0_ n1_; clear hb ho3))
  go_loopg [0, 3] k (fun kq v0 v3 w' => ∃ (x0_1 : Int) (x3_1 : List Int), v0 = .int .u64 x0_1 ∧ Aside0 (rolodexref01_Put.l0 kq x0_1 x3_1 = some r) ∧ Aside0 (kq ≤ k) ∧ Aside0 (Kd.R (Kd.int .u8) 5 w' w.heap.size (fun _ => True) v3 x3_1) ∧ Aside0 (Below w.heap.size w w'))
  case atStart => exact ⟨(a0), (y213), (by first | rfl | (simp; done) | (simp [*]; done)), H', ⟨Nat.le_refl _⟩, ⟨by (with_reducible repeat (first | apply Kd.R_alloc | apply Kd.R_drewN | apply Kd.R_drew)); exact HO215.out⟩, ⟨by repeat (first | (with_reducible first | exact HB.out | apply below_alloc | apply pw_below_drewN | apply below_drew1) | exact HB.out)⟩⟩
  case round =>
    clear H'
    try clear p2
    obtain ⟨x0_1, x3_1, rfl, HA, HK1, HO_3, HB⟩ := hrel
    cases gk with
    | zero => exact absurd HA.out (by simp [rolodexref01_Put.l0])
    | succ k1 =>
      have H := HA.out
      clear HA
      simp only [rolodexref01_Put.l0] at H
      by_cases c4 : x0_1 ≥ 128
      · rw [if_pos c4] at H
        have c4b0 : decide (128 ≤ x0_1) = true := decide_eq_true c4
        clear c4
        obtain ⟨y216, hy216⟩ : ∃ y_ : List Int, y_ = (([(((Int.tmod (IntKind.u64.wrap (Int.tdiv x0_1 128)) 128) % 256) + 128) % 256] : List Int)) := ⟨_, rfl⟩
        replace H : (if y216.length + x3_1.length < 140737488355328 then (rolodexref01_Put.l0 k1 (IntKind.u64.wrap (Int.tdiv x0_1 128)) (y216 ++ x3_1)) else (none)) = some r := by first | (rw [hy216]; with_reducible exact H) | (have H2_ := (Option.bind_some _ _).symm.trans H; rw [hy216]; with_reducible exact H2_) | (have H2_ := (Option.bind_some _ _).symm.trans H; with_reducible exact H2_) | with_reducible exact H | (rw [hy216]; exact H) | exact H
        have Ny216 := Aside0.mk hy216
        clear hy216
        by_cases c5 : y216.length + x3_1.length < 140737488355328
        · rw [if_pos c5] at H
          have LMc5 := Aside0.mk c5
          clear c5
          obtain ⟨y219, hy219⟩ : ∃ y_ : List Int, y_ = (y216 ++ x3_1) := ⟨_, rfl⟩
          replace H : (rolodexref01_Put.l0 k1 (IntKind.u64.wrap (Int.tdiv x0_1 128)) y219) = some r := by first | (rw [hy219]; with_reducible exact H) | (have H2_ := (Option.bind_some _ _).symm.trans H; rw [hy219]; with_reducible exact H2_) | (have H2_ := (Option.bind_some _ _).symm.trans H; with_reducible exact H2_) | with_reducible exact H | (rw [hy219]; exact H) | exact H
          have Ny219 := Aside0.mk hy219
          clear hy219
          have H' := Aside0.mk H
          clear H
          go_wp2_with (first | ((with_reducible refine gate_dst (N := 16) rfl ?_); refine Kd.R_lit (Kd.int .u8) _ 5 ?hg (N := 16) ?hd (xs := ([(((Int.tmod (IntKind.u64.wrap (Int.tdiv x0_1 128)) 128) % 256) + 128) % 256] : List Int)) (inner := [.int .u8 ((((Int.tmod (IntKind.u64.wrap (Int.tdiv x0_1 128)) 128) % 256) + 128) % 256)]) (ok := fun _ => True) (okp := fun _ => True) ?hr ?hp (fun _ hk => hk) trivial (Below.refl _ _) (Nat.le_refl _) (by simp) ?_; (case hd => rfl); (case hg => rfl); (case hr => first | (go_simp; done) | (go_simp; rfl)); (case hp => exact (Reps.one (show Kd.M (Kd.int .u8) _ _ _ ((((Int.tmod (IntKind.u64.wrap (Int.tdiv x0_1 128)) 128) % 256) + 128) % 256) [.int .u8 ((((Int.tmod (IntKind.u64.wrap (Int.tdiv x0_1 128)) 128) % 256) + 128) % 256)] from rfl) (Reps.none _ _))); intro v217 w6 ho7 hb hg_ hnew_; clear hg_ hnew_; (first | rw [← Ny216.out] at ho7 | (simp only [Int.reduceToNat] at ho7; rw [← Ny216.out] at ho7)); have n0_ := Aside0.mk (Kd.R_elder' (by (with_reducible repeat (first | apply Kd.R_alloc | apply Kd.R_drewN | apply Kd.R_drew)); exact HO_3.out) (Kd.R_base ho7) hb); have n1_ := Aside0.mk (Kd.R_lower (Kd.R_new' ho7 (Kd.R_lt (by (with_reducible repeat (first | apply Kd.R_alloc | apply Kd.R_drewN | apply Kd.R_drew)); exact HO_3.out))) (below_size (by repeat (first | (with_reducible first | exact HB.out | apply below_alloc | apply pw_below_drewN | apply below_drew1) | exact HB.out)))); have n2_ := Aside0.mk (below_step (by repeat (first | (with_reducible first | exact HB.out | apply below_alloc | apply pw_below_drewN | apply below_drew1) | exact HB.out)) hb); clear HO_3; clear HB; have HO_3 := n0_; have HO218 := n1_; have HB := n2_; clear n0_ n1_ n2_; clear hb ho7; obtain ⟨Ao9, co9, eo9⟩ := Kd.R_slice HO_3.out; subst eo9) | ((with_reducible refine gate_builtin (b := .append) (xs := #[.tmp 16, .tmp 17]) rfl ?_); at_builtin; refine Kd.R_append_rows (Kd.int .u8) (w0 := w) w.heap.size rfl (.tmp 16) (.tmp 17) 40 5 (.int .u8 0) 1 rfl Try.underlying40 info5 rfl (by decide) (by omega) v217 y216 x3_1 _ _ _ (fun k_ => some k_ ≠ (.slice Ao9 x3_1.length co9 : Value).ownBlock) (fun _ => False) rfl rfl ?aO ?aR (fun _ _ h => h) (fun _ h => h.elim) ?aF ?aB ?aS ?aL ?_; (case aR => repeat (first | exact (Kd.R_reads' HO_3.out).2.2 | (with_reducible refine Kd.C_alloc ?_ _) | (with_reducible refine Kd.C_drewN ?_ _) | (with_reducible refine Kd.C_drew ?_))); (case aB => exact (by repeat (first | (with_reducible first | exact HB.out | apply below_alloc | apply pw_below_drewN | apply below_drew1) | exact HB.out))); (case aF => exact (fun k_ hk => Kd.fresh' (Kd.R_lt (by (with_reducible repeat (first | apply Kd.R_alloc | apply Kd.R_drewN | apply Kd.R_drew)); exact HO_3.out)) k_ hk)); (case aO => exact (by (with_reducible repeat (first | apply Kd.R_alloc | apply Kd.R_drewN | apply Kd.R_drew)); exact Kd.R_mono HO218.out (fun _ hk => hk.2))); (case aS => exact (below_size (by repeat (first | (with_reducible first | exact HB.out | apply below_alloc | apply pw_below_drewN | apply below_drew1) | exact HB.out)))); (case aL => have := LMc5.out; omega); intro v220 w8 ho hb hg hat; rw [← Ny219.out] at ho; have n0_ := Aside0.mk (Kd.R_after (ok := (fun _ => True)) (by (with_reducible repeat (first | apply Kd.R_alloc | apply Kd.R_drewN | apply Kd.R_drew)); exact HO_3.out) hg hat); have n1_ := Aside0.mk (hb); have n2_ := Aside0.mk (ho); clear HO_3; clear HB; clear HO218; have HO_3 := n0_; have HB := n1_; have HO221 := n2_; clear n0_ n1_ n2_; clear ho hb hg hat))
          go_roundg k1
          case measure => have := HK1.out; omega
          case rel => exact ⟨(IntKind.u64.wrap (Int.tdiv x0_1 128)), (y219), (by first | rfl | (simp; done) | (simp [*]; done)), H', ⟨by have := HK1.out; omega⟩, ⟨by (with_reducible repeat (first | apply Kd.R_alloc | apply Kd.R_drewN | apply Kd.R_drew)); exact Kd.R_mono HO221.out (fun _ hk => trivial)⟩, ⟨by repeat (first | (with_reducible first | exact HB.out | apply below_alloc | apply pw_below_drewN | apply below_drew1) | exact HB.out)⟩⟩
        · rw [if_neg c5] at H
          exact absurd H (by simp)
      · rw [if_neg c4] at H
        have c4b0 : decide (128 ≤ x0_1) = false := decide_eq_false c4
        clear c4
        obtain rfl := Option.some.inj H
        go_wp2
        go_ret
        exact ⟨_, by first | rfl | (simp [errW_none, errW_some] <;> rfl) | (simp [*, errW_none, errW_some] <;> rfl), by (with_reducible repeat (first | apply Kd.R_alloc | apply Kd.R_drewN | apply Kd.R_drew)); exact HO_3.out, by repeat (first | (with_reducible first | exact HB.out | apply below_alloc | apply pw_below_drewN | apply below_drew1) | exact HB.out)⟩

end Go.Proofs.Ytchaegfdcdlfaaa.X

namespace Go.Proofs.Ytchaegfdcdlfaaa.X
open Go.RowKit Go.Proofs.YtchaegfdcdlfaaaW.PrintWords Go.Proofs.YtchaegfdcdlfaaaW.PrintLast Go.Proofs.YtchaegfdcdlfaaaW.PrintMore
attribute [local go_sem] max2_int min2_int max_two min_two max_three min_three max_four min_four   -- for this text's walks alone
set_option linter.unusedVariables false
set_option linter.unusedSimpArgs false

def rolodexref01_Word.f (a0 : Int) : Option (List Int) := some (([((Int.tdiv a0 16777216) % 4294967296) % 256, ((Int.tdiv a0 65536) % 4294967296) % 256, ((Int.tdiv a0 256) % 4294967296) % 256, (Int.tmod a0 256) % 256] : List Int))
set_option maxHeartbeats 8000000 in
set_option maxRecDepth 100000 in
theorem rolodexref01_Word.calls (a0 : Int) (r : List Int) (w : World) (h : rolodexref01_Word.f a0 = some r) :
    Calls Try.prog 87 #[.int .u32 a0] w fun e w' => ∃ v0_ : Value, e = .returned (v0_) ∧ Kd.R (Kd.int .u8) 5 w' w.heap.size (fun _ => True) v0_ r ∧ Below w.heap.size w w' := by
  have HB := Aside0.mk (Below.refl w.heap.size w)
  have H : (some (([((Int.tdiv a0 16777216) % 4294967296) % 256, ((Int.tdiv a0 65536) % 4294967296) % 256, ((Int.tdiv a0 256) % 4294967296) % 256, (Int.tmod a0 256) % 256] : List Int))) = some r := h
  clear h
  obtain ⟨y222, hy222⟩ : ∃ y_ : List Int, y_ = (([((Int.tdiv a0 16777216) % 4294967296) % 256, ((Int.tdiv a0 65536) % 4294967296) % 256, ((Int.tdiv a0 256) % 4294967296) % 256, (Int.tmod a0 256) % 256] : List Int)) := ⟨_, rfl⟩
  replace H : (some y222) = some r := by first | (rw [hy222]; with_reducible exact H) | (have H2_ := (Option.bind_some _ _).symm.trans H; rw [hy222]; with_reducible exact H2_) | (have H2_ := (Option.bind_some _ _).symm.trans H; with_reducible exact H2_) | with_reducible exact H | (rw [hy222]; exact H) | exact H
  have Ny222 := Aside0.mk hy222
  clear hy222
  obtain rfl := Option.some.inj H
  go_enter Try.func87, Try.ntmps87
  go_wp2_with (first | ((with_reducible refine gate_dst (N := 17) rfl ?_); refine Kd.R_lit (Kd.int .u8) _ 5 ?hg (N := 17) ?hd (xs := ([((Int.tdiv a0 16777216) % 4294967296) % 256, ((Int.tdiv a0 65536) % 4294967296) % 256, ((Int.tdiv a0 256) % 4294967296) % 256, (Int.tmod a0 256) % 256] : List Int)) (inner := [.int .u8 (((Int.tdiv a0 16777216) % 4294967296) % 256), .int .u8 (((Int.tdiv a0 65536) % 4294967296) % 256), .int .u8 (((Int.tdiv a0 256) % 4294967296) % 256), .int .u8 ((Int.tmod a0 256) % 256)]) (ok := fun _ => True) (okp := fun _ => True) ?hr ?hp (fun _ hk => hk) trivial (Below.refl _ _) (Nat.le_refl _) (by simp) ?_; (case hd => rfl); (case hg => rfl); (case hr => first | (go_simp; done) | (go_simp; rfl)); (case hp => exact (Reps.one (show Kd.M (Kd.int .u8) _ _ _ (((Int.tdiv a0 16777216) % 4294967296) % 256) [.int .u8 (((Int.tdiv a0 16777216) % 4294967296) % 256)] from rfl) (Reps.one (show Kd.M (Kd.int .u8) _ _ _ (((Int.tdiv a0 65536) % 4294967296) % 256) [.int .u8 (((Int.tdiv a0 65536) % 4294967296) % 256)] from rfl) (Reps.one (show Kd.M (Kd.int .u8) _ _ _ (((Int.tdiv a0 256) % 4294967296) % 256) [.int .u8 (((Int.tdiv a0 256) % 4294967296) % 256)] from rfl) (Reps.one (show Kd.M (Kd.int .u8) _ _ _ ((Int.tmod a0 256) % 256) [.int .u8 ((Int.tmod a0 256) % 256)] from rfl) (Reps.none _ _)))))); intro v223 w2 ho3 hb hg_ hnew_; clear hg_ hnew_; (first | rw [← Ny222.out] at ho3 | (simp only [Int.reduceToNat] at ho3; rw [← Ny222.out] at ho3)); have n0_ := Aside0.mk (Kd.R_lower ho3 (below_size (by repeat (first | (with_reducible first | exact HB.out | apply below_alloc | apply pw_below_drewN | apply below_drew1) | exact HB.out)))); have n1_ := Aside0.mk (below_step (by repeat (first | (with_reducible first | exact HB.out | apply below_alloc | apply pw_below_drewN | apply below_drew1) | exact HB.out)) hb); clear HB; have HO224 := n0_; have HB := n1_; clear n0_ n1_; clear hb ho3))
  go_ret
  exact ⟨_, by first | rfl | (simp [errW_none, errW_some] <;> rfl) | (simp [*, errW_none, errW_some] <;> rfl), by (with_reducible repeat (first | apply Kd.R_alloc | apply Kd.R_drewN | apply Kd.R_drew)); exact HO224.out, by repeat (first | (with_reducible first | exact HB.out | apply below_alloc | apply pw_below_drewN | apply below_drew1) | exact HB.out)⟩

end Go.Proofs.Ytchaegfdcdlfaaa.X

namespace Go.Proofs.Ytchaegfdcdlfaaa.X
open Go.RowKit Go.Proofs.YtchaegfdcdlfaaaW.PrintWords Go.Proofs.YtchaegfdcdlfaaaW.PrintLast Go.Proofs.YtchaegfdcdlfaaaW.PrintMore
attribute [local go_sem] max2_int min2_int max_two min_two max_three min_three max_four min_four   -- for this text's walks alone
set_option linter.unusedVariables false
set_option linter.unusedSimpArgs false

mutual
def rolodexref01_Get.l0 : Nat → List Int → Int → Int → Option (Int × Int × Bool)
  | 0, _, _, _ => none
  | k + 1, x0, x5, x6 => if x6 < (x0.length : Int) then (rolodexref01_Get.j1 k x0 x5 x6 (decide (x6 < 10))) else (rolodexref01_Get.j1 k x0 x5 x6 false)
def rolodexref01_Get.j1 : Nat → List Int → Int → Int → Bool → Option (Int × Int × Bool)
  | 0, _, _, _, _ => none
  | k + 1, x0, x5, x6, x15 => if x15 = true then (if 0 ≤ x6 then (if x6 < (x0.length : Int) then (if (rd x0 x6) < 128 then ((rolodexref01_Put.f k (IntKind.u64.wrap ((IntKind.u64.wrap (128 * x5)) + (IntKind.u64.wrap (Int.tmod (rd x0 x6) 128))))).bind fun t246 => (if 0 ≤ (wrap64 (x6 + 1)) then (if (wrap64 (x6 + 1)) ≤ (x0.length : Int) then (if (strOfNums t246).toList = (strOfNums (x0.take ((wrap64 (x6 + 1)) : Int).toNat)).toList then (some (IntKind.u64.wrap ((IntKind.u64.wrap (128 * x5)) + (IntKind.u64.wrap (Int.tmod (rd x0 x6) 128))), wrap64 (x6 + 1), true)) else (some (0, 0, false))) else (none)) else (none))) else (rolodexref01_Get.l0 k x0 (IntKind.u64.wrap ((IntKind.u64.wrap (128 * x5)) + (IntKind.u64.wrap (Int.tmod (rd x0 x6) 128)))) (wrap64 (x6 + 1)))) else (none)) else (none)) else (some (0, 0, false))
end
def rolodexref01_Get.f (k : Nat) (l0 : List Int) : Option (Int × Int × Bool) := rolodexref01_Get.l0 k l0 0 0
theorem rolodexref01_Get.mono_l : ∀ k, (∀ y0 y1 y2, LeO (rolodexref01_Get.l0 k y0 y1 y2) (rolodexref01_Get.l0 (k + 1) y0 y1 y2)) ∧ (∀ y0 y1 y2 y3, LeO (rolodexref01_Get.j1 k y0 y1 y2 y3) (rolodexref01_Get.j1 (k + 1) y0 y1 y2 y3))
  | 0 => ⟨fun _ _ _ r h => by simp [rolodexref01_Get.l0] at h, fun _ _ _ _ r h => by simp [rolodexref01_Get.j1] at h⟩
  | k + 1 => by
    obtain ⟨ih0, ih1⟩ := rolodexref01_Get.mono_l k
    refine ⟨?_, ?_⟩
    · intro y0 y1 y2
      unfold rolodexref01_Get.l0
      repeat' first
      | (with_reducible exact ih0 _ _ _)
      | (with_reducible exact ih1 _ _ _ _)
      | (with_reducible exact rolodexref01_Put.mono _ _)
      | (with_reducible exact LeO.refl _)
      | (with_reducible exact LeO.none _)
      | (with_reducible refine LeO.ite ?_ ?_)
      | (with_reducible refine LeO.bind ?_ (fun _ => ?_))
      | exact ih0 _ _ _
      | exact ih1 _ _ _ _
      | exact rolodexref01_Put.mono _ _
      | exact LeO.none _
      | refine LeO.ite ?_ ?_
      | refine LeO.bind ?_ (fun _ => ?_)
    · intro y0 y1 y2 y3
      unfold rolodexref01_Get.j1
      repeat' first
      | (with_reducible exact ih0 _ _ _)
      | (with_reducible exact ih1 _ _ _ _)
      | (with_reducible exact rolodexref01_Put.mono _ _)
      | (with_reducible exact LeO.refl _)
      | (with_reducible exact LeO.none _)
      | (with_reducible refine LeO.ite ?_ ?_)
      | (with_reducible refine LeO.bind ?_ (fun _ => ?_))
      | exact ih0 _ _ _
      | exact ih1 _ _ _ _
      | exact rolodexref01_Put.mono _ _
      | exact LeO.none _
      | refine LeO.ite ?_ ?_
      | refine LeO.bind ?_ (fun _ => ?_)
theorem rolodexref01_Get.mono : ∀ a0 k, LeO (rolodexref01_Get.f k a0) (rolodexref01_Get.f (k + 1) a0) := by
  intro a0 k
  obtain ⟨ih0, ih1⟩ := rolodexref01_Get.mono_l k
  unfold rolodexref01_Get.f
  repeat' first
      | (with_reducible exact ih0 _ _ _)
      | (with_reducible exact ih1 _ _ _ _)
      | (with_reducible exact rolodexref01_Put.mono _ _)
      | (with_reducible exact LeO.refl _)
      | (with_reducible exact LeO.none _)
      | (with_reducible refine LeO.ite ?_ ?_)
      | (with_reducible refine LeO.bind ?_ (fun _ => ?_))
      | exact ih0 _ _ _
      | exact ih1 _ _ _ _
      | exact rolodexref01_Put.mono _ _
      | exact LeO.none _
      | refine LeO.ite ?_ ?_
      | refine LeO.bind ?_ (fun _ => ?_)
set_option maxHeartbeats 8000000 in
set_option maxRecDepth 100000 in
theorem rolodexref01_Get.calls (k : Nat) (A0 : Option Addr) (c0 : Nat) (l0 : List Int) (r1 : Int) (r2 : Int) (r3 : Bool) (w : World) (hr0 : Kd.C (Kd.int .u8) w A0 l0.length l0) (hc0 : l0.length ≤ c0) (h : rolodexref01_Get.f k l0 = some (r1, r2, r3)) :
    Calls Try.prog 91 #[.slice A0 l0.length c0] w fun e w' => e = .returned (.tuple #[.int .u64 r1, .int .i64 r2, .bool r3]) ∧ Below w.heap.size w w' := by
  have HR0 := Aside0.mk hr0
  have HC0 := Aside0.mk hc0
  clear hr0 hc0
  have HB := Aside0.mk (Below.refl w.heap.size w)
  have H : (rolodexref01_Get.l0 k l0 0 0) = some (r1, r2, r3) := h
  clear h
  have H' := Aside0.mk H
  clear H
  go_enter Try.func91, Try.ntmps91
  go_wp2
  repeat (go_quiet (fail); try go_wp2)
  go_loopg [5, 6] k (fun kq v5 v6 w' => ∃ (x5_1 : Int) (x6_1 : Int), v5 = .int .u64 x5_1 ∧ v6 = .int .i64 x6_1 ∧ Aside0 (rolodexref01_Get.l0 kq l0 x5_1 x6_1 = some (r1, r2, r3)) ∧ Aside0 (kq ≤ k) ∧ Aside0 (Below w.heap.size w w'))
  case atStart => exact ⟨(0), (0), (by first | rfl | (simp; done) | (simp [*]; done)), (by first | rfl | (simp; done) | (simp [*]; done)), H', ⟨Nat.le_refl _⟩, ⟨by repeat (first | (with_reducible first | exact HB.out | apply below_alloc | apply pw_below_drewN | apply below_drew1) | exact HB.out)⟩⟩
  case round =>
    clear H'
    obtain ⟨x5_1, x6_1, rfl, rfl, HA, HK1, HB⟩ := hrel
    cases gk with
    | zero => exact absurd HA.out (by simp [rolodexref01_Get.l0])
    | succ k1 =>
      have H := HA.out
      clear HA
      simp only [rolodexref01_Get.l0] at H
      have HC2 := Aside0.mk H
      clear H
      go_upto_region 3 with (fail)
      repeat (go_quiet (fail); go_upto_region 3 with (fail))
      go_cut [15] (fun v15 wc => ∃ (kq : Nat) (x15_1 : Bool), v15 = .bool x15_1 ∧ Aside0 (rolodexref01_Get.j1 kq l0 x5_1 x6_1 x15_1 = some (r1, r2, r3)) ∧ Aside0 (kq ≤ k1) ∧ Aside0 (Below w.heap.size w wc))
      case first =>
        have H := HC2.out
        clear HC2
        by_cases c3 : x6_1 < (l0.length : Int)
        · rw [if_pos c3] at H
          have c3b0 : decide (x6_1 < (l0.length : Int)) = true := decide_eq_true c3
          clear c3
          (first | rw [c3b0] | (simp only [i64_w, i32_w]; rw [c3b0]) | skip)
          have H' := Aside0.mk H
          clear H
          go_wp2
          repeat (go_quiet (fail); try go_wp2)
          go_meet
          case rel => exact ⟨_, (decide (x6_1 < 10)), (by first | rfl | (simp; done) | (simp [*]; done)), H', ⟨by have := HK1.out; first | omega | exact Nat.le_refl _⟩, ⟨by repeat (first | (with_reducible first | exact HB.out | apply below_alloc | apply pw_below_drewN | apply below_drew1) | exact HB.out)⟩⟩
        · rw [if_neg c3] at H
          have c3b0 : decide (x6_1 < (l0.length : Int)) = false := decide_eq_false c3
          clear c3
          (first | rw [c3b0] | (simp only [i64_w, i32_w]; rw [c3b0]) | skip)
          have H' := Aside0.mk H
          clear H
          go_wp2
          repeat (go_quiet (fail); try go_wp2)
          go_meet
          case rel => exact ⟨_, (false), (by first | rfl | (simp; done) | (simp [*]; done)), H', ⟨by have := HK1.out; first | omega | exact Nat.le_refl _⟩, ⟨by repeat (first | (with_reducible first | exact HB.out | apply below_alloc | apply pw_below_drewN | apply below_drew1) | exact HB.out)⟩⟩
      case rest =>
        clear HC2
        try clear p2
        try clear c3
        try clear c3b0
        obtain ⟨kq, x15_1, rfl, HA, HJ1, HB⟩ := hcut
        cases kq with
        | zero => exact absurd HA.out (by simp [rolodexref01_Get.j1])
        | succ kj1 =>
          have H := HA.out
          clear HA
          simp only [rolodexref01_Get.j1] at H
          by_cases c4 : x15_1 = true
          · subst c4
            have H1 : (if 0 ≤ x6_1 then (if x6_1 < (l0.length : Int) then (if (rd l0 x6_1) < 128 then ((rolodexref01_Put.f kj1 (IntKind.u64.wrap ((IntKind.u64.wrap (128 * x5_1)) + (IntKind.u64.wrap (Int.tmod (rd l0 x6_1) 128))))).bind fun t246 => (if 0 ≤ (wrap64 (x6_1 + 1)) then (if (wrap64 (x6_1 + 1)) ≤ (l0.length : Int) then (if (strOfNums t246).toList = (strOfNums (l0.take ((wrap64 (x6_1 + 1)) : Int).toNat)).toList then (some (IntKind.u64.wrap ((IntKind.u64.wrap (128 * x5_1)) + (IntKind.u64.wrap (Int.tmod (rd l0 x6_1) 128))), wrap64 (x6_1 + 1), true)) else (some (0, 0, false))) else (none)) else (none))) else (rolodexref01_Get.l0 kj1 l0 (IntKind.u64.wrap ((IntKind.u64.wrap (128 * x5_1)) + (IntKind.u64.wrap (Int.tmod (rd l0 x6_1) 128)))) (wrap64 (x6_1 + 1)))) else (none)) else (none)) = some (r1, r2, r3) := by rw [if_pos rfl] at H; exact H
            clear H
            have H := H1
            clear H1
            by_cases c5 : 0 ≤ x6_1
            · rw [if_pos c5] at H
              have c5b0 : decide (0 ≤ x6_1) = true := decide_eq_true c5
              clear c5
              by_cases c6 : x6_1 < (l0.length : Int)
              · rw [if_pos c6] at H
                have c6b0 : decide (x6_1 < (l0.length : Int)) = true := decide_eq_true c6
                clear c6
                by_cases c7 : (rd l0 x6_1) < 128
                · rw [if_pos c7] at H
                  have c7b0 : decide ((rd l0 x6_1) < 128) = true := decide_eq_true c7
                  clear c7
                  replace H := Option.bind_eq_some_iff.mp H
                  obtain ⟨t246, A80, H⟩ := H
                  replace H : (if 0 ≤ (wrap64 (x6_1 + 1)) then (if (wrap64 (x6_1 + 1)) ≤ (l0.length : Int) then (if (strOfNums t246).toList = (strOfNums (l0.take ((wrap64 (x6_1 + 1)) : Int).toNat)).toList then (some (IntKind.u64.wrap ((IntKind.u64.wrap (128 * x5_1)) + (IntKind.u64.wrap (Int.tmod (rd l0 x6_1) 128))), wrap64 (x6_1 + 1), true)) else (some (0, 0, false))) else (none)) else (none)) = some (r1, r2, r3) := H
                  have A8 := Aside0.mk A80
                  clear A80
                  obtain ⟨ji9, hji9⟩ : ∃ j_ : Int, (wrap64 (x6_1 + 1)) = j_ := ⟨_, rfl⟩
                  replace H : (if 0 ≤ (ji9) then (if (ji9) ≤ (l0.length : Int) then (if (strOfNums t246).toList = (strOfNums (l0.take ((ji9) : Int).toNat)).toList then (some (IntKind.u64.wrap ((IntKind.u64.wrap (128 * x5_1)) + (IntKind.u64.wrap (Int.tmod (rd l0 x6_1) 128))), ji9, true)) else (some (0, 0, false))) else (none)) else (none)) = some (r1, r2, r3) := by first | (rw [hji9] at H; exact H) | (simp only [hji9] at H ⊢; exact H)
                  (try rw [hji9] at A8)
                  have hji9w : (IntKind.i64.wrap (x6_1 + 1)) = ji9 := (i64_w _).trans hji9
                  by_cases c10 : 0 ≤ (ji9)
                  · rw [if_pos c10] at H
                    have c10b0 := eq_true c10
                    have c10b1 : decide (0 ≤ (ji9)) = true := decide_eq_true c10
                    clear c10
                    by_cases c11 : (ji9) ≤ (l0.length : Int)
                    · rw [if_pos c11] at H
                      have c11b0 := eq_true c11
                      have c11b1 : decide ((ji9) ≤ (l0.length : Int)) = true := decide_eq_true c11
                      clear c11
                      by_cases c12 : (strOfNums t246).toList = (strOfNums (l0.take ((ji9) : Int).toNat)).toList
                      · rw [if_pos c12] at H
                        have c12b0 : ((strOfNums t246).toList == (strOfNums (l0.take ((ji9) : Int).toNat)).toList) = true := beq_iff_eq.mpr c12
                        have c12b1 : ((strOfNums t246).toList != (strOfNums (l0.take ((ji9) : Int).toNat)).toList) = false := bne_eq_false_iff_eq.mpr c12
                        clear c12
                        simp only [Option.some.injEq, Prod.mk.injEq] at H
                        obtain ⟨rfl, rfl, rfl⟩ := H
                        have p244 : 0 ≤ (x6_1 : Int) := of_decide_eq_true (by first | (with_reducible assumption) | assumption)
                        have q244 : x6_1 < (l0.length : Int) := of_decide_eq_true (by first | (with_reducible assumption) | assumption)
                        obtain ⟨ad244, e244, hx244_0⟩ := Kd.at_int HR0.out x6_1 p244 q244
                        cases e244
                        replace hx244_0 := (HB.out.cell (World.block_lt_of_cell? w _ hx244_0)).trans hx244_0
                        replace p244 := eq_true p244
                        replace q244 := eq_true q244
                        have p245 : 0 ≤ (x6_1 : Int) := of_decide_eq_true (by first | (with_reducible assumption) | assumption)
                        have q245 : x6_1 < (l0.length : Int) := of_decide_eq_true (by first | (with_reducible assumption) | assumption)
                        obtain ⟨ad245, e245, hx245_0⟩ := Kd.at_int HR0.out x6_1 p245 q245
                        obtain rfl : ad244 = ad245 := (by injection e245)
                        replace hx245_0 := (HB.out.cell (World.block_lt_of_cell? w _ hx245_0)).trans hx245_0
                        replace p245 := eq_true p245
                        replace q245 := eq_true q245
                        go_wp2_with (first | (go_at_call 86; (with_reducible refine (rolodexref01_Put.calls kj1 (IntKind.u64.wrap ((IntKind.u64.wrap (128 * x5_1)) + (IntKind.u64.wrap (Int.tmod (rd l0 x6_1) 128)))) t246 _ A8.out).mono ?_); rintro e w13 ⟨v247, rfl, ho0, hb⟩; have n0_ := Aside0.mk (Kd.R_lower ho0 (below_size (by repeat (first | (with_reducible first | exact HB.out | apply below_alloc | apply pw_below_drewN | apply below_drew1) | exact HB.out)))); have n1_ := Aside0.mk (below_step (by repeat (first | (with_reducible first | exact HB.out | apply below_alloc | apply pw_below_drewN | apply below_drew1) | exact HB.out)) hb); clear HB; have HO248 := n0_; have HB := n1_; clear n0_ n1_; (try clear hb); (try clear hb2); (try clear hk); (try clear hi); (try clear ho0); have hcv14 := own_string (P := Try.prog) Try.underlying40 Try.underlying5 Try.underlying9 (Kd.own_of_R HO248.out); have hcvq14 := fun n_ => own_string (P := Try.prog) Try.underlying40 Try.underlying5 Try.underlying9 (Kd.own_of_R (Kd.R_drewN HO248.out n_)); obtain ⟨i015, hi015, _, hsz15, _⟩ := info_parts info5; obtain ⟨hcut15, hA15, hC15⟩ := print_take_of (P := Try.prog) (Value.int .u8) 0 40 5 .i64 Try.underlying40 hi015 hsz15 (some ad244) c0 l0 (ji9) (of_decide_eq_true (by first | (with_reducible assumption) | assumption)) (of_decide_eq_true (by first | (with_reducible assumption) | assumption)) HC0.out; have HR249 := Aside0.mk (Kd.C_of_reads (h1 := fun _ => rfl) (hA15 _ (Kd.reads_of_C HR0.out))); have HC249 := Aside0.mk hC15; clear hA15 hC15 hi015 hsz15; have hcv16 := Kd.C_string (P := Try.prog) (A := (some ad244)) (c := c0) Try.underlying40 Try.underlying5 Try.underlying9 (Kd.C_below HR249.out HB.out); have hcvq16 := fun n_ => Kd.C_string (P := Try.prog) (A := (some ad244)) (c := c0) Try.underlying40 Try.underlying5 Try.underlying9 (Kd.C_below HR249.out (pw_below_drewN HB.out n_)); have hq1_ : 0 ≤ ji9 := of_decide_eq_true (by first | (with_reducible assumption) | assumption); have hq2_ : ji9 ≤ (l0.length : Int) := of_decide_eq_true (by first | (with_reducible assumption) | assumption); have hln_ : (List.take ji9.toNat l0).length = ji9.toNat := (by rw [List.length_take]; omega); have hcvs16 := hcvq16; rw [hln_] at hcvs16; clear hln_ hq1_ hq2_))
                        repeat (go_quiet (first | (go_at_call 86; (with_reducible refine (rolodexref01_Put.calls kj1 (IntKind.u64.wrap ((IntKind.u64.wrap (128 * x5_1)) + (IntKind.u64.wrap (Int.tmod (rd l0 x6_1) 128)))) t246 _ A8.out).mono ?_); rintro e w13 ⟨v247, rfl, ho0, hb⟩; have n0_ := Aside0.mk (Kd.R_lower ho0 (below_size (by repeat (first | (with_reducible first | exact HB.out | apply below_alloc | apply pw_below_drewN | apply below_drew1) | exact HB.out)))); have n1_ := Aside0.mk (below_step (by repeat (first | (with_reducible first | exact HB.out | apply below_alloc | apply pw_below_drewN | apply below_drew1) | exact HB.out)) hb); clear HB; have HO248 := n0_; have HB := n1_; clear n0_ n1_; (try clear hb); (try clear hb2); (try clear hk); (try clear hi); (try clear ho0); have hcv14 := own_string (P := Try.prog) Try.underlying40 Try.underlying5 Try.underlying9 (Kd.own_of_R HO248.out); have hcvq14 := fun n_ => own_string (P := Try.prog) Try.underlying40 Try.underlying5 Try.underlying9 (Kd.own_of_R (Kd.R_drewN HO248.out n_)); obtain ⟨i015, hi015, _, hsz15, _⟩ := info_parts info5; obtain ⟨hcut15, hA15, hC15⟩ := print_take_of (P := Try.prog) (Value.int .u8) 0 40 5 .i64 Try.underlying40 hi015 hsz15 (some ad244) c0 l0 (ji9) (of_decide_eq_true (by first | (with_reducible assumption) | assumption)) (of_decide_eq_true (by first | (with_reducible assumption) | assumption)) HC0.out; have HR249 := Aside0.mk (Kd.C_of_reads (h1 := fun _ => rfl) (hA15 _ (Kd.reads_of_C HR0.out))); have HC249 := Aside0.mk hC15; clear hA15 hC15 hi015 hsz15; have hcv16 := Kd.C_string (P := Try.prog) (A := (some ad244)) (c := c0) Try.underlying40 Try.underlying5 Try.underlying9 (Kd.C_below HR249.out HB.out); have hcvq16 := fun n_ => Kd.C_string (P := Try.prog) (A := (some ad244)) (c := c0) Try.underlying40 Try.underlying5 Try.underlying9 (Kd.C_below HR249.out (pw_below_drewN HB.out n_)); have hq1_ : 0 ≤ ji9 := of_decide_eq_true (by first | (with_reducible assumption) | assumption); have hq2_ : ji9 ≤ (l0.length : Int) := of_decide_eq_true (by first | (with_reducible assumption) | assumption); have hln_ : (List.take ji9.toNat l0).length = ji9.toNat := (by rw [List.length_take]; omega); have hcvs16 := hcvq16; rw [hln_] at hcvs16; clear hln_ hq1_ hq2_)); try go_wp2_with (first | (go_at_call 86; (with_reducible refine (rolodexref01_Put.calls kj1 (IntKind.u64.wrap ((IntKind.u64.wrap (128 * x5_1)) + (IntKind.u64.wrap (Int.tmod (rd l0 x6_1) 128)))) t246 _ A8.out).mono ?_); rintro e w13 ⟨v247, rfl, ho0, hb⟩; have n0_ := Aside0.mk (Kd.R_lower ho0 (below_size (by repeat (first | (with_reducible first | exact HB.out | apply below_alloc | apply pw_below_drewN | apply below_drew1) | exact HB.out)))); have n1_ := Aside0.mk (below_step (by repeat (first | (with_reducible first | exact HB.out | apply below_alloc | apply pw_below_drewN | apply below_drew1) | exact HB.out)) hb); clear HB; have HO248 := n0_; have HB := n1_; clear n0_ n1_; (try clear hb); (try clear hb2); (try clear hk); (try clear hi); (try clear ho0); have hcv14 := own_string (P := Try.prog) Try.underlying40 Try.underlying5 Try.underlying9 (Kd.own_of_R HO248.out); have hcvq14 := fun n_ => own_string (P := Try.prog) Try.underlying40 Try.underlying5 Try.underlying9 (Kd.own_of_R (Kd.R_drewN HO248.out n_)); obtain ⟨i015, hi015, _, hsz15, _⟩ := info_parts info5; obtain ⟨hcut15, hA15, hC15⟩ := print_take_of (P := Try.prog) (Value.int .u8) 0 40 5 .i64 Try.underlying40 hi015 hsz15 (some ad244) c0 l0 (ji9) (of_decide_eq_true (by first | (with_reducible assumption) | assumption)) (of_decide_eq_true (by first | (with_reducible assumption) | assumption)) HC0.out; have HR249 := Aside0.mk (Kd.C_of_reads (h1 := fun _ => rfl) (hA15 _ (Kd.reads_of_C HR0.out))); have HC249 := Aside0.mk hC15; clear hA15 hC15 hi015 hsz15; have hcv16 := Kd.C_string (P := Try.prog) (A := (some ad244)) (c := c0) Try.underlying40 Try.underlying5 Try.underlying9 (Kd.C_below HR249.out HB.out); have hcvq16 := fun n_ => Kd.C_string (P := Try.prog) (A := (some ad244)) (c := c0) Try.underlying40 Try.underlying5 Try.underlying9 (Kd.C_below HR249.out (pw_below_drewN HB.out n_)); have hq1_ : 0 ≤ ji9 := of_decide_eq_true (by first | (with_reducible assumption) | assumption); have hq2_ : ji9 ≤ (l0.length : Int) := of_decide_eq_true (by first | (with_reducible assumption) | assumption); have hln_ : (List.take ji9.toNat l0).length = ji9.toNat := (by rw [List.length_take]; omega); have hcvs16 := hcvq16; rw [hln_] at hcvs16; clear hln_ hq1_ hq2_)))
                        go_ret3
                        exact ⟨by first | rfl | (simp [errW_none, errW_some] <;> rfl) | (simp only [← hji9]; first | rfl | (simp [errW_none, errW_some] <;> rfl)) | (simp [*, errW_none, errW_some] <;> rfl), by repeat (first | (with_reducible first | exact HB.out | apply below_alloc | apply pw_below_drewN | apply below_drew1) | exact HB.out)⟩
                      · rw [if_neg c12] at H
                        have c12b0 : ((strOfNums t246).toList == (strOfNums (l0.take ((ji9) : Int).toNat)).toList) = false := beq_eq_false_iff_ne.mpr c12
                        have c12b1 : ((strOfNums t246).toList != (strOfNums (l0.take ((ji9) : Int).toNat)).toList) = true := bne_iff_ne.mpr c12
                        simp only [Option.some.injEq, Prod.mk.injEq] at H
                        obtain ⟨rfl, rfl, rfl⟩ := H
                        have p244 : 0 ≤ (x6_1 : Int) := of_decide_eq_true (by first | (with_reducible assumption) | assumption)
                        have q244 : x6_1 < (l0.length : Int) := of_decide_eq_true (by first | (with_reducible assumption) | assumption)
                        obtain ⟨ad244, e244, hx244_0⟩ := Kd.at_int HR0.out x6_1 p244 q244
                        cases e244
                        replace hx244_0 := (HB.out.cell (World.block_lt_of_cell? w _ hx244_0)).trans hx244_0
                        replace p244 := eq_true p244
                        replace q244 := eq_true q244
                        have p245 : 0 ≤ (x6_1 : Int) := of_decide_eq_true (by first | (with_reducible assumption) | assumption)
                        have q245 : x6_1 < (l0.length : Int) := of_decide_eq_true (by first | (with_reducible assumption) | assumption)
                        obtain ⟨ad245, e245, hx245_0⟩ := Kd.at_int HR0.out x6_1 p245 q245
                        obtain rfl : ad244 = ad245 := (by injection e245)
                        replace hx245_0 := (HB.out.cell (World.block_lt_of_cell? w _ hx245_0)).trans hx245_0
                        replace p245 := eq_true p245
                        replace q245 := eq_true q245
                        go_wp2_with (first | (go_at_call 86; (with_reducible refine (rolodexref01_Put.calls kj1 (IntKind.u64.wrap ((IntKind.u64.wrap (128 * x5_1)) + (IntKind.u64.wrap (Int.tmod (rd l0 x6_1) 128)))) t246 _ A8.out).mono ?_); rintro e w17 ⟨v247, rfl, ho0, hb⟩; have n0_ := Aside0.mk (Kd.R_lower ho0 (below_size (by repeat (first | (with_reducible first | exact HB.out | apply below_alloc | apply pw_below_drewN | apply below_drew1) | exact HB.out)))); have n1_ := Aside0.mk (below_step (by repeat (first | (with_reducible first | exact HB.out | apply below_alloc | apply pw_below_drewN | apply below_drew1) | exact HB.out)) hb); clear HB; have HO248 := n0_; have HB := n1_; clear n0_ n1_; (try clear hb); (try clear hb2); (try clear hk); (try clear hi); (try clear ho0); have hcv18 := own_string (P := Try.prog) Try.underlying40 Try.underlying5 Try.underlying9 (Kd.own_of_R HO248.out); have hcvq18 := fun n_ => own_string (P := Try.prog) Try.underlying40 Try.underlying5 Try.underlying9 (Kd.own_of_R (Kd.R_drewN HO248.out n_)); obtain ⟨i019, hi019, _, hsz19, _⟩ := info_parts info5; obtain ⟨hcut19, hA19, hC19⟩ := print_take_of (P := Try.prog) (Value.int .u8) 0 40 5 .i64 Try.underlying40 hi019 hsz19 (some ad244) c0 l0 (ji9) (of_decide_eq_true (by first | (with_reducible assumption) | assumption)) (of_decide_eq_true (by first | (with_reducible assumption) | assumption)) HC0.out; have HR249 := Aside0.mk (Kd.C_of_reads (h1 := fun _ => rfl) (hA19 _ (Kd.reads_of_C HR0.out))); have HC249 := Aside0.mk hC19; clear hA19 hC19 hi019 hsz19; have hcv20 := Kd.C_string (P := Try.prog) (A := (some ad244)) (c := c0) Try.underlying40 Try.underlying5 Try.underlying9 (Kd.C_below HR249.out HB.out); have hcvq20 := fun n_ => Kd.C_string (P := Try.prog) (A := (some ad244)) (c := c0) Try.underlying40 Try.underlying5 Try.underlying9 (Kd.C_below HR249.out (pw_below_drewN HB.out n_)); have hq1_ : 0 ≤ ji9 := of_decide_eq_true (by first | (with_reducible assumption) | assumption); have hq2_ : ji9 ≤ (l0.length : Int) := of_decide_eq_true (by first | (with_reducible assumption) | assumption); have hln_ : (List.take ji9.toNat l0).length = ji9.toNat := (by rw [List.length_take]; omega); have hcvs20 := hcvq20; rw [hln_] at hcvs20; clear hln_ hq1_ hq2_))
                        repeat (go_quiet (first | (go_at_call 86; (with_reducible refine (rolodexref01_Put.calls kj1 (IntKind.u64.wrap ((IntKind.u64.wrap (128 * x5_1)) + (IntKind.u64.wrap (Int.tmod (rd l0 x6_1) 128)))) t246 _ A8.out).mono ?_); rintro e w17 ⟨v247, rfl, ho0, hb⟩; have n0_ := Aside0.mk (Kd.R_lower ho0 (below_size (by repeat (first | (with_reducible first | exact HB.out | apply below_alloc | apply pw_below_drewN | apply below_drew1) | exact HB.out)))); have n1_ := Aside0.mk (below_step (by repeat (first | (with_reducible first | exact HB.out | apply below_alloc | apply pw_below_drewN | apply below_drew1) | exact HB.out)) hb); clear HB; have HO248 := n0_; have HB := n1_; clear n0_ n1_; (try clear hb); (try clear hb2); (try clear hk); (try clear hi); (try clear ho0); have hcv18 := own_string (P := Try.prog) Try.underlying40 Try.underlying5 Try.underlying9 (Kd.own_of_R HO248.out); have hcvq18 := fun n_ => own_string (P := Try.prog) Try.underlying40 Try.underlying5 Try.underlying9 (Kd.own_of_R (Kd.R_drewN HO248.out n_)); obtain ⟨i019, hi019, _, hsz19, _⟩ := info_parts info5; obtain ⟨hcut19, hA19, hC19⟩ := print_take_of (P := Try.prog) (Value.int .u8) 0 40 5 .i64 Try.underlying40 hi019 hsz19 (some ad244) c0 l0 (ji9) (of_decide_eq_true (by first | (with_reducible assumption) | assumption)) (of_decide_eq_true (by first | (with_reducible assumption) | assumption)) HC0.out; have HR249 := Aside0.mk (Kd.C_of_reads (h1 := fun _ => rfl) (hA19 _ (Kd.reads_of_C HR0.out))); have HC249 := Aside0.mk hC19; clear hA19 hC19 hi019 hsz19; have hcv20 := Kd.C_string (P := Try.prog) (A := (some ad244)) (c := c0) Try.underlying40 Try.underlying5 Try.underlying9 (Kd.C_below HR249.out HB.out); have hcvq20 := fun n_ => Kd.C_string (P := Try.prog) (A := (some ad244)) (c := c0) Try.underlying40 Try.underlying5 Try.underlying9 (Kd.C_below HR249.out (pw_below_drewN HB.out n_)); have hq1_ : 0 ≤ ji9 := of_decide_eq_true (by first | (with_reducible assumption) | assumption); have hq2_ : ji9 ≤ (l0.length : Int) := of_decide_eq_true (by first | (with_reducible assumption) | assumption); have hln_ : (List.take ji9.toNat l0).length = ji9.toNat := (by rw [List.length_take]; omega); have hcvs20 := hcvq20; rw [hln_] at hcvs20; clear hln_ hq1_ hq2_)); try go_wp2_with (first | (go_at_call 86; (with_reducible refine (rolodexref01_Put.calls kj1 (IntKind.u64.wrap ((IntKind.u64.wrap (128 * x5_1)) + (IntKind.u64.wrap (Int.tmod (rd l0 x6_1) 128)))) t246 _ A8.out).mono ?_); rintro e w17 ⟨v247, rfl, ho0, hb⟩; have n0_ := Aside0.mk (Kd.R_lower ho0 (below_size (by repeat (first | (with_reducible first | exact HB.out | apply below_alloc | apply pw_below_drewN | apply below_drew1) | exact HB.out)))); have n1_ := Aside0.mk (below_step (by repeat (first | (with_reducible first | exact HB.out | apply below_alloc | apply pw_below_drewN | apply below_drew1) | exact HB.out)) hb); clear HB; have HO248 := n0_; have HB := n1_; clear n0_ n1_; (try clear hb); (try clear hb2); (try clear hk); (try clear hi); (try clear ho0); have hcv18 := own_string (P := Try.prog) Try.underlying40 Try.underlying5 Try.underlying9 (Kd.own_of_R HO248.out); have hcvq18 := fun n_ => own_string (P := Try.prog) Try.underlying40 Try.underlying5 Try.underlying9 (Kd.own_of_R (Kd.R_drewN HO248.out n_)); obtain ⟨i019, hi019, _, hsz19, _⟩ := info_parts info5; obtain ⟨hcut19, hA19, hC19⟩ := print_take_of (P := Try.prog) (Value.int .u8) 0 40 5 .i64 Try.underlying40 hi019 hsz19 (some ad244) c0 l0 (ji9) (of_decide_eq_true (by first | (with_reducible assumption) | assumption)) (of_decide_eq_true (by first | (with_reducible assumption) | assumption)) HC0.out; have HR249 := Aside0.mk (Kd.C_of_reads (h1 := fun _ => rfl) (hA19 _ (Kd.reads_of_C HR0.out))); have HC249 := Aside0.mk hC19; clear hA19 hC19 hi019 hsz19; have hcv20 := Kd.C_string (P := Try.prog) (A := (some ad244)) (c := c0) Try.underlying40 Try.underlying5 Try.underlying9 (Kd.C_below HR249.out HB.out); have hcvq20 := fun n_ => Kd.C_string (P := Try.prog) (A := (some ad244)) (c := c0) Try.underlying40 Try.underlying5 Try.underlying9 (Kd.C_below HR249.out (pw_below_drewN HB.out n_)); have hq1_ : 0 ≤ ji9 := of_decide_eq_true (by first | (with_reducible assumption) | assumption); have hq2_ : ji9 ≤ (l0.length : Int) := of_decide_eq_true (by first | (with_reducible assumption) | assumption); have hln_ : (List.take ji9.toNat l0).length = ji9.toNat := (by rw [List.length_take]; omega); have hcvs20 := hcvq20; rw [hln_] at hcvs20; clear hln_ hq1_ hq2_)))
                        go_ret3
                        exact ⟨by first | rfl | (simp [errW_none, errW_some] <;> rfl) | (simp only [← hji9]; first | rfl | (simp [errW_none, errW_some] <;> rfl)) | (simp [*, errW_none, errW_some] <;> rfl), by repeat (first | (with_reducible first | exact HB.out | apply below_alloc | apply pw_below_drewN | apply below_drew1) | exact HB.out)⟩
                    · rw [if_neg c11] at H
                      exact absurd H (by simp)
                  · rw [if_neg c10] at H
                    exact absurd H (by simp)
                · rw [if_neg c7] at H
                  have c7b0 : decide ((rd l0 x6_1) < 128) = false := decide_eq_false c7
                  clear c7
                  have H' := Aside0.mk H
                  clear H
                  have p244 : 0 ≤ (x6_1 : Int) := of_decide_eq_true (by first | (with_reducible assumption) | assumption)
                  have q244 : x6_1 < (l0.length : Int) := of_decide_eq_true (by first | (with_reducible assumption) | assumption)
                  obtain ⟨ad244, e244, hx244_0⟩ := Kd.at_int HR0.out x6_1 p244 q244
                  cases e244
                  replace hx244_0 := (HB.out.cell (World.block_lt_of_cell? w _ hx244_0)).trans hx244_0
                  replace p244 := eq_true p244
                  replace q244 := eq_true q244
                  have p245 : 0 ≤ (x6_1 : Int) := of_decide_eq_true (by first | (with_reducible assumption) | assumption)
                  have q245 : x6_1 < (l0.length : Int) := of_decide_eq_true (by first | (with_reducible assumption) | assumption)
                  obtain ⟨ad245, e245, hx245_0⟩ := Kd.at_int HR0.out x6_1 p245 q245
                  obtain rfl : ad244 = ad245 := (by injection e245)
                  replace hx245_0 := (HB.out.cell (World.block_lt_of_cell? w _ hx245_0)).trans hx245_0
                  replace p245 := eq_true p245
                  replace q245 := eq_true q245
                  go_wp2
                  repeat (go_quiet (fail); try go_wp2)
                  go_roundg kj1
                  case measure => have := HK1.out; have := HJ1.out; omega
                  case rel => exact ⟨(IntKind.u64.wrap ((IntKind.u64.wrap (128 * x5_1)) + (IntKind.u64.wrap (Int.tmod (rd l0 x6_1) 128)))), (wrap64 (x6_1 + 1)), (by first | rfl | (simp; done) | (simp [*]; done)), (by first | rfl | (simp; done) | (simp [*]; done)), H', ⟨by have := HK1.out; have := HJ1.out; omega⟩, ⟨by repeat (first | (with_reducible first | exact HB.out | apply below_alloc | apply pw_below_drewN | apply below_drew1) | exact HB.out)⟩⟩
              · rw [if_neg c6] at H
                exact absurd H (by simp)
            · rw [if_neg c5] at H
              exact absurd H (by simp)
          · replace c4 := Bool.eq_false_iff.mpr c4
            subst c4
            have H1 : (some (0, 0, false)) = some (r1, r2, r3) := by rw [if_neg (show ¬ (false = true) by decide)] at H; exact H
            clear H
            have H := H1
            clear H1
            simp only [Option.some.injEq, Prod.mk.injEq] at H
            obtain ⟨rfl, rfl, rfl⟩ := H
            go_wp2
            repeat (go_quiet (fail); try go_wp2)
            go_ret3
            exact ⟨by first | rfl | (simp [errW_none, errW_some] <;> rfl) | (simp [*, errW_none, errW_some] <;> rfl), by repeat (first | (with_reducible first | exact HB.out | apply below_alloc | apply pw_below_drewN | apply below_drew1) | exact HB.out)⟩

end Go.Proofs.Ytchaegfdcdlfaaa.X

namespace Go.Proofs.Ytchaegfdcdlfaaa.X
open Go.RowKit Go.Proofs.YtchaegfdcdlfaaaW.PrintWords Go.Proofs.YtchaegfdcdlfaaaW.PrintLast Go.Proofs.YtchaegfdcdlfaaaW.PrintMore
attribute [local go_sem] max2_int min2_int max_two min_two max_three min_three max_four min_four   -- for this text's walks alone
set_option linter.unusedVariables false
set_option linter.unusedSimpArgs false

def rolodexref01_Text.f (k : Nat) (a0 : ByteArray) : Option (List Int) := (rolodexref01_Put.f k (IntKind.u64.wrap ((a0.size : Int)))).bind fun t457 => (if t457.length + a0.size < 140737488355328 then (some (t457 ++ bytesOf a0)) else (none))
theorem rolodexref01_Text.mono : ∀ a0 k, LeO (rolodexref01_Text.f k a0) (rolodexref01_Text.f (k + 1) a0) := by
  intro a0 k
  unfold rolodexref01_Text.f
  repeat' first
      | (with_reducible exact rolodexref01_Put.mono _ _)
      | (with_reducible exact LeO.refl _)
      | (with_reducible exact LeO.none _)
      | (with_reducible refine LeO.ite ?_ ?_)
      | (with_reducible refine LeO.bind ?_ (fun _ => ?_))
      | exact rolodexref01_Put.mono _ _
      | exact LeO.none _
      | refine LeO.ite ?_ ?_
      | refine LeO.bind ?_ (fun _ => ?_)
set_option maxHeartbeats 8000000 in
set_option maxRecDepth 100000 in
theorem rolodexref01_Text.calls (k : Nat) (a0 : ByteArray) (r : List Int) (w : World) (h : rolodexref01_Text.f k a0 = some r) :
    Calls Try.prog 94 #[.string a0] w fun e w' => ∃ v0_ : Value, e = .returned (v0_) ∧ Kd.R (Kd.int .u8) 5 w' w.heap.size (fun _ => True) v0_ r ∧ Below w.heap.size w w' := by
  have HB := Aside0.mk (Below.refl w.heap.size w)
  have H : ((rolodexref01_Put.f k (IntKind.u64.wrap ((a0.size : Int)))).bind fun t457 => (if t457.length + a0.size < 140737488355328 then (some (t457 ++ bytesOf a0)) else (none))) = some r := h
  clear h
  replace H := Option.bind_eq_some_iff.mp H
  obtain ⟨t457, A20, H⟩ := H
  replace H : (if t457.length + a0.size < 140737488355328 then (some (t457 ++ bytesOf a0)) else (none)) = some r := H
  have A2 := Aside0.mk A20
  clear A20
  by_cases c3 : t457.length + a0.size < 140737488355328
  · rw [if_pos c3] at H
    have LMc3 := Aside0.mk c3
    clear c3
    obtain ⟨y460, hy460⟩ : ∃ y_ : List Int, y_ = (t457 ++ bytesOf a0) := ⟨_, rfl⟩
    replace H : (some y460) = some r := by first | (rw [hy460]; with_reducible exact H) | (have H2_ := (Option.bind_some _ _).symm.trans H; rw [hy460]; with_reducible exact H2_) | (have H2_ := (Option.bind_some _ _).symm.trans H; with_reducible exact H2_) | with_reducible exact H | (rw [hy460]; exact H) | exact H
    have Ny460 := Aside0.mk hy460
    clear hy460
    obtain rfl := Option.some.inj H
    go_enter Try.func94, Try.ntmps94
    go_wp2_with (first | ((with_reducible refine gate_callee (f := 86) rfl ?_); refine goesL_ (some 6) rfl rfl Try.func86 (by kernel_rfl) rfl #[.int .u64 (IntKind.u64.wrap ((a0.size : Int)))] rfl (by (try simp only [List.map_toArray, List.map_cons, List.map_nil]); first | done | rfl | (simp only [List.length_drop, List.length_take]; rfl)) ?_; (with_reducible refine (rolodexref01_Put.calls k (IntKind.u64.wrap ((a0.size : Int))) t457 _ A2.out).mono ?_); rintro e w4 ⟨v458, rfl, ho0, hb⟩; refine ⟨_, rfl, ?_⟩; have n0_ := Aside0.mk (Kd.R_lower ho0 (below_size (by repeat (first | (with_reducible first | exact HB.out | apply below_alloc | apply pw_below_drewN | apply below_drew1) | exact HB.out)))); have n1_ := Aside0.mk (below_step (by repeat (first | (with_reducible first | exact HB.out | apply below_alloc | apply pw_below_drewN | apply below_drew1) | exact HB.out)) hb); clear HB; have HO459 := n0_; have HB := n1_; clear n0_ n1_; (try clear hb); (try clear hb2); (try clear hk); (try clear hi); (try clear ho0)) | (at_builtin; refine print_append_str (w0 := w) w.heap.size rfl (.tmp 6) _ 40 9 5 rfl Try.underlying40 Try.underlying9 info5 v458 t457 a0 rfl rfl ?aO ?aB ?aS ?aL ?_; (case aB => exact (by repeat (first | (with_reducible first | exact HB.out | apply below_alloc | apply pw_below_drewN | apply below_drew1) | exact HB.out))); (case aO => exact (Kd.own_of_R (by (with_reducible repeat (first | apply Kd.R_alloc | apply Kd.R_drewN | apply Kd.R_drew)); exact HO459.out))); (case aS => exact (below_size (by repeat (first | (with_reducible first | exact HB.out | apply below_alloc | apply pw_below_drewN | apply below_drew1) | exact HB.out)))); (case aL => have := LMc3.out; omega); intro v461 w5 ho0 hb hg; have ho := Kd.R_of_own (h1 := fun _ => rfl) (ok := fun _ => True) ho0 (fun _ _ => trivial); clear ho0; have hat := True.intro; rw [← Ny460.out] at ho; change Kd.R (Kd.int .u8) 5 w5 w.heap.size (fun _ => True) v461 y460 at ho; have n0_ := Aside0.mk (hb); have n1_ := Aside0.mk (ho); clear HB; clear HO459; have HB := n0_; have HO462 := n1_; clear n0_ n1_; clear ho hb hg hat))
    go_ret
    exact ⟨_, by first | rfl | (simp [errW_none, errW_some] <;> rfl) | (simp [*, errW_none, errW_some] <;> rfl), by (with_reducible repeat (first | apply Kd.R_alloc | apply Kd.R_drewN | apply Kd.R_drew)); exact HO462.out, by repeat (first | (with_reducible first | exact HB.out | apply below_alloc | apply pw_below_drewN | apply below_drew1) | exact HB.out)⟩
  · rw [if_neg c3] at H
    exact absurd H (by simp)

end Go.Proofs.Ytchaegfdcdlfaaa.X
