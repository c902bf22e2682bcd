/- Texts of this claim, one behind the other: DMake, DMk, Xx1, Xx61, Xx62, Xx63, XxDMay, DMay, DPlain, GAwk, DAwk, DTools, Xx40, Xx41, Xx64, Xx44, Xx42, Xx45, XxWire, WRead, Xx66. -/
import Derived.WalkLawsBesides
import Derived.Test.YtchaegfdcdlfaaaE1v
import Derived.WalkMore
import Derived.ScopeJumps

/- delta.Make: the maker's steps. -/
namespace Go.Proofs.Ytchaegfdcdlfaaa.X
set_option linter.unusedVariables false
set_option linter.unusedSimpArgs false
open Go.RowKit Go.Maps Go.Proofs.YtchaegfdcdlfaaaW.PrintWords Go.Proofs.YtchaegfdcdlfaaaW.PrintLast Go.Proofs.YtchaegfdcdlfaaaW.PrintMore

/-- A maker at its block, with the pieces so far. -/
def MkSt (W : World) (base mb : Nat) (v : Value) (l : List S67) : Prop :=
  W.heap[mb]? = some (.cells #[v] 128 (0, 0)) ∧ base ≤ mb ∧ k67.R 67 W base (fun k => k ≠ mb) v l
theorem MkSt.lt {W : World} {base mb : Nat} {v : Value} {l : List S67} (h : MkSt W base mb v l) : mb < W.heap.size := blk_lt h.1
theorem MkSt.cell {W : World} {base mb : Nat} {v : Value} {l : List S67} (h : MkSt W base mb v l) : W.cell? ⟨mb, 0, none⟩ = some v := by rw [blk_cell h.1]; rfl
theorem MkSt.free {W : World} {base mb : Nat} {v : Value} {l : List S67} (h : MkSt W base mb v l) : W.frozen? ⟨mb, 0, none⟩ = false := blk_frozen h.1 0
theorem MkSt.below {W W' : World} {base mb : Nat} {v : Value} {l : List S67} (h : MkSt W base mb v l) (hb : Below W.heap.size W W') : MkSt W' base mb v l :=
  ⟨(hb.block mb h.lt).trans h.1, h.2.1, Kd.R_below h.2.2 hb⟩
/-- Another list is put. -/
theorem MkSt.put {W W2 : World} {base mb : Nat} {v v2 : Value} {l l2 : List S67} (h : MkSt W base mb v l) (hg : W.grownBy W2 v.ownBlock) (hR : k67.R 67 W2 base (fun k => k ≠ mb) v2 l2) : MkSt (W2.setCell ⟨mb, 0, none⟩ v2) base mb v2 l2 := by
  have hb : W2.heap[mb]? = some (.cells #[v] 128 (0, 0)) := blk_grown h.1 hg (fun he => h.2.2.1 mb he.symm rfl)
  exact ⟨blk_put hb 0 v2 rfl, h.2.1, Kd.R_move hR (fun k hk => Below.heap_setCell W2 ⟨mb, 0, none⟩ v2 k hk)⟩
/-- The last piece's cells. -/
theorem last_at {W : World} {base mb : Nat} {v : Value} {l : List S67} {n : Nat} (h : MkSt W base mb v l) (hn : l.length = n) (h0 : 0 < n) (p : S67) (hp : l.getD (n - 1) z67 = p) :
    ∃ g c, v = .slice (some ⟨g, 0, none⟩) n c ∧ g ≠ mb ∧ base ≤ g ∧ g < W.heap.size ∧ W.cell? ⟨g, (n - 1) * 4, none⟩ = some (.bool p.f0) ∧ W.cell? ⟨g, (n - 1) * 4 + 1, none⟩ = some (.int .i64 p.f1) ∧ W.cell? ⟨g, (n - 1) * 4 + 2, none⟩ = some (.int .i64 p.f2) ∧ W.cell? ⟨g, (n - 1) * 4 + 3, none⟩ = some (.string p.f3) := by
  subst hn
  obtain ⟨g, c, rfl, hb, hg, cells, hc⟩ := Kd.R_form h.2.2 h0
  obtain ⟨_, _, hC⟩ := Kd.R_reads' h.2.2
  obtain ⟨ad, cs, hA, hcl, hk, hcell⟩ := Kd.C_get hC z67 ((l.length - 1 : Nat) : Int) (by omega) (by omega)
  injection hA with hA
  subst hA
  rw [Int.toNat_natCast, hp] at hk
  rw [Int.toNat_natCast] at hcell
  have hcs := k67_open hk
  subst hcs
  have ea : ∀ j, (⟨g, 0, none⟩ : Addr).add ((l.length - 1) * k67.sz + j) = ⟨g, (l.length - 1) * 4 + j, none⟩ := fun j => by
    show (⟨g, 0, none⟩ : Addr).add ((l.length - 1) * 4 + j) = _
    unfold Addr.add
    split <;> simp_all
  have hcell2 : ∀ j u, _ → W.cell? ⟨g, (l.length - 1) * 4 + j, none⟩ = some u := fun j u hj => (ea j) ▸ hcell j u hj
  refine ⟨g, c, rfl, ?_, hb, hg, hcell2 0 _ rfl, hcell2 1 _ rfl, hcell2 2 _ rfl, hcell2 3 _ rfl⟩
  exact h.2.2.1 g (by simp [Value.ownBlock])
set_option maxHeartbeats 1000000 in
set_option maxRecDepth 100000 in
theorem last_none (base mb : Nat) (v : Value) (b : Bool) (w : World) (h : MkSt w base mb v []) : Calls Try.prog 144 #[.pointer (some ⟨mb, 0, none⟩), .bool b] w fun e w' => e = .returned (.pointer none) ∧ Below w.heap.size w w' := by
  obtain ⟨A, c, rfl⟩ := Kd.R_slice h.2.2
  have hc := h.cell
  have hf := h.free
  clear h
  go_enter Try.func144, Try.ntmps144
  go_wp2_with fail
  go_ret
  exact ⟨rfl, by repeat (first | exact Below.refl _ _ | apply below_drew | apply pw_below_drewN)⟩
set_option maxHeartbeats 1000000 in
set_option maxRecDepth 100000 in
theorem last_off (base mb : Nat) (l : List S67) (n g c : Nat) (hn : l.length = n) (h0 : 0 < n) (hl : n ≤ 1000000000) (p : S67) (hp : l.getD (n - 1) z67 = p) (b : Bool) (hb : (p.f0 == b) = false) (w : World) (h : MkSt w base mb (.slice (some ⟨g, 0, none⟩) n c) l) :
    Calls Try.prog 144 #[.pointer (some ⟨mb, 0, none⟩), .bool b] w fun e w' => e = .returned (.pointer none) ∧ Below w.heap.size w w' := by
  obtain ⟨g', c', hv, hgm, hbg, hgs, x0, x1, x2, x3⟩ := last_at h hn h0 p hp
  injection hv with hv1 _ hv2
  injection hv1 with hv1
  injection hv1 with hv1
  subst hv1
  subst hv2
  have hc := h.cell
  have hf := h.free
  have e0 : decide ((n : Int) > 0) = true := by simp; omega
  have e0b : decide (0 < n) = true := by simp; omega
  obtain ⟨m, hm⟩ : ∃ m, m = n - 1 := ⟨_, rfl⟩
  have e1 : IntKind.i64.wrap ((n : Int) - 1) = (m : Int) := by simp [IntKind.wrap, IntKind.bits, IntKind.signed]; omega
  have e2 : ((m : Int) < (n : Int)) = True := by simp; omega
  have e2n : (m < n) = True := by simp; omega
  have e3 : (0 ≤ (m : Int)) = True := by simp
  rw [← hm] at x0 x1 x2 x3
  try rw [← hm]
  clear h hn hp hgm hbg hgs hm
  go_enter Try.func144, Try.ntmps144
  go_wp2_with fail
  go_ret
  exact ⟨rfl, by repeat (first | exact Below.refl _ _ | apply below_drew | apply pw_below_drewN)⟩
set_option maxHeartbeats 1000000 in
set_option maxRecDepth 100000 in
theorem last_on (base mb : Nat) (l : List S67) (n g c : Nat) (hn : l.length = n) (h0 : 0 < n) (hl : n ≤ 1000000000) (p : S67) (hp : l.getD (n - 1) z67 = p) (b : Bool) (hb : (p.f0 == b) = true) (w : World) (h : MkSt w base mb (.slice (some ⟨g, 0, none⟩) n c) l) :
    Calls Try.prog 144 #[.pointer (some ⟨mb, 0, none⟩), .bool b] w fun e w' => e = .returned (.pointer (some ⟨g, (n - 1) * 4, none⟩)) ∧ Below w.heap.size w w' := by
  obtain ⟨g', c', hv, hgm, hbg, hgs, x0, x1, x2, x3⟩ := last_at h hn h0 p hp
  injection hv with hv1 _ hv2
  injection hv1 with hv1
  injection hv1 with hv1
  subst hv1
  subst hv2
  have hc := h.cell
  have hf := h.free
  have e0 : decide ((n : Int) > 0) = true := by simp; omega
  have e0b : decide (0 < n) = true := by simp; omega
  obtain ⟨m, hm⟩ : ∃ m, m = n - 1 := ⟨_, rfl⟩
  have e1 : IntKind.i64.wrap ((n : Int) - 1) = (m : Int) := by simp [IntKind.wrap, IntKind.bits, IntKind.signed]; omega
  have e2 : ((m : Int) < (n : Int)) = True := by simp; omega
  have e2n : (m < n) = True := by simp; omega
  have e3 : (0 ≤ (m : Int)) = True := by simp
  rw [← hm] at x0 x1 x2 x3
  try rw [← hm]
  clear h hn hp hgm hbg hgs hm
  go_enter Try.func144, Try.ntmps144
  go_wp2_with fail
  go_ret
  exact ⟨rfl, by repeat (first | exact Below.refl _ _ | apply below_drew | apply pw_below_drewN)⟩
theorem last_cells {W : World} {base mb : Nat} {v : Value} {l : List S67} {n g c : Nat} (h : MkSt W base mb v l) (hn : l.length = n) (h0 : 0 < n) (p : S67) (hp : l.getD (n - 1) z67 = p) (hv : v = .slice (some ⟨g, 0, none⟩) n c) :
    W.cell? ⟨g, (n - 1) * 4, none⟩ = some (.bool p.f0) ∧ W.cell? ⟨g, (n - 1) * 4 + 1, none⟩ = some (.int .i64 p.f1) ∧ W.cell? ⟨g, (n - 1) * 4 + 2, none⟩ = some (.int .i64 p.f2) ∧ W.cell? ⟨g, (n - 1) * 4 + 3, none⟩ = some (.string p.f3) := by
  obtain ⟨g', c', hv', hgm, hbg, hgs, x⟩ := last_at h hn h0 p hp
  rw [hv] at hv'
  injection hv' with hv1 _ hv2
  injection hv1 with hv1
  injection hv1 with hv1
  subst hv1
  exact x
theorem cells4 {W : World} {g o : Nat} {a b c d : Value} (x0 : W.cell? ⟨g, o * 4, none⟩ = some a) (x1 : W.cell? ⟨g, o * 4 + 1, none⟩ = some b) (x2 : W.cell? ⟨g, o * 4 + 2, none⟩ = some c) (x3 : W.cell? ⟨g, o * 4 + 3, none⟩ = some d) :
    ∀ j u, [a, b, c, d][j]? = some u → W.cell? ⟨g, o * 4 + j, none⟩ = some u
  | 0, u, h => by simp at h; subst h; exact x0
  | 1, u, h => by simp at h; subst h; exact x1
  | 2, u, h => by simp at h; subst h; exact x2
  | 3, u, h => by simp at h; subst h; exact x3
  | j + 4, u, h => by simp at h
theorem MkSt.row {W : World} {base mb : Nat} {v v' : Value} {l : List S67} (h : MkSt W base mb v l) (hv : v = v') : k67.R 67 W base (fun k => k ≠ mb) v' l := by
  subst hv
  exact h.2.2
/-- The list's own row is changed in place. -/
theorem MkSt.same {W W2 : World} {base mb : Nat} {v : Value} {l l2 : List S67} {g n c : Nat} (h : MkSt W base mb v l) (hv : v = .slice (some ⟨g, 0, none⟩) n c) (hg : W.grownBy W2 (some g)) (hR : k67.R 67 W2 base (fun k => k ≠ mb) v l2) : MkSt W2 base mb v l2 := by
  have hb : W2.heap[mb]? = some (.cells #[v] 128 (0, 0)) := blk_grown h.1 hg (fun he => h.2.2.1 mb (by rw [hv]; simpa [Value.ownBlock] using he.symm) rfl)
  exact ⟨hb, h.2.1, hR⟩
/-- A block is put. -/
def blockL (l : List S67) (fr : Int) : List S67 :=
  if 0 < l.length ∧ (l.getD (l.length - 1) z67).f0 = true ∧ IntKind.i64.wrap ((l.getD (l.length - 1) z67).f1 + (l.getD (l.length - 1) z67).f2) = fr then
    l.set (l.length - 1) ⟨(l.getD (l.length - 1) z67).f0, (l.getD (l.length - 1) z67).f1, IntKind.i64.wrap ((l.getD (l.length - 1) z67).f2 + 8), (l.getD (l.length - 1) z67).f3⟩
  else l ++ [⟨true, fr, 8, ⟨#[]⟩⟩]
set_option maxHeartbeats 2000000 in
set_option maxRecDepth 100000 in
theorem block_none (mb : Nat) (v : Value) (l : List S67) (i fr : Nat) (hfr : IntKind.i64.wrap ((i : Int) * 8) = (fr : Int)) (hl : l = []) (w0 w : World) (hB : Below w0.heap.size w0 w) (h : MkSt w w0.heap.size mb v l) (hL : l.length ≤ 1000000000) :
    Calls Try.prog 97 #[.pointer (some ⟨mb, 0, none⟩), .int .i64 (i : Int)] w fun e w' => e = .returned (.tuple #[]) ∧ (∃ v', MkSt w' w0.heap.size mb v' (blockL l (fr : Int))) ∧ Below w0.heap.size w0 w' := by
  have HRES : Aside0 (blockL l (fr : Int) = l ++ [⟨true, (fr : Int), 8, ⟨#[]⟩⟩]) := ⟨by unfold blockL; rw [if_neg]; rw [hl]; simp⟩
  have H := Aside0.mk h
  have HB := Aside0.mk hB
  have HL := Aside0.mk hL
  clear h hB hL
  go_enter Try.func97, Try.ntmps97
  go_wp2_with fail
  refine (last_none _ _ _ _ _ (hl ▸ H.out)).mono ?_
  rintro e w1 ⟨rfl, hb1⟩
  have H1 := Aside0.mk (H.out.below hb1)
  have HB1 := Aside0.mk (below_step HB.out hb1)
  clear hb1 H HB
  go_wp2_with fail
  refine wp_region_held_drew (S := (fun W => MkSt W w0.heap.size mb v l ∧ Below w0.heap.size w0 W)) (by kernel_rfl) ((And.intro H1.out (below_drew HB1.out))) (fun hHeld => ?_)
  refine wpAnyH_take (i := 0) (v := ?_) (by simp only [List.getElem?_toArray, List.getElem?_cons_succ, List.getElem?_cons_zero]; rfl) (by kernel_rfl) (by kernel_rfl) (by kernel_rfl) (by intro _ _ _ h; exact h) (Or.inl ⟨by rfl, ?hy⟩) (by assumption) ?_
  case hy => (intro W_ hW_; go_simp; first | done | with_reducible rfl)
  try simp only [Act.put, List.setIfInBounds_toArray, List.set_cons_zero, List.set_cons_succ]
  refine wpAnyH_take (i := 1) (v := ?_) (by simp only [List.getElem?_toArray, List.getElem?_cons_succ, List.getElem?_cons_zero]; rfl) (by kernel_rfl) (by kernel_rfl) (by kernel_rfl) (by intro _ _ _ h; exact h) (Or.inl ⟨by rfl, ?hy⟩) (by assumption) ?_
  case hy => (intro W_ hW_; go_simp; first | done | with_reducible rfl)
  try simp only [Act.put, List.setIfInBounds_toArray, List.set_cons_zero, List.set_cons_succ]
  refine wpAnyH_take (i := 2) (v := ?_) (by simp only [List.getElem?_toArray, List.getElem?_cons_succ, List.getElem?_cons_zero]; rfl) (by kernel_rfl) (by kernel_rfl) (by kernel_rfl) (by intro _ _ _ h; exact h) (Or.inl ⟨by rfl, ?hy⟩) (by assumption) ?_
  case hy => (intro W_ hW_; go_simp; first | done | with_reducible rfl)
  try simp only [Act.put, List.setIfInBounds_toArray, List.set_cons_zero, List.set_cons_succ]
  refine wpAnyH_take (i := 3) (v := undef) (by simp only [List.getElem?_toArray, List.getElem?_cons_succ, List.getElem?_cons_zero]; rfl) (by kernel_rfl) (by kernel_rfl) (by kernel_rfl) (by intro _ _ _ h; exact h) (Or.inr ⟨by rfl, rfl⟩) (by assumption) ?_
  try simp only [Act.put, List.setIfInBounds_toArray, List.set_cons_zero, List.set_cons_succ]
  refine wpAnyH_take (i := 4) (v := undef) (by simp only [List.getElem?_toArray, List.getElem?_cons_succ, List.getElem?_cons_zero]; rfl) (by kernel_rfl) (by kernel_rfl) (by kernel_rfl) (by intro _ _ _ h; exact h) (Or.inr ⟨by rfl, rfl⟩) (by assumption) ?_
  try simp only [Act.put, List.setIfInBounds_toArray, List.set_cons_zero, List.set_cons_succ]
  refine wpAnyH_take (i := 5) (v := undef) (by simp only [List.getElem?_toArray, List.getElem?_cons_succ, List.getElem?_cons_zero]; rfl) (by kernel_rfl) (by kernel_rfl) (by kernel_rfl) (by intro _ _ _ h; exact h) (Or.inr ⟨by rfl, rfl⟩) (by assumption) ?_
  try simp only [Act.put, List.setIfInBounds_toArray, List.set_cons_zero, List.set_cons_succ]
  refine wpAnyH_take (i := 6) (v := undef) (by simp only [List.getElem?_toArray, List.getElem?_cons_succ, List.getElem?_cons_zero]; rfl) (by kernel_rfl) (by kernel_rfl) (by kernel_rfl) (by intro _ _ _ h; exact h) (Or.inr ⟨by rfl, rfl⟩) (by assumption) ?_
  try simp only [Act.put, List.setIfInBounds_toArray, List.set_cons_zero, List.set_cons_succ]
  refine wpAnyH_take (i := 7) (v := undef) (by simp only [List.getElem?_toArray, List.getElem?_cons_succ, List.getElem?_cons_zero]; rfl) (by kernel_rfl) (by kernel_rfl) (by kernel_rfl) (by intro _ _ _ h; exact h) (Or.inr ⟨by rfl, rfl⟩) (by assumption) ?_
  try simp only [Act.put, List.setIfInBounds_toArray, List.set_cons_zero, List.set_cons_succ]
  refine wpAnyH_take (i := 8) (v := undef) (by simp only [List.getElem?_toArray, List.getElem?_cons_succ, List.getElem?_cons_zero]; rfl) (by kernel_rfl) (by kernel_rfl) (by kernel_rfl) (by intro _ _ _ h; exact h) (Or.inr ⟨by rfl, rfl⟩) (by assumption) ?_
  try simp only [Act.put, List.setIfInBounds_toArray, List.set_cons_zero, List.set_cons_succ]
  refine wpAnyH_take (i := 9) (v := undef) (by simp only [List.getElem?_toArray, List.getElem?_cons_succ, List.getElem?_cons_zero]; rfl) (by kernel_rfl) (by kernel_rfl) (by kernel_rfl) (by intro _ _ _ h; exact h) (Or.inr ⟨by rfl, rfl⟩) (by assumption) ?_
  try simp only [Act.put, List.setIfInBounds_toArray, List.set_cons_zero, List.set_cons_succ]
  refine wpAnyH_take (i := 10) (v := undef) (by simp only [List.getElem?_toArray, List.getElem?_cons_succ, List.getElem?_cons_zero]; rfl) (by kernel_rfl) (by kernel_rfl) (by kernel_rfl) (by intro _ _ _ h; exact h) (Or.inr ⟨by rfl, rfl⟩) (by assumption) ?_
  try simp only [Act.put, List.setIfInBounds_toArray, List.set_cons_zero, List.set_cons_succ]
  refine wpAnyH_take (i := 11) (v := undef) (by simp only [List.getElem?_toArray, List.getElem?_cons_succ, List.getElem?_cons_zero]; rfl) (by kernel_rfl) (by kernel_rfl) (by kernel_rfl) (by intro _ _ _ h; exact h) (Or.inr ⟨by rfl, rfl⟩) (by assumption) ?_
  try simp only [Act.put, List.setIfInBounds_toArray, List.set_cons_zero, List.set_cons_succ]
  refine wpAnyH_take (i := 12) (v := undef) (by simp only [List.getElem?_toArray, List.getElem?_cons_succ, List.getElem?_cons_zero]; rfl) (by kernel_rfl) (by kernel_rfl) (by kernel_rfl) (by intro _ _ _ h; exact h) (Or.inr ⟨by rfl, rfl⟩) (by assumption) ?_
  try simp only [Act.put, List.setIfInBounds_toArray, List.set_cons_zero, List.set_cons_succ]
  refine wpAnyH_take (i := 13) (v := undef) (by simp only [List.getElem?_toArray, List.getElem?_cons_succ, List.getElem?_cons_zero]; rfl) (by kernel_rfl) (by kernel_rfl) (by kernel_rfl) (by intro _ _ _ h; exact h) (Or.inr ⟨by rfl, rfl⟩) (by assumption) ?_
  try simp only [Act.put, List.setIfInBounds_toArray, List.set_cons_zero, List.set_cons_succ]
  refine wpAnyH_take (i := 14) (v := ?_) (by simp only [List.getElem?_toArray, List.getElem?_cons_succ, List.getElem?_cons_zero]; rfl) (by kernel_rfl) (by kernel_rfl) (by kernel_rfl) (by intro _ _ _ h; exact h) (Or.inl ⟨by rfl, ?hy⟩) (by assumption) ?_
  case hy => (intro W_ hW_; go_simp; first | done | with_reducible rfl)
  try simp only [Act.put, List.setIfInBounds_toArray, List.set_cons_zero, List.set_cons_succ]
  refine wpAnyH_done (by kernel_rfl) ?_ _
  have hc := hHeld.1.cell
  have hf := hHeld.1.free
  go_wp2_with (first
    | ((with_reducible refine gate_builtin (b := .append) (xs := #[.tmp 36, .tmp 39]) rfl ?_); at_builtin; refine Kd.R_append k67 (w0 := w0) w0.heap.size rfl _ _ 55 67 (.agg #[(.bool false), (.int .i64 0), (.int .i64 0), (.string ⟨#[]⟩)]) 40 rfl Try.underlying55 info67 rfl (by decide) (by omega) v l (⟨true, (fr : Int), 8, ⟨#[]⟩⟩ : S67) [.bool true, .int .i64 (fr : Int), .int .i64 8, .string ⟨#[]⟩] (fun k => k ≠ mb) (fun _ => False) rfl (by first | (go_simp; done) | (go_simp; rfl)) (k67_mkM _ _ _ (⟨true, (fr : Int), 8, ⟨#[]⟩⟩ : S67)) (fun _ hk => hk.elim) ?aF hHeld.1.2.2 hHeld.2 (below_size hHeld.2) (by have := HL.out; omega) ?_; (case aF => exact fun k hk he => by have := MkSt.lt hHeld.1; omega); intro v2 w2 hR2 hB2 hg2 hat2; obtain ⟨A2, c2, hv9⟩ := Kd.R_slice hR2; obtain ⟨N2, hN2⟩ : ∃ N, (l ++ [(⟨true, (fr : Int), 8, ⟨#[]⟩⟩ : S67)]).length = N := ⟨_, rfl⟩; rw [hN2] at hv9; clear hN2; subst hv9; have HP := Aside0.mk (MkSt.put hHeld.1 hg2 hR2); have hb2 := blk_grown hHeld.1.1 hg2 (fun he => hHeld.1.2.2.1 mb he.symm rfl); have hc2 : w2.cell? ⟨mb, 0, none⟩ = some v := (by rw [blk_cell hb2]; rfl); have hf2 := blk_frozen hb2 0; have HB2 := Aside0.mk (below_set (j := 0) (v := .slice A2 N2 c2) hB2 hHeld.1.2.1); clear hR2 hB2 hg2 hat2 hb2)
    | fail)
  go_end0
  exact ⟨rfl, ⟨_, by rw [HRES.out]; exact HP.out⟩, HB2.out⟩
set_option maxHeartbeats 2000000 in
set_option maxRecDepth 100000 in
theorem block_lit (mb : Nat) (v : Value) (l : List S67) (i fr : Nat) (hfr : IntKind.i64.wrap ((i : Int) * 8) = (fr : Int)) (n g c : Nat) (hn : l.length = n) (h0 : 0 < n) (p : S67) (hp : l.getD (n - 1) z67 = p) (hv : v = .slice (some ⟨g, 0, none⟩) n c) (hb : p.f0 = false) (w0 w : World) (hB : Below w0.heap.size w0 w) (h : MkSt w w0.heap.size mb v l) (hL : l.length ≤ 1000000000) :
    Calls Try.prog 97 #[.pointer (some ⟨mb, 0, none⟩), .int .i64 (i : Int)] w fun e w' => e = .returned (.tuple #[]) ∧ (∃ v', MkSt w' w0.heap.size mb v' (blockL l (fr : Int))) ∧ Below w0.heap.size w0 w' := by
  have HRES : Aside0 (blockL l (fr : Int) = l ++ [⟨true, (fr : Int), 8, ⟨#[]⟩⟩]) := ⟨by unfold blockL; rw [if_neg]; rw [hn, hp, hb]; simp⟩
  have hbb : (p.f0 == true) = false := by rw [hb]; rfl
  have hv2 := Aside0.mk hv
  clear hv
  have H := Aside0.mk h
  have HB := Aside0.mk hB
  have HL := Aside0.mk hL
  clear h hB hL
  go_enter Try.func97, Try.ntmps97
  go_wp2_with fail
  refine (last_off _ _ l n g c hn h0 (by have := HL.out; omega) p hp true hbb _ (hv2.out ▸ H.out)).mono ?_
  rintro e w1 ⟨rfl, hb1⟩
  have H1 := Aside0.mk (H.out.below hb1)
  have HB1 := Aside0.mk (below_step HB.out hb1)
  clear hb1 H HB
  clear hn hp h0
  go_wp2_with fail
  refine wp_region_held_drew (S := (fun W => MkSt W w0.heap.size mb v l ∧ Below w0.heap.size w0 W)) (by kernel_rfl) ((And.intro H1.out (below_drew HB1.out))) (fun hHeld => ?_)
  refine wpAnyH_take (i := 0) (v := ?_) (by simp only [List.getElem?_toArray, List.getElem?_cons_succ, List.getElem?_cons_zero]; rfl) (by kernel_rfl) (by kernel_rfl) (by kernel_rfl) (by intro _ _ _ h; exact h) (Or.inl ⟨by rfl, ?hy⟩) (by assumption) ?_
  case hy => (intro W_ hW_; go_simp; first | done | with_reducible rfl)
  try simp only [Act.put, List.setIfInBounds_toArray, List.set_cons_zero, List.set_cons_succ]
  refine wpAnyH_take (i := 1) (v := ?_) (by simp only [List.getElem?_toArray, List.getElem?_cons_succ, List.getElem?_cons_zero]; rfl) (by kernel_rfl) (by kernel_rfl) (by kernel_rfl) (by intro _ _ _ h; exact h) (Or.inl ⟨by rfl, ?hy⟩) (by assumption) ?_
  case hy => (intro W_ hW_; go_simp; first | done | with_reducible rfl)
  try simp only [Act.put, List.setIfInBounds_toArray, List.set_cons_zero, List.set_cons_succ]
  refine wpAnyH_take (i := 2) (v := ?_) (by simp only [List.getElem?_toArray, List.getElem?_cons_succ, List.getElem?_cons_zero]; rfl) (by kernel_rfl) (by kernel_rfl) (by kernel_rfl) (by intro _ _ _ h; exact h) (Or.inl ⟨by rfl, ?hy⟩) (by assumption) ?_
  case hy => (intro W_ hW_; go_simp; first | done | with_reducible rfl)
  try simp only [Act.put, List.setIfInBounds_toArray, List.set_cons_zero, List.set_cons_succ]
  refine wpAnyH_take (i := 3) (v := undef) (by simp only [List.getElem?_toArray, List.getElem?_cons_succ, List.getElem?_cons_zero]; rfl) (by kernel_rfl) (by kernel_rfl) (by kernel_rfl) (by intro _ _ _ h; exact h) (Or.inr ⟨by rfl, rfl⟩) (by assumption) ?_
  try simp only [Act.put, List.setIfInBounds_toArray, List.set_cons_zero, List.set_cons_succ]
  refine wpAnyH_take (i := 4) (v := undef) (by simp only [List.getElem?_toArray, List.getElem?_cons_succ, List.getElem?_cons_zero]; rfl) (by kernel_rfl) (by kernel_rfl) (by kernel_rfl) (by intro _ _ _ h; exact h) (Or.inr ⟨by rfl, rfl⟩) (by assumption) ?_
  try simp only [Act.put, List.setIfInBounds_toArray, List.set_cons_zero, List.set_cons_succ]
  refine wpAnyH_take (i := 5) (v := undef) (by simp only [List.getElem?_toArray, List.getElem?_cons_succ, List.getElem?_cons_zero]; rfl) (by kernel_rfl) (by kernel_rfl) (by kernel_rfl) (by intro _ _ _ h; exact h) (Or.inr ⟨by rfl, rfl⟩) (by assumption) ?_
  try simp only [Act.put, List.setIfInBounds_toArray, List.set_cons_zero, List.set_cons_succ]
  refine wpAnyH_take (i := 6) (v := undef) (by simp only [List.getElem?_toArray, List.getElem?_cons_succ, List.getElem?_cons_zero]; rfl) (by kernel_rfl) (by kernel_rfl) (by kernel_rfl) (by intro _ _ _ h; exact h) (Or.inr ⟨by rfl, rfl⟩) (by assumption) ?_
  try simp only [Act.put, List.setIfInBounds_toArray, List.set_cons_zero, List.set_cons_succ]
  refine wpAnyH_take (i := 7) (v := undef) (by simp only [List.getElem?_toArray, List.getElem?_cons_succ, List.getElem?_cons_zero]; rfl) (by kernel_rfl) (by kernel_rfl) (by kernel_rfl) (by intro _ _ _ h; exact h) (Or.inr ⟨by rfl, rfl⟩) (by assumption) ?_
  try simp only [Act.put, List.setIfInBounds_toArray, List.set_cons_zero, List.set_cons_succ]
  refine wpAnyH_take (i := 8) (v := undef) (by simp only [List.getElem?_toArray, List.getElem?_cons_succ, List.getElem?_cons_zero]; rfl) (by kernel_rfl) (by kernel_rfl) (by kernel_rfl) (by intro _ _ _ h; exact h) (Or.inr ⟨by rfl, rfl⟩) (by assumption) ?_
  try simp only [Act.put, List.setIfInBounds_toArray, List.set_cons_zero, List.set_cons_succ]
  refine wpAnyH_take (i := 9) (v := undef) (by simp only [List.getElem?_toArray, List.getElem?_cons_succ, List.getElem?_cons_zero]; rfl) (by kernel_rfl) (by kernel_rfl) (by kernel_rfl) (by intro _ _ _ h; exact h) (Or.inr ⟨by rfl, rfl⟩) (by assumption) ?_
  try simp only [Act.put, List.setIfInBounds_toArray, List.set_cons_zero, List.set_cons_succ]
  refine wpAnyH_take (i := 10) (v := undef) (by simp only [List.getElem?_toArray, List.getElem?_cons_succ, List.getElem?_cons_zero]; rfl) (by kernel_rfl) (by kernel_rfl) (by kernel_rfl) (by intro _ _ _ h; exact h) (Or.inr ⟨by rfl, rfl⟩) (by assumption) ?_
  try simp only [Act.put, List.setIfInBounds_toArray, List.set_cons_zero, List.set_cons_succ]
  refine wpAnyH_take (i := 11) (v := undef) (by simp only [List.getElem?_toArray, List.getElem?_cons_succ, List.getElem?_cons_zero]; rfl) (by kernel_rfl) (by kernel_rfl) (by kernel_rfl) (by intro _ _ _ h; exact h) (Or.inr ⟨by rfl, rfl⟩) (by assumption) ?_
  try simp only [Act.put, List.setIfInBounds_toArray, List.set_cons_zero, List.set_cons_succ]
  refine wpAnyH_take (i := 12) (v := undef) (by simp only [List.getElem?_toArray, List.getElem?_cons_succ, List.getElem?_cons_zero]; rfl) (by kernel_rfl) (by kernel_rfl) (by kernel_rfl) (by intro _ _ _ h; exact h) (Or.inr ⟨by rfl, rfl⟩) (by assumption) ?_
  try simp only [Act.put, List.setIfInBounds_toArray, List.set_cons_zero, List.set_cons_succ]
  refine wpAnyH_take (i := 13) (v := undef) (by simp only [List.getElem?_toArray, List.getElem?_cons_succ, List.getElem?_cons_zero]; rfl) (by kernel_rfl) (by kernel_rfl) (by kernel_rfl) (by intro _ _ _ h; exact h) (Or.inr ⟨by rfl, rfl⟩) (by assumption) ?_
  try simp only [Act.put, List.setIfInBounds_toArray, List.set_cons_zero, List.set_cons_succ]
  refine wpAnyH_take (i := 14) (v := ?_) (by simp only [List.getElem?_toArray, List.getElem?_cons_succ, List.getElem?_cons_zero]; rfl) (by kernel_rfl) (by kernel_rfl) (by kernel_rfl) (by intro _ _ _ h; exact h) (Or.inl ⟨by rfl, ?hy⟩) (by assumption) ?_
  case hy => (intro W_ hW_; go_simp; first | done | with_reducible rfl)
  try simp only [Act.put, List.setIfInBounds_toArray, List.set_cons_zero, List.set_cons_succ]
  refine wpAnyH_done (by kernel_rfl) ?_ _
  have hc := hHeld.1.cell
  have hf := hHeld.1.free
  go_wp2_with (first
    | ((with_reducible refine gate_builtin (b := .append) (xs := #[.tmp 36, .tmp 39]) rfl ?_); at_builtin; refine Kd.R_append k67 (w0 := w0) w0.heap.size rfl _ _ 55 67 (.agg #[(.bool false), (.int .i64 0), (.int .i64 0), (.string ⟨#[]⟩)]) 40 rfl Try.underlying55 info67 rfl (by decide) (by omega) v l (⟨true, (fr : Int), 8, ⟨#[]⟩⟩ : S67) [.bool true, .int .i64 (fr : Int), .int .i64 8, .string ⟨#[]⟩] (fun k => k ≠ mb) (fun _ => False) rfl (by first | (go_simp; done) | (go_simp; rfl)) (k67_mkM _ _ _ (⟨true, (fr : Int), 8, ⟨#[]⟩⟩ : S67)) (fun _ hk => hk.elim) ?aF hHeld.1.2.2 hHeld.2 (below_size hHeld.2) (by have := HL.out; omega) ?_; (case aF => exact fun k hk he => by have := MkSt.lt hHeld.1; omega); intro v2 w2 hR2 hB2 hg2 hat2; obtain ⟨A2, c2, hv9⟩ := Kd.R_slice hR2; obtain ⟨N2, hN2⟩ : ∃ N, (l ++ [(⟨true, (fr : Int), 8, ⟨#[]⟩⟩ : S67)]).length = N := ⟨_, rfl⟩; rw [hN2] at hv9; clear hN2; subst hv9; have HP := Aside0.mk (MkSt.put hHeld.1 hg2 hR2); have hb2 := blk_grown hHeld.1.1 hg2 (fun he => hHeld.1.2.2.1 mb he.symm rfl); have hc2 : w2.cell? ⟨mb, 0, none⟩ = some v := (by rw [blk_cell hb2]; rfl); have hf2 := blk_frozen hb2 0; have HB2 := Aside0.mk (below_set (j := 0) (v := .slice A2 N2 c2) hB2 hHeld.1.2.1); clear hR2 hB2 hg2 hat2 hb2)
    | fail)
  go_end0
  exact ⟨rfl, ⟨_, by rw [HRES.out]; exact HP.out⟩, HB2.out⟩
set_option maxHeartbeats 2000000 in
set_option maxRecDepth 100000 in
theorem block_apart (mb : Nat) (v : Value) (l : List S67) (i fr : Nat) (hfr : IntKind.i64.wrap ((i : Int) * 8) = (fr : Int)) (n g c : Nat) (hn : l.length = n) (h0 : 0 < n) (p : S67) (hp : l.getD (n - 1) z67 = p) (hv : v = .slice (some ⟨g, 0, none⟩) n c) (hb : p.f0 = true) (m : Nat) (hm : m = n - 1) (x : Int) (hx : IntKind.i64.wrap (p.f1 + p.f2) = x) (hne : x ≠ fr) (w0 w : World) (hB : Below w0.heap.size w0 w) (h : MkSt w w0.heap.size mb v l) (hL : l.length ≤ 1000000000) :
    Calls Try.prog 97 #[.pointer (some ⟨mb, 0, none⟩), .int .i64 (i : Int)] w fun e w' => e = .returned (.tuple #[]) ∧ (∃ v', MkSt w' w0.heap.size mb v' (blockL l (fr : Int))) ∧ Below w0.heap.size w0 w' := by
  have HRES : Aside0 (blockL l (fr : Int) = l ++ [⟨true, (fr : Int), 8, ⟨#[]⟩⟩]) := ⟨by unfold blockL; rw [if_neg]; rw [hn, hp, hx]; exact fun h => hne h.2.2⟩
  have e1 : (x == (fr : Int)) = false := by simpa using hne
  have e1b : (x = (fr : Int)) = False := eq_false hne
  have hbb : (p.f0 == true) = true := by rw [hb]; rfl
  have hn2 := Aside0.mk hn
  have h02 := Aside0.mk h0
  have hp2 := Aside0.mk hp
  have hv2 := Aside0.mk hv
  have hm2 := Aside0.mk hm
  clear hn h0 hp hv hne
  have H := Aside0.mk h
  have HB := Aside0.mk hB
  have HL := Aside0.mk hL
  clear h hB hL
  go_enter Try.func97, Try.ntmps97
  go_wp2_with fail
  refine (last_on _ _ l n g c hn2.out h02.out (by have := HL.out; have := hn2.out; omega) p hp2.out true hbb _ (hv2.out ▸ H.out)).mono ?_
  rintro e w1 ⟨rfl, hb1⟩
  have H1 := Aside0.mk (H.out.below hb1)
  have HB1 := Aside0.mk (below_step HB.out hb1)
  clear hb1 H HB
  rw [← hm2.out]
  clear hm
  go_wp2_with fail
  refine wp_region_held_drew (S := (fun W => MkSt W w0.heap.size mb v l ∧ Below w0.heap.size w0 W)) (by kernel_rfl) ((And.intro H1.out (below_drew HB1.out))) (fun hHeld => ?_)
  refine wpAnyH_take (i := 0) (v := ?_) (by simp only [List.getElem?_toArray, List.getElem?_cons_succ, List.getElem?_cons_zero]; rfl) (by kernel_rfl) (by kernel_rfl) (by kernel_rfl) (by intro _ _ _ h; exact h) (Or.inl ⟨by rfl, ?hy⟩) (by assumption) ?_
  case hy => (intro W_ hW_; go_simp; first | done | with_reducible rfl)
  try simp only [Act.put, List.setIfInBounds_toArray, List.set_cons_zero, List.set_cons_succ]
  refine wpAnyH_take (i := 1) (v := ?_) (by simp only [List.getElem?_toArray, List.getElem?_cons_succ, List.getElem?_cons_zero]; rfl) (by kernel_rfl) (by kernel_rfl) (by kernel_rfl) (by intro _ _ _ h; exact h) (Or.inl ⟨by rfl, ?hy⟩) (by assumption) ?_
  case hy => (intro W_ hW_; go_simp; first | done | with_reducible rfl)
  try simp only [Act.put, List.setIfInBounds_toArray, List.set_cons_zero, List.set_cons_succ]
  refine wpAnyH_take (i := 2) (v := ?_) (by simp only [List.getElem?_toArray, List.getElem?_cons_succ, List.getElem?_cons_zero]; rfl) (by kernel_rfl) (by kernel_rfl) (by kernel_rfl) (by intro _ _ _ h; exact h) (Or.inl ⟨by rfl, ?hy⟩) (by assumption) ?_
  case hy => (intro W_ hW_; go_simp; first | done | with_reducible rfl)
  try simp only [Act.put, List.setIfInBounds_toArray, List.set_cons_zero, List.set_cons_succ]
  refine wpAnyH_take (i := 3) (v := ?_) (by simp only [List.getElem?_toArray, List.getElem?_cons_succ, List.getElem?_cons_zero]; rfl) (by kernel_rfl) (by kernel_rfl) (by kernel_rfl) (by intro _ _ _ h; exact h) (Or.inl ⟨by rfl, ?hy⟩) (by assumption) ?_
  case hy => (intro W_ hW_; go_simp; first | done | with_reducible rfl)
  try simp only [Act.put, List.setIfInBounds_toArray, List.set_cons_zero, List.set_cons_succ]
  refine wpAnyH_take (i := 4) (v := ?_) (by simp only [List.getElem?_toArray, List.getElem?_cons_succ, List.getElem?_cons_zero]; rfl) (by kernel_rfl) (by kernel_rfl) (by kernel_rfl) (by intro _ _ _ h; exact h) (Or.inl ⟨by rfl, ?hy⟩) (by assumption) ?_
  case hy => (intro W_ hW_; go_simp; first | done | with_reducible rfl)
  try simp only [Act.put, List.setIfInBounds_toArray, List.set_cons_zero, List.set_cons_succ]
  refine wpAnyH_take (i := 5) (v := ?_) (by simp only [List.getElem?_toArray, List.getElem?_cons_succ, List.getElem?_cons_zero]; rfl) (by kernel_rfl) (by kernel_rfl) (by kernel_rfl) (by intro _ _ _ h; exact h) (Or.inl ⟨by rfl, ?hy⟩) (by assumption) ?_
  case hy => (intro W_ hW_; go_simp; first | done | with_reducible rfl)
  try simp only [Act.put, List.setIfInBounds_toArray, List.set_cons_zero, List.set_cons_succ]
  refine wpAnyH_take (i := 6) (v := ?_) (by simp only [List.getElem?_toArray, List.getElem?_cons_succ, List.getElem?_cons_zero]; rfl) (by kernel_rfl) (by kernel_rfl) (by kernel_rfl) (by intro _ _ _ h; exact h) (Or.inl ⟨by rfl, ?hy⟩) (by assumption) ?_
  case hy => (intro W_ hW_; have f_ := (last_cells hW_.1 hn2.out h02.out p hp2.out hv2.out).2.1; rw [← hm2.out] at f_; go_simp; first | done | with_reducible rfl)
  try simp only [Act.put, List.setIfInBounds_toArray, List.set_cons_zero, List.set_cons_succ]
  refine wpAnyH_take (i := 7) (v := ?_) (by simp only [List.getElem?_toArray, List.getElem?_cons_succ, List.getElem?_cons_zero]; rfl) (by kernel_rfl) (by kernel_rfl) (by kernel_rfl) (by intro _ _ _ h; exact h) (Or.inl ⟨by rfl, ?hy⟩) (by assumption) ?_
  case hy => (intro W_ hW_; go_simp; first | done | with_reducible rfl)
  try simp only [Act.put, List.setIfInBounds_toArray, List.set_cons_zero, List.set_cons_succ]
  refine wpAnyH_take (i := 8) (v := ?_) (by simp only [List.getElem?_toArray, List.getElem?_cons_succ, List.getElem?_cons_zero]; rfl) (by kernel_rfl) (by kernel_rfl) (by kernel_rfl) (by intro _ _ _ h; exact h) (Or.inl ⟨by rfl, ?hy⟩) (by assumption) ?_
  case hy => (intro W_ hW_; go_simp; first | done | with_reducible rfl)
  try simp only [Act.put, List.setIfInBounds_toArray, List.set_cons_zero, List.set_cons_succ]
  refine wpAnyH_take (i := 9) (v := ?_) (by simp only [List.getElem?_toArray, List.getElem?_cons_succ, List.getElem?_cons_zero]; rfl) (by kernel_rfl) (by kernel_rfl) (by kernel_rfl) (by intro _ _ _ h; exact h) (Or.inl ⟨by rfl, ?hy⟩) (by assumption) ?_
  case hy => (intro W_ hW_; go_simp; first | done | with_reducible rfl)
  try simp only [Act.put, List.setIfInBounds_toArray, List.set_cons_zero, List.set_cons_succ]
  refine wpAnyH_take (i := 10) (v := ?_) (by simp only [List.getElem?_toArray, List.getElem?_cons_succ, List.getElem?_cons_zero]; rfl) (by kernel_rfl) (by kernel_rfl) (by kernel_rfl) (by intro _ _ _ h; exact h) (Or.inl ⟨by rfl, ?hy⟩) (by assumption) ?_
  case hy => (intro W_ hW_; have f_ := (last_cells hW_.1 hn2.out h02.out p hp2.out hv2.out).2.2.1; rw [← hm2.out] at f_; go_simp; first | done | with_reducible rfl)
  try simp only [Act.put, List.setIfInBounds_toArray, List.set_cons_zero, List.set_cons_succ]
  refine wpAnyH_take (i := 11) (v := ?_) (by simp only [List.getElem?_toArray, List.getElem?_cons_succ, List.getElem?_cons_zero]; rfl) (by kernel_rfl) (by kernel_rfl) (by kernel_rfl) (by intro _ _ _ h; exact h) (Or.inl ⟨by rfl, ?hy⟩) (by assumption) ?_
  case hy => (intro W_ hW_; go_simp; first | done | with_reducible rfl)
  try simp only [Act.put, List.setIfInBounds_toArray, List.set_cons_zero, List.set_cons_succ]
  refine wpAnyH_take (i := 12) (v := ?_) (by simp only [List.getElem?_toArray, List.getElem?_cons_succ, List.getElem?_cons_zero]; rfl) (by kernel_rfl) (by kernel_rfl) (by kernel_rfl) (by intro _ _ _ h; exact h) (Or.inl ⟨by rfl, ?hy⟩) (by assumption) ?_
  case hy => (intro W_ hW_; go_simp; first | done | with_reducible rfl)
  try simp only [Act.put, List.setIfInBounds_toArray, List.set_cons_zero, List.set_cons_succ]
  refine wpAnyH_take (i := 13) (v := ?_) (by simp only [List.getElem?_toArray, List.getElem?_cons_succ, List.getElem?_cons_zero]; rfl) (by kernel_rfl) (by kernel_rfl) (by kernel_rfl) (by intro _ _ _ h; exact h) (Or.inl ⟨by rfl, ?hy⟩) (by assumption) ?_
  case hy => (intro W_ hW_; go_simp; first | done | with_reducible rfl)
  try simp only [Act.put, List.setIfInBounds_toArray, List.set_cons_zero, List.set_cons_succ]
  refine wpAnyH_take (i := 14) (v := ?_) (by simp only [List.getElem?_toArray, List.getElem?_cons_succ, List.getElem?_cons_zero]; rfl) (by kernel_rfl) (by kernel_rfl) (by kernel_rfl) (by intro _ _ _ h; exact h) (Or.inl ⟨by rfl, ?hy⟩) (by assumption) ?_
  case hy => (intro W_ hW_; go_simp; first | done | with_reducible rfl)
  try simp only [Act.put, List.setIfInBounds_toArray, List.set_cons_zero, List.set_cons_succ]
  refine wpAnyH_done (by kernel_rfl) ?_ _
  have hc := hHeld.1.cell
  have hf := hHeld.1.free
  go_wp2_with (first
    | ((with_reducible refine gate_builtin (b := .append) (xs := #[.tmp 36, .tmp 39]) rfl ?_); at_builtin; refine Kd.R_append k67 (w0 := w0) w0.heap.size rfl _ _ 55 67 (.agg #[(.bool false), (.int .i64 0), (.int .i64 0), (.string ⟨#[]⟩)]) 40 rfl Try.underlying55 info67 rfl (by decide) (by omega) v l (⟨true, (fr : Int), 8, ⟨#[]⟩⟩ : S67) [.bool true, .int .i64 (fr : Int), .int .i64 8, .string ⟨#[]⟩] (fun k => k ≠ mb) (fun _ => False) rfl (by first | (go_simp; done) | (go_simp; rfl)) (k67_mkM _ _ _ (⟨true, (fr : Int), 8, ⟨#[]⟩⟩ : S67)) (fun _ hk => hk.elim) ?aF hHeld.1.2.2 hHeld.2 (below_size hHeld.2) (by have := HL.out; omega) ?_; (case aF => exact fun k hk he => by have := MkSt.lt hHeld.1; omega); intro v2 w2 hR2 hB2 hg2 hat2; obtain ⟨A2, c2, hv9⟩ := Kd.R_slice hR2; obtain ⟨N2, hN2⟩ : ∃ N, (l ++ [(⟨true, (fr : Int), 8, ⟨#[]⟩⟩ : S67)]).length = N := ⟨_, rfl⟩; rw [hN2] at hv9; clear hN2; subst hv9; have HP := Aside0.mk (MkSt.put hHeld.1 hg2 hR2); have hb2 := blk_grown hHeld.1.1 hg2 (fun he => hHeld.1.2.2.1 mb he.symm rfl); have hc2 : w2.cell? ⟨mb, 0, none⟩ = some v := (by rw [blk_cell hb2]; rfl); have hf2 := blk_frozen hb2 0; have HB2 := Aside0.mk (below_set (j := 0) (v := .slice A2 N2 c2) hB2 hHeld.1.2.1); clear hR2 hB2 hg2 hat2 hb2)
    | fail)
  go_end0
  exact ⟨rfl, ⟨_, by rw [HRES.out]; exact HP.out⟩, HB2.out⟩
set_option maxHeartbeats 2000000 in
set_option maxRecDepth 100000 in
theorem block_more (mb : Nat) (v : Value) (l : List S67) (i fr : Nat) (hfr : IntKind.i64.wrap ((i : Int) * 8) = (fr : Int)) (n g c : Nat) (hn : l.length = n) (h0 : 0 < n) (p : S67) (hp : l.getD (n - 1) z67 = p) (hv : v = .slice (some ⟨g, 0, none⟩) n c) (hb : p.f0 = true) (m : Nat) (hm : m = n - 1) (x : Int) (hx : IntKind.i64.wrap (p.f1 + p.f2) = x) (he : x = fr) (w0 w : World) (hB : Below w0.heap.size w0 w) (h : MkSt w w0.heap.size mb v l) (hL : l.length ≤ 1000000000) :
    Calls Try.prog 97 #[.pointer (some ⟨mb, 0, none⟩), .int .i64 (i : Int)] w fun e w' => e = .returned (.tuple #[]) ∧ (∃ v', MkSt w' w0.heap.size mb v' (blockL l (fr : Int))) ∧ Below w0.heap.size w0 w' := by
  obtain ⟨y, hy⟩ : ∃ y, IntKind.i64.wrap (p.f2 + 8) = y := ⟨_, rfl⟩
  have HRES : Aside0 (blockL l (fr : Int) = l.set m ⟨p.f0, p.f1, y, p.f3⟩) := ⟨by unfold blockL; rw [if_pos ⟨by omega, by rw [hn, hp]; exact hb, by rw [hn, hp, hx]; exact he⟩, hn, hp, hy, hm]⟩
  have e1 : (x == (fr : Int)) = true := by simpa using he
  have e1b : (x = (fr : Int)) = True := eq_true he
  have hbb : (p.f0 == true) = true := by rw [hb]; rfl
  have hn2 := Aside0.mk hn
  have h02 := Aside0.mk h0
  have hp2 := Aside0.mk hp
  have hv2 := Aside0.mk hv
  have hm2 := Aside0.mk hm
  clear hn h0 hp hv he
  have H := Aside0.mk h
  have HB := Aside0.mk hB
  have HL := Aside0.mk hL
  clear h hB hL
  go_enter Try.func97, Try.ntmps97
  go_wp2_with fail
  refine (last_on _ _ l n g c hn2.out h02.out (by have := HL.out; have := hn2.out; omega) p hp2.out true hbb _ (hv2.out ▸ H.out)).mono ?_
  rintro e w1 ⟨rfl, hb1⟩
  have H1 := Aside0.mk (H.out.below hb1)
  have HB1 := Aside0.mk (below_step HB.out hb1)
  clear hb1 H HB
  rw [← hm2.out]
  clear hm
  go_wp2_with fail
  refine wp_region_held_drew (S := (fun W => MkSt W w0.heap.size mb v l ∧ Below w0.heap.size w0 W)) (by kernel_rfl) ((And.intro H1.out (below_drew HB1.out))) (fun hHeld => ?_)
  refine wpAnyH_take (i := 0) (v := ?_) (by simp only [List.getElem?_toArray, List.getElem?_cons_succ, List.getElem?_cons_zero]; rfl) (by kernel_rfl) (by kernel_rfl) (by kernel_rfl) (by intro _ _ _ h; exact h) (Or.inl ⟨by rfl, ?hy⟩) (by assumption) ?_
  case hy => (intro W_ hW_; go_simp; first | done | with_reducible rfl)
  try simp only [Act.put, List.setIfInBounds_toArray, List.set_cons_zero, List.set_cons_succ]
  refine wpAnyH_take (i := 1) (v := ?_) (by simp only [List.getElem?_toArray, List.getElem?_cons_succ, List.getElem?_cons_zero]; rfl) (by kernel_rfl) (by kernel_rfl) (by kernel_rfl) (by intro _ _ _ h; exact h) (Or.inl ⟨by rfl, ?hy⟩) (by assumption) ?_
  case hy => (intro W_ hW_; go_simp; first | done | with_reducible rfl)
  try simp only [Act.put, List.setIfInBounds_toArray, List.set_cons_zero, List.set_cons_succ]
  refine wpAnyH_take (i := 2) (v := ?_) (by simp only [List.getElem?_toArray, List.getElem?_cons_succ, List.getElem?_cons_zero]; rfl) (by kernel_rfl) (by kernel_rfl) (by kernel_rfl) (by intro _ _ _ h; exact h) (Or.inl ⟨by rfl, ?hy⟩) (by assumption) ?_
  case hy => (intro W_ hW_; go_simp; first | done | with_reducible rfl)
  try simp only [Act.put, List.setIfInBounds_toArray, List.set_cons_zero, List.set_cons_succ]
  refine wpAnyH_take (i := 3) (v := ?_) (by simp only [List.getElem?_toArray, List.getElem?_cons_succ, List.getElem?_cons_zero]; rfl) (by kernel_rfl) (by kernel_rfl) (by kernel_rfl) (by intro _ _ _ h; exact h) (Or.inl ⟨by rfl, ?hy⟩) (by assumption) ?_
  case hy => (intro W_ hW_; go_simp; first | done | with_reducible rfl)
  try simp only [Act.put, List.setIfInBounds_toArray, List.set_cons_zero, List.set_cons_succ]
  refine wpAnyH_take (i := 4) (v := ?_) (by simp only [List.getElem?_toArray, List.getElem?_cons_succ, List.getElem?_cons_zero]; rfl) (by kernel_rfl) (by kernel_rfl) (by kernel_rfl) (by intro _ _ _ h; exact h) (Or.inl ⟨by rfl, ?hy⟩) (by assumption) ?_
  case hy => (intro W_ hW_; go_simp; first | done | with_reducible rfl)
  try simp only [Act.put, List.setIfInBounds_toArray, List.set_cons_zero, List.set_cons_succ]
  refine wpAnyH_take (i := 5) (v := ?_) (by simp only [List.getElem?_toArray, List.getElem?_cons_succ, List.getElem?_cons_zero]; rfl) (by kernel_rfl) (by kernel_rfl) (by kernel_rfl) (by intro _ _ _ h; exact h) (Or.inl ⟨by rfl, ?hy⟩) (by assumption) ?_
  case hy => (intro W_ hW_; go_simp; first | done | with_reducible rfl)
  try simp only [Act.put, List.setIfInBounds_toArray, List.set_cons_zero, List.set_cons_succ]
  refine wpAnyH_take (i := 6) (v := ?_) (by simp only [List.getElem?_toArray, List.getElem?_cons_succ, List.getElem?_cons_zero]; rfl) (by kernel_rfl) (by kernel_rfl) (by kernel_rfl) (by intro _ _ _ h; exact h) (Or.inl ⟨by rfl, ?hy⟩) (by assumption) ?_
  case hy => (intro W_ hW_; have f_ := (last_cells hW_.1 hn2.out h02.out p hp2.out hv2.out).2.1; rw [← hm2.out] at f_; go_simp; first | done | with_reducible rfl)
  try simp only [Act.put, List.setIfInBounds_toArray, List.set_cons_zero, List.set_cons_succ]
  refine wpAnyH_take (i := 7) (v := ?_) (by simp only [List.getElem?_toArray, List.getElem?_cons_succ, List.getElem?_cons_zero]; rfl) (by kernel_rfl) (by kernel_rfl) (by kernel_rfl) (by intro _ _ _ h; exact h) (Or.inl ⟨by rfl, ?hy⟩) (by assumption) ?_
  case hy => (intro W_ hW_; go_simp; first | done | with_reducible rfl)
  try simp only [Act.put, List.setIfInBounds_toArray, List.set_cons_zero, List.set_cons_succ]
  refine wpAnyH_take (i := 8) (v := ?_) (by simp only [List.getElem?_toArray, List.getElem?_cons_succ, List.getElem?_cons_zero]; rfl) (by kernel_rfl) (by kernel_rfl) (by kernel_rfl) (by intro _ _ _ h; exact h) (Or.inl ⟨by rfl, ?hy⟩) (by assumption) ?_
  case hy => (intro W_ hW_; go_simp; first | done | with_reducible rfl)
  try simp only [Act.put, List.setIfInBounds_toArray, List.set_cons_zero, List.set_cons_succ]
  refine wpAnyH_take (i := 9) (v := ?_) (by simp only [List.getElem?_toArray, List.getElem?_cons_succ, List.getElem?_cons_zero]; rfl) (by kernel_rfl) (by kernel_rfl) (by kernel_rfl) (by intro _ _ _ h; exact h) (Or.inl ⟨by rfl, ?hy⟩) (by assumption) ?_
  case hy => (intro W_ hW_; go_simp; first | done | with_reducible rfl)
  try simp only [Act.put, List.setIfInBounds_toArray, List.set_cons_zero, List.set_cons_succ]
  refine wpAnyH_take (i := 10) (v := ?_) (by simp only [List.getElem?_toArray, List.getElem?_cons_succ, List.getElem?_cons_zero]; rfl) (by kernel_rfl) (by kernel_rfl) (by kernel_rfl) (by intro _ _ _ h; exact h) (Or.inl ⟨by rfl, ?hy⟩) (by assumption) ?_
  case hy => (intro W_ hW_; have f_ := (last_cells hW_.1 hn2.out h02.out p hp2.out hv2.out).2.2.1; rw [← hm2.out] at f_; go_simp; first | done | with_reducible rfl)
  try simp only [Act.put, List.setIfInBounds_toArray, List.set_cons_zero, List.set_cons_succ]
  refine wpAnyH_take (i := 11) (v := ?_) (by simp only [List.getElem?_toArray, List.getElem?_cons_succ, List.getElem?_cons_zero]; rfl) (by kernel_rfl) (by kernel_rfl) (by kernel_rfl) (by intro _ _ _ h; exact h) (Or.inl ⟨by rfl, ?hy⟩) (by assumption) ?_
  case hy => (intro W_ hW_; go_simp; first | done | with_reducible rfl)
  try simp only [Act.put, List.setIfInBounds_toArray, List.set_cons_zero, List.set_cons_succ]
  refine wpAnyH_take (i := 12) (v := ?_) (by simp only [List.getElem?_toArray, List.getElem?_cons_succ, List.getElem?_cons_zero]; rfl) (by kernel_rfl) (by kernel_rfl) (by kernel_rfl) (by intro _ _ _ h; exact h) (Or.inl ⟨by rfl, ?hy⟩) (by assumption) ?_
  case hy => (intro W_ hW_; go_simp; first | done | with_reducible rfl)
  try simp only [Act.put, List.setIfInBounds_toArray, List.set_cons_zero, List.set_cons_succ]
  refine wpAnyH_take (i := 13) (v := ?_) (by simp only [List.getElem?_toArray, List.getElem?_cons_succ, List.getElem?_cons_zero]; rfl) (by kernel_rfl) (by kernel_rfl) (by kernel_rfl) (by intro _ _ _ h; exact h) (Or.inl ⟨by rfl, ?hy⟩) (by assumption) ?_
  case hy => (intro W_ hW_; go_simp; first | done | with_reducible rfl)
  try simp only [Act.put, List.setIfInBounds_toArray, List.set_cons_zero, List.set_cons_succ]
  refine wpAnyH_take (i := 14) (v := ?_) (by simp only [List.getElem?_toArray, List.getElem?_cons_succ, List.getElem?_cons_zero]; rfl) (by kernel_rfl) (by kernel_rfl) (by kernel_rfl) (by intro _ _ _ h; exact h) (Or.inl ⟨by rfl, ?hy⟩) (by assumption) ?_
  case hy => (intro W_ hW_; go_simp; first | done | with_reducible rfl)
  try simp only [Act.put, List.setIfInBounds_toArray, List.set_cons_zero, List.set_cons_succ]
  refine wpAnyH_done (by kernel_rfl) ?_ _
  obtain ⟨x0, x1, x2, x3⟩ := last_cells hHeld.1 hn2.out h02.out p hp2.out hv2.out
  rw [← hm2.out] at x0 x1 x2 x3
  have HO2 := Aside0.mk (MkSt.row hHeld.1 hv2.out)
  go_wp2_with (first
    | ((with_reducible refine gate_store (t := 3) (p := 31) rfl ?_); refine Kd.R_store k67 (w0 := w0) w0.heap.size rfl rfl 3 (.tmp 31) (.tmp 29) rfl 67 (g := g) (n := n) (cap := c) (m : Int) 2 l ⟨p.f0, p.f1, y, p.f3⟩ (.int .i64 y) [.int .i64 y] [.bool p.f0, .int .i64 p.f1, .int .i64 p.f2, .string p.f3] (fun k => k ≠ mb) (fun _ => False) rfl ?hoff rfl rfl ?ht ?h1 HO2.out ?hz ?hi rfl ?hcc ?hj (k67_mkM _ _ _ _) (fun _ hk => hk.elim) hHeld.2 ?_; (case hoff => rfl); (case ht => kernel_rfl); (case h1 => intro q hq; rw [List.mem_singleton.1 hq]; rfl); (case hz => omega); (case hi => have := hm2.out; have := h02.out; omega); (case hcc => intro j u hj; exact (cells4 x0 x1 x2 x3) j u hj); (case hj => (show 2 + 1 ≤ 4; omega)); intro w2 hR2 hB2 hg2; have HP := Aside0.mk (MkSt.same hHeld.1 hv2.out hg2 (hv2.out.symm ▸ hR2)); have HB2 := Aside0.mk hB2; clear hR2 hB2 hg2)
    | fail)
  (try simp only [Exit.inBlock, Exit.then])
  refine bodyPost_ret (results_none rfl _ _ _) rfl ?_
  exact ⟨rfl, ⟨_, by rw [HRES.out]; exact HP.out⟩, HB2.out⟩
/-- A text is put. -/
def litL (l : List S67) (s : ByteArray) : List S67 :=
  if 0 < l.length ∧ (l.getD (l.length - 1) z67).f0 = false then
    l.set (l.length - 1) ⟨(l.getD (l.length - 1) z67).f0, (l.getD (l.length - 1) z67).f1, (l.getD (l.length - 1) z67).f2, (l.getD (l.length - 1) z67).f3 ++ s⟩
  else l ++ [⟨false, 0, 0, s⟩]
set_option maxHeartbeats 2000000 in
set_option maxRecDepth 100000 in
theorem lit_none (mb : Nat) (v : Value) (l : List S67) (s : ByteArray) (hs : s.size ≤ 1000000000) (hl : l = []) (w0 w : World) (hB : Below w0.heap.size w0 w) (h : MkSt w w0.heap.size mb v l) (hL : l.length ≤ 1000000000) :
    Calls Try.prog 98 #[.pointer (some ⟨mb, 0, none⟩), .string s] w fun e w' => e = .returned (.tuple #[]) ∧ (∃ v', MkSt w' w0.heap.size mb v' (litL l s)) ∧ Below w0.heap.size w0 w' := by
  have HRES : Aside0 (litL l s = l ++ [⟨false, 0, 0, s⟩]) := ⟨by unfold litL; rw [if_neg]; rw [hl]; simp⟩
  have H := Aside0.mk h
  have HB := Aside0.mk hB
  have HL := Aside0.mk hL
  clear h hB hL
  go_enter Try.func98, Try.ntmps98
  go_wp2_with fail
  refine (last_none _ _ _ _ _ (hl ▸ H.out)).mono ?_
  rintro e w1 ⟨rfl, hb1⟩
  have H1 := Aside0.mk (H.out.below hb1)
  have HB1 := Aside0.mk (below_step HB.out hb1)
  clear hb1 H HB
  have hc := H1.out.cell
  have hf := H1.out.free
  go_wp2_with (first
    | ((with_reducible refine gate_builtin (b := .append) (xs := #[.tmp 21, .tmp 24]) rfl ?_); at_builtin; refine Kd.R_append k67 (w0 := w0) w0.heap.size rfl _ _ 55 67 (.agg #[(.bool false), (.int .i64 0), (.int .i64 0), (.string ⟨#[]⟩)]) 40 rfl Try.underlying55 info67 rfl (by decide) (by omega) v l (⟨false, 0, 0, s⟩ : S67) [.bool false, .int .i64 0, .int .i64 0, .string s] (fun k => k ≠ mb) (fun _ => False) rfl (by first | (go_simp; done) | (go_simp; rfl)) (k67_mkM _ _ _ (⟨false, 0, 0, s⟩ : S67)) (fun _ hk => hk.elim) ?aF H1.out.2.2 HB1.out (below_size HB1.out) (by have := HL.out; omega) ?_; (case aF => exact fun k hk he => by have := MkSt.lt H1.out; omega); intro v2 w2 hR2 hB2 hg2 hat2; obtain ⟨A2, c2, hv9⟩ := Kd.R_slice hR2; obtain ⟨N2, hN2⟩ : ∃ N, (l ++ [(⟨false, 0, 0, s⟩ : S67)]).length = N := ⟨_, rfl⟩; rw [hN2] at hv9; clear hN2; subst hv9; have HP := Aside0.mk (MkSt.put H1.out hg2 hR2); have hb2 := blk_grown H1.out.1 hg2 (fun he => H1.out.2.2.1 mb he.symm rfl); have hc2 : w2.cell? ⟨mb, 0, none⟩ = some v := (by rw [blk_cell hb2]; rfl); have hf2 := blk_frozen hb2 0; have HB2 := Aside0.mk (below_set (j := 0) (v := .slice A2 N2 c2) hB2 H1.out.2.1); clear hR2 hB2 hg2 hat2 hb2)
    | fail)
  go_end0
  exact ⟨rfl, ⟨_, by rw [HRES.out]; exact HP.out⟩, HB2.out⟩
set_option maxHeartbeats 2000000 in
set_option maxRecDepth 100000 in
theorem lit_copy (mb : Nat) (v : Value) (l : List S67) (s : ByteArray) (hs : s.size ≤ 1000000000) (n g c : Nat) (hn : l.length = n) (h0 : 0 < n) (p : S67) (hp : l.getD (n - 1) z67 = p) (hv : v = .slice (some ⟨g, 0, none⟩) n c) (hb : p.f0 = true) (w0 w : World) (hB : Below w0.heap.size w0 w) (h : MkSt w w0.heap.size mb v l) (hL : l.length ≤ 1000000000) :
    Calls Try.prog 98 #[.pointer (some ⟨mb, 0, none⟩), .string s] w fun e w' => e = .returned (.tuple #[]) ∧ (∃ v', MkSt w' w0.heap.size mb v' (litL l s)) ∧ Below w0.heap.size w0 w' := by
  have HRES : Aside0 (litL l s = l ++ [⟨false, 0, 0, s⟩]) := ⟨by unfold litL; rw [if_neg]; rw [hn, hp, hb]; simp⟩
  have hbb : (p.f0 == false) = false := by rw [hb]; rfl
  have hv2 := Aside0.mk hv
  clear hv
  have H := Aside0.mk h
  have HB := Aside0.mk hB
  have HL := Aside0.mk hL
  clear h hB hL
  go_enter Try.func98, Try.ntmps98
  go_wp2_with fail
  refine (last_off _ _ l n g c hn h0 (by have := HL.out; omega) p hp false hbb _ (hv2.out ▸ H.out)).mono ?_
  rintro e w1 ⟨rfl, hb1⟩
  have H1 := Aside0.mk (H.out.below hb1)
  have HB1 := Aside0.mk (below_step HB.out hb1)
  clear hb1 H HB
  clear hn hp h0
  have hc := H1.out.cell
  have hf := H1.out.free
  go_wp2_with (first
    | ((with_reducible refine gate_builtin (b := .append) (xs := #[.tmp 21, .tmp 24]) rfl ?_); at_builtin; refine Kd.R_append k67 (w0 := w0) w0.heap.size rfl _ _ 55 67 (.agg #[(.bool false), (.int .i64 0), (.int .i64 0), (.string ⟨#[]⟩)]) 40 rfl Try.underlying55 info67 rfl (by decide) (by omega) v l (⟨false, 0, 0, s⟩ : S67) [.bool false, .int .i64 0, .int .i64 0, .string s] (fun k => k ≠ mb) (fun _ => False) rfl (by first | (go_simp; done) | (go_simp; rfl)) (k67_mkM _ _ _ (⟨false, 0, 0, s⟩ : S67)) (fun _ hk => hk.elim) ?aF H1.out.2.2 HB1.out (below_size HB1.out) (by have := HL.out; omega) ?_; (case aF => exact fun k hk he => by have := MkSt.lt H1.out; omega); intro v2 w2 hR2 hB2 hg2 hat2; obtain ⟨A2, c2, hv9⟩ := Kd.R_slice hR2; obtain ⟨N2, hN2⟩ : ∃ N, (l ++ [(⟨false, 0, 0, s⟩ : S67)]).length = N := ⟨_, rfl⟩; rw [hN2] at hv9; clear hN2; subst hv9; have HP := Aside0.mk (MkSt.put H1.out hg2 hR2); have hb2 := blk_grown H1.out.1 hg2 (fun he => H1.out.2.2.1 mb he.symm rfl); have hc2 : w2.cell? ⟨mb, 0, none⟩ = some v := (by rw [blk_cell hb2]; rfl); have hf2 := blk_frozen hb2 0; have HB2 := Aside0.mk (below_set (j := 0) (v := .slice A2 N2 c2) hB2 H1.out.2.1); clear hR2 hB2 hg2 hat2 hb2)
    | fail)
  go_end0
  exact ⟨rfl, ⟨_, by rw [HRES.out]; exact HP.out⟩, HB2.out⟩
set_option maxHeartbeats 2000000 in
set_option maxRecDepth 100000 in
theorem lit_more (mb : Nat) (v : Value) (l : List S67) (s : ByteArray) (hs : s.size ≤ 1000000000) (n g c : Nat) (hn : l.length = n) (h0 : 0 < n) (p : S67) (hp : l.getD (n - 1) z67 = p) (hv : v = .slice (some ⟨g, 0, none⟩) n c) (hb : p.f0 = false) (m : Nat) (hm : m = n - 1) (hps : p.f3.size ≤ 1000000000) (w0 w : World) (hB : Below w0.heap.size w0 w) (h : MkSt w w0.heap.size mb v l) (hL : l.length ≤ 1000000000) :
    Calls Try.prog 98 #[.pointer (some ⟨mb, 0, none⟩), .string s] w fun e w' => e = .returned (.tuple #[]) ∧ (∃ v', MkSt w' w0.heap.size mb v' (litL l s)) ∧ Below w0.heap.size w0 w' := by
  have HRES : Aside0 (litL l s = l.set m ⟨p.f0, p.f1, p.f2, p.f3 ++ s⟩) := ⟨by unfold litL; rw [if_pos ⟨by omega, by rw [hn, hp]; exact hb⟩, hn, hp, hm]⟩
  have hbb : (p.f0 == false) = true := by rw [hb]; rfl
  have hn2 := Aside0.mk hn
  have h02 := Aside0.mk h0
  have hp2 := Aside0.mk hp
  have hv2 := Aside0.mk hv
  have hm2 := Aside0.mk hm
  clear hn h0 hp hv
  have H := Aside0.mk h
  have HB := Aside0.mk hB
  have HL := Aside0.mk hL
  clear h hB hL
  go_enter Try.func98, Try.ntmps98
  go_wp2_with fail
  refine (last_on _ _ l n g c hn2.out h02.out (by have := HL.out; have := hn2.out; omega) p hp2.out false hbb _ (hv2.out ▸ H.out)).mono ?_
  rintro e w1 ⟨rfl, hb1⟩
  have H1 := Aside0.mk (H.out.below hb1)
  have HB1 := Aside0.mk (below_step HB.out hb1)
  clear hb1 H HB
  rw [← hm2.out]
  clear hm
  obtain ⟨x0, x1, x2, x3⟩ := last_cells H1.out hn2.out h02.out p hp2.out hv2.out
  rw [← hm2.out] at x0 x1 x2 x3
  have HO2 := Aside0.mk (MkSt.row H1.out hv2.out)
  go_wp2_with (first
    | ((with_reducible refine gate_store (t := 9) (p := 16) rfl ?_); refine Kd.R_store k67 (w0 := w0) w0.heap.size rfl rfl 9 (.tmp 16) (.tmp 14) rfl 67 (g := g) (n := n) (cap := c) (m : Int) 3 l ⟨p.f0, p.f1, p.f2, p.f3 ++ s⟩ (.string (p.f3 ++ s)) [.string (p.f3 ++ s)] [.bool p.f0, .int .i64 p.f1, .int .i64 p.f2, .string p.f3] (fun k => k ≠ mb) (fun _ => False) rfl ?hoff rfl rfl ?ht ?h1 HO2.out ?hz ?hi rfl ?hcc ?hj (k67_mkM _ _ _ _) (fun _ hk => hk.elim) HB1.out ?_; (case hoff => rfl); (case ht => kernel_rfl); (case h1 => intro q hq; rw [List.mem_singleton.1 hq]; rfl); (case hz => omega); (case hi => have := hm2.out; have := h02.out; omega); (case hcc => intro j u hj; exact (cells4 x0 x1 x2 x3) j u hj); (case hj => (show 3 + 1 ≤ 4; omega)); intro w2 hR2 hB2 hg2; have HP := Aside0.mk (MkSt.same H1.out hv2.out hg2 (hv2.out.symm ▸ hR2)); have HB2 := Aside0.mk hB2; clear hR2 hB2 hg2)
    | fail)
  (try simp only [Exit.inBlock, Exit.then])
  refine bodyPost_ret (results_none rfl _ _ _) rfl ?_
  exact ⟨rfl, ⟨_, by rw [HRES.out]; exact HP.out⟩, HB2.out⟩
end Go.Proofs.Ytchaegfdcdlfaaa.X

/- delta.Make. -/
namespace Go.Proofs.Ytchaegfdcdlfaaa.X
set_option linter.unusedVariables false
set_option linter.unusedSimpArgs false
open Go.RowKit Go.Maps Go.Proofs.YtchaegfdcdlfaaaW.PrintWords Go.Proofs.YtchaegfdcdlfaaaW.PrintLast Go.Proofs.YtchaegfdcdlfaaaW.PrintMore

theorem block_call (mb : Nat) (v : Value) (l : List S67) (i fr : Nat) (hfr : IntKind.i64.wrap ((i : Int) * 8) = (fr : Int)) (w0 w : World) (hB : Below w0.heap.size w0 w) (h : MkSt w w0.heap.size mb v l) (hL : l.length ≤ 1000000000) :
    Calls Try.prog 97 #[.pointer (some ⟨mb, 0, none⟩), .int .i64 (i : Int)] w fun e w' => e = .returned (.tuple #[]) ∧ (∃ v', MkSt w' w0.heap.size mb v' (blockL l (fr : Int))) ∧ Below w0.heap.size w0 w' := by
  by_cases hl : l = []
  · exact block_none mb v l i fr hfr hl w0 w hB h hL
  · have h0 : 0 < l.length := List.length_pos_iff.2 hl
    obtain ⟨g, c, hv, _⟩ := last_at h rfl h0 _ rfl
    cases hb : (l.getD (l.length - 1) z67).f0
    · exact block_lit mb v l i fr hfr l.length g c rfl h0 _ rfl hv hb w0 w hB h hL
    · by_cases hx : IntKind.i64.wrap ((l.getD (l.length - 1) z67).f1 + (l.getD (l.length - 1) z67).f2) = (fr : Int)
      · exact block_more mb v l i fr hfr l.length g c rfl h0 _ rfl hv hb _ rfl _ rfl hx w0 w hB h hL
      · exact block_apart mb v l i fr hfr l.length g c rfl h0 _ rfl hv hb _ rfl _ rfl hx w0 w hB h hL
theorem getD_mem (l : List S67) (h0 : 0 < l.length) : l.getD (l.length - 1) z67 ∈ l := by
  rw [List.getD_eq_getElem?_getD, List.getElem?_eq_getElem (by omega)]
  exact List.getElem_mem _
theorem lit_call (mb : Nat) (v : Value) (l : List S67) (s : ByteArray) (hs : s.size ≤ 1000000000) (hps : ∀ p ∈ l, p.f3.size ≤ 1000000000) (w0 w : World) (hB : Below w0.heap.size w0 w) (h : MkSt w w0.heap.size mb v l) (hL : l.length ≤ 1000000000) :
    Calls Try.prog 98 #[.pointer (some ⟨mb, 0, none⟩), .string s] w fun e w' => e = .returned (.tuple #[]) ∧ (∃ v', MkSt w' w0.heap.size mb v' (litL l s)) ∧ Below w0.heap.size w0 w' := by
  by_cases hl : l = []
  · exact lit_none mb v l s hs hl w0 w hB h hL
  · have h0 : 0 < l.length := List.length_pos_iff.2 hl
    obtain ⟨g, c, hv, _⟩ := last_at h rfl h0 _ rfl
    cases hb : (l.getD (l.length - 1) z67).f0
    · exact lit_more mb v l s hs l.length g c rfl h0 _ rfl hv hb _ rfl (hps _ (getD_mem l h0)) w0 w hB h hL
    · exact lit_copy mb v l s hs l.length g c rfl h0 _ rfl hv hb w0 w hB h hL
theorem blockL_len (l : List S67) (fr : Int) : (blockL l fr).length ≤ l.length + 1 := by
  unfold blockL
  split <;> simp
theorem litL_len (l : List S67) (s : ByteArray) : (litL l s).length ≤ l.length + 1 := by
  unfold litL
  split <;> simp
theorem blockL_f3 {l : List S67} {fr : Int} {N : Nat} (h : ∀ p ∈ l, p.f3.size ≤ N) : ∀ p ∈ blockL l fr, p.f3.size ≤ N := by
  intro p hp
  unfold blockL at hp
  split at hp
  · rename_i hc
    rcases List.mem_or_eq_of_mem_set hp with hp | rfl
    · exact h p hp
    · exact (show (l.getD (l.length - 1) z67).f3.size ≤ N from h _ (getD_mem l hc.1))
  · rcases List.mem_append.1 hp with hp | hp
    · exact h p hp
    · rw [List.mem_singleton.1 hp]
      exact Nat.zero_le _
theorem litL_f3 {l : List S67} {s : ByteArray} {N : Nat} (h : ∀ p ∈ l, p.f3.size ≤ N) : ∀ p ∈ litL l s, p.f3.size ≤ N + s.size := by
  intro p hp
  unfold litL at hp
  split at hp
  · rename_i hc
    rcases List.mem_or_eq_of_mem_set hp with hp | rfl
    · have := h p hp
      omega
    · have := h _ (getD_mem l hc.1)
      simp only [ByteArray.size_append]
      omega
  · rcases List.mem_append.1 hp with hp | hp
    · have := h p hp
      omega
    · rw [List.mem_singleton.1 hp]
      show s.size ≤ N + s.size
      omega
/-- What is made, with so many steps at the most. -/
def makeF (sig : List Sg) : Nat → List S67 → ByteArray → List S67
  | 0, l, _ => l
  | k + 1, l, s => if s.size = 0 then l else if 0 ≤ findOf sig (if 8 < s.size then s.extract 0 8 else s) then makeF sig k (blockL l (findOf sig (if 8 < s.size then s.extract 0 8 else s) * 8)) (s.extract 8 s.size) else makeF sig k (litL l (s.extract 0 1)) (s.extract 1 s.size)
theorem makeF_end (sig : List Sg) (k : Nat) (l : List S67) (s : ByteArray) (h : s.size = 0) : makeF sig k l s = l := by
  cases k with
  | zero => rfl
  | succ k => rw [makeF, if_pos h]
theorem find_lt (l : List Sg) (q : ByteArray) (i : Nat) (h : findOf l q = (i : Int)) : i < l.length ∧ q.size = 8 := by
  rcases find_cases l q with hf | ⟨k, hf, h8, hk, _⟩
  · rw [hf] at h; omega
  · rw [hf] at h
    exact ⟨by omega, h8⟩
theorem toList_nil {t : ByteArray} (h : t.size = 0) : t.toList = [] := by
  rw [ByteArray.toList_eq]
  exact List.length_eq_zero_iff.1 (by rw [data_length]; exact h)
theorem toList_cons {t : ByteArray} (h : ¬ t.size = 0) : t.toList.isEmpty = false := by
  cases hq : t.toList with
  | nil =>
    rw [ByteArray.toList_eq] at hq
    have := data_length t
    rw [hq] at this
    exact absurd this.symm h
  | cons a l => rfl
theorem mk_new (w : World) : MkSt (w.alloc (.cells #[.slice none 0 0] 128)) w.heap.size w.heap.size (.slice none 0 0) [] := by
  have h : (w.alloc (.cells #[.slice none 0 0] 128)).heap[w.heap.size]? = some (.cells #[.slice none 0 0] 128 (0, 0)) := heap_alloc_new w _
  exact ⟨h, Nat.le_refl _, Kd.R_nil _ _ _ _ _⟩
set_option maxHeartbeats 4000000 in
set_option maxRecDepth 100000 in
theorem make_call (A : Option Addr) (n c : Nat) (sig : List Sg) (s : ByteArray) (w : World) (hsl : sig.length = n) (hr : sgK.C w A n sig) (hok : ∀ x ∈ sig, SgOk x) (hn : n ≤ 100000) (hs : s.size ≤ 100000) :
    Calls Try.prog 55 #[.slice A n c, .string s] w fun e w' => ∃ v, e = .returned v ∧ k67.R 67 w' w.heap.size (fun _ => True) v (makeF sig s.size [] s) ∧ Below w.heap.size w w' := by
  obtain ⟨R, hR⟩ : ∃ R, makeF sig s.size [] s = R := ⟨_, rfl⟩
  rw [hR]
  have HRS := Aside0.mk hr
  have HOKS := Aside0.mk hok
  have HN := Aside0.mk hn
  have HSL := Aside0.mk hsl
  have HS := Aside0.mk hs
  have HR0 := Aside0.mk hR
  clear hr hok hn hs hR hsl
  go_enter Try.func55, Try.ntmps55
  go_wp2_with fail
  refine wp_scope_jumps 0 (fun a' W => ∃ (t : ByteArray) (v : Value) (l : List S67) (k : Nat) (u8 u9 u10 u11 u12 u13 u14 u15 u16 u17 u18 u19 u20 u21 u22 u23 u24 u25 u26 u27 u28 u29 u30 u31 u32 u33 u34 u35 u36 u37 u38 u39 u40 : Value), a' = { tmps := #[.slice A n c, .string t, undef, undef, .slice none 0 0, .pointer (some ⟨w.heap.size, 0, none⟩), .func (.func 97) #[.pointer (some ⟨w.heap.size, 0, none⟩)] #[], .func (.func 98) #[.pointer (some ⟨w.heap.size, 0, none⟩)] #[], u8, u9, u10, u11, u12, u13, u14, u15, u16, u17, u18, u19, u20, u21, u22, u23, u24, u25, u26, u27, u28, u29, u30, u31, u32, u33, u34, u35, u36, u37, u38, u39, u40], defers := [] } ∧ Aside0 (MkSt W w.heap.size w.heap.size v l) ∧ Aside0 (Below w.heap.size w W) ∧ Aside0 (t.size ≤ k ∧ k ≤ 1000000 ∧ l.length + k ≤ 1000000) ∧ Aside0 (∀ p ∈ l, p.f3.size ≤ 1000000 - k) ∧ Aside0 (makeF sig k l t = R)) (fun a' _ => match a'.tmps.getD 1 undef with | .string t => t.size | _ => 0) rfl ?_ ?_
  · obtain ⟨t, ht⟩ : ∃ t, t = s := ⟨_, rfl⟩
    rw [← ht] at HR0 HS ⊢
    clear ht
    obtain ⟨l, hl⟩ : ∃ l : List S67, l = [] := ⟨_, rfl⟩
    obtain ⟨v, hv⟩ : ∃ v, v = Value.slice none 0 0 := ⟨_, rfl⟩
    obtain ⟨k, hk⟩ : ∃ k, k = t.size := ⟨_, rfl⟩
    have HM : Aside0 (MkSt (w.alloc (.cells #[.slice none 0 0] 128)) w.heap.size w.heap.size v l) := ⟨by rw [hv, hl]; exact mk_new w⟩
    have HB : Aside0 (Below w.heap.size w (w.alloc (.cells #[.slice none 0 0] 128))) := ⟨below_alloc (Below.refl _ _) _⟩
    have HK : Aside0 (t.size ≤ k ∧ k ≤ 1000000 ∧ l.length + k ≤ 1000000) := ⟨by have := HS.out; rw [hl, hk]; simp; omega⟩
    have HP : Aside0 (∀ p ∈ l, p.f3.size ≤ 1000000 - k) := ⟨by rw [hl]; intro p hp; simp at hp⟩
    have HR : Aside0 (makeF sig k l t = R) := ⟨by rw [hl, hk]; exact HR0.out⟩
    clear hl hk hv HR0 HS
    go_wp2_with fail
    go_step3
    by_cases h0 : t.size = 0
    · have g1 : t.toList.isEmpty = true := by rw [toList_nil h0]; rfl
      have hc := HM.out.cell
      have HE : Aside0 (l = R) := ⟨by rw [← HR.out, makeF_end _ _ _ _ h0]⟩
      clear h0
      go_wp2_with fail
      simp only [Exit.jump]
      go_ret
      exact ⟨v, rfl, by rw [← HE.out]; exact Kd.R_mono HM.out.2.2 (fun _ _ => trivial), HB.out⟩
    have g1 : t.toList.isEmpty = false := toList_cons h0
    have HT0 := Aside0.mk (Nat.pos_of_ne_zero h0)
    clear h0
    obtain ⟨k, rfl⟩ : ∃ k', k = k' + 1 := ⟨k - 1, by have := HK.out; have := HT0.out; omega⟩
    by_cases h8 : 8 < t.size
    · have g2 : (8 < (t.size : Int)) = True := by simp; omega
      have g2n : (8 < t.size) = True := eq_true h8
      have H8 := Aside0.mk h8
      clear h8
      obtain ⟨r, hr⟩ : ∃ r, findOf sig (t.extract 0 8) = r := ⟨_, rfl⟩
      have HFR := Aside0.mk hr
      by_cases hr0 : 0 ≤ r
      · obtain ⟨i, rfl⟩ := Int.eq_ofNat_of_zero_le hr0
        have hlt := find_lt sig (t.extract 0 8) i hr
        have HLT := Aside0.mk hlt
        have f1 : decide ((i : Int) ≥ 0) = true := by simp
        have f1b : (0 ≤ (i : Int)) = True := by simp
        have f2 : ((8 : Int) ≤ (t.size : Int)) = True := by have := hlt.2; simp; have := H8.out; omega
        have f2n : (8 ≤ t.size) = True := by have := hlt.2; simp; have := H8.out; omega
        obtain ⟨fr, hfr⟩ : ∃ fr : Nat, fr = i * 8 := ⟨_, rfl⟩
        have hfw : IntKind.i64.wrap ((i : Int) * 8) = (fr : Int) := by have := hlt.1; have := HN.out; have := HSL.out; simp [IntKind.wrap, IntKind.bits, IntKind.signed]; omega
        have HFW := Aside0.mk hfr
        have HT8 : Aside0 (8 ≤ t.size) := ⟨of_eq_true f2n⟩
        clear hlt hr hfr hr0
        go_wp2_with fail
        refine (find_callB HSL.out A c (t.extract 0 8) _ (Kd.C_below HRS.out HB.out) HOKS.out (by have := HN.out; omega) (by simp only [ByteArray.size_extract]; omega) (i : Int) HFR.out).mono ?_
        rintro e w1 ⟨rfl, hb1⟩
        have HM1 := Aside0.mk (HM.out.below hb1)
        have HB1 := Aside0.mk (below_step HB.out hb1)
        clear hb1
        go_wp2_with fail
        refine (block_call _ v l i fr hfw w _ HB1.out HM1.out (by have := HK.out; omega)).mono ?_
        rintro e w2 ⟨rfl, ⟨v2, hm2⟩, hb2⟩
        have HM2 := Aside0.mk hm2
        have HB2 := Aside0.mk hb2
        clear hm2 hb2
        go_wp2_with fail
        go_step3
        refine ⟨rfl, ?_⟩
        · exact ⟨(t.extract 8 t.size), v2, (blockL l (fr : Int)), k, _, _, _, _, _, _, _, _, _, _, _, _, _, _, _, _, _, _, _, _, _, _, _, _, _, _, _, _, _, _, _, _, _, rfl, HM2, HB2, ⟨by have := HK.out; have := HT8.out; have := blockL_len l (fr : Int); simp only [ByteArray.size_extract]; omega⟩, ⟨by exact blockL_f3 (fun p hp => by have := HP.out p hp; omega)⟩, ⟨by rw [← HR.out, makeF, if_neg (by have := HT0.out; omega), if_pos H8.out, HFR.out, if_pos (by omega), HFW.out]; rfl⟩⟩
      · have f1 : decide (r ≥ 0) = false := decide_eq_false hr0
        have f2 : ((8 : Int) ≤ (t.size : Int)) = True := by have := H8.out; simp; omega
        have f2n : (8 ≤ t.size) = True := by have := H8.out; simp; omega
        have f1b : (0 ≤ r) = False := eq_false hr0
        have f3 : ((1 : Int) ≤ (t.size : Int)) = True := by have := HT0.out; simp; omega
        have f3n : (1 ≤ t.size) = True := by have := HT0.out; simp; omega
        have HR0 := Aside0.mk hr0
        clear hr hr0
        go_wp2_with fail
        refine (find_callB HSL.out A c (t.extract 0 8) _ (Kd.C_below HRS.out HB.out) HOKS.out (by have := HN.out; omega) (by simp only [ByteArray.size_extract]; omega) r HFR.out).mono ?_
        rintro e w1 ⟨rfl, hb1⟩
        have HM1 := Aside0.mk (HM.out.below hb1)
        have HB1 := Aside0.mk (below_step HB.out hb1)
        clear hb1
        go_wp2_with fail
        refine (lit_call _ v l (t.extract 0 1) (by simp only [ByteArray.size_extract]; omega) (fun p hp => by have := HP.out p hp; omega) w _ HB1.out HM1.out (by have := HK.out; omega)).mono ?_
        rintro e w2 ⟨rfl, ⟨v2, hm2⟩, hb2⟩
        have HM2 := Aside0.mk hm2
        have HB2 := Aside0.mk hb2
        clear hm2 hb2
        go_wp2_with fail
        go_step3
        refine ⟨rfl, ?_⟩
        · exact ⟨(t.extract 1 t.size), v2, (litL l (t.extract 0 1)), k, _, _, _, _, _, _, _, _, _, _, _, _, _, _, _, _, _, _, _, _, _, _, _, _, _, _, _, _, _, _, _, _, _, rfl, HM2, HB2, ⟨by have := HK.out; have := HT0.out; have := litL_len l (t.extract 0 1); simp only [ByteArray.size_extract]; omega⟩, ⟨by intro p hp; have h1 := litL_f3 (N := 1000000 - (k + 1)) HP.out p hp; have := HK.out; simp only [ByteArray.size_extract] at h1; omega⟩, ⟨by rw [← HR.out, makeF, if_neg (by have := HT0.out; omega), if_pos H8.out, HFR.out, if_neg (by have := HR0.out; omega)]⟩⟩
    · have g2 : (8 < (t.size : Int)) = False := by simp; omega
      have g2n : (8 < t.size) = False := eq_false h8
      have H8 := Aside0.mk h8
      clear h8
      obtain ⟨r, hr⟩ : ∃ r, findOf sig t = r := ⟨_, rfl⟩
      have HFR := Aside0.mk hr
      by_cases hr0 : 0 ≤ r
      · obtain ⟨i, rfl⟩ := Int.eq_ofNat_of_zero_le hr0
        have hlt := find_lt sig t i hr
        have HLT := Aside0.mk hlt
        have f1 : decide ((i : Int) ≥ 0) = true := by simp
        have f1b : (0 ≤ (i : Int)) = True := by simp
        have f2 : ((8 : Int) ≤ (t.size : Int)) = True := by have := hlt.2; simp; omega
        have f2n : (8 ≤ t.size) = True := by have := hlt.2; simp; omega
        obtain ⟨fr, hfr⟩ : ∃ fr : Nat, fr = i * 8 := ⟨_, rfl⟩
        have hfw : IntKind.i64.wrap ((i : Int) * 8) = (fr : Int) := by have := hlt.1; have := HN.out; have := HSL.out; simp [IntKind.wrap, IntKind.bits, IntKind.signed]; omega
        have HFW := Aside0.mk hfr
        have HT8 : Aside0 (8 ≤ t.size) := ⟨of_eq_true f2n⟩
        clear hlt hr hfr hr0
        go_wp2_with fail
        refine (find_callB HSL.out A c t _ (Kd.C_below HRS.out HB.out) HOKS.out (by have := HN.out; omega) (by have := H8.out; omega) (i : Int) HFR.out).mono ?_
        rintro e w1 ⟨rfl, hb1⟩
        have HM1 := Aside0.mk (HM.out.below hb1)
        have HB1 := Aside0.mk (below_step HB.out hb1)
        clear hb1
        go_wp2_with fail
        refine (block_call _ v l i fr hfw w _ HB1.out HM1.out (by have := HK.out; omega)).mono ?_
        rintro e w2 ⟨rfl, ⟨v2, hm2⟩, hb2⟩
        have HM2 := Aside0.mk hm2
        have HB2 := Aside0.mk hb2
        clear hm2 hb2
        go_wp2_with fail
        go_step3
        refine ⟨rfl, ?_⟩
        · exact ⟨(t.extract 8 t.size), v2, (blockL l (fr : Int)), k, _, _, _, _, _, _, _, _, _, _, _, _, _, _, _, _, _, _, _, _, _, _, _, _, _, _, _, _, _, _, _, _, _, rfl, HM2, HB2, ⟨by have := HK.out; have := HT8.out; have := blockL_len l (fr : Int); simp only [ByteArray.size_extract]; omega⟩, ⟨by exact blockL_f3 (fun p hp => by have := HP.out p hp; omega)⟩, ⟨by rw [← HR.out, makeF, if_neg (by have := HT0.out; omega), if_neg H8.out, HFR.out, if_pos (by omega), HFW.out]; rfl⟩⟩
      · have f1 : decide (r ≥ 0) = false := decide_eq_false hr0
        have f1b : (0 ≤ r) = False := eq_false hr0
        have f3 : ((1 : Int) ≤ (t.size : Int)) = True := by have := HT0.out; simp; omega
        have f3n : (1 ≤ t.size) = True := by have := HT0.out; simp; omega
        have HR0 := Aside0.mk hr0
        clear hr hr0
        go_wp2_with fail
        refine (find_callB HSL.out A c t _ (Kd.C_below HRS.out HB.out) HOKS.out (by have := HN.out; omega) (by have := H8.out; omega) r HFR.out).mono ?_
        rintro e w1 ⟨rfl, hb1⟩
        have HM1 := Aside0.mk (HM.out.below hb1)
        have HB1 := Aside0.mk (below_step HB.out hb1)
        clear hb1
        go_wp2_with fail
        refine (lit_call _ v l (t.extract 0 1) (by simp only [ByteArray.size_extract]; omega) (fun p hp => by have := HP.out p hp; omega) w _ HB1.out HM1.out (by have := HK.out; omega)).mono ?_
        rintro e w2 ⟨rfl, ⟨v2, hm2⟩, hb2⟩
        have HM2 := Aside0.mk hm2
        have HB2 := Aside0.mk hb2
        clear hm2 hb2
        go_wp2_with fail
        go_step3
        refine ⟨rfl, ?_⟩
        · exact ⟨(t.extract 1 t.size), v2, (litL l (t.extract 0 1)), k, _, _, _, _, _, _, _, _, _, _, _, _, _, _, _, _, _, _, _, _, _, _, _, _, _, _, _, _, _, _, _, _, _, rfl, HM2, HB2, ⟨by have := HK.out; have := HT0.out; have := litL_len l (t.extract 0 1); simp only [ByteArray.size_extract]; omega⟩, ⟨by intro p hp; have h1 := litL_f3 (N := 1000000 - (k + 1)) HP.out p hp; have := HK.out; simp only [ByteArray.size_extract] at h1; omega⟩, ⟨by rw [← HR.out, makeF, if_neg (by have := HT0.out; omega), if_neg H8.out, HFR.out, if_neg (by have := HR0.out; omega)]⟩⟩
  · rintro a' W ⟨t, v, l, k, u8, u9, u10, u11, u12, u13, u14, u15, u16, u17, u18, u19, u20, u21, u22, u23, u24, u25, u26, u27, u28, u29, u30, u31, u32, u33, u34, u35, u36, u37, u38, u39, u40, rfl, HM, HB, HK, HP, HR⟩
    by_cases h0 : t.size = 0
    · have g1 : t.toList.isEmpty = true := by rw [toList_nil h0]; rfl
      have hc := HM.out.cell
      have HE : Aside0 (l = R) := ⟨by rw [← HR.out, makeF_end _ _ _ _ h0]⟩
      clear h0
      go_wp2_with fail
      simp only [Exit.jump]
      go_ret
      exact ⟨v, rfl, by rw [← HE.out]; exact Kd.R_mono HM.out.2.2 (fun _ _ => trivial), HB.out⟩
    have g1 : t.toList.isEmpty = false := toList_cons h0
    have HT0 := Aside0.mk (Nat.pos_of_ne_zero h0)
    clear h0
    obtain ⟨k, rfl⟩ : ∃ k', k = k' + 1 := ⟨k - 1, by have := HK.out; have := HT0.out; omega⟩
    by_cases h8 : 8 < t.size
    · have g2 : (8 < (t.size : Int)) = True := by simp; omega
      have g2n : (8 < t.size) = True := eq_true h8
      have H8 := Aside0.mk h8
      clear h8
      obtain ⟨r, hr⟩ : ∃ r, findOf sig (t.extract 0 8) = r := ⟨_, rfl⟩
      have HFR := Aside0.mk hr
      by_cases hr0 : 0 ≤ r
      · obtain ⟨i, rfl⟩ := Int.eq_ofNat_of_zero_le hr0
        have hlt := find_lt sig (t.extract 0 8) i hr
        have HLT := Aside0.mk hlt
        have f1 : decide ((i : Int) ≥ 0) = true := by simp
        have f1b : (0 ≤ (i : Int)) = True := by simp
        have f2 : ((8 : Int) ≤ (t.size : Int)) = True := by have := hlt.2; simp; have := H8.out; omega
        have f2n : (8 ≤ t.size) = True := by have := hlt.2; simp; have := H8.out; omega
        obtain ⟨fr, hfr⟩ : ∃ fr : Nat, fr = i * 8 := ⟨_, rfl⟩
        have hfw : IntKind.i64.wrap ((i : Int) * 8) = (fr : Int) := by have := hlt.1; have := HN.out; have := HSL.out; simp [IntKind.wrap, IntKind.bits, IntKind.signed]; omega
        have HFW := Aside0.mk hfr
        have HT8 : Aside0 (8 ≤ t.size) := ⟨of_eq_true f2n⟩
        clear hlt hr hfr hr0
        go_wp2_with fail
        refine (find_callB HSL.out A c (t.extract 0 8) _ (Kd.C_below HRS.out HB.out) HOKS.out (by have := HN.out; omega) (by simp only [ByteArray.size_extract]; omega) (i : Int) HFR.out).mono ?_
        rintro e w1 ⟨rfl, hb1⟩
        have HM1 := Aside0.mk (HM.out.below hb1)
        have HB1 := Aside0.mk (below_step HB.out hb1)
        clear hb1
        go_wp2_with fail
        refine (block_call _ v l i fr hfw w _ HB1.out HM1.out (by have := HK.out; omega)).mono ?_
        rintro e w2 ⟨rfl, ⟨v2, hm2⟩, hb2⟩
        have HM2 := Aside0.mk hm2
        have HB2 := Aside0.mk hb2
        clear hm2 hb2
        go_wp2_with fail
        go_step3
        refine ⟨rfl, ?_, ?_⟩
        · exact ⟨(t.extract 8 t.size), v2, (blockL l (fr : Int)), k, _, _, _, _, _, _, _, _, _, _, _, _, _, _, _, _, _, _, _, _, _, _, _, _, _, _, _, _, _, _, _, _, _, rfl, HM2, HB2, ⟨by have := HK.out; have := HT8.out; have := blockL_len l (fr : Int); simp only [ByteArray.size_extract]; omega⟩, ⟨by exact blockL_f3 (fun p hp => by have := HP.out p hp; omega)⟩, ⟨by rw [← HR.out, makeF, if_neg (by have := HT0.out; omega), if_pos H8.out, HFR.out, if_pos (by omega), HFW.out]; rfl⟩⟩
        · show ((t.extract 8 t.size)).size < t.size
          have := HT8.out; simp only [ByteArray.size_extract]; omega
      · have f1 : decide (r ≥ 0) = false := decide_eq_false hr0
        have f2 : ((8 : Int) ≤ (t.size : Int)) = True := by have := H8.out; simp; omega
        have f2n : (8 ≤ t.size) = True := by have := H8.out; simp; omega
        have f1b : (0 ≤ r) = False := eq_false hr0
        have f3 : ((1 : Int) ≤ (t.size : Int)) = True := by have := HT0.out; simp; omega
        have f3n : (1 ≤ t.size) = True := by have := HT0.out; simp; omega
        have HR0 := Aside0.mk hr0
        clear hr hr0
        go_wp2_with fail
        refine (find_callB HSL.out A c (t.extract 0 8) _ (Kd.C_below HRS.out HB.out) HOKS.out (by have := HN.out; omega) (by simp only [ByteArray.size_extract]; omega) r HFR.out).mono ?_
        rintro e w1 ⟨rfl, hb1⟩
        have HM1 := Aside0.mk (HM.out.below hb1)
        have HB1 := Aside0.mk (below_step HB.out hb1)
        clear hb1
        go_wp2_with fail
        refine (lit_call _ v l (t.extract 0 1) (by simp only [ByteArray.size_extract]; omega) (fun p hp => by have := HP.out p hp; omega) w _ HB1.out HM1.out (by have := HK.out; omega)).mono ?_
        rintro e w2 ⟨rfl, ⟨v2, hm2⟩, hb2⟩
        have HM2 := Aside0.mk hm2
        have HB2 := Aside0.mk hb2
        clear hm2 hb2
        go_wp2_with fail
        go_step3
        refine ⟨rfl, ?_, ?_⟩
        · exact ⟨(t.extract 1 t.size), v2, (litL l (t.extract 0 1)), k, _, _, _, _, _, _, _, _, _, _, _, _, _, _, _, _, _, _, _, _, _, _, _, _, _, _, _, _, _, _, _, _, _, rfl, HM2, HB2, ⟨by have := HK.out; have := HT0.out; have := litL_len l (t.extract 0 1); simp only [ByteArray.size_extract]; omega⟩, ⟨by intro p hp; have h1 := litL_f3 (N := 1000000 - (k + 1)) HP.out p hp; have := HK.out; simp only [ByteArray.size_extract] at h1; omega⟩, ⟨by rw [← HR.out, makeF, if_neg (by have := HT0.out; omega), if_pos H8.out, HFR.out, if_neg (by have := HR0.out; omega)]⟩⟩
        · show ((t.extract 1 t.size)).size < t.size
          have := HT0.out; simp only [ByteArray.size_extract]; omega
    · have g2 : (8 < (t.size : Int)) = False := by simp; omega
      have g2n : (8 < t.size) = False := eq_false h8
      have H8 := Aside0.mk h8
      clear h8
      obtain ⟨r, hr⟩ : ∃ r, findOf sig t = r := ⟨_, rfl⟩
      have HFR := Aside0.mk hr
      by_cases hr0 : 0 ≤ r
      · obtain ⟨i, rfl⟩ := Int.eq_ofNat_of_zero_le hr0
        have hlt := find_lt sig t i hr
        have HLT := Aside0.mk hlt
        have f1 : decide ((i : Int) ≥ 0) = true := by simp
        have f1b : (0 ≤ (i : Int)) = True := by simp
        have f2 : ((8 : Int) ≤ (t.size : Int)) = True := by have := hlt.2; simp; omega
        have f2n : (8 ≤ t.size) = True := by have := hlt.2; simp; omega
        obtain ⟨fr, hfr⟩ : ∃ fr : Nat, fr = i * 8 := ⟨_, rfl⟩
        have hfw : IntKind.i64.wrap ((i : Int) * 8) = (fr : Int) := by have := hlt.1; have := HN.out; have := HSL.out; simp [IntKind.wrap, IntKind.bits, IntKind.signed]; omega
        have HFW := Aside0.mk hfr
        have HT8 : Aside0 (8 ≤ t.size) := ⟨of_eq_true f2n⟩
        clear hlt hr hfr hr0
        go_wp2_with fail
        refine (find_callB HSL.out A c t _ (Kd.C_below HRS.out HB.out) HOKS.out (by have := HN.out; omega) (by have := H8.out; omega) (i : Int) HFR.out).mono ?_
        rintro e w1 ⟨rfl, hb1⟩
        have HM1 := Aside0.mk (HM.out.below hb1)
        have HB1 := Aside0.mk (below_step HB.out hb1)
        clear hb1
        go_wp2_with fail
        refine (block_call _ v l i fr hfw w _ HB1.out HM1.out (by have := HK.out; omega)).mono ?_
        rintro e w2 ⟨rfl, ⟨v2, hm2⟩, hb2⟩
        have HM2 := Aside0.mk hm2
        have HB2 := Aside0.mk hb2
        clear hm2 hb2
        go_wp2_with fail
        go_step3
        refine ⟨rfl, ?_, ?_⟩
        · exact ⟨(t.extract 8 t.size), v2, (blockL l (fr : Int)), k, _, _, _, _, _, _, _, _, _, _, _, _, _, _, _, _, _, _, _, _, _, _, _, _, _, _, _, _, _, _, _, _, _, rfl, HM2, HB2, ⟨by have := HK.out; have := HT8.out; have := blockL_len l (fr : Int); simp only [ByteArray.size_extract]; omega⟩, ⟨by exact blockL_f3 (fun p hp => by have := HP.out p hp; omega)⟩, ⟨by rw [← HR.out, makeF, if_neg (by have := HT0.out; omega), if_neg H8.out, HFR.out, if_pos (by omega), HFW.out]; rfl⟩⟩
        · show ((t.extract 8 t.size)).size < t.size
          have := HT8.out; simp only [ByteArray.size_extract]; omega
      · have f1 : decide (r ≥ 0) = false := decide_eq_false hr0
        have f1b : (0 ≤ r) = False := eq_false hr0
        have f3 : ((1 : Int) ≤ (t.size : Int)) = True := by have := HT0.out; simp; omega
        have f3n : (1 ≤ t.size) = True := by have := HT0.out; simp; omega
        have HR0 := Aside0.mk hr0
        clear hr hr0
        go_wp2_with fail
        refine (find_callB HSL.out A c t _ (Kd.C_below HRS.out HB.out) HOKS.out (by have := HN.out; omega) (by have := H8.out; omega) r HFR.out).mono ?_
        rintro e w1 ⟨rfl, hb1⟩
        have HM1 := Aside0.mk (HM.out.below hb1)
        have HB1 := Aside0.mk (below_step HB.out hb1)
        clear hb1
        go_wp2_with fail
        refine (lit_call _ v l (t.extract 0 1) (by simp only [ByteArray.size_extract]; omega) (fun p hp => by have := HP.out p hp; omega) w _ HB1.out HM1.out (by have := HK.out; omega)).mono ?_
        rintro e w2 ⟨rfl, ⟨v2, hm2⟩, hb2⟩
        have HM2 := Aside0.mk hm2
        have HB2 := Aside0.mk hb2
        clear hm2 hb2
        go_wp2_with fail
        go_step3
        refine ⟨rfl, ?_, ?_⟩
        · exact ⟨(t.extract 1 t.size), v2, (litL l (t.extract 0 1)), k, _, _, _, _, _, _, _, _, _, _, _, _, _, _, _, _, _, _, _, _, _, _, _, _, _, _, _, _, _, _, _, _, _, rfl, HM2, HB2, ⟨by have := HK.out; have := HT0.out; have := litL_len l (t.extract 0 1); simp only [ByteArray.size_extract]; omega⟩, ⟨by intro p hp; have h1 := litL_f3 (N := 1000000 - (k + 1)) HP.out p hp; have := HK.out; simp only [ByteArray.size_extract] at h1; omega⟩, ⟨by rw [← HR.out, makeF, if_neg (by have := HT0.out; omega), if_neg H8.out, HFR.out, if_neg (by have := HR0.out; omega)]⟩⟩
        · show ((t.extract 1 t.size)).size < t.size
          have := HT0.out; simp only [ByteArray.size_extract]; omega
end Go.Proofs.Ytchaegfdcdlfaaa.X

namespace Go.Proofs.Ytchaegfdcdlfaaa.X
open Go.RowKit Go.Proofs.YtchaegfdcdlfaaaW.PrintWords Go.Proofs.YtchaegfdcdlfaaaW.PrintLast Go.Proofs.YtchaegfdcdlfaaaW.PrintMore
attribute [local go_sem] max2_int min2_int max_two min_two max_three min_three max_four min_four   -- for this text's walks alone
set_option linter.unusedVariables false
set_option linter.unusedSimpArgs false

theorem eqA67 (d : Nat) (w : World) (x0 y0 : Bool) (x1 y1 : Int) (x2 y2 : Int) (x3 y3 : ByteArray) :
    (Op.equalIn (d + 2) 67 (.agg #[.bool x0, .int .i64 x1, .int .i64 x2, .string x3]) (.agg #[.bool y0, .int .i64 y1, .int .i64 y2, .string y3])).run Try.prog w = .ok (x0 == y0 && (x1 == y1 && (x2 == y2 && (x3.toList == y3.toList)))) w := by
  refine eqA_of Try.underlying67 (by kernel_rfl) ?_
  refine eqf_cons (by rfl) (by go_simp; rfl) (by go_simp; rfl) (by go_simp) ?_
  refine eqf_cons (by rfl) (by go_simp; rfl) (by go_simp; rfl) (by go_simp) ?_
  refine eqf_cons (by rfl) (by go_simp; rfl) (by go_simp; rfl) (by go_simp) ?_
  exact eqf_last (by rfl) (by go_simp; rfl) (by go_simp; rfl) (by go_simp)
end Go.Proofs.Ytchaegfdcdlfaaa.X

namespace Go.Proofs.Ytchaegfdcdlfaaa.X
open Go.RowKit Go.Proofs.YtchaegfdcdlfaaaW.PrintWords Go.Proofs.YtchaegfdcdlfaaaW.PrintLast Go.Proofs.YtchaegfdcdlfaaaW.PrintMore
attribute [local go_sem] max2_int min2_int max_two min_two max_three min_three max_four min_four   -- for this text's walks alone
set_option linter.unusedVariables false
set_option linter.unusedSimpArgs false

/-! ### delta_in: function 146 -/
def delta_in.f (a0 : Int) (a1 : Int) (a2 : Int) : Option (Bool) := if a0 ≥ a1 then (some (decide (a0 ≤ a2))) else (some false)
set_option maxHeartbeats 8000000 in
set_option maxRecDepth 100000 in
theorem delta_in.calls (a0 : Int) (a1 : Int) (a2 : Int) (r : Bool) (w : World) (h : delta_in.f a0 a1 a2 = some r) :
    Calls Try.prog 146 #[.int .i64 a0, .int .i64 a1, .int .i64 a2] w fun e w' => e = .returned (.bool r) ∧ Drawn0 w w' := by
  have H : (if a0 ≥ a1 then (some (decide (a0 ≤ a2))) else (some false)) = some r := h
  clear h
  by_cases c4 : a0 ≥ a1
  · rw [if_pos c4] at H
    have c4b0 : decide (a1 ≤ a0) = true := decide_eq_true c4
    clear c4
    obtain rfl := Option.some.inj H
    go_enter Try.func146, Try.ntmps146
    go_wp2
    go_ret
    exact ⟨by first | rfl | (simp; done) | (simp [*]; done), by repeat (first | exact Drawn0.refl _ | apply Drawn0.step)⟩
  · rw [if_neg c4] at H
    have c4b0 : decide (a1 ≤ a0) = false := decide_eq_false c4
    clear c4
    obtain rfl := Option.some.inj H
    go_enter Try.func146, Try.ntmps146
    go_wp2
    go_ret
    exact ⟨by first | rfl | (simp; done) | (simp [*]; done), by repeat (first | exact Drawn0.refl _ | apply Drawn0.step)⟩

end Go.Proofs.Ytchaegfdcdlfaaa.X

namespace Go.Proofs.Ytchaegfdcdlfaaa.X
open Go.RowKit Go.Proofs.YtchaegfdcdlfaaaW.PrintWords Go.Proofs.YtchaegfdcdlfaaaW.PrintLast Go.Proofs.YtchaegfdcdlfaaaW.PrintMore
attribute [local go_sem] max2_int min2_int max_two min_two max_three min_three max_four min_four   -- for this text's walks alone
set_option linter.unusedVariables false
set_option linter.unusedSimpArgs false

attribute [local go_sem high] eqA67
/-! ### delta_may: function 101 -/
def delta_may.f (a0_0 : Bool) (a0_1 : Int) (a0_2 : Int) (a0_3 : ByteArray) : Option (Bool) := if a0_0 = true then ((delta_in.f a0_1 0 200).bind fun t366 => (if t366 = true then ((delta_in.f a0_2 1 200).bind fun t367 => (if t367 = true then (some (a0_3.toList == ([] : List UInt8))) else (some false))) else (some false))) else (if (!a0_0 && (a0_1 == 0 && (a0_2 == 0))) = true then ((delta_in.f (a0_3.size : Int) 1 200).bind fun t368 => (some t368)) else (some false))
set_option maxHeartbeats 8000000 in
set_option maxRecDepth 100000 in
theorem delta_may.calls (a0_0 : Bool) (a0_1 : Int) (a0_2 : Int) (a0_3 : ByteArray) (r : Bool) (w : World) (h : delta_may.f a0_0 a0_1 a0_2 a0_3 = some r) :
    Calls Try.prog 101 #[.agg #[.bool a0_0, .int .i64 a0_1, .int .i64 a0_2, .string a0_3]] w fun e w' => e = .returned (.bool r) ∧ Below w.heap.size w w' := by
  have hu67 := Try.underlying67
  have HB := Aside0.mk (Below.refl w.heap.size w)
  have H : (if a0_0 = true then ((delta_in.f a0_1 0 200).bind fun t366 => (if t366 = true then ((delta_in.f a0_2 1 200).bind fun t367 => (if t367 = true then (some (a0_3.toList == ([] : List UInt8))) else (some false))) else (some false))) else (if (!a0_0 && (a0_1 == 0 && (a0_2 == 0))) = true then ((delta_in.f (a0_3.size : Int) 1 200).bind fun t368 => (some t368)) else (some false))) = some r := h
  clear h
  by_cases c2 : a0_0 = true
  · subst c2
    have H1 : ((delta_in.f a0_1 0 200).bind fun t366 => (if t366 = true then ((delta_in.f a0_2 1 200).bind fun t367 => (if t367 = true then (some (a0_3.toList == ([] : List UInt8))) else (some false))) else (some false))) = some r := by rw [if_pos rfl] at H; exact H
    clear H
    have H := H1
    clear H1
    replace H := Option.bind_eq_some_iff.mp H
    obtain ⟨t366, A30, H⟩ := H
    replace H : (if t366 = true then ((delta_in.f a0_2 1 200).bind fun t367 => (if t367 = true then (some (a0_3.toList == ([] : List UInt8))) else (some false))) else (some false)) = some r := H
    have A3 := Aside0.mk A30
    clear A30
    by_cases c4 : t366 = true
    · subst c4
      have H1 : ((delta_in.f a0_2 1 200).bind fun t367 => (if t367 = true then (some (a0_3.toList == ([] : List UInt8))) else (some false))) = some r := by rw [if_pos rfl] at H; exact H
      clear H
      have H := H1
      clear H1
      replace H := Option.bind_eq_some_iff.mp H
      obtain ⟨t367, A50, H⟩ := H
      replace H : (if t367 = true then (some (a0_3.toList == ([] : List UInt8))) else (some false)) = some r := H
      have A5 := Aside0.mk A50
      clear A50
      by_cases c6 : t367 = true
      · subst c6
        have H1 : (some (a0_3.toList == ([] : List UInt8))) = some r := by rw [if_pos rfl] at H; exact H
        clear H
        have H := H1
        clear H1
        obtain rfl := Option.some.inj H
        go_enter Try.func101, Try.ntmps101
        go_wp2_with (first | ((with_reducible refine gate_dst (N := 1) rfl ?_); (try (refine gate_guard (by rfl) ?_; dsimp only)); refine box_event ?hg (N := 1) ?hd (cs := #[.bool true, .int .i64 a0_1, .int .i64 a0_2, .string a0_3]) (t := 67) ?hr ?_; (case hd => rfl); (case hg => rfl); (case hr => first | (go_simp; done) | (go_simp; rfl)); intro gb365 hg w7 hbox hb; have n0_ := Aside0.mk (below_step (by repeat (first | (with_reducible first | exact HB.out | apply below_alloc | apply pw_below_drewN | apply below_drew1) | exact HB.out)) hb); have n1_ := Aside0.mk (hbox); have n2_ := Aside0.mk ((by rw [hg]; exact (below_size (by repeat (first | (with_reducible first | exact HB.out | apply below_alloc | apply pw_below_drewN | apply below_drew1) | exact HB.out))) : w.heap.size ≤ gb365)); have n3_ := Aside0.mk ((by rw [hg]; exact (below_size (by repeat (first | (with_reducible first | exact HB.out | apply below_alloc | apply pw_below_drewN | apply below_drew1) | exact HB.out))) : w.heap.size ≤ gb365)); clear HB; have HB := n0_; have BK365 := n1_; have GW365 := n2_; have GE365 := n3_; clear n0_ n1_ n2_ n3_; clear hb hbox hg; have hcz8_0 : w7.cell? ⟨gb365, 0, none⟩ = some (.bool true) := (blk_cell BK365.out 0).trans rfl; have hcz8_1 : w7.cell? ⟨gb365, 1, none⟩ = some (.int .i64 a0_1) := (blk_cell BK365.out 1).trans rfl; have hcz8_2 : w7.cell? ⟨gb365, 2, none⟩ = some (.int .i64 a0_2) := (blk_cell BK365.out 2).trans rfl; have hcz8_3 : w7.cell? ⟨gb365, 3, none⟩ = some (.string a0_3) := (blk_cell BK365.out 3).trans rfl; have hfz8_0 := blk_frozen BK365.out 0; have hfz8_1 := blk_frozen BK365.out 1; have hfz8_2 := blk_frozen BK365.out 2; have hfz8_3 := blk_frozen BK365.out 3) | ((with_reducible refine gate_callee (f := 146) rfl ?_); refine goesL_ (some 7) rfl rfl Try.func146 (by kernel_rfl) rfl #[.int .i64 a0_1, .int .i64 0, .int .i64 200] rfl (by (try simp only [List.map_toArray, List.map_cons, List.map_nil]); first | done | rfl | (simp only [List.length_drop, List.length_take]; rfl)) ?_; (with_reducible refine (delta_in.calls a0_1 0 200 true _ A3.out).mono ?_); rintro e w' ⟨rfl, ⟨nd, rfl⟩⟩; refine ⟨_, rfl, ?_⟩) | (go_at_call 146; (with_reducible refine (delta_in.calls a0_2 1 200 true _ A5.out).mono ?_); rintro e w' ⟨rfl, ⟨nd, rfl⟩⟩))
        go_ret
        exact ⟨by first | rfl | (simp [errW_none, errW_some] <;> rfl) | (simp [*, errW_none, errW_some] <;> rfl), by repeat (first | (with_reducible first | exact HB.out | apply below_alloc | apply pw_below_drewN | apply below_drew1 | refine below_set ?_ GE365.out) | exact HB.out)⟩
      · replace c6 := Bool.eq_false_iff.mpr c6
        subst c6
        have H1 : (some false) = some r := by rw [if_neg (show ¬ (false = true) by decide)] at H; exact H
        clear H
        have H := H1
        clear H1
        obtain rfl := Option.some.inj H
        go_enter Try.func101, Try.ntmps101
        go_wp2_with (first | ((with_reducible refine gate_dst (N := 1) rfl ?_); (try (refine gate_guard (by rfl) ?_; dsimp only)); refine box_event ?hg (N := 1) ?hd (cs := #[.bool true, .int .i64 a0_1, .int .i64 a0_2, .string a0_3]) (t := 67) ?hr ?_; (case hd => rfl); (case hg => rfl); (case hr => first | (go_simp; done) | (go_simp; rfl)); intro gb365 hg w9 hbox hb; have n0_ := Aside0.mk (below_step (by repeat (first | (with_reducible first | exact HB.out | apply below_alloc | apply pw_below_drewN | apply below_drew1) | exact HB.out)) hb); have n1_ := Aside0.mk (hbox); have n2_ := Aside0.mk ((by rw [hg]; exact (below_size (by repeat (first | (with_reducible first | exact HB.out | apply below_alloc | apply pw_below_drewN | apply below_drew1) | exact HB.out))) : w.heap.size ≤ gb365)); have n3_ := Aside0.mk ((by rw [hg]; exact (below_size (by repeat (first | (with_reducible first | exact HB.out | apply below_alloc | apply pw_below_drewN | apply below_drew1) | exact HB.out))) : w.heap.size ≤ gb365)); clear HB; have HB := n0_; have BK365 := n1_; have GW365 := n2_; have GE365 := n3_; clear n0_ n1_ n2_ n3_; clear hb hbox hg; have hcz10_0 : w9.cell? ⟨gb365, 0, none⟩ = some (.bool true) := (blk_cell BK365.out 0).trans rfl; have hcz10_1 : w9.cell? ⟨gb365, 1, none⟩ = some (.int .i64 a0_1) := (blk_cell BK365.out 1).trans rfl; have hcz10_2 : w9.cell? ⟨gb365, 2, none⟩ = some (.int .i64 a0_2) := (blk_cell BK365.out 2).trans rfl; have hcz10_3 : w9.cell? ⟨gb365, 3, none⟩ = some (.string a0_3) := (blk_cell BK365.out 3).trans rfl; have hfz10_0 := blk_frozen BK365.out 0; have hfz10_1 := blk_frozen BK365.out 1; have hfz10_2 := blk_frozen BK365.out 2; have hfz10_3 := blk_frozen BK365.out 3) | ((with_reducible refine gate_callee (f := 146) rfl ?_); refine goesL_ (some 7) rfl rfl Try.func146 (by kernel_rfl) rfl #[.int .i64 a0_1, .int .i64 0, .int .i64 200] rfl (by (try simp only [List.map_toArray, List.map_cons, List.map_nil]); first | done | rfl | (simp only [List.length_drop, List.length_take]; rfl)) ?_; (with_reducible refine (delta_in.calls a0_1 0 200 true _ A3.out).mono ?_); rintro e w' ⟨rfl, ⟨nd, rfl⟩⟩; refine ⟨_, rfl, ?_⟩) | (go_at_call 146; (with_reducible refine (delta_in.calls a0_2 1 200 false _ A5.out).mono ?_); rintro e w' ⟨rfl, ⟨nd, rfl⟩⟩))
        go_ret
        exact ⟨by first | rfl | (simp [errW_none, errW_some] <;> rfl) | (simp [*, errW_none, errW_some] <;> rfl), by repeat (first | (with_reducible first | exact HB.out | apply below_alloc | apply pw_below_drewN | apply below_drew1 | refine below_set ?_ GE365.out) | exact HB.out)⟩
    · replace c4 := Bool.eq_false_iff.mpr c4
      subst c4
      have H1 : (some false) = some r := by rw [if_neg (show ¬ (false = true) by decide)] at H; exact H
      clear H
      have H := H1
      clear H1
      obtain rfl := Option.some.inj H
      go_enter Try.func101, Try.ntmps101
      go_wp2_with (first | ((with_reducible refine gate_dst (N := 1) rfl ?_); (try (refine gate_guard (by rfl) ?_; dsimp only)); refine box_event ?hg (N := 1) ?hd (cs := #[.bool true, .int .i64 a0_1, .int .i64 a0_2, .string a0_3]) (t := 67) ?hr ?_; (case hd => rfl); (case hg => rfl); (case hr => first | (go_simp; done) | (go_simp; rfl)); intro gb365 hg w11 hbox hb; have n0_ := Aside0.mk (below_step (by repeat (first | (with_reducible first | exact HB.out | apply below_alloc | apply pw_below_drewN | apply below_drew1) | exact HB.out)) hb); have n1_ := Aside0.mk (hbox); have n2_ := Aside0.mk ((by rw [hg]; exact (below_size (by repeat (first | (with_reducible first | exact HB.out | apply below_alloc | apply pw_below_drewN | apply below_drew1) | exact HB.out))) : w.heap.size ≤ gb365)); have n3_ := Aside0.mk ((by rw [hg]; exact (below_size (by repeat (first | (with_reducible first | exact HB.out | apply below_alloc | apply pw_below_drewN | apply below_drew1) | exact HB.out))) : w.heap.size ≤ gb365)); clear HB; have HB := n0_; have BK365 := n1_; have GW365 := n2_; have GE365 := n3_; clear n0_ n1_ n2_ n3_; clear hb hbox hg; have hcz12_0 : w11.cell? ⟨gb365, 0, none⟩ = some (.bool true) := (blk_cell BK365.out 0).trans rfl; have hcz12_1 : w11.cell? ⟨gb365, 1, none⟩ = some (.int .i64 a0_1) := (blk_cell BK365.out 1).trans rfl; have hcz12_2 : w11.cell? ⟨gb365, 2, none⟩ = some (.int .i64 a0_2) := (blk_cell BK365.out 2).trans rfl; have hcz12_3 : w11.cell? ⟨gb365, 3, none⟩ = some (.string a0_3) := (blk_cell BK365.out 3).trans rfl; have hfz12_0 := blk_frozen BK365.out 0; have hfz12_1 := blk_frozen BK365.out 1; have hfz12_2 := blk_frozen BK365.out 2; have hfz12_3 := blk_frozen BK365.out 3) | ((with_reducible refine gate_callee (f := 146) rfl ?_); refine goesL_ (some 7) rfl rfl Try.func146 (by kernel_rfl) rfl #[.int .i64 a0_1, .int .i64 0, .int .i64 200] rfl (by (try simp only [List.map_toArray, List.map_cons, List.map_nil]); first | done | rfl | (simp only [List.length_drop, List.length_take]; rfl)) ?_; (with_reducible refine (delta_in.calls a0_1 0 200 false _ A3.out).mono ?_); rintro e w' ⟨rfl, ⟨nd, rfl⟩⟩; refine ⟨_, rfl, ?_⟩))
      go_ret
      exact ⟨by first | rfl | (simp [errW_none, errW_some] <;> rfl) | (simp [*, errW_none, errW_some] <;> rfl), by repeat (first | (with_reducible first | exact HB.out | apply below_alloc | apply pw_below_drewN | apply below_drew1 | refine below_set ?_ GE365.out) | exact HB.out)⟩
  · replace c2 := Bool.eq_false_iff.mpr c2
    subst c2
    have H1 : (if (!false && (a0_1 == 0 && (a0_2 == 0))) = true then ((delta_in.f (a0_3.size : Int) 1 200).bind fun t368 => (some t368)) else (some false)) = some r := by rw [if_neg (show ¬ (false = true) by decide)] at H; exact H
    clear H
    have H := H1
    clear H1
    by_cases c13 : (!false && (a0_1 == 0 && (a0_2 == 0))) = true
    · rw [if_pos c13] at H
      have c13b0 : (!false && (a0_1 == 0 && (a0_2 == 0))) = true := c13
      have cz13 : (a0_1 = 0 ∧ a0_2 = 0) = True := eq_true (by simpa using c13b0)
      have cy13 : (a0_1 == 0 && a0_2 == 0) = true := by simpa using c13b0
      clear c13
      replace H := Option.bind_eq_some_iff.mp H
      obtain ⟨t368, A140, H⟩ := H
      replace H : (some t368) = some r := H
      have A14 := Aside0.mk A140
      clear A140
      obtain rfl := Option.some.inj H
      go_enter Try.func101, Try.ntmps101
      go_wp2_with (first | ((with_reducible refine gate_dst (N := 1) rfl ?_); (try (refine gate_guard (by rfl) ?_; dsimp only)); refine box_event ?hg (N := 1) ?hd (cs := #[.bool false, .int .i64 a0_1, .int .i64 a0_2, .string a0_3]) (t := 67) ?hr ?_; (case hd => rfl); (case hg => rfl); (case hr => first | (go_simp; done) | (go_simp; rfl)); intro gb365 hg w15 hbox hb; have n0_ := Aside0.mk (below_step (by repeat (first | (with_reducible first | exact HB.out | apply below_alloc | apply pw_below_drewN | apply below_drew1) | exact HB.out)) hb); have n1_ := Aside0.mk (hbox); have n2_ := Aside0.mk ((by rw [hg]; exact (below_size (by repeat (first | (with_reducible first | exact HB.out | apply below_alloc | apply pw_below_drewN | apply below_drew1) | exact HB.out))) : w.heap.size ≤ gb365)); have n3_ := Aside0.mk ((by rw [hg]; exact (below_size (by repeat (first | (with_reducible first | exact HB.out | apply below_alloc | apply pw_below_drewN | apply below_drew1) | exact HB.out))) : w.heap.size ≤ gb365)); clear HB; have HB := n0_; have BK365 := n1_; have GW365 := n2_; have GE365 := n3_; clear n0_ n1_ n2_ n3_; clear hb hbox hg; have hcz16_0 : w15.cell? ⟨gb365, 0, none⟩ = some (.bool false) := (blk_cell BK365.out 0).trans rfl; have hcz16_1 : w15.cell? ⟨gb365, 1, none⟩ = some (.int .i64 a0_1) := (blk_cell BK365.out 1).trans rfl; have hcz16_2 : w15.cell? ⟨gb365, 2, none⟩ = some (.int .i64 a0_2) := (blk_cell BK365.out 2).trans rfl; have hcz16_3 : w15.cell? ⟨gb365, 3, none⟩ = some (.string a0_3) := (blk_cell BK365.out 3).trans rfl; have hfz16_0 := blk_frozen BK365.out 0; have hfz16_1 := blk_frozen BK365.out 1; have hfz16_2 := blk_frozen BK365.out 2; have hfz16_3 := blk_frozen BK365.out 3) | (go_at_call 146; (with_reducible refine (delta_in.calls (a0_3.size : Int) 1 200 t368 _ A14.out).mono ?_); rintro e w' ⟨rfl, ⟨nd, rfl⟩⟩))
      go_ret
      exact ⟨by first | rfl | (simp [errW_none, errW_some] <;> rfl) | (simp [*, errW_none, errW_some] <;> rfl), by repeat (first | (with_reducible first | exact HB.out | apply below_alloc | apply pw_below_drewN | apply below_drew1 | refine below_set ?_ GE365.out) | exact HB.out)⟩
    · rw [if_neg c13] at H
      have c13b0 : (!false && (a0_1 == 0 && (a0_2 == 0))) = false := by simpa using c13
      have cy13 : (a0_1 == 0 && a0_2 == 0) = false := by simpa using c13b0
      have cz13 : (a0_1 = 0 ∧ a0_2 = 0) = False := eq_false (by intro h; simp [h.1, h.2] at c13b0)
      clear c13
      obtain rfl := Option.some.inj H
      go_enter Try.func101, Try.ntmps101
      go_wp2_with (first | ((with_reducible refine gate_dst (N := 1) rfl ?_); (try (refine gate_guard (by rfl) ?_; dsimp only)); refine box_event ?hg (N := 1) ?hd (cs := #[.bool false, .int .i64 a0_1, .int .i64 a0_2, .string a0_3]) (t := 67) ?hr ?_; (case hd => rfl); (case hg => rfl); (case hr => first | (go_simp; done) | (go_simp; rfl)); intro gb365 hg w17 hbox hb; have n0_ := Aside0.mk (below_step (by repeat (first | (with_reducible first | exact HB.out | apply below_alloc | apply pw_below_drewN | apply below_drew1) | exact HB.out)) hb); have n1_ := Aside0.mk (hbox); have n2_ := Aside0.mk ((by rw [hg]; exact (below_size (by repeat (first | (with_reducible first | exact HB.out | apply below_alloc | apply pw_below_drewN | apply below_drew1) | exact HB.out))) : w.heap.size ≤ gb365)); have n3_ := Aside0.mk ((by rw [hg]; exact (below_size (by repeat (first | (with_reducible first | exact HB.out | apply below_alloc | apply pw_below_drewN | apply below_drew1) | exact HB.out))) : w.heap.size ≤ gb365)); clear HB; have HB := n0_; have BK365 := n1_; have GW365 := n2_; have GE365 := n3_; clear n0_ n1_ n2_ n3_; clear hb hbox hg; have hcz18_0 : w17.cell? ⟨gb365, 0, none⟩ = some (.bool false) := (blk_cell BK365.out 0).trans rfl; have hcz18_1 : w17.cell? ⟨gb365, 1, none⟩ = some (.int .i64 a0_1) := (blk_cell BK365.out 1).trans rfl; have hcz18_2 : w17.cell? ⟨gb365, 2, none⟩ = some (.int .i64 a0_2) := (blk_cell BK365.out 2).trans rfl; have hcz18_3 : w17.cell? ⟨gb365, 3, none⟩ = some (.string a0_3) := (blk_cell BK365.out 3).trans rfl; have hfz18_0 := blk_frozen BK365.out 0; have hfz18_1 := blk_frozen BK365.out 1; have hfz18_2 := blk_frozen BK365.out 2; have hfz18_3 := blk_frozen BK365.out 3))
      go_ret
      exact ⟨by first | rfl | (simp [errW_none, errW_some] <;> rfl) | (simp [*, errW_none, errW_some] <;> rfl), by repeat (first | (with_reducible first | exact HB.out | apply below_alloc | apply pw_below_drewN | apply below_drew1 | refine below_set ?_ GE365.out) | exact HB.out)⟩

end Go.Proofs.Ytchaegfdcdlfaaa.X

namespace Go.Proofs.Ytchaegfdcdlfaaa.X
open Go.RowKit Go.Proofs.YtchaegfdcdlfaaaW.PrintWords Go.Proofs.YtchaegfdcdlfaaaW.PrintLast Go.Proofs.YtchaegfdcdlfaaaW.PrintMore
attribute [local go_sem] max2_int min2_int max_two min_two max_three min_three max_four min_four   -- for this text's walks alone
set_option linter.unusedVariables false
set_option linter.unusedSimpArgs false

/-! ### delta_May: function 57 -/
def delta_May.l0 : Nat → List (S67) → Int → List (S67) → Int → Int → Option (Bool)
  | 0, _, _, _, _, _ => none
  | k + 1, x0, x3, x6, x7, x8 => if x8 < x7 then (if 0 ≤ x8 then (if x8 < (x6.length : Int) then ((delta_may.f ((rd_T67 x6 x8).f0) ((rd_T67 x6 x8).f1) ((rd_T67 x6 x8).f2) ((rd_T67 x6 x8).f3)).bind fun t371 => (if t371 = true then (delta_May.l0 k x0 (wrap64 (x3 + (wrap64 (((rd_T67 x6 x8).f2) + (((rd_T67 x6 x8).f3).size : Int))))) x6 x7 (wrap64 (x8 + 1))) else (some false))) else (none)) else (none)) else (if (x0.length : Int) ≤ 60 then (some (decide (x3 ≤ 200))) else (some false))
def delta_May.f (k : Nat) (l0 : List (S67)) : Option (Bool) := delta_May.l0 k l0 0 l0 (l0.length : Int) 0
theorem delta_May.mono_l : ∀ k, (∀ y0 y1 y2 y3 y4, LeO (delta_May.l0 k y0 y1 y2 y3 y4) (delta_May.l0 (k + 1) y0 y1 y2 y3 y4))
  | 0 => fun _ _ _ _ _ r h => by simp [delta_May.l0] at h
  | k + 1 => by
    have ih0 := delta_May.mono_l k
    · intro y0 y1 y2 y3 y4
      unfold delta_May.l0
      repeat' first
      | (with_reducible exact ih0 _ _ _ _ _)
      | (with_reducible exact LeO.refl _)
      | (with_reducible exact LeO.none _)
      | (with_reducible refine LeO.ite ?_ ?_)
      | (with_reducible refine LeO.bind ?_ (fun _ => ?_))
      | exact ih0 _ _ _ _ _
      | exact LeO.none _
      | refine LeO.ite ?_ ?_
      | refine LeO.bind ?_ (fun _ => ?_)
theorem delta_May.mono : ∀ a0 k, LeO (delta_May.f k a0) (delta_May.f (k + 1) a0) := by
  intro a0 k
  have ih0 := delta_May.mono_l k
  unfold delta_May.f
  repeat' first
      | (with_reducible exact ih0 _ _ _ _ _)
      | (with_reducible exact LeO.refl _)
      | (with_reducible exact LeO.none _)
      | (with_reducible refine LeO.ite ?_ ?_)
      | (with_reducible refine LeO.bind ?_ (fun _ => ?_))
      | exact ih0 _ _ _ _ _
      | exact LeO.none _
      | refine LeO.ite ?_ ?_
      | refine LeO.bind ?_ (fun _ => ?_)
set_option maxHeartbeats 8000000 in
set_option maxRecDepth 100000 in
theorem delta_May.calls (k : Nat) (A0 : Option Addr) (c0 : Nat) (l0 : List (S67)) (r : Bool) (w : World) (hr0 : Kd.C k67 w A0 l0.length l0) (hc0 : l0.length ≤ c0) (h : delta_May.f k l0 = some r) :
    Calls Try.prog 57 #[.slice A0 l0.length c0] w fun e w' => e = .returned (.bool r) ∧ Below w.heap.size w w' := by
  have hu67 := Try.underlying67
  have HR0 := Aside0.mk hr0
  have HC0 := Aside0.mk hc0
  clear hr0 hc0
  have HB := Aside0.mk (Below.refl w.heap.size w)
  have H : (delta_May.l0 k l0 0 l0 (l0.length : Int) 0) = some r := h
  clear h
  have H' := Aside0.mk H
  clear H
  go_enter Try.func57, Try.ntmps57
  go_wp2
  go_loopg [3, 8] k (fun kq v3 v8 w' => ∃ (x3_1 : Int) (x8_1 : Int), v3 = .int .i64 x3_1 ∧ v8 = .int .i64 x8_1 ∧ Aside0 (delta_May.l0 kq l0 x3_1 l0 (l0.length : Int) x8_1 = some r) ∧ Aside0 (kq ≤ k) ∧ Aside0 (Below w.heap.size w w'))
  case atStart => exact ⟨(0), (0), (by first | rfl | (simp; done) | (simp [*]; done)), (by first | rfl | (simp; done) | (simp [*]; done)), H', ⟨Nat.le_refl _⟩, ⟨by repeat (first | (with_reducible first | exact HB.out | apply below_alloc | apply pw_below_drewN | apply below_drew1) | exact HB.out)⟩⟩
  case round =>
    clear H'
    obtain ⟨x3_1, x8_1, rfl, rfl, HA, HK1, HB⟩ := hrel
    cases gk with
    | zero => exact absurd HA.out (by simp [delta_May.l0])
    | succ k1 =>
      have H := HA.out
      clear HA
      simp only [delta_May.l0] at H
      by_cases c2 : x8_1 < (l0.length : Int)
      · rw [if_pos c2] at H
        have c2b0 : decide (x8_1 < (l0.length : Int)) = true := decide_eq_true c2
        clear c2
        by_cases c3 : 0 ≤ x8_1
        · rw [if_pos c3] at H
          have c3b0 : decide (0 ≤ x8_1) = true := decide_eq_true c3
          clear c3
          by_cases c4 : x8_1 < (l0.length : Int)
          · rw [if_pos c4] at H
            have c4b0 : decide (x8_1 < (l0.length : Int)) = true := decide_eq_true c4
            clear c4
            replace H := Option.bind_eq_some_iff.mp H
            obtain ⟨t371, A50, H⟩ := H
            replace H : (if t371 = true then (delta_May.l0 k1 l0 (wrap64 (x3_1 + (wrap64 (((rd_T67 l0 x8_1).f2) + (((rd_T67 l0 x8_1).f3).size : Int))))) l0 (l0.length : Int) (wrap64 (x8_1 + 1))) else (some false)) = some r := H
            have A5 := Aside0.mk A50
            clear A50
            by_cases c6 : t371 = true
            · subst c6
              have H1 : (delta_May.l0 k1 l0 (wrap64 (x3_1 + (wrap64 (((rd_T67 l0 x8_1).f2) + (((rd_T67 l0 x8_1).f3).size : Int))))) l0 (l0.length : Int) (wrap64 (x8_1 + 1))) = some r := by rw [if_pos rfl] at H; exact H
              clear H
              have H := H1
              clear H1
              have H' := Aside0.mk H
              clear H
              have p369 : 0 ≤ (x8_1 : Int) := of_decide_eq_true (by first | (with_reducible assumption) | assumption)
              have q369 : x8_1 < (l0.length : Int) := of_decide_eq_true (by first | (with_reducible assumption) | assumption)
              obtain ⟨ad369, e369, hx369_0, hx369_1, hx369_2, hx369_3⟩ := at_T67 HR0.out x8_1 p369 q369
              cases e369
              replace hx369_0 := (HB.out.cell (World.block_lt_of_cell? w _ hx369_0)).trans hx369_0
              replace hx369_1 := (HB.out.cell (World.block_lt_of_cell? w _ hx369_1)).trans hx369_1
              replace hx369_2 := (HB.out.cell (World.block_lt_of_cell? w _ hx369_2)).trans hx369_2
              replace hx369_3 := (HB.out.cell (World.block_lt_of_cell? w _ hx369_3)).trans hx369_3
              replace p369 := eq_true p369
              replace q369 := eq_true q369
              go_wp2_with (first | ((with_reducible refine gate_dst (N := 5) rfl ?_); refine box_event ?hg (N := 5) ?hd (cs := #[.bool false, .int .i64 0, .int .i64 0, .string (⟨#[]⟩ : ByteArray)]) (t := 67) ?hr ?_; (case hd => rfl); (case hg => rfl); (case hr => first | (go_simp; done) | (go_simp; rfl)); intro gb370 hg w7 hbox hb; have n0_ := Aside0.mk (below_step (by repeat (first | (with_reducible first | exact HB.out | apply below_alloc | apply pw_below_drewN | apply below_drew1) | exact HB.out)) hb); have n1_ := Aside0.mk (hbox); have n2_ := Aside0.mk ((by rw [hg]; exact (below_size (by repeat (first | (with_reducible first | exact HB.out | apply below_alloc | apply pw_below_drewN | apply below_drew1) | exact HB.out))) : w.heap.size ≤ gb370)); have n3_ := Aside0.mk ((by rw [hg]; exact (below_size (by repeat (first | (with_reducible first | exact HB.out | apply below_alloc | apply pw_below_drewN | apply below_drew1) | exact HB.out))) : w.heap.size ≤ gb370)); clear HB; have HB := n0_; have BK370 := n1_; have GW370 := n2_; have GE370 := n3_; clear n0_ n1_ n2_ n3_; clear hb hbox hg; have hcz8_0 : w7.cell? ⟨gb370, 0, none⟩ = some (.bool false) := (blk_cell BK370.out 0).trans rfl; have hcz8_1 : w7.cell? ⟨gb370, 1, none⟩ = some (.int .i64 0) := (blk_cell BK370.out 1).trans rfl; have hcz8_2 : w7.cell? ⟨gb370, 2, none⟩ = some (.int .i64 0) := (blk_cell BK370.out 2).trans rfl; have hcz8_3 : w7.cell? ⟨gb370, 3, none⟩ = some (.string (⟨#[]⟩ : ByteArray)) := (blk_cell BK370.out 3).trans rfl; have hfz8_0 := blk_frozen BK370.out 0; have hfz8_1 := blk_frozen BK370.out 1; have hfz8_2 := blk_frozen BK370.out 2; have hfz8_3 := blk_frozen BK370.out 3) | ((with_reducible refine gate_callee (f := 101) rfl ?_); refine goesL_ (some 13) rfl rfl Try.func101 (by kernel_rfl) rfl #[.agg #[.bool ((rd_T67 l0 x8_1).f0), .int .i64 ((rd_T67 l0 x8_1).f1), .int .i64 ((rd_T67 l0 x8_1).f2), .string ((rd_T67 l0 x8_1).f3)]] rfl (by (try simp only [List.map_toArray, List.map_cons, List.map_nil]); first | done | rfl | (simp only [List.length_drop, List.length_take]; rfl)) ?_; (with_reducible refine (delta_may.calls ((rd_T67 l0 x8_1).f0) ((rd_T67 l0 x8_1).f1) ((rd_T67 l0 x8_1).f2) ((rd_T67 l0 x8_1).f3) true _ A5.out).mono ?_); rintro e w9 ⟨rfl, hb⟩; refine ⟨_, rfl, ?_⟩; have n0_ := Aside0.mk (blk_below (g := gb370) (o := .cells #[.bool ((rd_T67 l0 x8_1).f0), .int .i64 ((rd_T67 l0 x8_1).f1), .int .i64 ((rd_T67 l0 x8_1).f2), .string ((rd_T67 l0 x8_1).f3)] 67 (0, 0)) (by (with_reducible repeat (first | refine blk_drewN ?_ _ | refine blk_drew ?_ | refine blk_alloc ?_ _)); refine blk_put (cs := #[.bool ((rd_T67 l0 x8_1).f0), .int .i64 ((rd_T67 l0 x8_1).f1), .int .i64 ((rd_T67 l0 x8_1).f2), .string (⟨#[]⟩ : ByteArray)]) ?_ 3 _ rfl; (with_reducible repeat (first | refine blk_drewN ?_ _ | refine blk_drew ?_ | refine blk_alloc ?_ _)); refine blk_put (cs := #[.bool ((rd_T67 l0 x8_1).f0), .int .i64 ((rd_T67 l0 x8_1).f1), .int .i64 0, .string (⟨#[]⟩ : ByteArray)]) ?_ 2 _ rfl; (with_reducible repeat (first | refine blk_drewN ?_ _ | refine blk_drew ?_ | refine blk_alloc ?_ _)); refine blk_put (cs := #[.bool ((rd_T67 l0 x8_1).f0), .int .i64 0, .int .i64 0, .string (⟨#[]⟩ : ByteArray)]) ?_ 1 _ rfl; (with_reducible repeat (first | refine blk_drewN ?_ _ | refine blk_drew ?_ | refine blk_alloc ?_ _)); refine blk_put (cs := #[.bool false, .int .i64 0, .int .i64 0, .string (⟨#[]⟩ : ByteArray)]) ?_ 0 _ rfl; (with_reducible repeat (first | refine blk_drewN ?_ _ | refine blk_drew ?_ | refine blk_alloc ?_ _)); exact BK370.out) hb); have n1_ := Aside0.mk (below_step (by repeat (first | (with_reducible first | exact HB.out | apply below_alloc | apply pw_below_drewN | apply below_drew1 | refine below_set ?_ GE370.out) | exact HB.out)) hb); clear BK370; clear HB; have BK370 := n0_; have HB := n1_; clear n0_ n1_; (try clear hb); (try clear hb2); (try clear hk); (try clear hi); have hcz10_0 : w9.cell? ⟨gb370, 0, none⟩ = some (.bool ((rd_T67 l0 x8_1).f0)) := (blk_cell BK370.out 0).trans rfl; have hcz10_1 : w9.cell? ⟨gb370, 1, none⟩ = some (.int .i64 ((rd_T67 l0 x8_1).f1)) := (blk_cell BK370.out 1).trans rfl; have hcz10_2 : w9.cell? ⟨gb370, 2, none⟩ = some (.int .i64 ((rd_T67 l0 x8_1).f2)) := (blk_cell BK370.out 2).trans rfl; have hcz10_3 : w9.cell? ⟨gb370, 3, none⟩ = some (.string ((rd_T67 l0 x8_1).f3)) := (blk_cell BK370.out 3).trans rfl; have hfz10_0 := blk_frozen BK370.out 0; have hfz10_1 := blk_frozen BK370.out 1; have hfz10_2 := blk_frozen BK370.out 2; have hfz10_3 := blk_frozen BK370.out 3))
              go_roundg k1
              case measure => have := HK1.out; omega
              case rel => exact ⟨(wrap64 (x3_1 + (wrap64 (((rd_T67 l0 x8_1).f2) + (((rd_T67 l0 x8_1).f3).size : Int))))), (wrap64 (x8_1 + 1)), (by first | rfl | (simp; done) | (simp [*]; done)), (by first | rfl | (simp; done) | (simp [*]; done)), H', ⟨by have := HK1.out; omega⟩, ⟨by repeat (first | (with_reducible first | exact HB.out | apply below_alloc | apply pw_below_drewN | apply below_drew1 | refine below_set ?_ GE370.out) | exact HB.out)⟩⟩
            · replace c6 := Bool.eq_false_iff.mpr c6
              subst c6
              have H1 : (some false) = some r := by rw [if_neg (show ¬ (false = true) by decide)] at H; exact H
              clear H
              have H := H1
              clear H1
              obtain rfl := Option.some.inj H
              have p369 : 0 ≤ (x8_1 : Int) := of_decide_eq_true (by first | (with_reducible assumption) | assumption)
              have q369 : x8_1 < (l0.length : Int) := of_decide_eq_true (by first | (with_reducible assumption) | assumption)
              obtain ⟨ad369, e369, hx369_0, hx369_1, hx369_2, hx369_3⟩ := at_T67 HR0.out x8_1 p369 q369
              cases e369
              replace hx369_0 := (HB.out.cell (World.block_lt_of_cell? w _ hx369_0)).trans hx369_0
              replace hx369_1 := (HB.out.cell (World.block_lt_of_cell? w _ hx369_1)).trans hx369_1
              replace hx369_2 := (HB.out.cell (World.block_lt_of_cell? w _ hx369_2)).trans hx369_2
              replace hx369_3 := (HB.out.cell (World.block_lt_of_cell? w _ hx369_3)).trans hx369_3
              replace p369 := eq_true p369
              replace q369 := eq_true q369
              go_wp2_with (first | ((with_reducible refine gate_dst (N := 5) rfl ?_); refine box_event ?hg (N := 5) ?hd (cs := #[.bool false, .int .i64 0, .int .i64 0, .string (⟨#[]⟩ : ByteArray)]) (t := 67) ?hr ?_; (case hd => rfl); (case hg => rfl); (case hr => first | (go_simp; done) | (go_simp; rfl)); intro gb370 hg w11 hbox hb; have n0_ := Aside0.mk (below_step (by repeat (first | (with_reducible first | exact HB.out | apply below_alloc | apply pw_below_drewN | apply below_drew1) | exact HB.out)) hb); have n1_ := Aside0.mk (hbox); have n2_ := Aside0.mk ((by rw [hg]; exact (below_size (by repeat (first | (with_reducible first | exact HB.out | apply below_alloc | apply pw_below_drewN | apply below_drew1) | exact HB.out))) : w.heap.size ≤ gb370)); have n3_ := Aside0.mk ((by rw [hg]; exact (below_size (by repeat (first | (with_reducible first | exact HB.out | apply below_alloc | apply pw_below_drewN | apply below_drew1) | exact HB.out))) : w.heap.size ≤ gb370)); clear HB; have HB := n0_; have BK370 := n1_; have GW370 := n2_; have GE370 := n3_; clear n0_ n1_ n2_ n3_; clear hb hbox hg; have hcz12_0 : w11.cell? ⟨gb370, 0, none⟩ = some (.bool false) := (blk_cell BK370.out 0).trans rfl; have hcz12_1 : w11.cell? ⟨gb370, 1, none⟩ = some (.int .i64 0) := (blk_cell BK370.out 1).trans rfl; have hcz12_2 : w11.cell? ⟨gb370, 2, none⟩ = some (.int .i64 0) := (blk_cell BK370.out 2).trans rfl; have hcz12_3 : w11.cell? ⟨gb370, 3, none⟩ = some (.string (⟨#[]⟩ : ByteArray)) := (blk_cell BK370.out 3).trans rfl; have hfz12_0 := blk_frozen BK370.out 0; have hfz12_1 := blk_frozen BK370.out 1; have hfz12_2 := blk_frozen BK370.out 2; have hfz12_3 := blk_frozen BK370.out 3) | ((with_reducible refine gate_callee (f := 101) rfl ?_); refine goesL_ (some 13) rfl rfl Try.func101 (by kernel_rfl) rfl #[.agg #[.bool ((rd_T67 l0 x8_1).f0), .int .i64 ((rd_T67 l0 x8_1).f1), .int .i64 ((rd_T67 l0 x8_1).f2), .string ((rd_T67 l0 x8_1).f3)]] rfl (by (try simp only [List.map_toArray, List.map_cons, List.map_nil]); first | done | rfl | (simp only [List.length_drop, List.length_take]; rfl)) ?_; (with_reducible refine (delta_may.calls ((rd_T67 l0 x8_1).f0) ((rd_T67 l0 x8_1).f1) ((rd_T67 l0 x8_1).f2) ((rd_T67 l0 x8_1).f3) false _ A5.out).mono ?_); rintro e w13 ⟨rfl, hb⟩; refine ⟨_, rfl, ?_⟩; have n0_ := Aside0.mk (blk_below (g := gb370) (o := .cells #[.bool ((rd_T67 l0 x8_1).f0), .int .i64 ((rd_T67 l0 x8_1).f1), .int .i64 ((rd_T67 l0 x8_1).f2), .string ((rd_T67 l0 x8_1).f3)] 67 (0, 0)) (by (with_reducible repeat (first | refine blk_drewN ?_ _ | refine blk_drew ?_ | refine blk_alloc ?_ _)); refine blk_put (cs := #[.bool ((rd_T67 l0 x8_1).f0), .int .i64 ((rd_T67 l0 x8_1).f1), .int .i64 ((rd_T67 l0 x8_1).f2), .string (⟨#[]⟩ : ByteArray)]) ?_ 3 _ rfl; (with_reducible repeat (first | refine blk_drewN ?_ _ | refine blk_drew ?_ | refine blk_alloc ?_ _)); refine blk_put (cs := #[.bool ((rd_T67 l0 x8_1).f0), .int .i64 ((rd_T67 l0 x8_1).f1), .int .i64 0, .string (⟨#[]⟩ : ByteArray)]) ?_ 2 _ rfl; (with_reducible repeat (first | refine blk_drewN ?_ _ | refine blk_drew ?_ | refine blk_alloc ?_ _)); refine blk_put (cs := #[.bool ((rd_T67 l0 x8_1).f0), .int .i64 0, .int .i64 0, .string (⟨#[]⟩ : ByteArray)]) ?_ 1 _ rfl; (with_reducible repeat (first | refine blk_drewN ?_ _ | refine blk_drew ?_ | refine blk_alloc ?_ _)); refine blk_put (cs := #[.bool false, .int .i64 0, .int .i64 0, .string (⟨#[]⟩ : ByteArray)]) ?_ 0 _ rfl; (with_reducible repeat (first | refine blk_drewN ?_ _ | refine blk_drew ?_ | refine blk_alloc ?_ _)); exact BK370.out) hb); have n1_ := Aside0.mk (below_step (by repeat (first | (with_reducible first | exact HB.out | apply below_alloc | apply pw_below_drewN | apply below_drew1 | refine below_set ?_ GE370.out) | exact HB.out)) hb); clear BK370; clear HB; have BK370 := n0_; have HB := n1_; clear n0_ n1_; (try clear hb); (try clear hb2); (try clear hk); (try clear hi)))
              go_ret
              exact ⟨by first | rfl | (simp [errW_none, errW_some] <;> rfl) | (simp [*, errW_none, errW_some] <;> rfl), by repeat (first | (with_reducible first | exact HB.out | apply below_alloc | apply pw_below_drewN | apply below_drew1 | refine below_set ?_ GE370.out) | exact HB.out)⟩
          · rw [if_neg c4] at H
            exact absurd H (by simp)
        · rw [if_neg c3] at H
          exact absurd H (by simp)
      · rw [if_neg c2] at H
        have c2b0 : decide (x8_1 < (l0.length : Int)) = false := decide_eq_false c2
        clear c2
        by_cases c14 : (l0.length : Int) ≤ 60
        · rw [if_pos c14] at H
          have c14b0 : decide ((l0.length : Int) ≤ 60) = true := decide_eq_true c14
          have c14b1 : decide (l0.length ≤ 60) = true := decide_eq_true (by omega)
          clear c14
          obtain rfl := Option.some.inj H
          go_wp2
          go_ret
          exact ⟨by first | rfl | (simp [errW_none, errW_some] <;> rfl) | (simp [*, errW_none, errW_some] <;> rfl), by repeat (first | (with_reducible first | exact HB.out | apply below_alloc | apply pw_below_drewN | apply below_drew1) | exact HB.out)⟩
        · rw [if_neg c14] at H
          have c14b0 : decide ((l0.length : Int) ≤ 60) = false := decide_eq_false c14
          have c14b1 : decide (l0.length ≤ 60) = false := decide_eq_false (by omega)
          clear c14
          obtain rfl := Option.some.inj H
          go_wp2
          go_ret
          exact ⟨by first | rfl | (simp [errW_none, errW_some] <;> rfl) | (simp [*, errW_none, errW_some] <;> rfl), by repeat (first | (with_reducible first | exact HB.out | apply below_alloc | apply pw_below_drewN | apply below_drew1) | exact HB.out)⟩

end Go.Proofs.Ytchaegfdcdlfaaa.X

/- Whether pieces may be, in plain lists. -/
namespace Go.Proofs.Ytchaegfdcdlfaaa.X
set_option linter.unusedVariables false
set_option linter.unusedSimpArgs false
open Go.RowKit Go.Proofs.YtchaegfdcdlfaaaW.PrintWords Go.Proofs.YtchaegfdcdlfaaaW.PrintLast Go.Proofs.YtchaegfdcdlfaaaW.PrintMore

/-- A piece that may be. -/
def mayP (p : S67) : Bool :=
  if p.f0 = true then decide (0 ≤ p.f1) && decide (p.f1 ≤ 200) && (decide (1 ≤ p.f2) && decide (p.f2 ≤ 200)) && (p.f3.toList == ([] : List UInt8))
  else (p.f1 == 0 && p.f2 == 0) && (decide (1 ≤ p.f3.size) && decide (p.f3.size ≤ 200))
def sumP (l : List S67) : Int := (l.map fun p => p.f2 + (p.f3.size : Int)).sum
def mayL (l : List S67) : Bool := l.all mayP && (decide (l.length ≤ 60) && decide (sumP l ≤ 200))
theorem in_eq (a b c : Int) : delta_in.f a b c = some (decide (b ≤ a) && decide (a ≤ c)) := by
  unfold delta_in.f
  by_cases h : a ≥ b
  · rw [if_pos h, decide_eq_true (show b ≤ a from h), Bool.true_and]
  · rw [if_neg h, decide_eq_false (show ¬ b ≤ a from h), Bool.false_and]
theorem may_eq (p : S67) : delta_may.f p.f0 p.f1 p.f2 p.f3 = some (mayP p) := by
  unfold delta_may.f mayP
  simp only [in_eq, Option.bind_some]
  cases p.f0
  · simp only [Bool.false_eq_true, if_false, Bool.not_false, Bool.true_and]
    by_cases h : (p.f1 == 0 && p.f2 == 0) = true
    · rw [if_pos h, h, Bool.true_and]
      congr 1
      congr 1 <;> (apply decide_eq_decide.2; omega)
    · rw [if_neg h]
      rw [Bool.eq_false_iff.2 h, Bool.false_and]
  · simp only [if_true]
    by_cases h1 : (decide (0 ≤ p.f1) && decide (p.f1 ≤ 200)) = true
    · rw [if_pos h1, h1, Bool.true_and]
      by_cases h2 : (decide (1 ≤ p.f2) && decide (p.f2 ≤ 200)) = true
      · rw [if_pos h2, h2, Bool.true_and]
      · rw [if_neg h2, Bool.eq_false_iff.2 h2, Bool.false_and]
    · rw [if_neg h1, Bool.eq_false_iff.2 h1, Bool.false_and, Bool.false_and]
theorem mayP_size {p : S67} (h : mayP p = true) : 0 ≤ p.f2 + (p.f3.size : Int) ∧ p.f2 + (p.f3.size : Int) ≤ 400 ∧ 0 ≤ p.f2 ∧ p.f2 ≤ 200 ∧ p.f3.size ≤ 200 := by
  unfold mayP at h
  by_cases h0 : p.f0 = true
  · rw [if_pos h0] at h
    simp only [Bool.and_eq_true, decide_eq_true_eq, beq_iff_eq] at h
    have e : p.f3.size = 0 := by
      have := data_length p.f3
      rw [← ByteArray.toList_eq, h.2] at this
      exact this.symm
    omega
  · rw [if_neg h0] at h
    simp only [Bool.and_eq_true, decide_eq_true_eq, beq_iff_eq] at h
    omega
theorem sumP_cons (p : S67) (l : List S67) : sumP (p :: l) = p.f2 + (p.f3.size : Int) + sumP l := by simp only [sumP, List.map_cons, List.sum_cons]
theorem may_l0 (l : List S67) (hl : l.length ≤ 1000000000000000) : ∀ (d i : Nat) (a : Int) (k : Nat), l.length = i + d → d < k → 0 ≤ a → a ≤ 400 * (i : Int) →
    delta_May.l0 k l a l (l.length : Int) (i : Int) = some (if (l.drop i).all mayP = true then decide (l.length ≤ 60) && decide (a + sumP (l.drop i) ≤ 200) else false) := by
  intro d
  induction d with
  | zero =>
    intro i a k hi hk h0 h1
    obtain ⟨k, rfl⟩ : ∃ k', k = k' + 1 := ⟨k - 1, by omega⟩
    have hd : l.drop i = [] := List.drop_eq_nil_of_le (by omega)
    rw [delta_May.l0, if_neg (by omega), hd]
    simp only [List.all_nil, if_true, sumP, List.map_nil, List.sum_nil, Int.add_zero]
    by_cases h : (l.length : Int) ≤ 60
    · rw [if_pos h, decide_eq_true (show l.length ≤ 60 by omega), Bool.true_and]
    · rw [if_neg h, decide_eq_false (show ¬ l.length ≤ 60 by omega), Bool.false_and]
  | succ d ih =>
    intro i a k hi hk h0 h1
    obtain ⟨k, rfl⟩ : ∃ k', k = k' + 1 := ⟨k - 1, by omega⟩
    have hil : i < l.length := by omega
    obtain ⟨p, hp⟩ : ∃ p, rd_T67 l (i : Int) = p := ⟨_, rfl⟩
    have hd : l.drop i = p :: l.drop (i + 1) := by
      rw [List.drop_eq_getElem_cons hil]
      congr 1
      rw [← hp]
      unfold rd_T67
      rw [Int.toNat_natCast, List.getD_eq_getElem?_getD, List.getElem?_eq_getElem hil]
      rfl
    rw [delta_May.l0, if_pos (by omega), if_pos (by omega), if_pos (by omega), hp, may_eq, Option.bind_some, hd]
    cases hm : mayP p
    · simp [hm]
    · have hs := mayP_size hm
      rw [if_pos rfl]
      have e1 : wrap64 (p.f2 + (p.f3.size : Int)) = p.f2 + (p.f3.size : Int) := by unfold wrap64; omega
      have e2 : wrap64 (a + (p.f2 + (p.f3.size : Int))) = a + (p.f2 + (p.f3.size : Int)) := by unfold wrap64; omega
      have e3 : wrap64 ((i : Int) + 1) = ((i + 1 : Nat) : Int) := by unfold wrap64; omega
      rw [e1, e2, e3, ih (i + 1) _ k (by omega) (by omega) (by omega) (by omega)]
      simp only [List.all_cons, hm, Bool.true_and, sumP_cons, Int.add_assoc]
theorem May_eq (l : List S67) (hl : l.length ≤ 1000000000000000) (k : Nat) (hk : l.length < k) : delta_May.f k l = some (mayL l) := by
  unfold delta_May.f
  rw [show (0 : Int) = ((0 : Nat) : Int) from rfl, may_l0 l hl l.length 0 _ k (by omega) hk (by omega) (by omega)]
  unfold mayL
  rw [List.drop_zero]
  cases l.all mayP
  · simp
  · simp
theorem may_short (l : List S67) (n : Int) : ∀ (k : Nat) (a i : Int), delta_May.l0 k l a l n i = some true → l.length ≤ 60
  | 0, a, i, h => by simp [delta_May.l0] at h
  | k + 1, a, i, h => by
    rw [delta_May.l0] at h
    by_cases h1 : i < n
    · rw [if_pos h1] at h
      by_cases h2 : 0 ≤ i
      · rw [if_pos h2] at h
        by_cases h3 : i < (l.length : Int)
        · rw [if_pos h3, may_eq, Option.bind_some] at h
          cases hm : mayP (rd_T67 l i)
          · rw [hm, if_neg (by simp)] at h
            simp at h
          · rw [hm, if_pos rfl] at h
            exact may_short l n k _ _ h
        · rw [if_neg h3] at h
          simp at h
      · rw [if_neg h2] at h
        simp at h
    · rw [if_neg h1] at h
      by_cases h4 : (l.length : Int) ≤ 60
      · omega
      · rw [if_neg h4] at h
        simp at h
theorem leO_add {α : Type} {f : Nat → Option α} (h : ∀ k, LeO (f k) (f (k + 1))) (k : Nat) : ∀ d, LeO (f k) (f (k + d))
  | 0 => LeO.refl _
  | d + 1 => (leO_add h k d).trans (h (k + d))
/-- Pieces that may be: few, and each may be. -/
theorem may_true {l : List S67} {k : Nat} (h : delta_May.f k l = some true) : l.length ≤ 60 ∧ mayL l = true := by
  have hl : l.length ≤ 60 := may_short l _ k _ _ h
  refine ⟨hl, ?_⟩
  have h1 := leO_add (f := fun k => delta_May.f k l) (fun k => delta_May.mono l k) k (l.length + 1) true h
  have h2 := May_eq l (by omega) (k + (l.length + 1)) (by omega)
  rw [h2] at h1
  exact Option.some.inj h1
end Go.Proofs.Ytchaegfdcdlfaaa.X

/- What is made of blocks, and what pieces make of a value: in plain lists. -/
namespace Go.Proofs.Ytchaegfdcdlfaaa.X
set_option linter.unusedVariables false
set_option linter.unusedSimpArgs false
open Go.RowKit Go.Maps Go.Proofs.YtchaegfdcdlfaaaW.PrintWords Go.Proofs.YtchaegfdcdlfaaaW.PrintLast Go.Proofs.YtchaegfdcdlfaaaW.PrintMore

theorem wrap_ok (n : Int) (h0 : -9223372036854775808 ≤ n) (h1 : n ≤ 9223372036854775807) : IntKind.i64.wrap n = n := by simp [IntKind.wrap, IntKind.bits, IntKind.signed]; omega
/-- The part that is looked for. -/
def headB (t : ByteArray) : ByteArray := if 8 < t.size then t.extract 0 8 else t
theorem last_getD (m : List S67) (p : S67) : (m ++ [p]).getD ((m ++ [p]).length - 1) z67 = p := by
  rw [List.length_append, List.length_singleton, Nat.add_sub_cancel, List.getD_eq_getElem?_getD, List.getElem?_append_right (Nat.le_refl _), Nat.sub_self]
  rfl
theorem set_last (m : List S67) (p q : S67) : (m ++ [p]).set ((m ++ [p]).length - 1) q = m ++ [q] := by
  rw [List.length_append, List.length_singleton, Nat.add_sub_cancel, List.set_append_right _ _ (Nat.le_refl _), Nat.sub_self]
  rfl
theorem blockL_nil (fr : Int) : blockL [] fr = [⟨true, fr, 8, ⟨#[]⟩⟩] := by
  unfold blockL
  rw [if_neg (by simp)]
  rfl
theorem blockL_snoc (m : List S67) (p : S67) (fr : Int) : blockL (m ++ [p]) fr = if p.f0 = true ∧ IntKind.i64.wrap (p.f1 + p.f2) = fr then m ++ [⟨p.f0, p.f1, IntKind.i64.wrap (p.f2 + 8), p.f3⟩] else m ++ [p] ++ [⟨true, fr, 8, ⟨#[]⟩⟩] := by
  unfold blockL
  rw [last_getD, set_last]
  by_cases h : p.f0 = true ∧ IntKind.i64.wrap (p.f1 + p.f2) = fr
  · rw [if_pos h, if_pos ⟨by simp, h⟩]
  · rw [if_neg h, if_neg (fun q => h q.2)]
theorem litL_nil (s : ByteArray) : litL [] s = [⟨false, 0, 0, s⟩] := by
  unfold litL
  rw [if_neg (by simp)]
  rfl
theorem litL_snoc (m : List S67) (p : S67) (s : ByteArray) : litL (m ++ [p]) s = if p.f0 = false then m ++ [⟨p.f0, p.f1, p.f2, p.f3 ++ s⟩] else m ++ [p] ++ [⟨false, 0, 0, s⟩] := by
  unfold litL
  rw [last_getD, set_last]
  by_cases h : p.f0 = false
  · rw [if_pos h, if_pos ⟨by simp, h⟩]
  · rw [if_neg h, if_neg (fun q => h q.2)]
theorem snoc_cases {α : Type} (l : List α) : l = [] ∨ ∃ m p, l = m ++ [p] := by
  rcases List.eq_nil_or_concat l with h | ⟨m, p, h⟩
  · exact .inl h
  · exact .inr ⟨m, p, by rw [h, List.concat_eq_append]⟩
/-- What holds at the start, and behind each step, holds at the end. -/
theorem makeF_ind (sig : List Sg) (P : List S67 → ByteArray → Prop)
    (hb : ∀ l t (i : Nat), P l t → 8 ≤ t.size → findOf sig (headB t) = (i : Int) → P (blockL l ((i : Int) * 8)) (t.extract 8 t.size))
    (hl : ∀ l t, P l t → 0 < t.size → ¬ 0 ≤ findOf sig (headB t) → P (litL l (t.extract 0 1)) (t.extract 1 t.size)) :
    ∀ (k : Nat) (l : List S67) (t : ByteArray), t.size ≤ k → P l t → ∃ t', t'.size = 0 ∧ P (makeF sig k l t) t'
  | 0, l, t, h, hP => ⟨t, by omega, hP⟩
  | k + 1, l, t, h, hP => by
    by_cases h0 : t.size = 0
    · rw [makeF_end _ _ _ _ h0]
      exact ⟨t, h0, hP⟩
    · rw [makeF, if_neg h0]
      change ∃ t', t'.size = 0 ∧ P (if 0 ≤ findOf sig (headB t) then makeF sig k (blockL l (findOf sig (headB t) * 8)) (t.extract 8 t.size) else makeF sig k (litL l (t.extract 0 1)) (t.extract 1 t.size)) t'
      by_cases hf : 0 ≤ findOf sig (headB t)
      · rw [if_pos hf]
        rcases find_cases sig (headB t) with hc | ⟨i, hc, h8, _⟩
        · omega
        · have h8' : 8 ≤ t.size := by
            unfold headB at h8
            split at h8 <;> omega
          rw [hc]
          exact makeF_ind sig P hb hl k _ _ (by simp only [ByteArray.size_extract]; omega) (hb l t i hP h8' hc)
      · rw [if_neg hf]
        exact makeF_ind sig P hb hl k _ _ (by simp only [ByteArray.size_extract]; omega) (hl l t hP (by omega) hf)
theorem sumP_append (l m : List S67) : sumP (l ++ m) = sumP l + sumP m := by simp only [sumP, List.map_append, List.sum_append]
theorem sumP_one (p : S67) : sumP [p] = p.f2 + (p.f3.size : Int) := by simp [sumP]
theorem sumP_nil : sumP [] = 0 := rfl
/-- No two texts stand side by side. -/
def apart : List S67 → Prop
  | [] => True
  | [_] => True
  | p :: q :: l => ¬ (p.f0 = false ∧ q.f0 = false) ∧ apart (q :: l)
theorem apart_snoc : ∀ (m : List S67) (p q : S67), apart (m ++ [p]) → (p.f0 = true ∨ q.f0 = true) → apart (m ++ [p] ++ [q])
  | [], p, q, _, h => ⟨by rintro ⟨h1, h2⟩; rw [h1, h2] at h; simp at h, trivial⟩
  | [a], p, q, h, hq => ⟨h.1, by rintro ⟨h1, h2⟩; rw [h1, h2] at hq; simp at hq, trivial⟩
  | a :: b :: m, p, q, h, hq => ⟨h.1, apart_snoc (b :: m) p q h.2 hq⟩
theorem apart_set : ∀ (m : List S67) (p q : S67), apart (m ++ [p]) → q.f0 = p.f0 → apart (m ++ [q])
  | [], p, q, _, h => trivial
  | [a], p, q, h, hq => ⟨by rw [hq]; exact h.1, trivial⟩
  | a :: b :: m, p, q, h, hq => ⟨h.1, apart_set (b :: m) p q h.2 hq⟩
theorem apart_get : ∀ (l : List S67) (i : Nat), apart l → i + 1 < l.length → ¬ ((l.getD (i + 1) z67).f0 = false ∧ (l.getD i z67).f0 = false)
  | [], i, _, h => by simp at h
  | [a], i, _, h => by simp at h
  | a :: b :: l, 0, h, _ => fun ⟨h1, h2⟩ => h.1 ⟨h2, h1⟩
  | a :: b :: l, i + 1, h, hi => apart_get (b :: l) i h.2 (by simpa using hi)
/-- As many bytes as the text has; no two texts side by side. -/
theorem makeF_least (sig : List Sg) (s : ByteArray) (hs : s.size ≤ 1000000) : sumP (makeF sig s.size [] s) = (s.size : Int) ∧ apart (makeF sig s.size [] s) := by
  obtain ⟨t, h0, h1, h2, _⟩ := makeF_ind sig (fun l t => sumP l + (t.size : Int) = (s.size : Int) ∧ apart l ∧ ∀ p ∈ l, 0 ≤ p.f2 ∧ p.f2 + (t.size : Int) ≤ (s.size : Int))
    (by
      rintro l t i ⟨h1, h2, h3⟩ h8 _
      have e : (t.extract 8 t.size).size = t.size - 8 := by simp only [ByteArray.size_extract]; omega
      rw [e]
      rcases snoc_cases l with rfl | ⟨m, p, rfl⟩
      · rw [blockL_nil]
        refine ⟨?_, trivial, ?_⟩
        · rw [sumP_one]
          rw [sumP_nil] at h1
          show (8 : Int) + 0 + _ = _
          omega
        · intro q hq
          rw [List.mem_singleton.1 hq]
          rw [sumP_nil] at h1
          show (0 : Int) ≤ 8 ∧ (8 : Int) + _ ≤ _
          omega
      · have hp := h3 p (by simp)
        rw [sumP_append, sumP_one] at h1
        rw [blockL_snoc]
        split
        · rename_i hc
          have ew : IntKind.i64.wrap (p.f2 + 8) = p.f2 + 8 := wrap_ok _ (by omega) (by omega)
          rw [ew]
          refine ⟨?_, apart_set m p _ h2 rfl, ?_⟩
          · rw [sumP_append, sumP_one]
            show sumP m + (p.f2 + 8 + (p.f3.size : Int)) + _ = _
            omega
          · intro q hq
            rcases List.mem_append.1 hq with hq | hq
            · have := h3 q (by simp [hq])
              omega
            · rw [List.mem_singleton.1 hq]
              show 0 ≤ p.f2 + 8 ∧ p.f2 + 8 + _ ≤ _
              omega
        · refine ⟨?_, apart_snoc m p _ h2 (.inr rfl), ?_⟩
          · rw [sumP_append, sumP_append, sumP_one, sumP_one]
            show sumP m + (p.f2 + (p.f3.size : Int)) + (8 + 0) + _ = _
            omega
          · intro q hq
            rcases List.mem_append.1 hq with hq | hq
            · have := h3 q hq
              omega
            · rw [List.mem_singleton.1 hq]
              show (0 : Int) ≤ 8 ∧ (8 : Int) + _ ≤ _
              omega)
    (by
      rintro l t ⟨h1, h2, h3⟩ h8 _
      have e : (t.extract 1 t.size).size = t.size - 1 := by simp only [ByteArray.size_extract]; omega
      have e1 : (t.extract 0 1).size = 1 := by simp only [ByteArray.size_extract]; omega
      rw [e]
      rcases snoc_cases l with rfl | ⟨m, p, rfl⟩
      · rw [litL_nil]
        refine ⟨?_, trivial, ?_⟩
        · rw [sumP_one]
          rw [sumP_nil] at h1
          show (0 : Int) + ((t.extract 0 1).size : Int) + _ = _
          omega
        · intro q hq
          rw [List.mem_singleton.1 hq]
          rw [sumP_nil] at h1
          show (0 : Int) ≤ 0 ∧ (0 : Int) + _ ≤ _
          omega
      · have hp := h3 p (by simp)
        rw [sumP_append, sumP_one] at h1
        rw [litL_snoc]
        split
        · rename_i hc
          refine ⟨?_, apart_set m p _ h2 rfl, ?_⟩
          · rw [sumP_append, sumP_one]
            show sumP m + (p.f2 + ((p.f3 ++ t.extract 0 1).size : Int)) + _ = _
            rw [ByteArray.size_append, e1]
            omega
          · intro q hq
            rcases List.mem_append.1 hq with hq | hq
            · have := h3 q (by simp [hq])
              omega
            · rw [List.mem_singleton.1 hq]
              show 0 ≤ p.f2 ∧ p.f2 + _ ≤ _
              omega
        · rename_i hc
          refine ⟨?_, apart_snoc m p _ h2 (.inl (by simpa using hc)), ?_⟩
          · rw [sumP_append, sumP_append, sumP_one, sumP_one]
            show sumP m + (p.f2 + (p.f3.size : Int)) + (0 + ((t.extract 0 1).size : Int)) + _ = _
            omega
          · intro q hq
            rcases List.mem_append.1 hq with hq | hq
            · have := h3 q hq
              omega
            · rw [List.mem_singleton.1 hq]
              show (0 : Int) ≤ 0 ∧ (0 : Int) + _ ≤ _
              omega)
    s.size [] s (Nat.le_refl _) ⟨by rw [sumP_nil]; omega, trivial, fun p hp => by simp at hp⟩
  exact ⟨by rw [h0] at h1; omega, h2⟩
theorem cut_cut (s : ByteArray) (a b c d : Nat) (h : a + d ≤ b) : (s.extract a b).extract c d = s.extract (a + c) (a + d) := by
  rw [ByteArray.extract_extract, Nat.min_eq_left h]
theorem cut_tail (s : ByteArray) (a c : Nat) (ha : a ≤ s.size) : (s.extract a s.size).extract c (s.extract a s.size).size = s.extract (a + c) s.size := by
  have e : a + (s.extract a s.size).size = s.size := by simp only [ByteArray.size_extract]; omega
  rw [cut_cut _ _ _ _ _ (by omega), e]
theorem cut_all (s : ByteArray) : s.extract 0 s.size = s := by simp
theorem cut_none (s : ByteArray) : s.extract 0 0 = ⟨#[]⟩ := by
  apply ByteArray.ext
  rw [ByteArray.data_extract]
  simp
theorem cut_join (s : ByteArray) (a b c : Nat) (h : a ≤ b) (h2 : b ≤ c) : s.extract a b ++ s.extract b c = s.extract a c := by
  apply ByteArray.ext
  rw [ByteArray.data_append, ByteArray.data_extract, ByteArray.data_extract, ByteArray.data_extract]
  simp [Nat.min_eq_left h, Nat.max_eq_right h2]
theorem head_cut (s : ByteArray) (a : Nat) (ha : a + 8 ≤ s.size) : headB (s.extract a s.size) = s.extract a (a + 8) := by
  unfold headB
  have e : (s.extract a s.size).size = s.size - a := by simp only [ByteArray.size_extract]; omega
  by_cases h : 8 < (s.extract a s.size).size
  · rw [if_pos h, cut_cut _ _ _ _ _ (by omega), Nat.add_zero]
  · rw [if_neg h, show s.size = a + 8 by omega]
/-- Of a value itself, of eights of bytes: copies alone. -/
theorem makeF_own (s : ByteArray) (h24 : 24 ≤ s.size) (h8 : s.size % 8 = 0) : ∀ p ∈ makeF (signOf s) s.size [] s, p.f0 = true := by
  have hso : signOf s = blocks s (s.size / 8) := by unfold signOf; rw [if_neg (by omega)]
  obtain ⟨t, _, _, _, _, _, h⟩ := makeF_ind (signOf s) (fun l t => ∃ a, a % 8 = 0 ∧ a ≤ s.size ∧ t = s.extract a s.size ∧ ∀ p ∈ l, p.f0 = true)
    (by
      rintro l t i ⟨a, ha, hs, rfl, hp⟩ ht _
      have e : (s.extract a s.size).size = s.size - a := by simp only [ByteArray.size_extract]; omega
      refine ⟨a + 8, by omega, by omega, cut_tail s a 8 hs, ?_⟩
      rcases snoc_cases l with rfl | ⟨m, p, rfl⟩
      · rw [blockL_nil]
        intro q hq
        rw [List.mem_singleton.1 hq]
      · rw [blockL_snoc]
        split
        · intro q hq
          rcases List.mem_append.1 hq with hq | hq
          · exact hp q (by simp [hq])
          · rw [List.mem_singleton.1 hq]
            exact hp p (by simp)
        · intro q hq
          rcases List.mem_append.1 hq with hq | hq
          · exact hp q hq
          · rw [List.mem_singleton.1 hq])
    (by
      rintro l t ⟨a, ha, hs, rfl, hp⟩ ht hf
      exfalso
      have e : (s.extract a s.size).size = s.size - a := by simp only [ByteArray.size_extract]; omega
      rw [head_cut s a (by omega)] at hf
      obtain ⟨k, hk, _⟩ := find_there (signOf s) (s.extract a (a + 8)) (oneOf (s.extract a (a + 8))) (a / 8) (by rw [hso, blocks_length]; omega)
        (by rw [hso, blocks_get _ _ _ (by omega)]; unfold blockAt; rw [show 8 * (a / 8) = a by omega]) rfl (by simp only [ByteArray.size_extract]; omega)
      rw [hk] at hf
      omega)
    s.size [] s (Nat.le_refl _) ⟨0, rfl, by omega, (cut_all s).symm, fun p hp => by simp at hp⟩
  exact h
/-- Of no blocks: one text. -/
theorem makeF_none (s : ByteArray) (h0 : 0 < s.size) : makeF [] s.size [] s = [⟨false, 0, 0, s⟩] := by
  obtain ⟨t, ht, h⟩ := makeF_ind [] (fun l t => (l = [] ∧ t = s) ∨ ∃ a, a ≤ s.size ∧ t = s.extract a s.size ∧ l = [⟨false, 0, 0, s.extract 0 a⟩])
    (by
      intro l t i _ _ hf
      rw [find_nil] at hf
      omega)
    (by
      rintro l t h h1 _
      rcases h with ⟨rfl, rfl⟩ | ⟨a, ha, rfl, rfl⟩
      · rw [litL_nil]
        exact .inr ⟨1, by omega, rfl, rfl⟩
      · have e : (s.extract a s.size).size = s.size - a := by simp only [ByteArray.size_extract]; omega
        refine .inr ⟨a + 1, by omega, cut_tail s a 1 ha, ?_⟩
        have := litL_snoc [] ⟨false, 0, 0, s.extract 0 a⟩ ((s.extract a s.size).extract 0 1)
        rw [List.nil_append, if_pos rfl, List.nil_append, cut_cut _ _ _ _ _ (by omega), Nat.add_zero] at this
        rw [cut_cut _ _ _ _ _ (by omega), Nat.add_zero, this]
        show [(⟨false, 0, 0, s.extract 0 a ++ s.extract a (a + 1)⟩ : S67)] = _
        rw [cut_join _ _ _ _ (by omega) (by omega)])
    s.size [] s (Nat.le_refl _) (.inl ⟨rfl, rfl⟩)
  rcases h with ⟨_, rfl⟩ | ⟨a, ha, rfl, h⟩
  · omega
  · rw [h]
    have : a = s.size := by simp only [ByteArray.size_extract] at ht; omega
    subst this
    rw [cut_all]
/-- What a piece makes of a value. -/
def outP (base : ByteArray) (p : S67) : ByteArray := if p.f0 = true then base.extract p.f1.toNat (p.f1.toNat + p.f2.toNat) else p.f3
def outL (base : ByteArray) : List S67 → ByteArray
  | [] => ⟨#[]⟩
  | p :: l => outP base p ++ outL base l
theorem nil_bytes (s : ByteArray) : (⟨#[]⟩ : ByteArray) ++ s = s := by apply ByteArray.ext; rw [ByteArray.data_append]; simp
theorem bytes_nil (s : ByteArray) : s ++ (⟨#[]⟩ : ByteArray) = s := by apply ByteArray.ext; rw [ByteArray.data_append]; simp
theorem bytes_assoc (a b c : ByteArray) : a ++ b ++ c = a ++ (b ++ c) := by apply ByteArray.ext; simp only [ByteArray.data_append]; simp
theorem outL_append (base : ByteArray) : ∀ l m : List S67, outL base (l ++ m) = outL base l ++ outL base m
  | [], m => (nil_bytes _).symm
  | p :: l, m => by
    show outP base p ++ outL base (l ++ m) = outP base p ++ outL base l ++ outL base m
    rw [outL_append base l m, bytes_assoc]
theorem outL_one (base : ByteArray) (p : S67) : outL base [p] = outP base p := bytes_nil _
/-- Does a piece lie in a value? -/
def fits (base : ByteArray) (p : S67) : Bool := !p.f0 || decide (p.f1 + p.f2 ≤ (base.size : Int))
/-- A piece that is made of a value's own blocks. -/
def Made (base : ByteArray) (p : S67) : Prop := (p.f0 = true → 0 ≤ p.f1 ∧ 8 ≤ p.f2 ∧ p.f1 + p.f2 ≤ (base.size : Int) ∧ p.f3 = ⟨#[]⟩) ∧ (p.f0 = false → p.f1 = 0 ∧ p.f2 = 0 ∧ 1 ≤ p.f3.size)
theorem getD_block {base : ByteArray} {i : Nat} {q : ByteArray} (hi : i < (signOf base).length) (h : (signOf base).getD i (0, []) = oneOf q) : 8 * i + 8 ≤ base.size ∧ shaOf (bytesOf (base.extract (8 * i) (8 * i + 8))) = shaOf (bytesOf q) := by
  unfold signOf at hi h
  split at hi
  · simp at hi
  · rename_i h24
    rw [if_neg h24] at h
    rw [blocks_length] at hi
    rw [blocks_get _ _ _ hi] at h
    refine ⟨by omega, ?_⟩
    have := congrArg Prod.snd h
    unfold blockAt at this
    rwa [oneOf_snd, oneOf_snd] at this
set_option maxHeartbeats 2000000 in
/-- What is made of a value's own blocks makes the text, where no two texts have one digest. -/
theorem makeF_makes (base s : ByteArray) (hb : base.size ≤ 200) (hs : s.size ≤ 200)
    (hno : ∀ a i, a + 8 ≤ s.size → 8 * i + 8 ≤ base.size → shaOf (bytesOf (base.extract (8 * i) (8 * i + 8))) = shaOf (bytesOf (s.extract a (a + 8))) → base.extract (8 * i) (8 * i + 8) = s.extract a (a + 8)) :
    outL base (makeF (signOf base) s.size [] s) = s ∧ ∀ p ∈ makeF (signOf base) s.size [] s, Made base p := by
  obtain ⟨t, h0, a, ha, rfl, h1, h2⟩ := makeF_ind (signOf base) (fun l t => ∃ a, a ≤ s.size ∧ t = s.extract a s.size ∧ outL base l = s.extract 0 a ∧ ∀ p ∈ l, Made base p)
    (by
      rintro l t i ⟨a, ha, rfl, h1, h2⟩ h8 hf
      have e : (s.extract a s.size).size = s.size - a := by simp only [ByteArray.size_extract]; omega
      rw [head_cut s a (by omega)] at hf
      refine ⟨a + 8, by omega, cut_tail s a 8 ha, ?_⟩
      rcases find_cases (signOf base) (s.extract a (a + 8)) with hc | ⟨i', hc, _, hi, hg, _⟩
      · rw [hc] at hf; omega
      · have hii : i' = i := by rw [hc] at hf; omega
        subst hii
        obtain ⟨hl, hd⟩ := getD_block hi hg
        have hq := hno a i' (by omega) hl hd
        have hnew : Made base ⟨true, (i' : Int) * 8, 8, ⟨#[]⟩⟩ := ⟨fun _ => ⟨by show (0 : Int) ≤ (i' : Int) * 8; omega, Int.le_refl _, by show (i' : Int) * 8 + 8 ≤ _; omega, rfl⟩, fun h => by simp at h⟩
        have hout : outP base ⟨true, (i' : Int) * 8, 8, ⟨#[]⟩⟩ = s.extract a (a + 8) := by
          unfold outP
          rw [if_pos rfl, ← hq]
          show base.extract ((i' : Int) * 8).toNat (((i' : Int) * 8).toNat + (8 : Int).toNat) = _
          rw [show ((i' : Int) * 8).toNat = 8 * i' by omega]
          rfl
        rcases snoc_cases l with rfl | ⟨m, p, rfl⟩
        · rw [blockL_nil, outL_one, hout]
          have h3 : (s.extract 0 a).size = 0 := by rw [← h1]; rfl
          have h4 : a = 0 := by simp only [ByteArray.size_extract] at h3; omega
          subst h4
          refine ⟨rfl, fun q hq => ?_⟩
          rw [List.mem_singleton.1 hq]
          exact hnew
        · have hp := h2 p (by simp)
          rw [blockL_snoc]
          split
          · rename_i hcd
            obtain ⟨q1, q2, q3, q4⟩ := hp.1 hcd.1
            have w1 : IntKind.i64.wrap (p.f1 + p.f2) = p.f1 + p.f2 := wrap_ok _ (by omega) (by omega)
            have w2 : IntKind.i64.wrap (p.f2 + 8) = p.f2 + 8 := wrap_ok _ (by omega) (by omega)
            have hcc := hcd.2
            rw [w1] at hcc
            rw [w2]
            have hpo : outP base ⟨p.f0, p.f1, p.f2 + 8, p.f3⟩ = outP base p ++ outP base ⟨true, (i' : Int) * 8, 8, ⟨#[]⟩⟩ := by
              unfold outP
              rw [if_pos hcd.1, if_pos hcd.1, if_pos rfl]
              show base.extract p.f1.toNat (p.f1.toNat + (p.f2 + 8).toNat) = base.extract p.f1.toNat (p.f1.toNat + p.f2.toNat) ++ base.extract ((i' : Int) * 8).toNat (((i' : Int) * 8).toNat + (8 : Int).toNat)
              rw [show ((i' : Int) * 8).toNat = p.f1.toNat + p.f2.toNat by omega, cut_join _ _ _ _ (by omega) (by omega)]
              have e8 : p.f1.toNat + (p.f2 + 8).toNat = p.f1.toNat + p.f2.toNat + (8 : Int).toNat := by
                have e0 : (8 : Int).toNat = 8 := rfl
                omega
              rw [e8]
            refine ⟨?_, fun q hq => ?_⟩
            · rw [outL_append, outL_one, hpo, hout, ← bytes_assoc, ← outL_one base p, ← outL_append, h1, cut_join _ _ _ _ (by omega) (by omega)]
            · rcases List.mem_append.1 hq with hq | hq
              · exact h2 q (by simp [hq])
              · rw [List.mem_singleton.1 hq]
                refine ⟨fun _ => ⟨q1, ?_, ?_, q4⟩, fun h => ?_⟩
                · show (8 : Int) ≤ p.f2 + 8
                  omega
                · show p.f1 + (p.f2 + 8) ≤ _
                  omega
                · have h' : p.f0 = false := h
                  rw [hcd.1] at h'
                  simp at h'
          · refine ⟨?_, fun q hq => ?_⟩
            · rw [outL_append, outL_one, hout, h1, cut_join _ _ _ _ (by omega) (by omega)]
            · rcases List.mem_append.1 hq with hq | hq
              · exact h2 q hq
              · rw [List.mem_singleton.1 hq]
                exact hnew)
    (by
      rintro l t ⟨a, ha, rfl, h1, h2⟩ h8 _
      have e : (s.extract a s.size).size = s.size - a := by simp only [ByteArray.size_extract]; omega
      refine ⟨a + 1, by omega, cut_tail s a 1 ha, ?_⟩
      rw [cut_cut _ _ _ _ _ (by omega), Nat.add_zero]
      have e1 : (s.extract a (a + 1)).size = 1 := by simp only [ByteArray.size_extract]; omega
      have hnew : Made base ⟨false, 0, 0, s.extract a (a + 1)⟩ := ⟨fun h => by simp at h, fun _ => ⟨rfl, rfl, by show 1 ≤ (s.extract a (a + 1)).size; omega⟩⟩
      rcases snoc_cases l with rfl | ⟨m, p, rfl⟩
      · rw [litL_nil, outL_one]
        have h3 : (s.extract 0 a).size = 0 := by rw [← h1]; rfl
        have h4 : a = 0 := by simp only [ByteArray.size_extract] at h3; omega
        subst h4
        refine ⟨rfl, fun q hq => ?_⟩
        rw [List.mem_singleton.1 hq]
        exact hnew
      · have hp := h2 p (by simp)
        rw [litL_snoc]
        split
        · rename_i hcd
          obtain ⟨q1, q2, q3⟩ := hp.2 hcd
          refine ⟨?_, fun q hq => ?_⟩
          · have hpo : outP base ⟨p.f0, p.f1, p.f2, p.f3 ++ s.extract a (a + 1)⟩ = outP base p ++ s.extract a (a + 1) := by
              unfold outP
              rw [if_neg (by simp [hcd]), if_neg (by simp [hcd])]
            rw [outL_append, outL_one, hpo, ← bytes_assoc, ← outL_one base p, ← outL_append, h1, cut_join _ _ _ _ (by omega) (by omega)]
          · rcases List.mem_append.1 hq with hq | hq
            · exact h2 q (by simp [hq])
            · rw [List.mem_singleton.1 hq]
              refine ⟨fun h => ?_, fun _ => ⟨q1, q2, ?_⟩⟩
              · have h' : p.f0 = true := h
                rw [hcd] at h'
                simp at h'
              · show 1 ≤ (p.f3 ++ s.extract a (a + 1)).size
                rw [ByteArray.size_append]
                omega
        · refine ⟨?_, fun q hq => ?_⟩
          · rw [outL_append, outL_one, h1]
            show s.extract 0 a ++ s.extract a (a + 1) = _
            rw [cut_join _ _ _ _ (by omega) (by omega)]
          · rcases List.mem_append.1 hq with hq | hq
            · exact h2 q hq
            · rw [List.mem_singleton.1 hq]
              exact hnew)
    s.size [] s (Nat.le_refl _) ⟨0, by omega, (cut_all s).symm, (cut_none s).symm, fun p hp => by simp at hp⟩
  have : a = s.size := by simp only [ByteArray.size_extract] at h0; omega
  subst this
  rw [cut_all] at h1
  exact ⟨h1, h2⟩
theorem sumP_nonneg {base : ByteArray} : ∀ {l : List S67}, (∀ p ∈ l, Made base p) → 0 ≤ sumP l
  | [], _ => by rw [sumP_nil]; omega
  | p :: l, h => by
    rw [sumP_cons]
    have h1 := sumP_nonneg (l := l) (fun q hq => h q (by simp [hq]))
    have h2 := h p (by simp)
    cases hp : p.f0
    · have := h2.2 hp; omega
    · have := h2.1 hp; omega
theorem made_part {base : ByteArray} {l : List S67} (h : ∀ p ∈ l, Made base p) {p : S67} (hp : p ∈ l) : p.f2 + (p.f3.size : Int) ≤ sumP l := by
  obtain ⟨a, b, rfl⟩ := List.append_of_mem hp
  have h1 := sumP_nonneg (base := base) (l := a) (fun q hq => h q (by simp [hq]))
  have h2 := sumP_nonneg (base := base) (l := b) (fun q hq => h q (by simp [hq]))
  rw [sumP_append, sumP_cons]
  omega
theorem toList_empty : (⟨#[]⟩ : ByteArray).toList = ([] : List UInt8) := by simp [ByteArray.toList_eq]
theorem made_may {base : ByteArray} {l : List S67} (hb : base.size ≤ 200) (h : ∀ p ∈ l, Made base p) (hs : sumP l ≤ 200) (hl : l.length ≤ 60) : mayL l = true := by
  unfold mayL
  rw [Bool.and_eq_true, Bool.and_eq_true, decide_eq_true_eq, decide_eq_true_eq, List.all_eq_true]
  refine ⟨fun p hp => ?_, hl, hs⟩
  have h1 := h p hp
  have h2 := made_part h hp
  unfold mayP
  cases h0 : p.f0
  · have h3 := h1.2 h0
    simp only [Bool.false_eq_true, if_false, Bool.and_eq_true, beq_iff_eq, decide_eq_true_eq]
    omega
  · obtain ⟨a1, a2, a3, a4⟩ := h1.1 h0
    simp only [if_true, Bool.and_eq_true, beq_iff_eq, decide_eq_true_eq]
    refine ⟨⟨⟨a1, by omega⟩, by omega, by omega⟩, ?_⟩
    rw [a4, toList_empty]
theorem made_fits {base : ByteArray} {l : List S67} (h : ∀ p ∈ l, Made base p) : l.all (fits base) = true := by
  rw [List.all_eq_true]
  intro p hp
  unfold fits
  cases h0 : p.f0
  · rfl
  · have := ((h p hp).1 h0).2.2.1
    simpa using this
/-- What pieces make of a value, and whether they do. -/
def applyL (base : ByteArray) (l : List S67) : ByteArray × Bool := if mayL l = true ∧ l.all (fits base) = true then (outL base l, true) else (⟨#[]⟩, false)
theorem mayP_true {p : S67} (h : mayP p = true) : (p.f0 = true → 0 ≤ p.f1 ∧ p.f1 ≤ 200 ∧ 1 ≤ p.f2 ∧ p.f2 ≤ 200 ∧ p.f3.size = 0) ∧ (p.f0 = false → p.f1 = 0 ∧ p.f2 = 0 ∧ 1 ≤ p.f3.size ∧ p.f3.size ≤ 200) := by
  unfold mayP at h
  cases h0 : p.f0
  · rw [h0, if_neg (by simp)] at h
    simp only [Bool.and_eq_true, decide_eq_true_eq, beq_iff_eq] at h
    exact ⟨fun q => by simp at q, fun _ => by omega⟩
  · rw [h0, if_pos rfl] at h
    simp only [Bool.and_eq_true, decide_eq_true_eq, beq_iff_eq] at h
    have e : p.f3.size = 0 := by
      have := data_length p.f3
      rw [← ByteArray.toList_eq, h.2] at this
      exact this.symm
    exact ⟨fun _ => by omega, fun q => by simp at q⟩
theorem may_sum : ∀ {l : List S67}, l.all mayP = true → 0 ≤ sumP l
  | [], _ => by rw [sumP_nil]; omega
  | p :: l, h => by
    rw [List.all_cons, Bool.and_eq_true] at h
    have h1 := may_sum h.2
    have h2 := mayP_true h.1
    rw [sumP_cons]
    cases h0 : p.f0
    · have := h2.2 h0; omega
    · have := h2.1 h0; omega
theorem mayL_iff (l : List S67) : mayL l = true ↔ l.all mayP = true ∧ l.length ≤ 60 ∧ sumP l ≤ 200 := by
  unfold mayL
  rw [Bool.and_eq_true, Bool.and_eq_true, decide_eq_true_eq, decide_eq_true_eq]
theorem mayL_append {l m : List S67} (h : mayL (l ++ m) = true) : mayL l = true ∧ mayL m = true := by
  rw [mayL_iff] at h
  rw [mayL_iff, mayL_iff]
  obtain ⟨h1, h2, h3⟩ := h
  rw [List.all_append, Bool.and_eq_true] at h1
  rw [List.length_append] at h2
  rw [sumP_append] at h3
  have a := may_sum h1.1
  have b := may_sum h1.2
  exact ⟨⟨h1.1, by omega, by omega⟩, h1.2, by omega, by omega⟩
theorem outL_size (base : ByteArray) : ∀ {l : List S67}, l.all mayP = true → l.all (fits base) = true → ((outL base l).size : Int) = sumP l
  | [], _, _ => rfl
  | p :: l, h, hf => by
    rw [List.all_cons, Bool.and_eq_true] at h hf
    have h1 := outL_size base h.2 hf.2
    have h2 := mayP_true h.1
    rw [sumP_cons, ← h1]
    show ((outP base p ++ outL base l).size : Int) = _
    rw [ByteArray.size_append]
    have h3 : ((outP base p).size : Int) = p.f2 + (p.f3.size : Int) := by
      unfold outP
      have hff := hf.1
      unfold fits at hff
      cases h0 : p.f0
      · have := h2.2 h0
        rw [if_neg (by simp)]
        omega
      · have := h2.1 h0
        rw [h0] at hff
        simp at hff
        rw [if_pos rfl]
        simp only [ByteArray.size_extract]
        omega
    omega
theorem applyL_no {base : ByteArray} {l : List S67} (h : ¬ (mayL l = true ∧ l.all (fits base) = true)) : applyL base l = (⟨#[]⟩, false) := by unfold applyL; rw [if_neg h]
theorem applyL_yes {base : ByteArray} {l : List S67} (h : mayL l = true) (hf : l.all (fits base) = true) : applyL base l = (outL base l, true) := by unfold applyL; rw [if_pos ⟨h, hf⟩]
theorem apply_parts_no {base : ByteArray} {l m : List S67} (h : (applyL base l).2 = false ∨ (applyL base m).2 = false) : applyL base (l ++ m) = (⟨#[]⟩, false) := by
  apply applyL_no
  rintro ⟨h1, h2⟩
  obtain ⟨a, b⟩ := mayL_append h1
  rw [List.all_append, Bool.and_eq_true] at h2
  rw [applyL_yes a h2.1, applyL_yes b h2.2] at h
  simp at h
theorem applyL_true {base : ByteArray} {l : List S67} (h : (applyL base l).2 = true) : mayL l = true ∧ l.all (fits base) = true ∧ applyL base l = (outL base l, true) := by
  by_cases hc : mayL l = true ∧ l.all (fits base) = true
  · exact ⟨hc.1, hc.2, applyL_yes hc.1 hc.2⟩
  · rw [applyL_no hc] at h
    simp at h
theorem apply_parts {base : ByteArray} {l m : List S67} (h : (applyL base l).2 = true) (h' : (applyL base m).2 = true) :
    applyL base (l ++ m) = if (applyL base l).1.size + (applyL base m).1.size > 200 ∨ l.length + m.length > 60 then (⟨#[]⟩, false) else ((applyL base l).1 ++ (applyL base m).1, true) := by
  obtain ⟨a1, a2, a3⟩ := applyL_true h
  obtain ⟨b1, b2, b3⟩ := applyL_true h'
  have c1 := (mayL_iff l).1 a1
  have c2 := (mayL_iff m).1 b1
  have s1 := outL_size base c1.1 a2
  have s2 := outL_size base c2.1 b2
  have hsum := sumP_append l m
  have hf : (l ++ m).all (fits base) = true := by rw [List.all_append, a2, b2]; rfl
  rw [a3, b3]
  dsimp only
  by_cases hc : (outL base l).size + (outL base m).size > 200 ∨ l.length + m.length > 60
  · rw [if_pos hc]
    apply applyL_no
    rintro ⟨q, _⟩
    rw [mayL_iff, List.length_append] at q
    omega
  · rw [if_neg hc, applyL_yes _ hf, outL_append]
    rw [mayL_iff, List.length_append, List.all_append, c1.1, c2.1]
    exact ⟨rfl, by omega, by omega⟩
theorem apply_nil (base : ByteArray) : applyL base [] = (⟨#[]⟩, true) := applyL_yes (by decide) rfl
theorem apply_whole (s : ByteArray) (hs : s.size ≤ 200) : applyL s [⟨true, 0, (s.size : Int), ⟨#[]⟩⟩] = if 0 < s.size then (s, true) else (⟨#[]⟩, false) := by
  by_cases h : 0 < s.size
  · rw [if_pos h, applyL_yes]
    · rw [outL_one]
      unfold outP
      rw [if_pos rfl]
      show (s.extract (0 : Int).toNat ((0 : Int).toNat + (s.size : Int).toNat), true) = _
      rw [Int.toNat_natCast, Int.toNat_zero, Nat.zero_add, cut_all]
    · rw [mayL_iff, sumP_one]
      refine ⟨?_, by simp, ?_⟩
      · simp only [List.all_cons, List.all_nil, Bool.and_true]
        unfold mayP
        rw [if_pos rfl]
        simp only [Bool.and_eq_true, decide_eq_true_eq, beq_iff_eq]
        exact ⟨⟨⟨by omega, by omega⟩, by omega, by omega⟩, toList_empty⟩
      · show (s.size : Int) + ((0 : Nat) : Int) ≤ 200
        omega
    · simp [fits]
  · rw [if_neg h]
    apply applyL_no
    rintro ⟨q, _⟩
    rw [mayL_iff] at q
    have := q.1
    simp only [List.all_cons, List.all_nil, Bool.and_true] at this
    have h1 : (1 : Int) ≤ (s.size : Int) := ((mayP_true this).1 rfl).2.2.1
    omega
theorem apply_beyond (s : ByteArray) (more : Int) (h : 1 ≤ more) : (applyL s [⟨true, more, (s.size : Int), ⟨#[]⟩⟩]).2 = false := by
  rw [applyL_no]
  rintro ⟨_, q⟩
  simp only [List.all_cons, List.all_nil, Bool.and_true, fits, Bool.not_true, Bool.false_or, decide_eq_true_eq] at q
  omega
theorem makeF_blk (sig : List Sg) (k : Nat) (l : List S67) (t t' : ByteArray) (i : Nat) (h8 : 8 ≤ t.size) (hf : findOf sig (headB t) = (i : Int)) (ht : t.extract 8 t.size = t') : makeF sig (k + 1) l t = makeF sig k (blockL l ((i : Int) * 8)) t' := by
  rw [makeF, if_neg (by omega)]
  change (if 0 ≤ findOf sig (headB t) then makeF sig k (blockL l (findOf sig (headB t) * 8)) (t.extract 8 t.size) else makeF sig k (litL l (t.extract 0 1)) (t.extract 1 t.size)) = _
  rw [hf, if_pos (by omega), ht]
theorem makeF_lit (sig : List Sg) (k : Nat) (l : List S67) (t x t' : ByteArray) (h0 : 0 < t.size) (hf : findOf sig (headB t) = -1) (hx : t.extract 0 1 = x) (ht : t.extract 1 t.size = t') : makeF sig (k + 1) l t = makeF sig k (litL l x) t' := by
  rw [makeF, if_neg (by omega)]
  change (if 0 ≤ findOf sig (headB t) then makeF sig k (blockL l (findOf sig (headB t) * 8)) (t.extract 8 t.size) else makeF sig k (litL l (t.extract 0 1)) (t.extract 1 t.size)) = _
  rw [hf, if_neg (by omega), hx, ht]
end Go.Proofs.Ytchaegfdcdlfaaa.X

/- The example of layer 10, in plain numbers: the places follow from the rolling checks. -/
namespace Go.Proofs.Ytchaegfdcdlfaaa.X
set_option linter.unusedVariables false
set_option linter.unusedSimpArgs false
open Go.RowKit Go.Maps Go.Proofs.YtchaegfdcdlfaaaW.PrintWords Go.Proofs.YtchaegfdcdlfaaaW.PrintLast Go.Proofs.YtchaegfdcdlfaaaW.PrintMore

def awA : ByteArray := ⟨#[97, 98, 99, 100, 101, 102, 103, 104, 105, 106, 107, 108, 109, 110, 111, 112, 113, 114, 115, 116, 117, 118, 119, 120]⟩
def awB : ByteArray := ⟨#[97, 98, 99, 100, 101, 102, 103, 104, 105, 106, 107, 108, 109, 110, 111, 112, 113, 114, 115, 116, 117, 118, 119]⟩
def aw0 : ByteArray := ⟨#[97, 98, 99, 100, 101, 102, 103, 104]⟩
def aw1 : ByteArray := ⟨#[105, 106, 107, 108, 109, 110, 111, 112]⟩
def aw2 : ByteArray := ⟨#[113, 114, 115, 116, 117, 118, 119, 120]⟩
def aw3 : ByteArray := ⟨#[106, 107, 108, 109, 110, 111, 112, 113]⟩
theorem cut0 : awA.extract (8 * 0) (8 * 0 + 8) = aw0 := by decide +kernel
theorem cut1 : awA.extract (8 * 1) (8 * 1 + 8) = aw1 := by decide +kernel
theorem cut2 : awA.extract (8 * 2) (8 * 2 + 8) = aw2 := by decide +kernel
theorem one_ne {p q : ByteArray} (h : roll (bs p) ≠ roll (bs q)) : oneOf p ≠ oneOf q := fun e => h (congrArg Prod.fst e)
theorem aw_of : signOf awA = [oneOf aw0, oneOf aw1, oneOf aw2] := by
  have hs : awA.size = 24 := by decide +kernel
  unfold signOf
  rw [if_neg (by omega), hs]
  show blocks awA 3 = _
  simp only [blocks, List.range_succ, List.range_zero, List.nil_append, List.map_append, List.map_cons, List.map_nil, blockAt, cut0, cut1, cut2, List.singleton_append, List.cons_append]
theorem aw_of2 : signOf awB = [] := by
  have hs : awB.size = 23 := by decide +kernel
  unfold signOf
  rw [if_pos (by omega)]
theorem aw_find1 : findOf (signOf awA) aw1 = 1 := by
  have hs : aw1.size = 8 := by decide +kernel
  rw [findOf, if_pos hs, aw_of]
  refine idxI_at (j := 1) rfl fun i hi => ?_
  obtain rfl : i = 0 := by omega
  intro e
  injection e with e
  exact one_ne (by decide +kernel) e
theorem aw_find2 : findOf (signOf awA) aw3 = -1 := by
  have hs : aw3.size = 8 := by decide +kernel
  rw [findOf, if_pos hs, aw_of]
  refine idxI_none fun i hi => ?_
  simp only [List.length_cons, List.length_nil] at hi
  have : i = 0 ∨ i = 1 ∨ i = 2 := by omega
  rcases this with rfl | rfl | rfl <;> (intro e; injection e with e; exact one_ne (by decide +kernel) e)
end Go.Proofs.Ytchaegfdcdlfaaa.X

/- The example of layer 11, in plain numbers. -/
namespace Go.Proofs.Ytchaegfdcdlfaaa.X
set_option linter.unusedVariables false
set_option linter.unusedSimpArgs false
open Go.RowKit Go.Maps Go.Proofs.YtchaegfdcdlfaaaW.PrintWords Go.Proofs.YtchaegfdcdlfaaaW.PrintLast Go.Proofs.YtchaegfdcdlfaaaW.PrintMore

def awX : ByteArray := ⟨#[120, 97, 98, 99, 100, 101, 102, 103, 104, 105, 106, 107, 108, 109, 110, 111, 112]⟩
def awX1 : ByteArray := ⟨#[97, 98, 99, 100, 101, 102, 103, 104, 105, 106, 107, 108, 109, 110, 111, 112]⟩
def awH : ByteArray := ⟨#[120, 97, 98, 99, 100, 101, 102, 103]⟩
theorem aw_findH : findOf (signOf awA) awH = -1 := by
  have hs : awH.size = 8 := by decide +kernel
  rw [findOf, if_pos hs, aw_of]
  refine idxI_none fun i hi => ?_
  simp only [List.length_cons, List.length_nil] at hi
  have : i = 0 ∨ i = 1 ∨ i = 2 := by omega
  rcases this with rfl | rfl | rfl <;> (intro e; injection e with e; exact one_ne (by decide +kernel) e)
theorem aw_find0 : findOf (signOf awA) aw0 = 0 := by
  have hs : aw0.size = 8 := by decide +kernel
  rw [findOf, if_pos hs, aw_of]
  exact idxI_at (j := 0) rfl fun i hi => by omega
/-- What is made of the example. -/
def awL : List S67 := [⟨false, 0, 0, ⟨#[120]⟩⟩, ⟨true, 0, 16, ⟨#[]⟩⟩]
theorem aw_make : makeF (signOf awA) awX.size [] awX = awL := by
  have h17 : awX.size = 17 := by decide +kernel
  have h16 : awX1.size = 16 := by decide +kernel
  have h8 : aw1.size = 8 := by decide +kernel
  have e1 : headB awX = awH := by decide +kernel
  have e2 : headB awX1 = aw0 := by decide +kernel
  have e3 : headB aw1 = aw1 := by decide +kernel
  rw [h17, makeF_lit (signOf awA) 16 [] awX ⟨#[120]⟩ awX1 (by omega) (by rw [e1, aw_findH]) (by decide +kernel) (by decide +kernel), litL_nil]
  rw [makeF_blk (signOf awA) 15 _ awX1 aw1 0 (by omega) (by rw [e2, aw_find0]; rfl) (by decide +kernel)]
  rw [makeF_blk (signOf awA) 14 _ aw1 ⟨#[]⟩ 1 (by omega) (by rw [e3, aw_find1]; rfl) (by decide +kernel)]
  rw [makeF_end _ _ _ _ rfl]
  have b1 := blockL_snoc [] ⟨false, 0, 0, ⟨#[120]⟩⟩ (((0 : Nat) : Int) * 8)
  rw [List.nil_append, if_neg (by simp)] at b1
  rw [b1, blockL_snoc, if_pos ⟨rfl, by rw [wrap_ok _ (by decide) (by decide)]; rfl⟩, wrap_ok _ (by decide) (by decide)]
  rfl
theorem aw_may : mayL awL = true := by decide +kernel
theorem aw_apply : applyL awA awL = (awX, true) := by decide +kernel
end Go.Proofs.Ytchaegfdcdlfaaa.X

/- Pieces: tools for the walks of layer 11. -/
namespace Go.Proofs.Ytchaegfdcdlfaaa.X
set_option linter.unusedVariables false
set_option linter.unusedSimpArgs false
open Go.RowKit Go.Maps Go.Proofs.YtchaegfdcdlfaaaW.PrintWords Go.Proofs.YtchaegfdcdlfaaaW.PrintLast Go.Proofs.YtchaegfdcdlfaaaW.PrintMore

theorem may_callB {l : List S67} {n : Nat} (hn : l.length = n) (A : Option Addr) (c : Nat) (w : World) (hr : Kd.C k67 w A n l) (hc : n ≤ c) (hl : n ≤ 1000000000) (b : Bool) (hb : mayL l = b) :
    Calls Try.prog 57 #[.slice A n c] w fun e w' => e = .returned (.bool b) ∧ Below w.heap.size w w' := by
  subst hn
  subst hb
  exact delta_May.calls (l.length + 1) A c l (mayL l) w hr hc (May_eq l (by omega) (l.length + 1) (by omega))
theorem make_callB {sig : List Sg} {n : Nat} (hn : sig.length = n) (A : Option Addr) (c : Nat) (s : ByteArray) (w : World) (hr : sgK.C w A n sig) (hok : ∀ x ∈ sig, SgOk x) (hl : n ≤ 100000) (hs : s.size ≤ 100000) (R : List S67) (hR : makeF sig s.size [] s = R) (m : Nat) (hm : R.length = m) :
    Calls Try.prog 55 #[.slice A n c, .string s] w fun e w' => ∃ A' c', e = .returned (.slice A' m c') ∧ m ≤ c' ∧ Kd.C k67 w' A' m R ∧ Below w.heap.size w w' := by
  subst hR
  subst hm
  refine (make_call A n c sig s w hn hr hok hl hs).mono ?_
  rintro e w' ⟨v, rfl, ho, hb⟩
  obtain ⟨A', c', rfl, hc', hr'⟩ := Kd.R_reads ho
  exact ⟨A', c', rfl, hc', hr', hb⟩
/-- A piece's cells lie at an address. -/
def PcAt (W : World) (a : Addr) (p : S67) : Prop := W.cell? a = some (.bool p.f0) ∧ W.cell? ⟨a.block, a.off + 1, none⟩ = some (.int .i64 p.f1) ∧ W.cell? ⟨a.block, a.off + 2, none⟩ = some (.int .i64 p.f2) ∧ W.cell? ⟨a.block, a.off + 3, none⟩ = some (.string p.f3)
theorem PcAt.below {W W' : World} {a : Addr} {p : S67} (h : PcAt W a p) (hb : Below W.heap.size W W') : PcAt W' a p :=
  have k : ∀ {q v}, W.cell? q = some v → W'.cell? q = some v := fun hv => (hb.cell (World.block_lt_of_cell? _ _ hv)).trans hv
  ⟨k h.1, k h.2.1, k h.2.2.1, k h.2.2.2⟩
theorem pc_at {W : World} {A : Option Addr} {n : Nat} {l : List S67} (h : Kd.C k67 W A n l) {i : Nat} (hi : i < n) (p : S67) (hp : l.getD i z67 = p) : ∃ ad, A = some ad ∧ PcAt W (ad.add (i * 4)) p := by
  obtain ⟨ad, hA, h0, h1, h2, h3⟩ := at_T67 h (i : Int) (by omega) (by omega)
  have e : rd_T67 l (i : Int) = p := by unfold rd_T67; rw [Int.toNat_natCast, hp]
  rw [e, Int.toNat_natCast] at h0 h1 h2 h3
  exact ⟨ad, hA, h0, h1, h2, h3⟩
theorem pc_at' {W : World} {ad : Addr} {n : Nat} {l : List S67} (h : Kd.C k67 W (some ad) n l) {i : Nat} (hi : i < n) (p : S67) (hp : l.getD i z67 = p) : PcAt W (ad.add (i * 4)) p := by
  obtain ⟨ad', hA, hc⟩ := pc_at h hi p hp
  injection hA with hA
  subst hA
  exact hc
theorem take_snocD (l : List S67) (j : Nat) (h : j < l.length) : l.take (j + 1) = l.take j ++ [l.getD j z67] := by
  rw [List.take_succ_eq_append_getElem h, List.getD_eq_getElem?_getD, List.getElem?_eq_getElem h]
  rfl
end Go.Proofs.Ytchaegfdcdlfaaa.X

namespace Go.Proofs.Ytchaegfdcdlfaaa.X
open Go.RowKit Go.Proofs.YtchaegfdcdlfaaaW.PrintWords Go.Proofs.YtchaegfdcdlfaaaW.PrintLast Go.Proofs.YtchaegfdcdlfaaaW.PrintMore
attribute [local go_sem] max2_int min2_int max_two min_two max_three min_three max_four min_four   -- for this text's walks alone
set_option linter.unusedVariables false
set_option linter.unusedSimpArgs false

/-! ### wire_groups: function 141 -/
def wire_groups.l0 : Nat → Int → Int → Option (Int)
  | 0, _, _ => none
  | k + 1, x0, x3 => if x0 > 0 then (wire_groups.l0 k (x0 / 128) (wrap64 (x3 + 1))) else (some x3)
def wire_groups.f (k : Nat) (a0 : Int) : Option (Int) := wire_groups.l0 k (a0 / 128) 1
theorem wire_groups.mono_l : ∀ k, (∀ y0 y1, LeO (wire_groups.l0 k y0 y1) (wire_groups.l0 (k + 1) y0 y1))
  | 0 => fun _ _ r h => by simp [wire_groups.l0] at h
  | k + 1 => by
    have ih0 := wire_groups.mono_l k
    · intro y0 y1
      unfold wire_groups.l0
      repeat' first
      | (with_reducible exact ih0 _ _)
      | (with_reducible exact LeO.refl _)
      | (with_reducible exact LeO.none _)
      | (with_reducible refine LeO.ite ?_ ?_)
      | (with_reducible refine LeO.bind ?_ (fun _ => ?_))
      | exact ih0 _ _
      | exact LeO.none _
      | refine LeO.ite ?_ ?_
      | refine LeO.bind ?_ (fun _ => ?_)
theorem wire_groups.mono : ∀ a0 k, LeO (wire_groups.f k a0) (wire_groups.f (k + 1) a0) := by
  intro a0 k
  have ih0 := wire_groups.mono_l k
  unfold wire_groups.f
  repeat' first
      | (with_reducible exact ih0 _ _)
      | (with_reducible exact LeO.refl _)
      | (with_reducible exact LeO.none _)
      | (with_reducible refine LeO.ite ?_ ?_)
      | (with_reducible refine LeO.bind ?_ (fun _ => ?_))
      | exact ih0 _ _
      | exact LeO.none _
      | refine LeO.ite ?_ ?_
      | refine LeO.bind ?_ (fun _ => ?_)
set_option maxHeartbeats 8000000 in
set_option maxRecDepth 100000 in
theorem wire_groups.calls (k : Nat) (a0 : Int) (r : Int) (w : World) (h : wire_groups.f k a0 = some r) :
    Calls Try.prog 141 #[.int .u64 a0] w fun e w' => e = .returned (.int .i64 r) ∧ Drawn0 w w' := by
  have H : (wire_groups.l0 k (a0 / 128) 1) = some r := h
  clear h
  have H' := Aside0.mk H
  clear H
  go_enter Try.func141, Try.ntmps141
  go_wp2
  go_loopg [0, 3] k (fun kq v0 v3 w' => ∃ (x0_1 : Int) (x3_1 : Int), v0 = .int .u64 x0_1 ∧ v3 = .int .i64 x3_1 ∧ Aside0 (wire_groups.l0 kq x0_1 x3_1 = some r) ∧ Aside0 (kq ≤ k) ∧ Drawn0 w w')
  case atStart => exact ⟨(a0 / 128), (1), (by first | rfl | (simp; done) | (simp [*]; done)), (by first | rfl | (simp; done) | (simp [*]; done)), H', ⟨Nat.le_refl _⟩, by repeat (first | exact Drawn0.refl _ | apply Drawn0.step)⟩
  case round =>
    clear H'
    try clear c1
    obtain ⟨x0_1, x3_1, rfl, rfl, HA, HK1, ⟨m1, rfl⟩⟩ := hrel
    cases gk with
    | zero => exact absurd HA.out (by simp [wire_groups.l0])
    | succ k1 =>
      have H := HA.out
      clear HA
      simp only [wire_groups.l0] at H
      by_cases c2 : x0_1 > 0
      · rw [if_pos c2] at H
        have c2b0 : decide (0 < x0_1) = true := decide_eq_true c2
        clear c2
        have H' := Aside0.mk H
        clear H
        go_wp2
        go_roundg k1
        case measure => have := HK1.out; omega
        case rel => exact ⟨(x0_1 / 128), (wrap64 (x3_1 + 1)), (by first | rfl | (simp; done) | (simp [*]; done)), (by first | rfl | (simp; done) | (simp [*]; done)), H', ⟨by have := HK1.out; omega⟩, by repeat (first | exact Drawn0.refl _ | apply Drawn0.step)⟩
      · rw [if_neg c2] at H
        have c2b0 : decide (0 < x0_1) = false := decide_eq_false c2
        clear c2
        obtain rfl := Option.some.inj H
        go_wp2
        go_ret
        exact ⟨by first | rfl | (simp; done) | (simp [*]; done), by repeat (first | exact Drawn0.refl _ | apply Drawn0.step)⟩

end Go.Proofs.Ytchaegfdcdlfaaa.X

namespace Go.Proofs.Ytchaegfdcdlfaaa.X
open Go.RowKit Go.Proofs.YtchaegfdcdlfaaaW.PrintWords Go.Proofs.YtchaegfdcdlfaaaW.PrintLast Go.Proofs.YtchaegfdcdlfaaaW.PrintMore
attribute [local go_sem] max2_int min2_int max_two min_two max_three min_three max_four min_four   -- for this text's walks alone
set_option linter.unusedVariables false
set_option linter.unusedSimpArgs false

/-! ### wire_Put: function 84 -/
def wire_Put.l0 : Nat → Int → Int → List Int → Int → Int → Option (List Int)
  | 0, _, _, _, _, _ => none
  | k + 1, x0, x3, x4, x10, x11 => if x11 < x10 then (if 0 ≤ (wrap64 (7 * x11)) then (if 0 ≤ (wrap64 ((wrap64 (x3 - 1)) - x11)) then (if (wrap64 ((wrap64 (x3 - 1)) - x11)) < (x4.length : Int) then (wire_Put.l0 k x0 x3 (x4.set ((wrap64 ((wrap64 (x3 - 1)) - x11)) : Int).toNat (Go.bits .or .u8 ((shr .u64 x0 (wrap64 (7 * x11))) % 256) 128)) x10 (wrap64 (x11 + 1))) else (none)) else (none)) else (none)) else (if 0 ≤ (wrap64 (x3 - 1)) then (if (wrap64 (x3 - 1)) < (x4.length : Int) then (some (x4.set ((wrap64 (x3 - 1)) : Int).toNat (Go.bits .andNot .u8 (rd x4 (wrap64 (x3 - 1))) 128))) else (none)) else (none))
def wire_Put.f (k : Nat) (a0 : Int) : Option (List Int) := (wire_groups.f k a0).bind fun t148 => (if 0 ≤ t148 then (if (t148 : Int).toNat ≤ 281474976710656 then (wire_Put.l0 k a0 t148 (List.replicate (t148 : Int).toNat 0) t148 0) else (none)) else (none))
theorem wire_Put.mono_l : ∀ k, (∀ y0 y1 y2 y3 y4, LeO (wire_Put.l0 k y0 y1 y2 y3 y4) (wire_Put.l0 (k + 1) y0 y1 y2 y3 y4))
  | 0 => fun _ _ _ _ _ r h => by simp [wire_Put.l0] at h
  | k + 1 => by
    have ih0 := wire_Put.mono_l k
    · intro y0 y1 y2 y3 y4
      unfold wire_Put.l0
      repeat' first
      | (with_reducible exact ih0 _ _ _ _ _)
      | (with_reducible exact wire_groups.mono _ _)
      | (with_reducible exact LeO.refl _)
      | (with_reducible exact LeO.none _)
      | (with_reducible refine LeO.ite ?_ ?_)
      | (with_reducible refine LeO.bind ?_ (fun _ => ?_))
      | exact ih0 _ _ _ _ _
      | exact wire_groups.mono _ _
      | exact LeO.none _
      | refine LeO.ite ?_ ?_
      | refine LeO.bind ?_ (fun _ => ?_)
theorem wire_Put.mono : ∀ a0 k, LeO (wire_Put.f k a0) (wire_Put.f (k + 1) a0) := by
  intro a0 k
  have ih0 := wire_Put.mono_l k
  unfold wire_Put.f
  repeat' first
      | (with_reducible exact ih0 _ _ _ _ _)
      | (with_reducible exact wire_groups.mono _ _)
      | (with_reducible exact LeO.refl _)
      | (with_reducible exact LeO.none _)
      | (with_reducible refine LeO.ite ?_ ?_)
      | (with_reducible refine LeO.bind ?_ (fun _ => ?_))
      | exact ih0 _ _ _ _ _
      | exact wire_groups.mono _ _
      | exact LeO.none _
      | refine LeO.ite ?_ ?_
      | refine LeO.bind ?_ (fun _ => ?_)
set_option maxHeartbeats 8000000 in
set_option maxRecDepth 100000 in
theorem wire_Put.calls (k : Nat) (a0 : Int) (r : List Int) (w : World) (h : wire_Put.f k a0 = some r) :
    Calls Try.prog 84 #[.int .u64 a0] w fun e w' => ∃ v0_ : Value, e = .returned (v0_) ∧ Kd.R (Kd.int .u8) 5 w' w.heap.size (fun _ => True) v0_ r ∧ Below w.heap.size w w' := by
  have HB := Aside0.mk (Below.refl w.heap.size w)
  have H : ((wire_groups.f k a0).bind fun t148 => (if 0 ≤ t148 then (if (t148 : Int).toNat ≤ 281474976710656 then (wire_Put.l0 k a0 t148 (List.replicate (t148 : Int).toNat 0) t148 0) else (none)) else (none))) = some r := h
  clear h
  replace H := Option.bind_eq_some_iff.mp H
  obtain ⟨t148, A20, H⟩ := H
  replace H : (if 0 ≤ t148 then (if (t148 : Int).toNat ≤ 281474976710656 then (wire_Put.l0 k a0 t148 (List.replicate (t148 : Int).toNat 0) t148 0) else (none)) else (none)) = some r := H
  have A2 := Aside0.mk A20
  clear A20
  by_cases c3 : 0 ≤ t148
  · rw [if_pos c3] at H
    have c3b0 := eq_true c3
    have c3b1 : decide (0 ≤ t148) = true := decide_eq_true c3
    clear c3
    by_cases c4 : (t148 : Int).toNat ≤ 281474976710656
    · rw [if_pos c4] at H
      have c4b0 := eq_true c4
      have c4b1 : decide ((t148 : Int).toNat ≤ 281474976710656) = true := decide_eq_true c4
      clear c4
      obtain ⟨y149, hy149⟩ : ∃ y_ : List Int, y_ = (List.replicate (t148 : Int).toNat 0) := ⟨_, rfl⟩
      replace H : (wire_Put.l0 k a0 t148 y149 t148 0) = some r := by first | (rw [hy149]; with_reducible exact H) | (have H2_ := (Option.bind_some _ _).symm.trans H; rw [hy149]; with_reducible exact H2_) | (have H2_ := (Option.bind_some _ _).symm.trans H; with_reducible exact H2_) | with_reducible exact H | (rw [hy149]; exact H) | exact H
      have Ny149 := Aside0.mk hy149
      clear hy149
      have H' := Aside0.mk H
      clear H
      go_enter Try.func84, Try.ntmps84
      go_wp2_with (first | ((with_reducible refine gate_callee (f := 141) rfl ?_); refine goesL_ (some 7) rfl rfl Try.func141 (by kernel_rfl) rfl #[.int .u64 a0] rfl (by (try simp only [List.map_toArray, List.map_cons, List.map_nil]); first | done | rfl | (simp only [List.length_drop, List.length_take]; rfl)) ?_; (with_reducible refine (wire_groups.calls k a0 t148 _ A2.out).mono ?_); rintro e w' ⟨rfl, ⟨nd, rfl⟩⟩; refine ⟨_, rfl, ?_⟩) | ((with_reducible refine gate_dst (N := 9) rfl ?_); refine Kd.R_make (Kd.int .u8) _ 5 rfl (N := 9) rfl 40 _ _ rfl t148 rfl rfl Try.underlying40 (.int .u8 0) 1 info5 rfl (by decide) (by omega) 0 (ok := fun _ => True) (okp := fun _ => True) rfl (fun _ hk => hk) trivial (of_decide_eq_true (by first | (with_reducible assumption) | assumption)) (Nat.le_trans (Nat.mul_le_mul_right _ (of_decide_eq_true (by first | (with_reducible assumption) | assumption) : t148.toNat ≤ 281474976710656)) (by omega)) (Below.refl _ _) (Nat.le_refl _) ?_; intro v150 w5 ho6 hb hg_ hnew_; clear hg_ hnew_; (first | rw [← Ny149.out] at ho6 | (simp only [Int.reduceToNat] at ho6; rw [← Ny149.out] at ho6)); have n0_ := Aside0.mk (Kd.R_lower ho6 (below_size (by repeat (first | (with_reducible first | exact HB.out | apply below_alloc | apply pw_below_drewN | apply below_drew1) | exact HB.out)))); have n1_ := Aside0.mk (below_step (by repeat (first | (with_reducible first | exact HB.out | apply below_alloc | apply pw_below_drewN | apply below_drew1) | exact HB.out)) hb); clear HB; have HO151 := n0_; have HB := n1_; clear n0_ n1_; clear hb ho6))
      go_loopg [11] k (fun kq v11 w' => ∃ (x4_1 : List Int) (x11_1 : Int), v11 = .int .i64 x11_1 ∧ Aside0 (wire_Put.l0 kq a0 t148 x4_1 t148 x11_1 = some r) ∧ Aside0 (kq ≤ k) ∧ Aside0 (Kd.R (Kd.int .u8) 5 w' w.heap.size (fun _ => True) v150 x4_1) ∧ Aside0 (Below w.heap.size w w'))
      case atStart => exact ⟨(y149), (0), (by first | rfl | (simp; done) | (simp [*]; done)), H', ⟨Nat.le_refl _⟩, ⟨by (with_reducible repeat (first | apply Kd.R_alloc | apply Kd.R_drewN | apply Kd.R_drew)); exact HO151.out⟩, ⟨by repeat (first | (with_reducible first | exact HB.out | apply below_alloc | apply pw_below_drewN | apply below_drew1) | exact HB.out)⟩⟩
      case round =>
        clear H'
        try clear c1
        try clear p2
        try clear c3
        try clear c3b0
        try clear c3b1
        try clear c4
        try clear c4b0
        try clear c4b1
        obtain ⟨x4_1, x11_1, rfl, HA, HK1, HO_4, HB⟩ := hrel
        cases gk with
        | zero => exact absurd HA.out (by simp [wire_Put.l0])
        | succ k1 =>
          have H := HA.out
          clear HA
          simp only [wire_Put.l0] at H
          by_cases c7 : x11_1 < t148
          · rw [if_pos c7] at H
            have c7b0 : decide (x11_1 < t148) = true := decide_eq_true c7
            clear c7
            obtain ⟨ji8, hji8⟩ : ∃ j_ : Int, (wrap64 (7 * x11_1)) = j_ := ⟨_, rfl⟩
            replace H : (if 0 ≤ (ji8) then (if 0 ≤ (wrap64 ((wrap64 (t148 - 1)) - x11_1)) then (if (wrap64 ((wrap64 (t148 - 1)) - x11_1)) < (x4_1.length : Int) then (wire_Put.l0 k1 a0 t148 (x4_1.set ((wrap64 ((wrap64 (t148 - 1)) - x11_1)) : Int).toNat (Go.bits .or .u8 ((shr .u64 a0 (ji8)) % 256) 128)) t148 (wrap64 (x11_1 + 1))) else (none)) else (none)) else (none)) = some r := by first | (rw [hji8] at H; exact H) | (simp only [hji8] at H ⊢; exact H)
            have hji8w : (IntKind.i64.wrap (7 * x11_1)) = ji8 := (i64_w _).trans hji8
            by_cases c9 : 0 ≤ (ji8)
            · rw [if_pos c9] at H
              have c9b0 := eq_true c9
              have c9b1 : decide (0 ≤ (ji8)) = true := decide_eq_true c9
              clear c9
              obtain ⟨ji10, hji10⟩ : ∃ j_ : Int, (shr .u64 a0 (ji8)) = j_ := ⟨_, rfl⟩
              replace H : (if 0 ≤ (wrap64 ((wrap64 (t148 - 1)) - x11_1)) then (if (wrap64 ((wrap64 (t148 - 1)) - x11_1)) < (x4_1.length : Int) then (wire_Put.l0 k1 a0 t148 (x4_1.set ((wrap64 ((wrap64 (t148 - 1)) - x11_1)) : Int).toNat (Go.bits .or .u8 ((ji10) % 256) 128)) t148 (wrap64 (x11_1 + 1))) else (none)) else (none)) = some r := by first | (rw [hji10] at H; exact H) | (simp only [hji10] at H ⊢; exact H)
              have hji10_ : (a0 / 2 ^ min (ji8).toNat 64) = ji10 := hji10
              have hji10z : (ji8) ≤ 64 → (a0 / 2 ^ (ji8).toNat) = ji10 := shr_small hji10
              obtain ⟨ji11, hji11⟩ : ∃ j_ : Int, (wrap64 ((wrap64 (t148 - 1)) - x11_1)) = j_ := ⟨_, rfl⟩
              replace H : (if 0 ≤ (ji11) then (if (ji11) < (x4_1.length : Int) then (wire_Put.l0 k1 a0 t148 (x4_1.set ((ji11) : Int).toNat (Go.bits .or .u8 ((ji10) % 256) 128)) t148 (wrap64 (x11_1 + 1))) else (none)) else (none)) = some r := by first | (rw [hji11] at H; exact H) | (simp only [hji11] at H ⊢; exact H)
              have hji11w : (IntKind.i64.wrap ((wrap64 (t148 - 1)) - x11_1)) = ji11 := (i64_w _).trans hji11
              by_cases c12 : 0 ≤ (ji11)
              · rw [if_pos c12] at H
                have c12b0 : decide (0 ≤ (ji11)) = true := decide_eq_true c12
                clear c12
                by_cases c13 : (ji11) < (x4_1.length : Int)
                · rw [if_pos c13] at H
                  have c13b0 : decide ((ji11) < (x4_1.length : Int)) = true := decide_eq_true c13
                  clear c13
                  obtain ⟨y152, hy152⟩ : ∃ y_ : List Int, y_ = (x4_1.set ((ji11) : Int).toNat (Go.bits .or .u8 ((ji10) % 256) 128)) := ⟨_, rfl⟩
                  replace H : (wire_Put.l0 k1 a0 t148 y152 t148 (wrap64 (x11_1 + 1))) = some r := by first | (rw [hy152]; with_reducible exact H) | (have H2_ := (Option.bind_some _ _).symm.trans H; rw [hy152]; with_reducible exact H2_) | (have H2_ := (Option.bind_some _ _).symm.trans H; with_reducible exact H2_) | with_reducible exact H | (rw [hy152]; exact H) | exact H
                  have Ny152 := Aside0.mk hy152
                  clear hy152
                  have H' := Aside0.mk H
                  clear H
                  have p14 : 0 ≤ ((ji11) : Int) := of_decide_eq_true (by first | (with_reducible assumption) | assumption)
                  have q14 : ((ji11) : Int) < ((x4_1.length : Int) : Int) := of_decide_eq_true (by first | (with_reducible assumption) | assumption)
                  obtain ⟨go14, co14, eo14, gb14, gl14, cl14, HG14⟩ := Kd.R_form HO_4.out (by omega)
                  (first | cases eo14 | (injection eo14 with ea_ en_ ec_; (first | subst ea_ | (injection ea_ with ea_; subst ea_)); subst ec_; clear en_))
                  have GB14 := Aside0.mk gb14
                  have GG14 := Aside0.mk HG14
                  clear gb14 gl14 HG14
                  obtain ⟨hx14_0, hf14_0⟩ := Kd.R_celln 0 HO_4.out ((ji11) : Int) p14 q14
                  replace p14 := eq_true p14
                  replace q14 := eq_true q14
                  have HP15 := Kd.R_putg HO_4.out ((ji11) : Int) (Go.bits .or .u8 ((ji10) % 256) 128)
                  go_wp2_with (first | ((with_reducible refine gate_store (t := 5) (p := 25) rfl ?_); refine store_event (t := 5) (p := 25) (v := ?vo_w16) (w1 := (wr.setCell ⟨go14, ((ji11) : Int).toNat, none⟩ (.int .u8 (Go.bits .or .u8 ((ji10) % 256) 128)))) ?hg ?ho ?hn ?hr ?_; (case ho => rfl); (case hg => rfl); (case hn => rfl); (case hr => first | (go_simp; done) | (go_simp; rfl)); intro w16 hw; have hg : wr.grownBy w16 (some go14) := (by rw [hw]; exact HP15.2); have hp_ : Kd.R (Kd.int .u8) 5 w16 w.heap.size (fun _ => True) (.slice (some ⟨go14, 0, none⟩) x4_1.length co14) y152 := (by rw [hw, Ny152.out]; exact HP15.1); clear HP15; have n0_ := Aside0.mk (hp_); have n1_ := Aside0.mk ((by rw [hw]; exact below_set (HB.out) GB14.out : Below w.heap.size w w16)); clear HO_4; clear HB; have HO_4 := n0_; have HB := n1_; clear n0_ n1_; clear hg hw hp_))
                  go_roundg k1
                  case measure => have := HK1.out; omega
                  case rel => exact ⟨(y152), (wrap64 (x11_1 + 1)), (by first | rfl | (simp; done) | (simp [*]; done)), H', ⟨by have := HK1.out; omega⟩, ⟨by (with_reducible repeat (first | apply Kd.R_alloc | apply Kd.R_drewN | apply Kd.R_drew)); exact HO_4.out⟩, ⟨by repeat (first | (with_reducible first | exact HB.out | apply below_alloc | apply pw_below_drewN | apply below_drew1) | exact HB.out)⟩⟩
                · rw [if_neg c13] at H
                  exact absurd H (by simp)
              · rw [if_neg c12] at H
                exact absurd H (by simp)
            · rw [if_neg c9] at H
              exact absurd H (by simp)
          · rw [if_neg c7] at H
            have c7b0 : decide (x11_1 < t148) = false := decide_eq_false c7
            clear c7
            obtain ⟨ji17, hji17⟩ : ∃ j_ : Int, (wrap64 (t148 - 1)) = j_ := ⟨_, rfl⟩
            replace H : (if 0 ≤ (ji17) then (if (ji17) < (x4_1.length : Int) then (some (x4_1.set ((ji17) : Int).toNat (Go.bits .andNot .u8 (rd x4_1 (ji17)) 128))) else (none)) else (none)) = some r := by first | (rw [hji17] at H; exact H) | (simp only [hji17] at H ⊢; exact H)
            have hji17w : (IntKind.i64.wrap (t148 - 1)) = ji17 := (i64_w _).trans hji17
            by_cases c18 : 0 ≤ (ji17)
            · rw [if_pos c18] at H
              have c18b0 : decide (0 ≤ (ji17)) = true := decide_eq_true c18
              clear c18
              by_cases c19 : (ji17) < (x4_1.length : Int)
              · rw [if_pos c19] at H
                have c19b0 : decide ((ji17) < (x4_1.length : Int)) = true := decide_eq_true c19
                clear c19
                obtain ⟨y154, hy154⟩ : ∃ y_ : List Int, y_ = (x4_1.set ((ji17) : Int).toNat (Go.bits .andNot .u8 (rd x4_1 (ji17)) 128)) := ⟨_, rfl⟩
                replace H : (some y154) = some r := by first | (rw [hy154]; with_reducible exact H) | (have H2_ := (Option.bind_some _ _).symm.trans H; rw [hy154]; with_reducible exact H2_) | (have H2_ := (Option.bind_some _ _).symm.trans H; with_reducible exact H2_) | with_reducible exact H | (rw [hy154]; exact H) | exact H
                have Ny154 := Aside0.mk hy154
                clear hy154
                obtain rfl := Option.some.inj H
                obtain ⟨Ao21, co21, eo21⟩ := Kd.R_slice HO_4.out
                subst eo21
                have p153 : 0 ≤ ((ji17) : Int) := of_decide_eq_true (by first | (with_reducible assumption) | assumption)
                have q153 : (ji17) < (x4_1.length : Int) := of_decide_eq_true (by first | (with_reducible assumption) | assumption)
                obtain ⟨ad153, e153, hx153_0⟩ := Kd.at_int (Kd.R_reads' HO_4.out).2.2 (ji17) p153 q153
                cases e153
                replace p153 := eq_true p153
                replace q153 := eq_true q153
                have p20 : 0 ≤ ((ji17) : Int) := of_decide_eq_true (by first | (with_reducible assumption) | assumption)
                have q20 : ((ji17) : Int) < ((x4_1.length : Int) : Int) := of_decide_eq_true (by first | (with_reducible assumption) | assumption)
                obtain ⟨go20, co20, eo20, gb20, gl20, cl20, HG20⟩ := Kd.R_form HO_4.out (by omega)
                (first | cases eo20 | (injection eo20 with ea_ en_ ec_; (first | subst ea_ | (injection ea_ with ea_; subst ea_)); subst ec_; clear en_))
                have GB20 := Aside0.mk gb20
                have GG20 := Aside0.mk HG20
                clear gb20 gl20 HG20
                (first | simp only [add_plain] at hx153_0 | skip)
                obtain ⟨hx20_0, hf20_0⟩ := Kd.R_celln 0 HO_4.out ((ji17) : Int) p20 q20
                replace p20 := eq_true p20
                replace q20 := eq_true q20
                have HP22 := Kd.R_putg HO_4.out ((ji17) : Int) (Go.bits .andNot .u8 (rd x4_1 (ji17)) 128)
                go_wp2_with (first | ((with_reducible refine gate_store (t := 5) (p := 33) rfl ?_); refine store_event (t := 5) (p := 33) (v := ?vo_w23) (w1 := (wr.setCell ⟨go20, ((ji17) : Int).toNat, none⟩ (.int .u8 (Go.bits .andNot .u8 (rd x4_1 (ji17)) 128)))) ?hg ?ho ?hn ?hr ?_; (case ho => rfl); (case hg => rfl); (case hn => rfl); (case hr => first | (go_simp; done) | (go_simp; rfl)); intro w23 hw; have hg : wr.grownBy w23 (some go20) := (by rw [hw]; exact HP22.2); have hp_ : Kd.R (Kd.int .u8) 5 w23 w.heap.size (fun _ => True) (.slice (some ⟨go20, 0, none⟩) x4_1.length co21) y154 := (by rw [hw, Ny154.out]; exact HP22.1); clear HP22; have n0_ := Aside0.mk (hp_); have n1_ := Aside0.mk ((by rw [hw]; exact below_set (HB.out) GB20.out : Below w.heap.size w w23)); clear HO_4; clear HB; have HO_4 := n0_; have HB := n1_; clear n0_ n1_; clear hg hw hp_))
                go_ret
                exact ⟨_, by first | rfl | (simp [errW_none, errW_some] <;> rfl) | (simp only [← hji17]; first | rfl | (simp [errW_none, errW_some] <;> rfl)) | (simp [*, errW_none, errW_some] <;> rfl), by (with_reducible repeat (first | apply Kd.R_alloc | apply Kd.R_drewN | apply Kd.R_drew)); exact HO_4.out, by repeat (first | (with_reducible first | exact HB.out | apply below_alloc | apply pw_below_drewN | apply below_drew1) | exact HB.out)⟩
              · rw [if_neg c19] at H
                exact absurd H (by simp)
            · rw [if_neg c18] at H
              exact absurd H (by simp)
    · rw [if_neg c4] at H
      exact absurd H (by simp)
  · rw [if_neg c3] at H
    exact absurd H (by simp)

end Go.Proofs.Ytchaegfdcdlfaaa.X

namespace Go.Proofs.Ytchaegfdcdlfaaa.X
open Go.RowKit Go.Proofs.YtchaegfdcdlfaaaW.PrintWords Go.Proofs.YtchaegfdcdlfaaaW.PrintLast Go.Proofs.YtchaegfdcdlfaaaW.PrintMore
attribute [local go_sem] max2_int min2_int max_two min_two max_three min_three max_four min_four   -- for this text's walks alone
set_option linter.unusedVariables false
set_option linter.unusedSimpArgs false

/-! ### wire_Text: function 93 -/
def wire_Text.f (k : Nat) (a0 : ByteArray) : Option (List Int) := (wire_Put.f k (IntKind.u64.wrap ((a0.size : Int)))).bind fun t372 => (if t372.length + a0.size < 140737488355328 then (some (t372 ++ bytesOf a0)) else (none))
theorem wire_Text.mono : ∀ a0 k, LeO (wire_Text.f k a0) (wire_Text.f (k + 1) a0) := by
  intro a0 k
  unfold wire_Text.f
  repeat' first
      | (with_reducible exact wire_Put.mono _ _)
      | (with_reducible exact LeO.refl _)
      | (with_reducible exact LeO.none _)
      | (with_reducible refine LeO.ite ?_ ?_)
      | (with_reducible refine LeO.bind ?_ (fun _ => ?_))
      | exact wire_Put.mono _ _
      | exact LeO.none _
      | refine LeO.ite ?_ ?_
      | refine LeO.bind ?_ (fun _ => ?_)
set_option maxHeartbeats 8000000 in
set_option maxRecDepth 100000 in
theorem wire_Text.calls (k : Nat) (a0 : ByteArray) (r : List Int) (w : World) (h : wire_Text.f k a0 = some r) :
    Calls Try.prog 93 #[.string a0] w fun e w' => ∃ v0_ : Value, e = .returned (v0_) ∧ Kd.R (Kd.int .u8) 5 w' w.heap.size (fun _ => True) v0_ r ∧ Below w.heap.size w w' := by
  have HB := Aside0.mk (Below.refl w.heap.size w)
  have H : ((wire_Put.f k (IntKind.u64.wrap ((a0.size : Int)))).bind fun t372 => (if t372.length + a0.size < 140737488355328 then (some (t372 ++ bytesOf a0)) else (none))) = some r := h
  clear h
  replace H := Option.bind_eq_some_iff.mp H
  obtain ⟨t372, A20, H⟩ := H
  replace H : (if t372.length + a0.size < 140737488355328 then (some (t372 ++ bytesOf a0)) else (none)) = some r := H
  have A2 := Aside0.mk A20
  clear A20
  by_cases c3 : t372.length + a0.size < 140737488355328
  · rw [if_pos c3] at H
    have LMc3 := Aside0.mk c3
    clear c3
    obtain ⟨y375, hy375⟩ : ∃ y_ : List Int, y_ = (t372 ++ bytesOf a0) := ⟨_, rfl⟩
    replace H : (some y375) = some r := by first | (rw [hy375]; with_reducible exact H) | (have H2_ := (Option.bind_some _ _).symm.trans H; rw [hy375]; with_reducible exact H2_) | (have H2_ := (Option.bind_some _ _).symm.trans H; with_reducible exact H2_) | with_reducible exact H | (rw [hy375]; exact H) | exact H
    have Ny375 := Aside0.mk hy375
    clear hy375
    obtain rfl := Option.some.inj H
    go_enter Try.func93, Try.ntmps93
    go_wp2_with (first | ((with_reducible refine gate_callee (f := 84) rfl ?_); refine goesL_ (some 6) rfl rfl Try.func84 (by kernel_rfl) rfl #[.int .u64 (IntKind.u64.wrap ((a0.size : Int)))] rfl (by (try simp only [List.map_toArray, List.map_cons, List.map_nil]); first | done | rfl | (simp only [List.length_drop, List.length_take]; rfl)) ?_; (with_reducible refine (wire_Put.calls k (IntKind.u64.wrap ((a0.size : Int))) t372 _ A2.out).mono ?_); rintro e w4 ⟨v373, rfl, ho0, hb⟩; refine ⟨_, rfl, ?_⟩; have n0_ := Aside0.mk (Kd.R_lower ho0 (below_size (by repeat (first | (with_reducible first | exact HB.out | apply below_alloc | apply pw_below_drewN | apply below_drew1) | exact HB.out)))); have n1_ := Aside0.mk (below_step (by repeat (first | (with_reducible first | exact HB.out | apply below_alloc | apply pw_below_drewN | apply below_drew1) | exact HB.out)) hb); clear HB; have HO374 := n0_; have HB := n1_; clear n0_ n1_; (try clear hb); (try clear hb2); (try clear hk); (try clear hi); (try clear ho0)) | (at_builtin; refine print_append_str (w0 := w) w.heap.size rfl (.tmp 6) _ 40 9 5 rfl Try.underlying40 Try.underlying9 info5 v373 t372 a0 rfl rfl ?aO ?aB ?aS ?aL ?_; (case aB => exact (by repeat (first | (with_reducible first | exact HB.out | apply below_alloc | apply pw_below_drewN | apply below_drew1) | exact HB.out))); (case aO => exact (Kd.own_of_R (by (with_reducible repeat (first | apply Kd.R_alloc | apply Kd.R_drewN | apply Kd.R_drew)); exact HO374.out))); (case aS => exact (below_size (by repeat (first | (with_reducible first | exact HB.out | apply below_alloc | apply pw_below_drewN | apply below_drew1) | exact HB.out)))); (case aL => have := LMc3.out; omega); intro v376 w5 ho0 hb hg; have ho := Kd.R_of_own (h1 := fun _ => rfl) (ok := fun _ => True) ho0 (fun _ _ => trivial); clear ho0; have hat := True.intro; rw [← Ny375.out] at ho; change Kd.R (Kd.int .u8) 5 w5 w.heap.size (fun _ => True) v376 y375 at ho; have n0_ := Aside0.mk (hb); have n1_ := Aside0.mk (ho); clear HB; clear HO374; have HB := n0_; have HO377 := n1_; clear n0_ n1_; clear ho hb hg hat))
    go_ret
    exact ⟨_, by first | rfl | (simp [errW_none, errW_some] <;> rfl) | (simp [*, errW_none, errW_some] <;> rfl), by (with_reducible repeat (first | apply Kd.R_alloc | apply Kd.R_drewN | apply Kd.R_drew)); exact HO377.out, by repeat (first | (with_reducible first | exact HB.out | apply below_alloc | apply pw_below_drewN | apply below_drew1) | exact HB.out)⟩
  · rw [if_neg c3] at H
    exact absurd H (by simp)

end Go.Proofs.Ytchaegfdcdlfaaa.X

namespace Go.Proofs.Ytchaegfdcdlfaaa.X
open Go.RowKit Go.Proofs.YtchaegfdcdlfaaaW.PrintWords Go.Proofs.YtchaegfdcdlfaaaW.PrintLast Go.Proofs.YtchaegfdcdlfaaaW.PrintMore
attribute [local go_sem] max2_int min2_int max_two min_two max_three min_three max_four min_four   -- for this text's walks alone
set_option linter.unusedVariables false
set_option linter.unusedSimpArgs false

/-! ### wire_Get: function 88 -/
mutual
def wire_Get.l0 : Nat → Int → Int → List Int → Int → Int → Option (Int × Int × Bool)
  | 0, _, _, _, _, _ => none
  | k + 1, x5, x6, x9, x10, x11 => if x11 < x10 then (if 0 ≤ x11 then (if x11 < (x9.length : Int) then (if x11 = 10 then (wire_Get.j1 k x5 x6 x11 (rd x9 x11) x9 x10 x11 (x11 == 10)) else (if x11 = 9 then (if (x5 / 144115188075855872) > 0 then (wire_Get.j1 k x5 x6 x11 (rd x9 x11) x9 x10 x11 (decide ((x5 / 144115188075855872) > 0))) else (if x11 = 0 then (wire_Get.j1 k x5 x6 x11 (rd x9 x11) x9 x10 x11 ((rd x9 x11) == 128)) else (wire_Get.j1 k x5 x6 x11 (rd x9 x11) x9 x10 x11 false))) else (if x11 = 0 then (wire_Get.j1 k x5 x6 x11 (rd x9 x11) x9 x10 x11 ((rd x9 x11) == 128)) else (wire_Get.j1 k x5 x6 x11 (rd x9 x11) x9 x10 x11 false)))) else (none)) else (none)) else (if x6 = 0 then (some (0, 0, false)) else (some (x5, x6, true)))
def wire_Get.j1 : Nat → Int → Int → Int → Int → List Int → Int → Int → Bool → Option (Int × Int × Bool)
  | 0, _, _, _, _, _, _, _, _ => none
  | k + 1, x5, x6, x7, x8, x9, x10, x11, x16 => if x16 = true then (if x6 = 0 then (some (0, 0, false)) else (some (x5, x6, true))) else (if x8 < 128 then (if (wrap64 (x7 + 1)) = 0 then (some (0, 0, false)) else (some (Go.bits .or .u64 (IntKind.u64.wrap (x5 * 128)) (IntKind.u64.wrap (Go.bits .andNot .u8 x8 128)), wrap64 (x7 + 1), true))) else (wire_Get.l0 k (Go.bits .or .u64 (IntKind.u64.wrap (x5 * 128)) (IntKind.u64.wrap (Go.bits .andNot .u8 x8 128))) x6 x9 x10 (wrap64 (x11 + 1))))
end
def wire_Get.f (k : Nat) (l0 : List Int) : Option (Int × Int × Bool) := wire_Get.l0 k 0 0 l0 (l0.length : Int) 0
theorem wire_Get.mono_l : ∀ k, (∀ y0 y1 y2 y3 y4, LeO (wire_Get.l0 k y0 y1 y2 y3 y4) (wire_Get.l0 (k + 1) y0 y1 y2 y3 y4)) ∧ (∀ y0 y1 y2 y3 y4 y5 y6 y7, LeO (wire_Get.j1 k y0 y1 y2 y3 y4 y5 y6 y7) (wire_Get.j1 (k + 1) y0 y1 y2 y3 y4 y5 y6 y7))
  | 0 => ⟨fun _ _ _ _ _ r h => by simp [wire_Get.l0] at h, fun _ _ _ _ _ _ _ _ r h => by simp [wire_Get.j1] at h⟩
  | k + 1 => by
    obtain ⟨ih0, ih1⟩ := wire_Get.mono_l k
    refine ⟨?_, ?_⟩
    · intro y0 y1 y2 y3 y4
      unfold wire_Get.l0
      repeat' first
      | (with_reducible exact ih0 _ _ _ _ _)
      | (with_reducible exact ih1 _ _ _ _ _ _ _ _)
      | (with_reducible exact LeO.refl _)
      | (with_reducible exact LeO.none _)
      | (with_reducible refine LeO.ite ?_ ?_)
      | (with_reducible refine LeO.bind ?_ (fun _ => ?_))
      | exact ih0 _ _ _ _ _
      | exact ih1 _ _ _ _ _ _ _ _
      | exact LeO.none _
      | refine LeO.ite ?_ ?_
      | refine LeO.bind ?_ (fun _ => ?_)
    · intro y0 y1 y2 y3 y4 y5 y6 y7
      unfold wire_Get.j1
      repeat' first
      | (with_reducible exact ih0 _ _ _ _ _)
      | (with_reducible exact ih1 _ _ _ _ _ _ _ _)
      | (with_reducible exact LeO.refl _)
      | (with_reducible exact LeO.none _)
      | (with_reducible refine LeO.ite ?_ ?_)
      | (with_reducible refine LeO.bind ?_ (fun _ => ?_))
      | exact ih0 _ _ _ _ _
      | exact ih1 _ _ _ _ _ _ _ _
      | exact LeO.none _
      | refine LeO.ite ?_ ?_
      | refine LeO.bind ?_ (fun _ => ?_)
theorem wire_Get.mono : ∀ a0 k, LeO (wire_Get.f k a0) (wire_Get.f (k + 1) a0) := by
  intro a0 k
  obtain ⟨ih0, ih1⟩ := wire_Get.mono_l k
  unfold wire_Get.f
  repeat' first
      | (with_reducible exact ih0 _ _ _ _ _)
      | (with_reducible exact ih1 _ _ _ _ _ _ _ _)
      | (with_reducible exact LeO.refl _)
      | (with_reducible exact LeO.none _)
      | (with_reducible refine LeO.ite ?_ ?_)
      | (with_reducible refine LeO.bind ?_ (fun _ => ?_))
      | exact ih0 _ _ _ _ _
      | exact ih1 _ _ _ _ _ _ _ _
      | exact LeO.none _
      | refine LeO.ite ?_ ?_
      | refine LeO.bind ?_ (fun _ => ?_)
set_option maxHeartbeats 8000000 in
set_option maxRecDepth 100000 in
theorem wire_Get.calls (k : Nat) (A0 : Option Addr) (c0 : Nat) (l0 : List Int) (r1 : Int) (r2 : Int) (r3 : Bool) (w : World) (hr0 : Kd.C (Kd.int .u8) w A0 l0.length l0) (hc0 : l0.length ≤ c0) (h : wire_Get.f k l0 = some (r1, r2, r3)) :
    Calls Try.prog 88 #[.slice A0 l0.length c0] w fun e w' => e = .returned (.tuple #[.int .u64 r1, .int .i64 r2, .bool r3]) ∧ Drawn0 w w' := by
  have HR0 := Aside0.mk hr0
  have HC0 := Aside0.mk hc0
  clear hr0 hc0
  have H : (wire_Get.l0 k 0 0 l0 (l0.length : Int) 0) = some (r1, r2, r3) := h
  clear h
  have H' := Aside0.mk H
  clear H
  go_enter Try.func88, Try.ntmps88
  go_wp2
  go_step3
  go_wp2
  go_step3
  go_wp2
  go_loopg [5, 6, 11] k (fun kq v5 v6 v11 w' => ∃ (x5_1 : Int) (x6_1 : Int) (x11_1 : Int), v5 = .int .u64 x5_1 ∧ v6 = .int .i64 x6_1 ∧ v11 = .int .i64 x11_1 ∧ Aside0 (wire_Get.l0 kq x5_1 x6_1 l0 (l0.length : Int) x11_1 = some (r1, r2, r3)) ∧ Aside0 (kq ≤ k) ∧ Drawn0 w w')
  case atStart => exact ⟨(0), (0), (0), (by first | rfl | (simp; done) | (simp [*]; done)), (by first | rfl | (simp; done) | (simp [*]; done)), (by first | rfl | (simp; done) | (simp [*]; done)), H', ⟨Nat.le_refl _⟩, by repeat (first | exact Drawn0.refl _ | apply Drawn0.step)⟩
  case round =>
    clear H'
    obtain ⟨x5_1, x6_1, x11_1, rfl, rfl, rfl, HA, HK1, ⟨m1, rfl⟩⟩ := hrel
    cases gk with
    | zero => exact absurd HA.out (by simp [wire_Get.l0])
    | succ k1 =>
      have H := HA.out
      clear HA
      simp only [wire_Get.l0] at H
      by_cases c2 : x11_1 < (l0.length : Int)
      · rw [if_pos c2] at H
        have c2b0 : decide (x11_1 < (l0.length : Int)) = true := decide_eq_true c2
        clear c2
        by_cases c3 : 0 ≤ x11_1
        · rw [if_pos c3] at H
          have c3b0 : decide (0 ≤ x11_1) = true := decide_eq_true c3
          clear c3
          by_cases c4 : x11_1 < (l0.length : Int)
          · rw [if_pos c4] at H
            have c4b0 : decide (x11_1 < (l0.length : Int)) = true := decide_eq_true c4
            clear c4
            have HC5 := Aside0.mk H
            clear H
            have p178 : 0 ≤ (x11_1 : Int) := of_decide_eq_true (by first | (with_reducible assumption) | assumption)
            have q178 : x11_1 < (l0.length : Int) := of_decide_eq_true (by first | (with_reducible assumption) | assumption)
            obtain ⟨ad178, e178, hx178_0⟩ := Kd.at_int HR0.out x11_1 p178 q178
            cases e178
            replace p178 := eq_true p178
            replace q178 := eq_true q178
            go_upto_if 16 with (fail)
            go_cut [16] (fun v16 wc => ∃ (kq : Nat) (x16_4 : Bool), v16 = .bool x16_4 ∧ Aside0 (wire_Get.j1 kq x5_1 x6_1 x11_1 (rd l0 x11_1) l0 (l0.length : Int) x11_1 x16_4 = some (r1, r2, r3)) ∧ Aside0 (kq ≤ k1) ∧ Drawn0 w wc)
            case first =>
              have H := HC5.out
              clear HC5
              by_cases c6 : x11_1 = 10
              · rw [if_pos c6] at H
                have c6b0 : (x11_1 == 10) = true := beq_iff_eq.mpr c6
                have c6b1 : (x11_1 != 10) = false := bne_eq_false_iff_eq.mpr c6
                clear c6
                (first | rw [c6b0] | (simp only [i64_w, i32_w]; rw [c6b0]) | skip)
                have H' := Aside0.mk H
                clear H
                go_wp2
                go_meet
                case rel => exact ⟨_, ((x11_1 == 10)), (by first | rfl | (simp; done) | (simp [*]; done)), H', ⟨by have := HK1.out; first | omega | exact Nat.le_refl _⟩, by repeat (first | exact Drawn0.refl _ | apply Drawn0.step)⟩
              · rw [if_neg c6] at H
                have c6b0 : (x11_1 == 10) = false := beq_eq_false_iff_ne.mpr c6
                have c6b1 : (x11_1 != 10) = true := bne_iff_ne.mpr c6
                (first | rw [c6b0] | (simp only [i64_w, i32_w]; rw [c6b0]) | skip)
                by_cases c7 : x11_1 = 9
                · rw [if_pos c7] at H
                  have c7b0 : (x11_1 == 9) = true := beq_iff_eq.mpr c7
                  have c7b1 : (x11_1 != 9) = false := bne_eq_false_iff_eq.mpr c7
                  clear c7
                  by_cases c8 : (x5_1 / 144115188075855872) > 0
                  · rw [if_pos c8] at H
                    have c8b0 : decide (0 < (x5_1 / 144115188075855872)) = true := decide_eq_true c8
                    clear c8
                    have H' := Aside0.mk H
                    clear H
                    go_wp2
                    go_meet
                    case rel => exact ⟨_, (decide ((x5_1 / 144115188075855872) > 0)), (by first | rfl | (simp; done) | (simp [*]; done)), H', ⟨by have := HK1.out; first | omega | exact Nat.le_refl _⟩, by repeat (first | exact Drawn0.refl _ | apply Drawn0.step)⟩
                  · rw [if_neg c8] at H
                    have c8b0 : decide (0 < (x5_1 / 144115188075855872)) = false := decide_eq_false c8
                    clear c8
                    by_cases c9 : x11_1 = 0
                    · rw [if_pos c9] at H
                      have c9b0 : (x11_1 == 0) = true := beq_iff_eq.mpr c9
                      have c9b1 : (x11_1 != 0) = false := bne_eq_false_iff_eq.mpr c9
                      clear c9
                      have H' := Aside0.mk H
                      clear H
                      go_wp2
                      go_meet
                      case rel => exact ⟨_, (((rd l0 x11_1) == 128)), (by first | rfl | (simp; done) | (simp [*]; done)), H', ⟨by have := HK1.out; first | omega | exact Nat.le_refl _⟩, by repeat (first | exact Drawn0.refl _ | apply Drawn0.step)⟩
                    · rw [if_neg c9] at H
                      have c9b0 : (x11_1 == 0) = false := beq_eq_false_iff_ne.mpr c9
                      have c9b1 : (x11_1 != 0) = true := bne_iff_ne.mpr c9
                      have H' := Aside0.mk H
                      clear H
                      go_wp2
                      go_meet
                      case rel => exact ⟨_, (false), (by first | rfl | (simp; done) | (simp [*]; done)), H', ⟨by have := HK1.out; first | omega | exact Nat.le_refl _⟩, by repeat (first | exact Drawn0.refl _ | apply Drawn0.step)⟩
                · rw [if_neg c7] at H
                  have c7b0 : (x11_1 == 9) = false := beq_eq_false_iff_ne.mpr c7
                  have c7b1 : (x11_1 != 9) = true := bne_iff_ne.mpr c7
                  by_cases c10 : x11_1 = 0
                  · rw [if_pos c10] at H
                    have c10b0 : (x11_1 == 0) = true := beq_iff_eq.mpr c10
                    have c10b1 : (x11_1 != 0) = false := bne_eq_false_iff_eq.mpr c10
                    clear c10
                    have H' := Aside0.mk H
                    clear H
                    go_wp2
                    go_meet
                    case rel => exact ⟨_, (((rd l0 x11_1) == 128)), (by first | rfl | (simp; done) | (simp [*]; done)), H', ⟨by have := HK1.out; first | omega | exact Nat.le_refl _⟩, by repeat (first | exact Drawn0.refl _ | apply Drawn0.step)⟩
                  · rw [if_neg c10] at H
                    have c10b0 : (x11_1 == 0) = false := beq_eq_false_iff_ne.mpr c10
                    have c10b1 : (x11_1 != 0) = true := bne_iff_ne.mpr c10
                    have H' := Aside0.mk H
                    clear H
                    go_wp2
                    go_meet
                    case rel => exact ⟨_, (false), (by first | rfl | (simp; done) | (simp [*]; done)), H', ⟨by have := HK1.out; first | omega | exact Nat.le_refl _⟩, by repeat (first | exact Drawn0.refl _ | apply Drawn0.step)⟩
            case rest =>
              clear HC5
              try clear c1
              try clear p1
              try clear q1
              try clear hx1
              try clear c2
              try clear c2b0
              try clear p2
              try clear c3
              try clear c3b0
              try clear c4
              try clear c4b0
              try clear c6
              try clear c6b0
              try clear c6b1
              try clear c7
              try clear c7b0
              try clear c7b1
              try clear c8
              try clear c8b0
              try clear c9
              try clear c9b0
              try clear c9b1
              try clear c10
              try clear c10b0
              try clear c10b1
              try clear hx178_0
              try clear p178
              try clear q178
              obtain ⟨kq, x16_4, rfl, HA, HJ4, ⟨mc4, rfl⟩⟩ := hcut
              cases kq with
              | zero => exact absurd HA.out (by simp [wire_Get.j1])
              | succ kj4 =>
                have H := HA.out
                clear HA
                simp only [wire_Get.j1] at H
                by_cases c11 : x16_4 = true
                · subst c11
                  have H1 : (if x6_1 = 0 then (some (0, 0, false)) else (some (x5_1, x6_1, true))) = some (r1, r2, r3) := by rw [if_pos rfl] at H; exact H
                  clear H
                  have H := H1
                  clear H1
                  by_cases c12 : x6_1 = 0
                  · rw [if_pos c12] at H
                    have c12b0 : (x6_1 == 0) = true := beq_iff_eq.mpr c12
                    have c12b1 : (x6_1 != 0) = false := bne_eq_false_iff_eq.mpr c12
                    clear c12
                    simp only [Option.some.injEq, Prod.mk.injEq] at H
                    obtain ⟨rfl, rfl, rfl⟩ := H
                    go_wp2
                    (try rw [Exit.noGoto_ret])
                    go_ret3
                    exact ⟨by first | rfl | (simp; done) | (simp [*]; done), by repeat (first | exact Drawn0.refl _ | apply Drawn0.step)⟩
                  · rw [if_neg c12] at H
                    have c12b0 : (x6_1 == 0) = false := beq_eq_false_iff_ne.mpr c12
                    have c12b1 : (x6_1 != 0) = true := bne_iff_ne.mpr c12
                    simp only [Option.some.injEq, Prod.mk.injEq] at H
                    obtain ⟨rfl, rfl, rfl⟩ := H
                    go_wp2
                    (try rw [Exit.noGoto_ret])
                    go_ret3
                    exact ⟨by first | rfl | (simp; done) | (simp [*]; done), by repeat (first | exact Drawn0.refl _ | apply Drawn0.step)⟩
                · replace c11 := Bool.eq_false_iff.mpr c11
                  subst c11
                  have H1 : (if (rd l0 x11_1) < 128 then (if (wrap64 (x11_1 + 1)) = 0 then (some (0, 0, false)) else (some (Go.bits .or .u64 (IntKind.u64.wrap (x5_1 * 128)) (IntKind.u64.wrap (Go.bits .andNot .u8 (rd l0 x11_1) 128)), wrap64 (x11_1 + 1), true))) else (wire_Get.l0 kj4 (Go.bits .or .u64 (IntKind.u64.wrap (x5_1 * 128)) (IntKind.u64.wrap (Go.bits .andNot .u8 (rd l0 x11_1) 128))) x6_1 l0 (l0.length : Int) (wrap64 (x11_1 + 1)))) = some (r1, r2, r3) := by rw [if_neg (show ¬ (false = true) by decide)] at H; exact H
                  clear H
                  have H := H1
                  clear H1
                  by_cases c13 : (rd l0 x11_1) < 128
                  · rw [if_pos c13] at H
                    have c13b0 : decide ((rd l0 x11_1) < 128) = true := decide_eq_true c13
                    clear c13
                    by_cases c14 : (wrap64 (x11_1 + 1)) = 0
                    · rw [if_pos c14] at H
                      have c14b0 : ((wrap64 (x11_1 + 1)) == 0) = true := beq_iff_eq.mpr c14
                      have c14b1 : ((wrap64 (x11_1 + 1)) != 0) = false := bne_eq_false_iff_eq.mpr c14
                      clear c14
                      simp only [Option.some.injEq, Prod.mk.injEq] at H
                      obtain ⟨rfl, rfl, rfl⟩ := H
                      go_wp2
                      (try rw [Exit.noGoto_ret])
                      go_ret3
                      exact ⟨by first | rfl | (simp; done) | (simp [*]; done), by repeat (first | exact Drawn0.refl _ | apply Drawn0.step)⟩
                    · rw [if_neg c14] at H
                      have c14b0 : ((wrap64 (x11_1 + 1)) == 0) = false := beq_eq_false_iff_ne.mpr c14
                      have c14b1 : ((wrap64 (x11_1 + 1)) != 0) = true := bne_iff_ne.mpr c14
                      simp only [Option.some.injEq, Prod.mk.injEq] at H
                      obtain ⟨rfl, rfl, rfl⟩ := H
                      go_wp2
                      (try rw [Exit.noGoto_ret])
                      go_ret3
                      exact ⟨by first | rfl | (simp; done) | (simp [*]; done), by repeat (first | exact Drawn0.refl _ | apply Drawn0.step)⟩
                  · rw [if_neg c13] at H
                    have c13b0 : decide ((rd l0 x11_1) < 128) = false := decide_eq_false c13
                    clear c13
                    have H' := Aside0.mk H
                    clear H
                    go_wp2
                    go_roundg kj4
                    case measure => have := HK1.out; have := HJ4.out; omega
                    case rel => exact ⟨(Go.bits .or .u64 (IntKind.u64.wrap (x5_1 * 128)) (IntKind.u64.wrap (Go.bits .andNot .u8 (rd l0 x11_1) 128))), (x6_1), (wrap64 (x11_1 + 1)), (by first | rfl | (simp; done) | (simp [*]; done)), (by first | rfl | (simp; done) | (simp [*]; done)), (by first | rfl | (simp; done) | (simp [*]; done)), H', ⟨by have := HK1.out; have := HJ4.out; omega⟩, by repeat (first | exact Drawn0.refl _ | apply Drawn0.step)⟩
          · rw [if_neg c4] at H
            exact absurd H (by simp)
        · rw [if_neg c3] at H
          exact absurd H (by simp)
      · rw [if_neg c2] at H
        have c2b0 : decide (x11_1 < (l0.length : Int)) = false := decide_eq_false c2
        clear c2
        by_cases c15 : x6_1 = 0
        · rw [if_pos c15] at H
          have c15b0 : (x6_1 == 0) = true := beq_iff_eq.mpr c15
          have c15b1 : (x6_1 != 0) = false := bne_eq_false_iff_eq.mpr c15
          clear c15
          simp only [Option.some.injEq, Prod.mk.injEq] at H
          obtain ⟨rfl, rfl, rfl⟩ := H
          go_wp2
          (try rw [Exit.noGoto_ret])
          go_ret3
          exact ⟨by first | rfl | (simp; done) | (simp [*]; done), by repeat (first | exact Drawn0.refl _ | apply Drawn0.step)⟩
        · rw [if_neg c15] at H
          have c15b0 : (x6_1 == 0) = false := beq_eq_false_iff_ne.mpr c15
          have c15b1 : (x6_1 != 0) = true := bne_iff_ne.mpr c15
          simp only [Option.some.injEq, Prod.mk.injEq] at H
          obtain ⟨rfl, rfl, rfl⟩ := H
          go_wp2
          (try rw [Exit.noGoto_ret])
          go_ret3
          exact ⟨by first | rfl | (simp; done) | (simp [*]; done), by repeat (first | exact Drawn0.refl _ | apply Drawn0.step)⟩

end Go.Proofs.Ytchaegfdcdlfaaa.X

namespace Go.Proofs.Ytchaegfdcdlfaaa.X
open Go.RowKit Go.Proofs.YtchaegfdcdlfaaaW.PrintWords Go.Proofs.YtchaegfdcdlfaaaW.PrintLast Go.Proofs.YtchaegfdcdlfaaaW.PrintMore
attribute [local go_sem] max2_int min2_int max_two min_two max_three min_three max_four min_four   -- for this text's walks alone
set_option linter.unusedVariables false
set_option linter.unusedSimpArgs false

/-! ### wire_Word: function 85 -/
def wire_Word.l0 : Nat → Int → List Int → Int → Option (List Int)
  | 0, _, _, _ => none
  | k + 1, x0, x3, x6 => if x6 < 4 then (if 0 ≤ (wrap64 (8 * x6)) then (if 0 ≤ (wrap64 (3 - x6)) then (if (wrap64 (3 - x6)) < (x3.length : Int) then (wire_Word.l0 k x0 (x3.set ((wrap64 (3 - x6)) : Int).toNat ((shr .u32 x0 (wrap64 (8 * x6))) % 256)) (wrap64 (x6 + 1))) else (none)) else (none)) else (none)) else (some x3)
def wire_Word.f (k : Nat) (a0 : Int) : Option (List Int) := if 4 ≤ 281474976710656 then (wire_Word.l0 k a0 (List.replicate 4 0) 0) else (none)
theorem wire_Word.mono_l : ∀ k, (∀ y0 y1 y2, LeO (wire_Word.l0 k y0 y1 y2) (wire_Word.l0 (k + 1) y0 y1 y2))
  | 0 => fun _ _ _ r h => by simp [wire_Word.l0] at h
  | k + 1 => by
    have ih0 := wire_Word.mono_l k
    · intro y0 y1 y2
      unfold wire_Word.l0
      repeat' first
      | (with_reducible exact ih0 _ _ _)
      | (with_reducible exact LeO.refl _)
      | (with_reducible exact LeO.none _)
      | (with_reducible refine LeO.ite ?_ ?_)
      | (with_reducible refine LeO.bind ?_ (fun _ => ?_))
      | exact ih0 _ _ _
      | exact LeO.none _
      | refine LeO.ite ?_ ?_
      | refine LeO.bind ?_ (fun _ => ?_)
theorem wire_Word.mono : ∀ a0 k, LeO (wire_Word.f k a0) (wire_Word.f (k + 1) a0) := by
  intro a0 k
  have ih0 := wire_Word.mono_l k
  unfold wire_Word.f
  repeat' first
      | (with_reducible exact ih0 _ _ _)
      | (with_reducible exact LeO.refl _)
      | (with_reducible exact LeO.none _)
      | (with_reducible refine LeO.ite ?_ ?_)
      | (with_reducible refine LeO.bind ?_ (fun _ => ?_))
      | exact ih0 _ _ _
      | exact LeO.none _
      | refine LeO.ite ?_ ?_
      | refine LeO.bind ?_ (fun _ => ?_)
set_option maxHeartbeats 8000000 in
set_option maxRecDepth 100000 in
theorem wire_Word.calls (k : Nat) (a0 : Int) (r : List Int) (w : World) (h : wire_Word.f k a0 = some r) :
    Calls Try.prog 85 #[.int .u32 a0] w fun e w' => ∃ v0_ : Value, e = .returned (v0_) ∧ Kd.R (Kd.int .u8) 5 w' w.heap.size (fun _ => True) v0_ r ∧ Below w.heap.size w w' := by
  have HB := Aside0.mk (Below.refl w.heap.size w)
  have H : (if 4 ≤ 281474976710656 then (wire_Word.l0 k a0 (List.replicate 4 0) 0) else (none)) = some r := h
  clear h
  by_cases c2 : 4 ≤ 281474976710656
  · rw [if_pos c2] at H
    have c2b0 := eq_true c2
    have c2b1 : decide (4 ≤ 281474976710656) = true := decide_eq_true c2
    clear c2
    obtain ⟨y155, hy155⟩ : ∃ y_ : List Int, y_ = (List.replicate 4 0) := ⟨_, rfl⟩
    replace H : (wire_Word.l0 k a0 y155 0) = some r := by first | (rw [hy155]; with_reducible exact H) | (have H2_ := (Option.bind_some _ _).symm.trans H; rw [hy155]; with_reducible exact H2_) | (have H2_ := (Option.bind_some _ _).symm.trans H; with_reducible exact H2_) | with_reducible exact H | (rw [hy155]; exact H) | exact H
    have Ny155 := Aside0.mk hy155
    clear hy155
    have H' := Aside0.mk H
    clear H
    go_enter Try.func85, Try.ntmps85
    go_wp2_with (first | ((with_reducible refine gate_dst (N := 5) rfl ?_); refine Kd.R_make (Kd.int .u8) _ 5 rfl (N := 5) rfl 40 _ _ rfl 4 rfl rfl Try.underlying40 (.int .u8 0) 1 info5 rfl (by decide) (by omega) 0 (ok := fun _ => True) (okp := fun _ => True) rfl (fun _ hk => hk) trivial (by omega) (by omega) (Below.refl _ _) (Nat.le_refl _) ?_; intro v156 w3 ho4 hb hg_ hnew_; clear hg_ hnew_; (first | rw [← Ny155.out] at ho4 | (simp only [Int.reduceToNat] at ho4; rw [← Ny155.out] at ho4)); have n0_ := Aside0.mk (Kd.R_lower ho4 (below_size (by repeat (first | (with_reducible first | exact HB.out | apply below_alloc | apply pw_below_drewN | apply below_drew1) | exact HB.out)))); have n1_ := Aside0.mk (below_step (by repeat (first | (with_reducible first | exact HB.out | apply below_alloc | apply pw_below_drewN | apply below_drew1) | exact HB.out)) hb); clear HB; have HO157 := n0_; have HB := n1_; clear n0_ n1_; clear hb ho4))
    go_loopg [6] k (fun kq v6 w' => ∃ (x3_1 : List Int) (x6_1 : Int), v6 = .int .i64 x6_1 ∧ Aside0 (wire_Word.l0 kq a0 x3_1 x6_1 = some r) ∧ Aside0 (kq ≤ k) ∧ Aside0 (Kd.R (Kd.int .u8) 5 w' w.heap.size (fun _ => True) v156 x3_1) ∧ Aside0 (Below w.heap.size w w'))
    case atStart => exact ⟨(y155), (0), (by first | rfl | (simp; done) | (simp [*]; done)), H', ⟨Nat.le_refl _⟩, ⟨by (with_reducible repeat (first | apply Kd.R_alloc | apply Kd.R_drewN | apply Kd.R_drew)); exact HO157.out⟩, ⟨by repeat (first | (with_reducible first | exact HB.out | apply below_alloc | apply pw_below_drewN | apply below_drew1) | exact HB.out)⟩⟩
    case round =>
      clear H'
      try clear c2
      try clear c2b0
      try clear c2b1
      try clear p2
      obtain ⟨x3_1, x6_1, rfl, HA, HK1, HO_3, HB⟩ := hrel
      cases gk with
      | zero => exact absurd HA.out (by simp [wire_Word.l0])
      | succ k1 =>
        have H := HA.out
        clear HA
        simp only [wire_Word.l0] at H
        by_cases c5 : x6_1 < 4
        · rw [if_pos c5] at H
          have c5b0 : decide (x6_1 < 4) = true := decide_eq_true c5
          clear c5
          obtain ⟨ji6, hji6⟩ : ∃ j_ : Int, (wrap64 (8 * x6_1)) = j_ := ⟨_, rfl⟩
          replace H : (if 0 ≤ (ji6) then (if 0 ≤ (wrap64 (3 - x6_1)) then (if (wrap64 (3 - x6_1)) < (x3_1.length : Int) then (wire_Word.l0 k1 a0 (x3_1.set ((wrap64 (3 - x6_1)) : Int).toNat ((shr .u32 a0 (ji6)) % 256)) (wrap64 (x6_1 + 1))) else (none)) else (none)) else (none)) = some r := by first | (rw [hji6] at H; exact H) | (simp only [hji6] at H ⊢; exact H)
          have hji6w : (IntKind.i64.wrap (8 * x6_1)) = ji6 := (i64_w _).trans hji6
          by_cases c7 : 0 ≤ (ji6)
          · rw [if_pos c7] at H
            have c7b0 := eq_true c7
            have c7b1 : decide (0 ≤ (ji6)) = true := decide_eq_true c7
            clear c7
            obtain ⟨ji8, hji8⟩ : ∃ j_ : Int, (shr .u32 a0 (ji6)) = j_ := ⟨_, rfl⟩
            replace H : (if 0 ≤ (wrap64 (3 - x6_1)) then (if (wrap64 (3 - x6_1)) < (x3_1.length : Int) then (wire_Word.l0 k1 a0 (x3_1.set ((wrap64 (3 - x6_1)) : Int).toNat ((ji8) % 256)) (wrap64 (x6_1 + 1))) else (none)) else (none)) = some r := by first | (rw [hji8] at H; exact H) | (simp only [hji8] at H ⊢; exact H)
            have hji8_ : (a0 / 2 ^ min (ji6).toNat 32) = ji8 := hji8
            have hji8z : (ji6) ≤ 32 → (a0 / 2 ^ (ji6).toNat) = ji8 := shr_small hji8
            obtain ⟨ji9, hji9⟩ : ∃ j_ : Int, (wrap64 (3 - x6_1)) = j_ := ⟨_, rfl⟩
            replace H : (if 0 ≤ (ji9) then (if (ji9) < (x3_1.length : Int) then (wire_Word.l0 k1 a0 (x3_1.set ((ji9) : Int).toNat ((ji8) % 256)) (wrap64 (x6_1 + 1))) else (none)) else (none)) = some r := by first | (rw [hji9] at H; exact H) | (simp only [hji9] at H ⊢; exact H)
            have hji9w : (IntKind.i64.wrap (3 - x6_1)) = ji9 := (i64_w _).trans hji9
            by_cases c10 : 0 ≤ (ji9)
            · rw [if_pos c10] at H
              have c10b0 : decide (0 ≤ (ji9)) = true := decide_eq_true c10
              clear c10
              by_cases c11 : (ji9) < (x3_1.length : Int)
              · rw [if_pos c11] at H
                have c11b0 : decide ((ji9) < (x3_1.length : Int)) = true := decide_eq_true c11
                clear c11
                obtain ⟨y158, hy158⟩ : ∃ y_ : List Int, y_ = (x3_1.set ((ji9) : Int).toNat ((ji8) % 256)) := ⟨_, rfl⟩
                replace H : (wire_Word.l0 k1 a0 y158 (wrap64 (x6_1 + 1))) = some r := by first | (rw [hy158]; with_reducible exact H) | (have H2_ := (Option.bind_some _ _).symm.trans H; rw [hy158]; with_reducible exact H2_) | (have H2_ := (Option.bind_some _ _).symm.trans H; with_reducible exact H2_) | with_reducible exact H | (rw [hy158]; exact H) | exact H
                have Ny158 := Aside0.mk hy158
                clear hy158
                have H' := Aside0.mk H
                clear H
                have p12 : 0 ≤ ((ji9) : Int) := of_decide_eq_true (by first | (with_reducible assumption) | assumption)
                have q12 : ((ji9) : Int) < ((x3_1.length : Int) : Int) := of_decide_eq_true (by first | (with_reducible assumption) | assumption)
                obtain ⟨go12, co12, eo12, gb12, gl12, cl12, HG12⟩ := Kd.R_form HO_3.out (by omega)
                (first | cases eo12 | (injection eo12 with ea_ en_ ec_; (first | subst ea_ | (injection ea_ with ea_; subst ea_)); subst ec_; clear en_))
                have GB12 := Aside0.mk gb12
                have GG12 := Aside0.mk HG12
                clear gb12 gl12 HG12
                obtain ⟨hx12_0, hf12_0⟩ := Kd.R_celln 0 HO_3.out ((ji9) : Int) p12 q12
                replace p12 := eq_true p12
                replace q12 := eq_true q12
                have HP13 := Kd.R_putg HO_3.out ((ji9) : Int) ((ji8) % 256)
                go_wp2_with (first | ((with_reducible refine gate_store (t := 5) (p := 17) rfl ?_); refine store_event (t := 5) (p := 17) (v := ?vo_w14) (w1 := (wr.setCell ⟨go12, ((ji9) : Int).toNat, none⟩ (.int .u8 ((ji8) % 256)))) ?hg ?ho ?hn ?hr ?_; (case ho => rfl); (case hg => rfl); (case hn => rfl); (case hr => first | (go_simp; done) | (go_simp; rfl)); intro w14 hw; have hg : wr.grownBy w14 (some go12) := (by rw [hw]; exact HP13.2); have hp_ : Kd.R (Kd.int .u8) 5 w14 w.heap.size (fun _ => True) (.slice (some ⟨go12, 0, none⟩) x3_1.length co12) y158 := (by rw [hw, Ny158.out]; exact HP13.1); clear HP13; have n0_ := Aside0.mk (hp_); have n1_ := Aside0.mk ((by rw [hw]; exact below_set (HB.out) GB12.out : Below w.heap.size w w14)); clear HO_3; clear HB; have HO_3 := n0_; have HB := n1_; clear n0_ n1_; clear hg hw hp_))
                go_roundg k1
                case measure => have := HK1.out; omega
                case rel => exact ⟨(y158), (wrap64 (x6_1 + 1)), (by first | rfl | (simp; done) | (simp [*]; done)), H', ⟨by have := HK1.out; omega⟩, ⟨by (with_reducible repeat (first | apply Kd.R_alloc | apply Kd.R_drewN | apply Kd.R_drew)); exact HO_3.out⟩, ⟨by repeat (first | (with_reducible first | exact HB.out | apply below_alloc | apply pw_below_drewN | apply below_drew1) | exact HB.out)⟩⟩
              · rw [if_neg c11] at H
                exact absurd H (by simp)
            · rw [if_neg c10] at H
              exact absurd H (by simp)
          · rw [if_neg c7] at H
            exact absurd H (by simp)
        · rw [if_neg c5] at H
          have c5b0 : decide (x6_1 < 4) = false := decide_eq_false c5
          clear c5
          obtain rfl := Option.some.inj H
          go_wp2
          go_ret
          exact ⟨_, by first | rfl | (simp [errW_none, errW_some] <;> rfl) | (simp [*, errW_none, errW_some] <;> rfl), by (with_reducible repeat (first | apply Kd.R_alloc | apply Kd.R_drewN | apply Kd.R_drew)); exact HO_3.out, by repeat (first | (with_reducible first | exact HB.out | apply below_alloc | apply pw_below_drewN | apply below_drew1) | exact HB.out)⟩
  · rw [if_neg c2] at H
    exact absurd H (by simp)

end Go.Proofs.Ytchaegfdcdlfaaa.X

namespace Go.Proofs.Ytchaegfdcdlfaaa.X
open Go.RowKit Go.Proofs.YtchaegfdcdlfaaaW.PrintWords Go.Proofs.YtchaegfdcdlfaaaW.PrintLast Go.Proofs.YtchaegfdcdlfaaaW.PrintMore
attribute [local go_sem] max2_int min2_int max_two min_two max_three min_three max_four min_four   -- for this text's walks alone
set_option linter.unusedVariables false
set_option linter.unusedSimpArgs false

/-! ### wire_Four: function 89 -/
def wire_Four.l0 : Nat → Int → List Int → Int → Int → Option (Int × Bool)
  | 0, _, _, _, _ => none
  | k + 1, x4, x10, x11, x12 => if x12 < x11 then (if 0 ≤ x12 then (if x12 < (x10.length : Int) then (wire_Four.l0 k (Go.bits .or .u32 ((x4 * 256) % 4294967296) ((rd x10 x12) % 4294967296)) x10 x11 (wrap64 (x12 + 1))) else (none)) else (none)) else (some (x4, true))
def wire_Four.f (k : Nat) (l0 : List Int) : Option (Int × Bool) := if (l0.length : Int) = 4 then (wire_Four.l0 k 0 l0 (l0.length : Int) 0) else (some (0, false))
theorem wire_Four.mono_l : ∀ k, (∀ y0 y1 y2 y3, LeO (wire_Four.l0 k y0 y1 y2 y3) (wire_Four.l0 (k + 1) y0 y1 y2 y3))
  | 0 => fun _ _ _ _ r h => by simp [wire_Four.l0] at h
  | k + 1 => by
    have ih0 := wire_Four.mono_l k
    · intro y0 y1 y2 y3
      unfold wire_Four.l0
      repeat' first
      | (with_reducible exact ih0 _ _ _ _)
      | (with_reducible exact LeO.refl _)
      | (with_reducible exact LeO.none _)
      | (with_reducible refine LeO.ite ?_ ?_)
      | (with_reducible refine LeO.bind ?_ (fun _ => ?_))
      | exact ih0 _ _ _ _
      | exact LeO.none _
      | refine LeO.ite ?_ ?_
      | refine LeO.bind ?_ (fun _ => ?_)
theorem wire_Four.mono : ∀ a0 k, LeO (wire_Four.f k a0) (wire_Four.f (k + 1) a0) := by
  intro a0 k
  have ih0 := wire_Four.mono_l k
  unfold wire_Four.f
  repeat' first
      | (with_reducible exact ih0 _ _ _ _)
      | (with_reducible exact LeO.refl _)
      | (with_reducible exact LeO.none _)
      | (with_reducible refine LeO.ite ?_ ?_)
      | (with_reducible refine LeO.bind ?_ (fun _ => ?_))
      | exact ih0 _ _ _ _
      | exact LeO.none _
      | refine LeO.ite ?_ ?_
      | refine LeO.bind ?_ (fun _ => ?_)
set_option maxHeartbeats 8000000 in
set_option maxRecDepth 100000 in
theorem wire_Four.calls (k : Nat) (A0 : Option Addr) (c0 : Nat) (l0 : List Int) (r1 : Int) (r2 : Bool) (w : World) (hr0 : Kd.C (Kd.int .u8) w A0 l0.length l0) (hc0 : l0.length ≤ c0) (h : wire_Four.f k l0 = some (r1, r2)) :
    Calls Try.prog 89 #[.slice A0 l0.length c0] w fun e w' => e = .returned (.tuple #[.int .u32 r1, .bool r2]) ∧ Drawn0 w w' := by
  have HR0 := Aside0.mk hr0
  have HC0 := Aside0.mk hc0
  clear hr0 hc0
  have H : (if (l0.length : Int) = 4 then (wire_Four.l0 k 0 l0 (l0.length : Int) 0) else (some (0, false))) = some (r1, r2) := h
  clear h
  by_cases c2 : (l0.length : Int) = 4
  · rw [if_pos c2] at H
    have c2b0 : ((l0.length : Int) == 4) = true := beq_iff_eq.mpr c2
    have c2b1 : ((l0.length : Int) != 4) = false := bne_eq_false_iff_eq.mpr c2
    clear c2
    have H' := Aside0.mk H
    clear H
    go_enter Try.func89, Try.ntmps89
    go_wp2
    go_loopg [4, 12] k (fun kq v4 v12 w' => ∃ (x4_1 : Int) (x12_1 : Int), v4 = .int .u32 x4_1 ∧ v12 = .int .i64 x12_1 ∧ Aside0 (wire_Four.l0 kq x4_1 l0 (l0.length : Int) x12_1 = some (r1, r2)) ∧ Aside0 (kq ≤ k) ∧ Drawn0 w w')
    case atStart => exact ⟨(0), (0), (by first | rfl | (simp; done) | (simp [*]; done)), (by first | rfl | (simp; done) | (simp [*]; done)), H', ⟨Nat.le_refl _⟩, by repeat (first | exact Drawn0.refl _ | apply Drawn0.step)⟩
    case round =>
      clear H'
      try clear c2
      try clear c2b0
      try clear c2b1
      try clear p2
      obtain ⟨x4_1, x12_1, rfl, rfl, HA, HK1, ⟨m1, rfl⟩⟩ := hrel
      cases gk with
      | zero => exact absurd HA.out (by simp [wire_Four.l0])
      | succ k1 =>
        have H := HA.out
        clear HA
        simp only [wire_Four.l0] at H
        by_cases c3 : x12_1 < (l0.length : Int)
        · rw [if_pos c3] at H
          have c3b0 : decide (x12_1 < (l0.length : Int)) = true := decide_eq_true c3
          clear c3
          by_cases c4 : 0 ≤ x12_1
          · rw [if_pos c4] at H
            have c4b0 : decide (0 ≤ x12_1) = true := decide_eq_true c4
            clear c4
            by_cases c5 : x12_1 < (l0.length : Int)
            · rw [if_pos c5] at H
              have c5b0 : decide (x12_1 < (l0.length : Int)) = true := decide_eq_true c5
              clear c5
              have H' := Aside0.mk H
              clear H
              have p179 : 0 ≤ (x12_1 : Int) := of_decide_eq_true (by first | (with_reducible assumption) | assumption)
              have q179 : x12_1 < (l0.length : Int) := of_decide_eq_true (by first | (with_reducible assumption) | assumption)
              obtain ⟨ad179, e179, hx179_0⟩ := Kd.at_int HR0.out x12_1 p179 q179
              cases e179
              replace p179 := eq_true p179
              replace q179 := eq_true q179
              go_wp2
              go_roundg k1
              case measure => have := HK1.out; omega
              case rel => exact ⟨(Go.bits .or .u32 ((x4_1 * 256) % 4294967296) ((rd l0 x12_1) % 4294967296)), (wrap64 (x12_1 + 1)), (by first | rfl | (simp; done) | (simp [*]; done)), (by first | rfl | (simp; done) | (simp [*]; done)), H', ⟨by have := HK1.out; omega⟩, by repeat (first | exact Drawn0.refl _ | apply Drawn0.step)⟩
            · rw [if_neg c5] at H
              exact absurd H (by simp)
          · rw [if_neg c4] at H
            exact absurd H (by simp)
        · rw [if_neg c3] at H
          have c3b0 : decide (x12_1 < (l0.length : Int)) = false := decide_eq_false c3
          clear c3
          simp only [Option.some.injEq, Prod.mk.injEq] at H
          obtain ⟨rfl, rfl⟩ := H
          go_wp2
          go_ret2
          exact ⟨by first | rfl | (simp; done) | (simp [*]; done), by repeat (first | exact Drawn0.refl _ | apply Drawn0.step)⟩
  · rw [if_neg c2] at H
    have c2b0 : ((l0.length : Int) == 4) = false := beq_eq_false_iff_ne.mpr c2
    have c2b1 : ((l0.length : Int) != 4) = true := bne_iff_ne.mpr c2
    simp only [Option.some.injEq, Prod.mk.injEq] at H
    obtain ⟨rfl, rfl⟩ := H
    go_enter Try.func89, Try.ntmps89
    go_wp2
    go_ret2
    exact ⟨by first | rfl | (simp; done) | (simp [*]; done), by repeat (first | exact Drawn0.refl _ | apply Drawn0.step)⟩

end Go.Proofs.Ytchaegfdcdlfaaa.X

/- What wire.Read does, out of what wire.Get does: a contract in the printed form, by hand. -/
namespace Go.Proofs.Ytchaegfdcdlfaaa.X
set_option linter.unusedVariables false
set_option linter.unusedSimpArgs false
open Go.RowKit Go.Proofs.YtchaegfdcdlfaaaW.PrintWords Go.Proofs.YtchaegfdcdlfaaaW.PrintLast Go.Proofs.YtchaegfdcdlfaaaW.PrintMore
attribute [local go_sem] max2_int min2_int max_two min_two max_three min_three max_four min_four

def wire_Read.f (k : Nat) (l0 : List Int) (a1 : Int) : Option (ByteArray × Int × Bool) :=
  (wire_Get.f k l0).bind fun r => if 0 ≤ r.2.1 ∧ r.2.1 ≤ l0.length ∧ 0 ≤ r.1 ∧ l0.length ≤ 4611686018427387904 then
    (if r.2.2 = true ∧ 0 ≤ a1 ∧ r.1 ≤ a1 ∧ r.1 ≤ (l0.length : Int) - r.2.1 then some (strOfNums ((l0.drop r.2.1.toNat).take r.1.toNat), r.2.1 + r.1, true) else some (⟨#[]⟩, 0, false)) else none
theorem wire_Read.mono : ∀ a0 a1 k, LeO (wire_Read.f k a0 a1) (wire_Read.f (k + 1) a0 a1) := by
  intro a0 a1 k
  unfold wire_Read.f
  exact LeO.bind (wire_Get.mono _ _) fun _ => LeO.refl _

set_option maxHeartbeats 4000000 in
set_option maxRecDepth 100000 in
theorem read_no (k : Nat) (A0 : Option Addr) (c0 : Nat) (l0 : List Int) (a1 : Int) (n u : Nat) (w : World) (hr0 : Kd.C (Kd.int .u8) w A0 l0.length l0) (hc0 : l0.length ≤ c0)
    (h : wire_Get.f k l0 = some ((n : Int), (u : Int), false)) (hu : u ≤ l0.length) (hl : l0.length ≤ 4611686018427387904) :
    Calls Try.prog 143 #[.slice A0 l0.length c0, .int .i64 a1] w fun e w' => e = .returned (.tuple #[.string ⟨#[]⟩, .int .i64 0, .bool false]) ∧ Below w.heap.size w w' := by
  obtain ⟨i0, hi0, _, hsz0, _⟩ := info_parts info5
  obtain ⟨A', hcut, hA, hC⟩ := print_drop_of (P := Try.prog) (Value.int .u8) 0 40 5 .i64 Try.underlying40 hi0 hsz0 A0 c0 l0 (u : Int) (by omega) (by omega) hc0
  simp only [Int.toNat_natCast, List.length_drop] at hcut
  clear hA hC hi0 hsz0
  have HG := Aside0.mk h
  have HR := Aside0.mk hr0
  clear h hr0
  go_enter Try.func143, Try.ntmps143
  go_wp2_with (go_at_call 88; refine (wire_Get.calls k _ _ l0 n u false _ HR.out hc0 HG.out).mono ?_; rintro e w' ⟨rfl, ⟨nd, rfl⟩⟩)
  go_ret3
  exact ⟨rfl, pw_below_drewN (Below.refl _ _) _⟩

set_option maxHeartbeats 4000000 in
set_option maxRecDepth 100000 in
theorem read_neg (k : Nat) (A0 : Option Addr) (c0 : Nat) (l0 : List Int) (a1 : Int) (n u : Nat) (w : World) (hr0 : Kd.C (Kd.int .u8) w A0 l0.length l0) (hc0 : l0.length ≤ c0)
    (h : wire_Get.f k l0 = some ((n : Int), (u : Int), true)) (hu : u ≤ l0.length) (hl : l0.length ≤ 4611686018427387904) (ha : a1 < 0) :
    Calls Try.prog 143 #[.slice A0 l0.length c0, .int .i64 a1] w fun e w' => e = .returned (.tuple #[.string ⟨#[]⟩, .int .i64 0, .bool false]) ∧ Below w.heap.size w w' := by
  obtain ⟨i0, hi0, _, hsz0, _⟩ := info_parts info5
  obtain ⟨A', hcut, hA, hC⟩ := print_drop_of (P := Try.prog) (Value.int .u8) 0 40 5 .i64 Try.underlying40 hi0 hsz0 A0 c0 l0 (u : Int) (by omega) (by omega) hc0
  simp only [Int.toNat_natCast, List.length_drop] at hcut
  clear hA hC hi0 hsz0
  have HG := Aside0.mk h
  have HR := Aside0.mk hr0
  clear h hr0
  have c1 : decide (0 ≤ a1) = false := decide_eq_false (by omega)
  go_enter Try.func143, Try.ntmps143
  go_wp2_with (go_at_call 88; refine (wire_Get.calls k _ _ l0 n u true _ HR.out hc0 HG.out).mono ?_; rintro e w' ⟨rfl, ⟨nd, rfl⟩⟩)
  go_ret3
  exact ⟨rfl, pw_below_drewN (Below.refl _ _) _⟩

set_option maxHeartbeats 4000000 in
set_option maxRecDepth 100000 in
theorem read_far (k : Nat) (A0 : Option Addr) (c0 : Nat) (l0 : List Int) (m : Nat) (n u : Nat) (w : World) (hr0 : Kd.C (Kd.int .u8) w A0 l0.length l0) (hc0 : l0.length ≤ c0)
    (h : wire_Get.f k l0 = some ((n : Int), (u : Int), true)) (hu : u ≤ l0.length) (hl : l0.length ≤ 4611686018427387904) (hm : m < n ∨ l0.length - u < n) :
    Calls Try.prog 143 #[.slice A0 l0.length c0, .int .i64 m] w fun e w' => e = .returned (.tuple #[.string ⟨#[]⟩, .int .i64 0, .bool false]) ∧ Below w.heap.size w w' := by
  obtain ⟨i0, hi0, _, hsz0, _⟩ := info_parts info5
  obtain ⟨A', hcut, hA, hC⟩ := print_drop_of (P := Try.prog) (Value.int .u8) 0 40 5 .i64 Try.underlying40 hi0 hsz0 A0 c0 l0 (u : Int) (by omega) (by omega) hc0
  simp only [Int.toNat_natCast, List.length_drop] at hcut
  clear hA hC hi0 hsz0
  have HG := Aside0.mk h
  have HR := Aside0.mk hr0
  clear h hr0
  obtain ⟨z, hz⟩ : ∃ z, l0.length - u = z := ⟨_, rfl⟩
  have hzl : z ≤ 4611686018427387904 := by omega
  rw [hz] at hcut hm
  have w1 : IntKind.u64.wrap (z : Int) = (z : Int) := by simp [IntKind.wrap, IntKind.bits, IntKind.signed]; omega
  by_cases hc : z < m
  · have c1 : decide (z < m) = true := decide_eq_true hc
    have c2 : decide (n ≤ z) = false := decide_eq_false (by omega)
    clear hz hm
    go_enter Try.func143, Try.ntmps143
    go_wp2_with (go_at_call 88; refine (wire_Get.calls k _ _ l0 n u true _ HR.out hc0 HG.out).mono ?_; rintro e w' ⟨rfl, ⟨nd, rfl⟩⟩)
    go_ret3
    exact ⟨rfl, pw_below_drewN (Below.refl _ _) _⟩
  · have c1 : decide (z < m) = false := decide_eq_false hc
    have c2 : decide (n ≤ m) = false := decide_eq_false (by omega)
    have w2 : IntKind.u64.wrap (m : Int) = (m : Int) := by simp [IntKind.wrap, IntKind.bits, IntKind.signed]; omega
    clear hz hm
    go_enter Try.func143, Try.ntmps143
    go_wp2_with (go_at_call 88; refine (wire_Get.calls k _ _ l0 n u true _ HR.out hc0 HG.out).mono ?_; rintro e w' ⟨rfl, ⟨nd, rfl⟩⟩)
    go_ret3
    exact ⟨rfl, pw_below_drewN (Below.refl _ _) _⟩

set_option maxHeartbeats 4000000 in
set_option maxRecDepth 100000 in
theorem read_yes (k : Nat) (A0 : Option Addr) (c0 : Nat) (l0 : List Int) (m : Nat) (n u : Nat) (w : World) (hr0 : Kd.C (Kd.int .u8) w A0 l0.length l0) (hc0 : l0.length ≤ c0)
    (h : wire_Get.f k l0 = some ((n : Int), (u : Int), true)) (hu : u ≤ l0.length) (hl : l0.length ≤ 4611686018427387904) (hm : n ≤ m) (hn : n ≤ l0.length - u) :
    Calls Try.prog 143 #[.slice A0 l0.length c0, .int .i64 m] w fun e w' => e = .returned (.tuple #[.string (strOfNums ((l0.drop u).take n)), .int .i64 (u + n), .bool true]) ∧ Below w.heap.size w w' := by
  obtain ⟨i0, hi0, _, hsz0, _⟩ := info_parts info5
  obtain ⟨A', hcut, hA, hC⟩ := print_drop_of (P := Try.prog) (Value.int .u8) 0 40 5 .i64 Try.underlying40 hi0 hsz0 A0 c0 l0 (u : Int) (by omega) (by omega) hc0
  simp only [Int.toNat_natCast] at hcut hA hC
  have hr1 := hA w (Kd.reads_of_C hr0)
  obtain ⟨hcut2, hA2, hC2⟩ := print_take_of (P := Try.prog) (Value.int .u8) 0 40 5 .i64 Try.underlying40 hi0 hsz0 A' (c0 - u) (l0.drop u) (n : Int) (by omega) (by rw [List.length_drop]; omega) hC
  have hr2 := hA2 w hr1
  simp only [Int.toNat_natCast] at hcut2 hr2 hC2
  have hln : ((l0.drop u).take n).length = n := by rw [List.length_take, List.length_drop]; omega
  rw [hln] at hcut2 hr2
  simp only [List.length_drop] at hcut hcut2
  have hcv : ∀ q, (convert 40 9 (.slice A' n (c0 - u))).run Try.prog (w.drewN q) = .ok (.string (strOfNums ((l0.drop u).take n))) (w.drewN q) := fun q =>
    Kd.C_string (P := Try.prog) Try.underlying40 Try.underlying5 Try.underlying9 (Kd.C_drewN (Kd.C_of_reads (h1 := fun _ => rfl) hr2) q)
  clear hA hC hi0 hsz0 hA2 hC2 hr1 hr2 hln
  have HG := Aside0.mk h
  have HR := Aside0.mk hr0
  clear h hr0
  obtain ⟨z, hz⟩ : ∃ z, l0.length - u = z := ⟨_, rfl⟩
  have hzl : z ≤ 4611686018427387904 := by omega
  have hzu : (u : Int) + n ≤ 4611686018427387904 := by omega
  rw [hz] at hcut hcut2 hn
  have w1 : IntKind.u64.wrap (z : Int) = (z : Int) := by simp [IntKind.wrap, IntKind.bits, IntKind.signed]; omega
  have w3 : IntKind.i64.wrap (n : Int) = (n : Int) := IntWalk.i64_in _ (by omega)
  have w4 : wrap64 (n : Int) = (n : Int) := by unfold wrap64; omega
  by_cases hc : z < m
  · have c1 : decide (z < m) = true := decide_eq_true hc
    have c2 : decide (n ≤ z) = true := decide_eq_true (by omega)
    clear hz
    go_enter Try.func143, Try.ntmps143
    go_wp2_with (go_at_call 88; refine (wire_Get.calls k _ _ l0 n u true _ HR.out hc0 HG.out).mono ?_; rintro e w' ⟨rfl, ⟨nd, rfl⟩⟩)
    go_ret3
    exact ⟨rfl, pw_below_drewN (Below.refl _ _) _⟩
  · have c1 : decide (z < m) = false := decide_eq_false hc
    have c2 : decide (n ≤ m) = true := decide_eq_true (by omega)
    have w2 : IntKind.u64.wrap (m : Int) = (m : Int) := by simp [IntKind.wrap, IntKind.bits, IntKind.signed]; omega
    clear hz
    go_enter Try.func143, Try.ntmps143
    go_wp2_with (go_at_call 88; refine (wire_Get.calls k _ _ l0 n u true _ HR.out hc0 HG.out).mono ?_; rintro e w' ⟨rfl, ⟨nd, rfl⟩⟩)
    go_ret3
    exact ⟨rfl, pw_below_drewN (Below.refl _ _) _⟩

theorem wire_Read.calls (k : Nat) (A0 : Option Addr) (c0 : Nat) (l0 : List Int) (a1 : Int) (r1 : ByteArray) (r2 : Int) (r3 : Bool) (w : World) (hr0 : Kd.C (Kd.int .u8) w A0 l0.length l0) (hc0 : l0.length ≤ c0) (h : wire_Read.f k l0 a1 = some (r1, r2, r3)) :
    Calls Try.prog 143 #[.slice A0 l0.length c0, .int .i64 a1] w fun e w' => e = .returned (.tuple #[.string r1, .int .i64 r2, .bool r3]) ∧ Below w.heap.size w w' := by
  unfold wire_Read.f at h
  obtain ⟨⟨n, u, is⟩, hg, h⟩ := Option.bind_eq_some_iff.mp h
  by_cases hc : 0 ≤ u ∧ u ≤ l0.length ∧ 0 ≤ n ∧ l0.length ≤ 4611686018427387904
  · rw [if_pos hc] at h
    obtain ⟨h1, h2, h3, h4⟩ := hc
    obtain ⟨n, rfl⟩ := Int.eq_ofNat_of_zero_le h3
    obtain ⟨u, rfl⟩ := Int.eq_ofNat_of_zero_le h1
    simp only at h hg
    cases is with
    | false =>
      rw [if_neg (by simp)] at h
      cases h
      exact read_no k A0 c0 l0 a1 n u w hr0 hc0 hg (by omega) h4
    | true =>
      by_cases ha : a1 < 0
      · rw [if_neg (by omega)] at h
        cases h
        exact read_neg k A0 c0 l0 a1 n u w hr0 hc0 hg (by omega) h4 ha
      · obtain ⟨m, rfl⟩ := Int.eq_ofNat_of_zero_le (show 0 ≤ a1 by omega)
        by_cases hn : n ≤ m ∧ n ≤ l0.length - u
        · rw [if_pos ⟨rfl, by omega, by omega, by omega⟩] at h
          cases h
          exact read_yes k A0 c0 l0 m n u w hr0 hc0 hg (by omega) h4 hn.1 hn.2
        · rw [if_neg (by omega)] at h
          cases h
          exact read_far k A0 c0 l0 m n u w hr0 hc0 hg (by omega) h4 (by omega)
  · rw [if_neg hc] at h
    cases h

end Go.Proofs.Ytchaegfdcdlfaaa.X

-- Printed for this session by a program of its own over an edited copy of the translation's print.
