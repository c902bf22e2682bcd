/- Texts of this claim, what it reaches. -/
import Derived.Test.YtchaegfdcdlfaaaM5v
import Derived.Test.YtchaegfdcdlfaaaM4v
import Derived.Test.YtchaegfdcdlfaaaM2v
import Derived.Test.YtchaegfdcdlfaaaM3v
import Derived.JoinedOf
import Derived.Test.YtchaegfdcdlfaaaProg
import Derived.KernelRfl

namespace Go.Proofs.Ytchaegfdcdlfaaa.X
set_option linter.unusedVariables false
set_option linter.unusedSimpArgs false
open Go.RowKit Go.Proofs.YtchaegfdcdlfaaaW.PrintWords Go.Proofs.YtchaegfdcdlfaaaW.PrintLast Go.Proofs.YtchaegfdcdlfaaaW.PrintMore
open Go.Proofs.Ytchaegfdcdlfaaa.Y (Bytes RdB IsGet rdb_below rdb_drop rdb_take get_call Get_eq put put_length four four_call wpAnyH_str)
attribute [local go_sem] max2_int min2_int max_two min_two max_three min_three max_four min_four
theorem RgSt.rrat {w0 W : World} {rb rr : Nat} {base : List Int} {ls : List Lin} {s : Rd} (h : RgSt w0 W rb rr base ls s) : ∃ rs, RrAt W rr rb rs := by
  obtain ⟨A, c, hb, _⟩ := h.box
  exact ⟨_, hb, rfl, h.ne⟩
theorem At.setRow {W : World} {ad : Addr} {cs : Array Value} (h : At W ad cs) {g : Nat} (hg : ad.block ≠ g) (x : Array Value) : At (W.setRow g x) ad cs := fun j v hj => by
  rw [← h j v hj]
  exact World.cell?_of_block (setRow_other _ _ _ _ (by unfold Addr.add; split <;> exact hg))
def LnQ (w0 : World) (rb rr : Nat) (base : List Int) (ls : List Lin) (s : Rd) (e : Ending) (W' : World) : Prop := e = .returned (.tuple #[]) ∧ RgSt w0 W' rb rr base (ls ++ [(lineR s).1]) (lineR s).2
theorem R_lines {w0 W W1 : World} {rb : Nat} {s : Rd} {v : Value} {ls : List Lin} (h : Kd.R linK 147 W w0.heap.size (fun _ => True) v ls) (hr : RdSt w0 W rb s) (hg : W.grownBy W1 (some rb)) : Kd.R linK 147 W1 w0.heap.size (fun k => k < W.heap.size) v ls := by
  obtain ⟨A, c, hb, _⟩ := hr.row
  have h1 := Kd.R_bound (Kd.R_types h hb (lin_types 157 (by decide) (by decide) (by decide)))
  exact Kd.R_mono (Kd.R_move h1 (fun k hk => hg.block k hk.2.2.1 (fun he => hk.1.2 (by injection he)))) (fun k hk => hk.2.2.1)
set_option maxHeartbeats 8000000 in
set_option maxRecDepth 100000 in
theorem linerd_call (w0 W : World) (rb rr : Nat) (base : List Int) (ls : List Lin) (s : Rd) (h : RgSt w0 W rb rr base ls s) (hls : ls.length ≤ 1000) :
    Calls Try.prog 110 #[.pointer (some ⟨rr, 0, none⟩)] W (LnQ w0 rb rr base ls s) := by
  obtain ⟨rs, hrs⟩ := h.rrat
  have H := Aside0.mk h
  have HLT := Aside0.mk h.hrd.lt
  have HLR := Aside0.mk hrs.lt
  have HLS := Aside0.mk hls
  have HS : Aside0 (RdSt w0 W.drew rb s) := ⟨h.hrd.below (below_drew (Below.refl _ _))⟩
  have HRR : Aside0 (RrAt W.drew rr rb rs) := ⟨hrs.below (below_drew (Below.refl _ _))⟩
  have HG : Aside0 (W.grownBy W.drew (some rb)) := ⟨grown_drew (World.grownBy.refl W _)⟩
  clear h hrs hls
  go_enter Try.func110, Try.ntmps110
  go_wp2_with fail
  refine cut_region (fun a W5 => ∃ (id : List Int) (sn sr : Int) (s2 : Rd) (bx : Nat) (u1 u3 u4 u5 u6 u7 u8 u9 u10 u11 u12 u13 u14 u15 u16 u17 u18 u19 u20 u21 u22 u23 u24 u25 u26 u27 u28 u29 u30 u31 u32 u33 u34 u35 u36 u37 u38 u39 u40 u41 u42 : Value), a = ⟨#[.pointer (some ⟨rr, 0, none⟩), u1, .pointer (some ⟨bx, 0, none⟩), u3, u4, u5, u6, u7, u8, u9, u10, u11, u12, u13, u14, u15, u16, u17, u18, u19, u20, u21, u22, u23, u24, u25, u26, u27, u28, u29, u30, u31, u32, u33, u34, u35, u36, u37, u38, u39, u40, u41, u42], []⟩ ∧ LnSt W w0 W5 rb rr rs bx ⟨id, sn, sr, []⟩ s2 ∧ (takeR 16 s).1 = id ∧ (stR (takeR 16 s).2) = ((sn, sr), s2)) ?_ ?_
  case refine_1 =>
    refine wp_region_held_drew (S := (fun W => RrAt W rr rb rs)) (by kernel_rfl) (HRR.out) (fun hHeld => ?_)
    refine tq (i := 0) (v := ?_) ?hy ?_
    case hy => (intro W_ hW_; go_simp; first | done | with_reducible rfl)
    try simp only [Act.put, List.setIfInBounds_toArray, List.set_cons_zero, List.set_cons_succ]
    refine tq (i := 1) (v := ?_) ?hy ?_
    case hy => (intro W_ hW_; go_simp; first | done | with_reducible rfl)
    try simp only [Act.put, List.setIfInBounds_toArray, List.set_cons_zero, List.set_cons_succ]
    refine tq (i := 2) (v := ?_) ?hy ?_
    case hy => (intro W_ hW_; go_simp; first | done | with_reducible rfl)
    try simp only [Act.put, List.setIfInBounds_toArray, List.set_cons_zero, List.set_cons_succ]
    refine tq (i := 3) (v := ?_) ?hy ?_
    case hy => (intro W_ hW_; have f0 := hW_.cell; go_simp; first | done | with_reducible rfl)
    try simp only [Act.put, List.setIfInBounds_toArray, List.set_cons_zero, List.set_cons_succ]
    refine tq (i := 7) (v := ?_) ?hy ?_
    case hy => (intro W_ hW_; go_simp; first | done | with_reducible rfl)
    try simp only [Act.put, List.setIfInBounds_toArray, List.set_cons_zero, List.set_cons_succ]
    refine tq (i := 8) (v := ?_) ?hy ?_
    case hy => (intro W_ hW_; go_simp; first | done | with_reducible rfl)
    try simp only [Act.put, List.setIfInBounds_toArray, List.set_cons_zero, List.set_cons_succ]
    refine tq (i := 9) (v := ?_) ?hy ?_
    case hy => (intro W_ hW_; go_simp; first | done | with_reducible rfl)
    try simp only [Act.put, List.setIfInBounds_toArray, List.set_cons_zero, List.set_cons_succ]
    refine tq (i := 10) (v := ?_) ?hy ?_
    case hy => (intro W_ hW_; have f0 := hW_.cell; go_simp; first | done | with_reducible rfl)
    try simp only [Act.put, List.setIfInBounds_toArray, List.set_cons_zero, List.set_cons_succ]
    refine wpAnyH_ready (rs := [4, 13]) (by kernel_rfl) (by simp) ?_
    refine AllReadyH.cons (by simp only [List.getElem?_toArray, List.getElem?_cons_succ, List.getElem?_cons_zero]; rfl) (fun K hK => ?b0_o_4) (AllReadyH.cons (by simp only [List.getElem?_toArray, List.getElem?_cons_succ, List.getElem?_cons_zero]; rfl) (fun K hK => ?b0_o_13) AllReadyH.nil)
    case' b0_o_4 =>
      rw [if_pos (by rfl)]
      go_wp2_with fail
      refine (skipx_call w0 _ rb s 16 true HS.out (by decide)).mono ?_
      rintro e_ w3 ⟨⟨⟨A3, c3, rfl, hc3, hr3⟩, hst3, hg3⟩, hblk⟩
      obtain ⟨ad, hA, hat⟩ := rdb_at hr3 (by decide)
      subst hA
      refine hK.out _ _ (hHeld.grown hg3) (fun hHeld2 => ?_)
      clear hK K hHeld
      have hHeld := hHeld2
      clear hHeld2
      try simp only [Act.put, List.setIfInBounds_toArray, List.set_cons_zero, List.set_cons_succ]
      have HBK := Aside0.mk (hblk (by decide) ad c3 rfl)
      clear hblk
      have har := fun W1 : World => run_arrayAt (P := Try.prog) (w := W1) 94 5 16 (some ad) 16 c3 Try.underlying94 (by decide)
      obtain ⟨id, hid⟩ : ∃ id, (takeR 16 s).1 = id := ⟨_, rfl⟩
      have hid' : (skipR s 16 true).1 = id := hid
      rw [hid'] at hat
      have HD16 : Aside0 (id.length = 16) := ⟨by rw [← hid]; exact skipR_len _ 16 true⟩
      have HID := Aside0.mk hid
      have HIDI := Aside0.mk (idInfo HD16.out)
      have HS : Aside0 (RdSt w0 w3 rb (takeR 16 s).2) := ⟨hst3⟩
      obtain ⟨s1, hs1⟩ : ∃ s1, (takeR 16 s).2 = s1 := ⟨_, rfl⟩
      rw [hs1] at HS
      have HS1 := Aside0.mk hs1
      have HNE : Aside0 (ad.block ≠ rb) := ⟨by
        obtain ⟨A, c, hr, _⟩ := HS.out.row
        exact At.ne hat (by rw [HD16.out]; decide) hr (fun _ _ => by simp)⟩
      have HAD : Aside0 (ad.block < w3.heap.size) := ⟨by
        have := hat 0 (.int .u8 (id.getD 0 0)) (by simp [cells8, List.getD_eq_getElem?_getD, HD16.out])
        rw [show ad.add 0 = ad from by simp [Addr.add]] at this
        exact World.block_lt_of_cell? w3 _ this⟩
      have HAD3 := Aside0.mk HAD.out
      have HRR := Aside0.mk (HRR.out.grown hg3)
      have HG := Aside0.mk (HG.out.trans hg3)
      refine wpAnyH_str (S2 := fun W' => RrAt W' rr rb rs ∧ At W' ad (cells8 id) ∧ ad.block < W'.heap.size) (fun _ h => h.1) _ _ _ _ ?_
      have hHeld := And.intro hHeld (And.intro hat HAD.out)
      clear hst3 hg3 hid hid' hat hs1 hr3 hc3
      refine tq (i := 5) (v := ?_) ?hy ?_
      case hy => (intro W_ hW_; go_simp; first | done | with_reducible rfl)
      try simp only [Act.put, List.setIfInBounds_toArray, List.set_cons_zero, List.set_cons_succ]
      refine tq (i := 6) (v := ?_) ?hy ?_
      case hy => (intro W_ hW_; refine Eq.trans (exec_load_cells 94 (.tmp 8) ?_ ad ?_ (cells8 id) _ hW_.2.1 Try.underlying94 rfl HIDI.out) ?_ <;> (first | with_reducible rfl | rfl))
      try simp only [Act.put, List.setIfInBounds_toArray, List.set_cons_zero, List.set_cons_succ]
      refine wpAnyH_ready (rs := [11, 13]) (by kernel_rfl) (by simp) ?_
      refine AllReadyH.cons (by simp only [List.getElem?_toArray, List.getElem?_cons_succ, List.getElem?_cons_zero]; rfl) (fun K hK => ?b0_4_11) (AllReadyH.cons (by simp only [List.getElem?_toArray, List.getElem?_cons_succ, List.getElem?_cons_zero]; rfl) (fun K hK => ?b0_4_13) AllReadyH.nil)
      case' b0_4_11 =>
        rw [if_pos (by rfl)]
        go_wp2_with fail
        refine (strd_call w0 _ rb s1 HS.out).mono ?_
        rintro e_ w4 ⟨rfl, hst4, hg4⟩
        refine hK.out _ _ (⟨hHeld.1.grown hg4, hHeld.2.1.grown hg4 (fun he => HNE.out (by injection he)) hHeld.2.2, Nat.lt_of_lt_of_le hHeld.2.2 hg4.size⟩) (fun hHeld2 => ?_)
        clear hK K hHeld
        have hHeld := hHeld2
        clear hHeld2
        try simp only [Act.put, List.setIfInBounds_toArray, List.set_cons_zero, List.set_cons_succ]
        obtain ⟨sn, hsn⟩ : ∃ sn, (stR s1).1.1 = sn := ⟨_, rfl⟩
        obtain ⟨sr, hsr⟩ : ∃ sr, (stR s1).1.2 = sr := ⟨_, rfl⟩
        obtain ⟨s2, hs2⟩ : ∃ s2, (stR s1).2 = s2 := ⟨_, rfl⟩
        rw [hsn, hsr]
        have HST : Aside0 (stR (takeR 16 s).2 = ((sn, sr), s2)) := ⟨by rw [HS1.out, ← hsn, ← hsr, ← hs2]⟩
        have HS : Aside0 (RdSt w0 w4 rb s2) := ⟨hs2 ▸ hst4⟩
        have HBU := Aside0.mk (built_lin sn sr id HD16.out)
        have HAD : Aside0 (ad.block < w4.heap.size) := ⟨by have h1 := HAD.out; have h2 := hg4.size; first | omega | (simp at h2; omega)⟩
        have HRR := Aside0.mk (HRR.out.grown hg4)
        have HG := Aside0.mk (HG.out.trans hg4)
        clear hst4 hg4 hsn hsr hs2
        refine tq (i := 12) (v := ?_) ?hy ?_
        case hy => (intro W_ hW_; refine Eq.trans (exec_build_cells 147 #[(0, .tmp 9), (1, .tmp 14)] ?_ (linC ⟨id, sn, sr, []⟩ none 0).toArray ?_) ?_ <;> first | with_reducible rfl | rfl | (simp only [List.map_toArray, List.map_cons, List.map_nil]; exact HBU.out))
        try simp only [Act.put, List.setIfInBounds_toArray, List.set_cons_zero, List.set_cons_succ]
        refine wpAnyH_ready (rs := [13]) (by kernel_rfl) (by simp) ?_
        refine AllReadyH.cons (by simp only [List.getElem?_toArray, List.getElem?_cons_succ, List.getElem?_cons_zero]; rfl) (fun K hK => ?_) AllReadyH.nil
        rw [if_pos (by rfl)]
        go_wp2_with fail
        refine hK.out _ _ (⟨hHeld.1.below (below_alloc (Below.refl _ _) _), hHeld.2.1.alloc _, Nat.lt_of_lt_of_le hHeld.2.2 (below_alloc (Below.refl _ _) (.cells #[.int .u8 0, .int .u8 0, .int .u8 0, .int .u8 0, .int .u8 0, .int .u8 0, .int .u8 0, .int .u8 0, .int .u8 0, .int .u8 0, .int .u8 0, .int .u8 0, .int .u8 0, .int .u8 0, .int .u8 0, .int .u8 0, .int .i64 0, .int .i64 0, .slice none 0 0] 147)).size⟩) (fun hHeld2 => ?_)
        clear hK K hHeld
        have hHeld := hHeld2
        clear hHeld2
        try simp only [Act.put, List.setIfInBounds_toArray, List.set_cons_zero, List.set_cons_succ]
        have HX4 : Aside0 ((w4.alloc (.cells #[.int .u8 0, .int .u8 0, .int .u8 0, .int .u8 0, .int .u8 0, .int .u8 0, .int .u8 0, .int .u8 0, .int .u8 0, .int .u8 0, .int .u8 0, .int .u8 0, .int .u8 0, .int .u8 0, .int .u8 0, .int .u8 0, .int .i64 0, .int .i64 0, .slice none 0 0] 147)).heap[w4.heap.size]? = some (.cells #[.int .u8 0, .int .u8 0, .int .u8 0, .int .u8 0, .int .u8 0, .int .u8 0, .int .u8 0, .int .u8 0, .int .u8 0, .int .u8 0, .int .u8 0, .int .u8 0, .int .u8 0, .int .u8 0, .int .u8 0, .int .u8 0, .int .i64 0, .int .i64 0, .slice none 0 0] 147 (0, 0))) := ⟨blk_new _ _⟩
        have HN4 : Aside0 (W.heap.size ≤ w4.heap.size) := ⟨HG.out.size⟩
        have HS := Aside0.mk (HS.out.below (below_alloc (Below.refl _ _) (.cells #[.int .u8 0, .int .u8 0, .int .u8 0, .int .u8 0, .int .u8 0, .int .u8 0, .int .u8 0, .int .u8 0, .int .u8 0, .int .u8 0, .int .u8 0, .int .u8 0, .int .u8 0, .int .u8 0, .int .u8 0, .int .u8 0, .int .i64 0, .int .i64 0, .slice none 0 0] 147)))
        have HRR := Aside0.mk (HRR.out.below (below_alloc (Below.refl _ _) (.cells #[.int .u8 0, .int .u8 0, .int .u8 0, .int .u8 0, .int .u8 0, .int .u8 0, .int .u8 0, .int .u8 0, .int .u8 0, .int .u8 0, .int .u8 0, .int .u8 0, .int .u8 0, .int .u8 0, .int .u8 0, .int .u8 0, .int .i64 0, .int .i64 0, .slice none 0 0] 147)))
        have HG := Aside0.mk (HG.out.trans (grown_of_below (below_alloc (Below.refl _ _) (.cells #[.int .u8 0, .int .u8 0, .int .u8 0, .int .u8 0, .int .u8 0, .int .u8 0, .int .u8 0, .int .u8 0, .int .u8 0, .int .u8 0, .int .u8 0, .int .u8 0, .int .u8 0, .int .u8 0, .int .u8 0, .int .u8 0, .int .i64 0, .int .i64 0, .slice none 0 0] 147)) (some rb)))
        refine wpAnyH_ready (rs := [14]) (by kernel_rfl) (by simp) ?_
        refine AllReadyH.cons (by simp only [List.getElem?_toArray, List.getElem?_cons_succ, List.getElem?_cons_zero]; rfl) (fun K hK => ?_) AllReadyH.nil
        rw [if_pos (by rfl)]
        obtain ⟨cs, hcs⟩ : ∃ cs, (linC ⟨id, sn, sr, []⟩ none 0).toArray = cs := ⟨_, rfl⟩
        have hsz : cs.size = 19 := by rw [← hcs, List.size_toArray]; exact linC_len HD16.out none 0
        have HGB : Aside0 (ad.block ≠ w4.heap.size) := ⟨by have h2 := HAD.out; have h3 := HAD3.out; omega⟩
        have hst := storeA (g := w4.heap.size) (cs := cs) HX4.out (by rw [hsz]; rfl) (by rw [← hcs]; exact linC_one _ _ _)
        try rw [hcs]
        go_wp2_with fail
        refine hK.out _ _ (⟨hHeld.1.setRow (g := w4.heap.size) (by have := HN4.out; have := HLR.out; omega) _, hHeld.2.1.setRow HGB.out _, by rw [setRow_size]; exact hHeld.2.2⟩) (fun hHeld2 => ?_)
        clear hK K hHeld
        have hHeld := hHeld2
        clear hHeld2
        try simp only [Act.put, List.setIfInBounds_toArray, List.set_cons_zero, List.set_cons_succ]
        have hce : some (Obj.cells cs 147 (0, 0)) = some (Obj.cells (linC ⟨id, sn, sr, []⟩ none 0).toArray 147 (0, 0)) := by rw [hcs]
        have HX4 := Aside0.mk ((setRow_heap _ _ _ cs _ _ HX4.out).trans hce)
        have HS := Aside0.mk (HS.out.setRow (g := w4.heap.size) (by have := HN4.out; have := HLT.out; omega) (Nat.le_trans H.out.hrd.bel.size HN4.out) cs)
        have HRR := Aside0.mk (HRR.out.setRow (g := w4.heap.size) (by have := HN4.out; have := HLR.out; omega) cs)
        have HG := Aside0.mk (grown_row HG.out HN4.out cs)
        clear hst hsz hcs hce
        refine wpAnyH_done (by kernel_rfl) ?_ _
        obtain ⟨g4, hg4⟩ : ∃ g4 : Nat, g4 = w4.heap.size := ⟨_, rfl⟩
        have HN4 : Aside0 (W.heap.size ≤ g4) := ⟨by rw [hg4]; exact HN4.out⟩
        rw [← hg4] at HX4 HS HRR HG ⊢
        clear hg4
      case' b0_4_13 =>
        rw [if_pos (by rfl)]
        go_wp2_with fail
        refine hK.out _ _ (⟨hHeld.1.below (below_alloc (Below.refl _ _) _), hHeld.2.1.alloc _, Nat.lt_of_lt_of_le hHeld.2.2 (below_alloc (Below.refl _ _) (.cells #[.int .u8 0, .int .u8 0, .int .u8 0, .int .u8 0, .int .u8 0, .int .u8 0, .int .u8 0, .int .u8 0, .int .u8 0, .int .u8 0, .int .u8 0, .int .u8 0, .int .u8 0, .int .u8 0, .int .u8 0, .int .u8 0, .int .i64 0, .int .i64 0, .slice none 0 0] 147)).size⟩) (fun hHeld2 => ?_)
        clear hK K hHeld
        have hHeld := hHeld2
        clear hHeld2
        try simp only [Act.put, List.setIfInBounds_toArray, List.set_cons_zero, List.set_cons_succ]
        have HX4 : Aside0 ((w3.alloc (.cells #[.int .u8 0, .int .u8 0, .int .u8 0, .int .u8 0, .int .u8 0, .int .u8 0, .int .u8 0, .int .u8 0, .int .u8 0, .int .u8 0, .int .u8 0, .int .u8 0, .int .u8 0, .int .u8 0, .int .u8 0, .int .u8 0, .int .i64 0, .int .i64 0, .slice none 0 0] 147)).heap[w3.heap.size]? = some (.cells #[.int .u8 0, .int .u8 0, .int .u8 0, .int .u8 0, .int .u8 0, .int .u8 0, .int .u8 0, .int .u8 0, .int .u8 0, .int .u8 0, .int .u8 0, .int .u8 0, .int .u8 0, .int .u8 0, .int .u8 0, .int .u8 0, .int .i64 0, .int .i64 0, .slice none 0 0] 147 (0, 0))) := ⟨blk_new _ _⟩
        have HN4 : Aside0 (W.heap.size ≤ w3.heap.size) := ⟨HG.out.size⟩
        have HS := Aside0.mk (HS.out.below (below_alloc (Below.refl _ _) (.cells #[.int .u8 0, .int .u8 0, .int .u8 0, .int .u8 0, .int .u8 0, .int .u8 0, .int .u8 0, .int .u8 0, .int .u8 0, .int .u8 0, .int .u8 0, .int .u8 0, .int .u8 0, .int .u8 0, .int .u8 0, .int .u8 0, .int .i64 0, .int .i64 0, .slice none 0 0] 147)))
        have HRR := Aside0.mk (HRR.out.below (below_alloc (Below.refl _ _) (.cells #[.int .u8 0, .int .u8 0, .int .u8 0, .int .u8 0, .int .u8 0, .int .u8 0, .int .u8 0, .int .u8 0, .int .u8 0, .int .u8 0, .int .u8 0, .int .u8 0, .int .u8 0, .int .u8 0, .int .u8 0, .int .u8 0, .int .i64 0, .int .i64 0, .slice none 0 0] 147)))
        have HG := Aside0.mk (HG.out.trans (grown_of_below (below_alloc (Below.refl _ _) (.cells #[.int .u8 0, .int .u8 0, .int .u8 0, .int .u8 0, .int .u8 0, .int .u8 0, .int .u8 0, .int .u8 0, .int .u8 0, .int .u8 0, .int .u8 0, .int .u8 0, .int .u8 0, .int .u8 0, .int .u8 0, .int .u8 0, .int .i64 0, .int .i64 0, .slice none 0 0] 147)) (some rb)))
        refine wpAnyH_ready (rs := [11]) (by kernel_rfl) (by simp) ?_
        refine AllReadyH.cons (by simp only [List.getElem?_toArray, List.getElem?_cons_succ, List.getElem?_cons_zero]; rfl) (fun K hK => ?_) AllReadyH.nil
        rw [if_pos (by rfl)]
        go_wp2_with fail
        refine (strd_call w0 _ rb s1 HS.out).mono ?_
        rintro e_ w4 ⟨rfl, hst4, hg4⟩
        refine hK.out _ _ (⟨hHeld.1.grown hg4, hHeld.2.1.grown hg4 (fun he => HNE.out (by injection he)) hHeld.2.2, Nat.lt_of_lt_of_le hHeld.2.2 hg4.size⟩) (fun hHeld2 => ?_)
        clear hK K hHeld
        have hHeld := hHeld2
        clear hHeld2
        try simp only [Act.put, List.setIfInBounds_toArray, List.set_cons_zero, List.set_cons_succ]
        obtain ⟨sn, hsn⟩ : ∃ sn, (stR s1).1.1 = sn := ⟨_, rfl⟩
        obtain ⟨sr, hsr⟩ : ∃ sr, (stR s1).1.2 = sr := ⟨_, rfl⟩
        obtain ⟨s2, hs2⟩ : ∃ s2, (stR s1).2 = s2 := ⟨_, rfl⟩
        rw [hsn, hsr]
        have HST : Aside0 (stR (takeR 16 s).2 = ((sn, sr), s2)) := ⟨by rw [HS1.out, ← hsn, ← hsr, ← hs2]⟩
        have HS : Aside0 (RdSt w0 w4 rb s2) := ⟨hs2 ▸ hst4⟩
        have HBU := Aside0.mk (built_lin sn sr id HD16.out)
        have HAD : Aside0 (ad.block < w4.heap.size) := ⟨by have h1 := HAD.out; have h2 := hg4.size; first | omega | (simp at h2; omega)⟩
        have HRR := Aside0.mk (HRR.out.grown hg4)
        have HX4 := Aside0.mk (blk_grown HX4.out hg4 (fun he => by injection he with he; have := HLT.out; have h4 := HN4.out; omega))
        have HG := Aside0.mk (HG.out.trans hg4)
        clear hst4 hg4 hsn hsr hs2
        refine tq (i := 12) (v := ?_) ?hy ?_
        case hy => (intro W_ hW_; refine Eq.trans (exec_build_cells 147 #[(0, .tmp 9), (1, .tmp 14)] ?_ (linC ⟨id, sn, sr, []⟩ none 0).toArray ?_) ?_ <;> first | with_reducible rfl | rfl | (simp only [List.map_toArray, List.map_cons, List.map_nil]; exact HBU.out))
        try simp only [Act.put, List.setIfInBounds_toArray, List.set_cons_zero, List.set_cons_succ]
        refine wpAnyH_ready (rs := [14]) (by kernel_rfl) (by simp) ?_
        refine AllReadyH.cons (by simp only [List.getElem?_toArray, List.getElem?_cons_succ, List.getElem?_cons_zero]; rfl) (fun K hK => ?_) AllReadyH.nil
        rw [if_pos (by rfl)]
        obtain ⟨cs, hcs⟩ : ∃ cs, (linC ⟨id, sn, sr, []⟩ none 0).toArray = cs := ⟨_, rfl⟩
        have hsz : cs.size = 19 := by rw [← hcs, List.size_toArray]; exact linC_len HD16.out none 0
        have HGB : Aside0 (ad.block ≠ w3.heap.size) := ⟨by have h2 := HAD.out; have h3 := HAD3.out; omega⟩
        have hst := storeA (g := w3.heap.size) (cs := cs) HX4.out (by rw [hsz]; rfl) (by rw [← hcs]; exact linC_one _ _ _)
        try rw [hcs]
        go_wp2_with fail
        refine hK.out _ _ (⟨hHeld.1.setRow (g := w3.heap.size) (by have := HN4.out; have := HLR.out; omega) _, hHeld.2.1.setRow HGB.out _, by rw [setRow_size]; exact hHeld.2.2⟩) (fun hHeld2 => ?_)
        clear hK K hHeld
        have hHeld := hHeld2
        clear hHeld2
        try simp only [Act.put, List.setIfInBounds_toArray, List.set_cons_zero, List.set_cons_succ]
        have hce : some (Obj.cells cs 147 (0, 0)) = some (Obj.cells (linC ⟨id, sn, sr, []⟩ none 0).toArray 147 (0, 0)) := by rw [hcs]
        have HX4 := Aside0.mk ((setRow_heap _ _ _ cs _ _ HX4.out).trans hce)
        have HS := Aside0.mk (HS.out.setRow (g := w3.heap.size) (by have := HN4.out; have := HLT.out; omega) (Nat.le_trans H.out.hrd.bel.size HN4.out) cs)
        have HRR := Aside0.mk (HRR.out.setRow (g := w3.heap.size) (by have := HN4.out; have := HLR.out; omega) cs)
        have HG := Aside0.mk (grown_row HG.out HN4.out cs)
        clear hst hsz hcs hce
        refine wpAnyH_done (by kernel_rfl) ?_ _
        obtain ⟨g4, hg4⟩ : ∃ g4 : Nat, g4 = w3.heap.size := ⟨_, rfl⟩
        have HN4 : Aside0 (W.heap.size ≤ g4) := ⟨by rw [hg4]; exact HN4.out⟩
        rw [← hg4] at HX4 HS HRR HG ⊢
        clear hg4
    case' b0_o_13 =>
      rw [if_pos (by rfl)]
      go_wp2_with fail
      refine hK.out _ _ (hHeld.below (below_alloc (Below.refl _ _) _)) (fun hHeld2 => ?_)
      clear hK K hHeld
      have hHeld := hHeld2
      clear hHeld2
      try simp only [Act.put, List.setIfInBounds_toArray, List.set_cons_zero, List.set_cons_succ]
      have HX4 : Aside0 ((W.drew.alloc (.cells #[.int .u8 0, .int .u8 0, .int .u8 0, .int .u8 0, .int .u8 0, .int .u8 0, .int .u8 0, .int .u8 0, .int .u8 0, .int .u8 0, .int .u8 0, .int .u8 0, .int .u8 0, .int .u8 0, .int .u8 0, .int .u8 0, .int .i64 0, .int .i64 0, .slice none 0 0] 147)).heap[W.heap.size]? = some (.cells #[.int .u8 0, .int .u8 0, .int .u8 0, .int .u8 0, .int .u8 0, .int .u8 0, .int .u8 0, .int .u8 0, .int .u8 0, .int .u8 0, .int .u8 0, .int .u8 0, .int .u8 0, .int .u8 0, .int .u8 0, .int .u8 0, .int .i64 0, .int .i64 0, .slice none 0 0] 147 (0, 0))) := ⟨blk_new _ _⟩
      have HN4 : Aside0 (W.heap.size ≤ W.heap.size) := ⟨HG.out.size⟩
      have HS := Aside0.mk (HS.out.below (below_alloc (Below.refl _ _) (.cells #[.int .u8 0, .int .u8 0, .int .u8 0, .int .u8 0, .int .u8 0, .int .u8 0, .int .u8 0, .int .u8 0, .int .u8 0, .int .u8 0, .int .u8 0, .int .u8 0, .int .u8 0, .int .u8 0, .int .u8 0, .int .u8 0, .int .i64 0, .int .i64 0, .slice none 0 0] 147)))
      have HRR := Aside0.mk (HRR.out.below (below_alloc (Below.refl _ _) (.cells #[.int .u8 0, .int .u8 0, .int .u8 0, .int .u8 0, .int .u8 0, .int .u8 0, .int .u8 0, .int .u8 0, .int .u8 0, .int .u8 0, .int .u8 0, .int .u8 0, .int .u8 0, .int .u8 0, .int .u8 0, .int .u8 0, .int .i64 0, .int .i64 0, .slice none 0 0] 147)))
      have HG := Aside0.mk (HG.out.trans (grown_of_below (below_alloc (Below.refl _ _) (.cells #[.int .u8 0, .int .u8 0, .int .u8 0, .int .u8 0, .int .u8 0, .int .u8 0, .int .u8 0, .int .u8 0, .int .u8 0, .int .u8 0, .int .u8 0, .int .u8 0, .int .u8 0, .int .u8 0, .int .u8 0, .int .u8 0, .int .i64 0, .int .i64 0, .slice none 0 0] 147)) (some rb)))
      refine wpAnyH_ready (rs := [4]) (by kernel_rfl) (by simp) ?_
      refine AllReadyH.cons (by simp only [List.getElem?_toArray, List.getElem?_cons_succ, List.getElem?_cons_zero]; rfl) (fun K hK => ?_) AllReadyH.nil
      rw [if_pos (by rfl)]
      go_wp2_with fail
      refine (skipx_call w0 _ rb s 16 true HS.out (by decide)).mono ?_
      rintro e_ w3 ⟨⟨⟨A3, c3, rfl, hc3, hr3⟩, hst3, hg3⟩, hblk⟩
      obtain ⟨ad, hA, hat⟩ := rdb_at hr3 (by decide)
      subst hA
      refine hK.out _ _ (hHeld.grown hg3) (fun hHeld2 => ?_)
      clear hK K hHeld
      have hHeld := hHeld2
      clear hHeld2
      try simp only [Act.put, List.setIfInBounds_toArray, List.set_cons_zero, List.set_cons_succ]
      have HBK := Aside0.mk (hblk (by decide) ad c3 rfl)
      clear hblk
      have har := fun W1 : World => run_arrayAt (P := Try.prog) (w := W1) 94 5 16 (some ad) 16 c3 Try.underlying94 (by decide)
      obtain ⟨id, hid⟩ : ∃ id, (takeR 16 s).1 = id := ⟨_, rfl⟩
      have hid' : (skipR s 16 true).1 = id := hid
      rw [hid'] at hat
      have HD16 : Aside0 (id.length = 16) := ⟨by rw [← hid]; exact skipR_len _ 16 true⟩
      have HID := Aside0.mk hid
      have HIDI := Aside0.mk (idInfo HD16.out)
      have HS : Aside0 (RdSt w0 w3 rb (takeR 16 s).2) := ⟨hst3⟩
      obtain ⟨s1, hs1⟩ : ∃ s1, (takeR 16 s).2 = s1 := ⟨_, rfl⟩
      rw [hs1] at HS
      have HS1 := Aside0.mk hs1
      have HNE : Aside0 (ad.block ≠ rb) := ⟨by
        obtain ⟨A, c, hr, _⟩ := HS.out.row
        exact At.ne hat (by rw [HD16.out]; decide) hr (fun _ _ => by simp)⟩
      have HAD : Aside0 (ad.block < w3.heap.size) := ⟨by
        have := hat 0 (.int .u8 (id.getD 0 0)) (by simp [cells8, List.getD_eq_getElem?_getD, HD16.out])
        rw [show ad.add 0 = ad from by simp [Addr.add]] at this
        exact World.block_lt_of_cell? w3 _ this⟩
      have HAD3 := Aside0.mk HAD.out
      have HRR := Aside0.mk (HRR.out.grown hg3)
      have HX4 := Aside0.mk (blk_grown HX4.out hg3 (fun he => by injection he with he; have := HLT.out; have h4 := HN4.out; omega))
      have HG := Aside0.mk (HG.out.trans hg3)
      refine wpAnyH_str (S2 := fun W' => RrAt W' rr rb rs ∧ At W' ad (cells8 id) ∧ ad.block < W'.heap.size) (fun _ h => h.1) _ _ _ _ ?_
      have hHeld := And.intro hHeld (And.intro hat HAD.out)
      clear hst3 hg3 hid hid' hat hs1 hr3 hc3
      refine tq (i := 5) (v := ?_) ?hy ?_
      case hy => (intro W_ hW_; go_simp; first | done | with_reducible rfl)
      try simp only [Act.put, List.setIfInBounds_toArray, List.set_cons_zero, List.set_cons_succ]
      refine tq (i := 6) (v := ?_) ?hy ?_
      case hy => (intro W_ hW_; refine Eq.trans (exec_load_cells 94 (.tmp 8) ?_ ad ?_ (cells8 id) _ hW_.2.1 Try.underlying94 rfl HIDI.out) ?_ <;> (first | with_reducible rfl | rfl))
      try simp only [Act.put, List.setIfInBounds_toArray, List.set_cons_zero, List.set_cons_succ]
      refine wpAnyH_ready (rs := [11]) (by kernel_rfl) (by simp) ?_
      refine AllReadyH.cons (by simp only [List.getElem?_toArray, List.getElem?_cons_succ, List.getElem?_cons_zero]; rfl) (fun K hK => ?_) AllReadyH.nil
      rw [if_pos (by rfl)]
      go_wp2_with fail
      refine (strd_call w0 _ rb s1 HS.out).mono ?_
      rintro e_ w4 ⟨rfl, hst4, hg4⟩
      refine hK.out _ _ (⟨hHeld.1.grown hg4, hHeld.2.1.grown hg4 (fun he => HNE.out (by injection he)) hHeld.2.2, Nat.lt_of_lt_of_le hHeld.2.2 hg4.size⟩) (fun hHeld2 => ?_)
      clear hK K hHeld
      have hHeld := hHeld2
      clear hHeld2
      try simp only [Act.put, List.setIfInBounds_toArray, List.set_cons_zero, List.set_cons_succ]
      obtain ⟨sn, hsn⟩ : ∃ sn, (stR s1).1.1 = sn := ⟨_, rfl⟩
      obtain ⟨sr, hsr⟩ : ∃ sr, (stR s1).1.2 = sr := ⟨_, rfl⟩
      obtain ⟨s2, hs2⟩ : ∃ s2, (stR s1).2 = s2 := ⟨_, rfl⟩
      rw [hsn, hsr]
      have HST : Aside0 (stR (takeR 16 s).2 = ((sn, sr), s2)) := ⟨by rw [HS1.out, ← hsn, ← hsr, ← hs2]⟩
      have HS : Aside0 (RdSt w0 w4 rb s2) := ⟨hs2 ▸ hst4⟩
      have HBU := Aside0.mk (built_lin sn sr id HD16.out)
      have HAD : Aside0 (ad.block < w4.heap.size) := ⟨by have h1 := HAD.out; have h2 := hg4.size; first | omega | (simp at h2; omega)⟩
      have HRR := Aside0.mk (HRR.out.grown hg4)
      have HX4 := Aside0.mk (blk_grown HX4.out hg4 (fun he => by injection he with he; have := HLT.out; have h4 := HN4.out; omega))
      have HG := Aside0.mk (HG.out.trans hg4)
      clear hst4 hg4 hsn hsr hs2
      refine tq (i := 12) (v := ?_) ?hy ?_
      case hy => (intro W_ hW_; refine Eq.trans (exec_build_cells 147 #[(0, .tmp 9), (1, .tmp 14)] ?_ (linC ⟨id, sn, sr, []⟩ none 0).toArray ?_) ?_ <;> first | with_reducible rfl | rfl | (simp only [List.map_toArray, List.map_cons, List.map_nil]; exact HBU.out))
      try simp only [Act.put, List.setIfInBounds_toArray, List.set_cons_zero, List.set_cons_succ]
      refine wpAnyH_ready (rs := [14]) (by kernel_rfl) (by simp) ?_
      refine AllReadyH.cons (by simp only [List.getElem?_toArray, List.getElem?_cons_succ, List.getElem?_cons_zero]; rfl) (fun K hK => ?_) AllReadyH.nil
      rw [if_pos (by rfl)]
      obtain ⟨cs, hcs⟩ : ∃ cs, (linC ⟨id, sn, sr, []⟩ none 0).toArray = cs := ⟨_, rfl⟩
      have hsz : cs.size = 19 := by rw [← hcs, List.size_toArray]; exact linC_len HD16.out none 0
      have HGB : Aside0 (ad.block ≠ W.heap.size) := ⟨by have h2 := HBK.out; have h3 := H.out.hrd.bel.size; rw [show (World.alloc W.drew (.cells #[.int .u8 0, .int .u8 0, .int .u8 0, .int .u8 0, .int .u8 0, .int .u8 0, .int .u8 0, .int .u8 0, .int .u8 0, .int .u8 0, .int .u8 0, .int .u8 0, .int .u8 0, .int .u8 0, .int .u8 0, .int .u8 0, .int .i64 0, .int .i64 0, .slice none 0 0] 147)).heap.size = W.heap.size + 1 from Array.size_push ..] at h2; omega⟩
      have hst := storeA (g := W.heap.size) (cs := cs) HX4.out (by rw [hsz]; rfl) (by rw [← hcs]; exact linC_one _ _ _)
      try rw [hcs]
      go_wp2_with fail
      refine hK.out _ _ (⟨hHeld.1.setRow (g := W.heap.size) (by have := HN4.out; have := HLR.out; omega) _, hHeld.2.1.setRow HGB.out _, by rw [setRow_size]; exact hHeld.2.2⟩) (fun hHeld2 => ?_)
      clear hK K hHeld
      have hHeld := hHeld2
      clear hHeld2
      try simp only [Act.put, List.setIfInBounds_toArray, List.set_cons_zero, List.set_cons_succ]
      have hce : some (Obj.cells cs 147 (0, 0)) = some (Obj.cells (linC ⟨id, sn, sr, []⟩ none 0).toArray 147 (0, 0)) := by rw [hcs]
      have HX4 := Aside0.mk ((setRow_heap _ _ _ cs _ _ HX4.out).trans hce)
      have HS := Aside0.mk (HS.out.setRow (g := W.heap.size) (by have := HN4.out; have := HLT.out; omega) (Nat.le_trans H.out.hrd.bel.size HN4.out) cs)
      have HRR := Aside0.mk (HRR.out.setRow (g := W.heap.size) (by have := HN4.out; have := HLR.out; omega) cs)
      have HG := Aside0.mk (grown_row HG.out HN4.out cs)
      clear hst hsz hcs hce
      refine wpAnyH_done (by kernel_rfl) ?_ _
      obtain ⟨g4, hg4⟩ : ∃ g4 : Nat, g4 = W.heap.size := ⟨_, rfl⟩
      have HN4 : Aside0 (W.heap.size ≤ g4) := ⟨by rw [hg4]; exact HN4.out⟩
      rw [← hg4] at HX4 HS HRR HG ⊢
      clear hg4
    all_goals
      have HT := Aside0.mk (LnSt.mk (W0 := W) (x := ⟨id, sn, sr, []⟩) HS.out HRR.out HG.out ⟨none, 0, HX4.out, Kd.R_nil _ _ _ _ _⟩ HN4.out ⟨HLT.out, HLR.out⟩ HD16.out)
      exact ⟨id, sn, sr, s2, _, _, _, _, _, _, _, _, _, _, _, _, _, _, _, _, _, _, _, _, _, _, _, _, _, _, _, _, _, _, _, _, _, _, _, _, _, _, _, _, _, _, rfl, HT.out, HID.out, HST.out⟩
  case refine_2 =>
    rintro a W5 ⟨id, sn, sr, s2, bx, u1, u3, u4, u5, u6, u7, u8, u9, u10, u11, u12, u13, u14, u15, u16, u17, u18, u19, u20, u21, u22, u23, u24, u25, u26, u27, u28, u29, u30, u31, u32, u33, u34, u35, u36, u37, u38, u39, u40, u41, u42, rfl, hT, hid, hst⟩
    have HT := Aside0.mk hT
    have HID := Aside0.mk hid
    have HST := Aside0.mk hst
    have HD16 := Aside0.mk hT.id
    have x0 := hT.hrr.cell
    clear hT hid hst HS HRR HG
    go_wp2_with fail
    refine (num_call w0 _ rb s2 8 HT.out.hrd (by decide) (by decide)).mono ?_
    rintro e_ w6 ⟨rfl, hst6, hg6⟩
    have hrg := numR_range 8 (by decide) s2 HT.out.hrd.byt HT.out.hrd.len
    obtain ⟨kk, hkk⟩ : ∃ kk : Nat, (numR 8 s2).1 = (kk : Int) := ⟨(numR 8 s2).1.toNat, by omega⟩
    have HKK : Aside0 (kk ≤ 8) := ⟨by omega⟩
    obtain ⟨s4, hs4⟩ : ∃ s4, (numR 8 s2).2 = s4 := ⟨_, rfl⟩
    have HRES : Aside0 (lineR s = (⟨id, sn, sr, (itR entryR kk s4).1⟩, (itR entryR kk s4).2)) := ⟨by
      unfold lineR
      rw [HID.out, HST.out]
      dsimp only
      rw [hkk, hs4, Int.toNat_natCast]⟩
    rw [hkk]
    rw [hs4] at hst6
    have HT6 : Aside0 (LnSt W w0 w6 rb rr rs bx ⟨id, sn, sr, []⟩ s4) := ⟨by
      obtain ⟨A, c, hb, hR⟩ := HT.out.box
      exact ⟨hst6, HT.out.hrr.grown hg6, HT.out.hgr.trans hg6, ⟨A, c, blk_grown hb hg6 (fun he => by injection he with he; have := HT.out.lo; have h2 := HLT.out; omega), R_old hR hg6 HLT.out⟩, HT.out.lo, HT.out.old, HT.out.id⟩⟩
    clear hst6 hg6 hrg hkk hs4 x0
    go_wp2_with fail
    go_loopg [21] kk (fun kq v21 Wl => ∃ i : Nat, v21 = .int .i64 i ∧ Aside0 (kq + i = kk) ∧ Aside0 (LnSt W w0 Wl rb rr rs bx ⟨id, sn, sr, (itR entryR i s4).1⟩ (itR entryR i s4).2))
    case atStart => exact ⟨0, rfl, ⟨rfl⟩, HT6⟩
    case round =>
      obtain ⟨i, rfl, HK, HTI⟩ := hrel
      by_cases hi : i < kk
      · have c0 : decide ((i : Int) < (kk : Int)) = true := by simpa using hi
        have c1 : ((i : Int) < (kk : Int)) = True := by simpa using hi
        have c2 : IntKind.i64.wrap ((i : Int) + 1) = ((i + 1 : Nat) : Int) := by have := HKK.out; simp [IntKind.wrap, IntKind.bits, IntKind.signed]; omega
        have HI := Aside0.mk hi
        have HIT : Aside0 (itR entryR (i + 1) s4 = ((itR entryR i s4).1 ++ [(entryR (itR entryR i s4).2).1], (entryR (itR entryR i s4).2).2)) := ⟨rfl⟩
        have HLI : Aside0 ((itR entryR i s4).1.length = i) := ⟨itR_len entryR i s4⟩
        obtain ⟨l, hl⟩ : ∃ l, (itR entryR i s4).1 = l := ⟨_, rfl⟩
        obtain ⟨s5, hs5⟩ : ∃ s5, (itR entryR i s4).2 = s5 := ⟨_, rfl⟩
        rw [hl, hs5] at HTI HIT
        rw [hl] at HLI
        obtain ⟨y, hy⟩ : ∃ y, (entryR s5).1 = y := ⟨_, rfl⟩
        obtain ⟨s6, hs6⟩ : ∃ s6, (entryR s5).2 = s6 := ⟨_, rfl⟩
        rw [hy, hs6] at HIT
        have HY := Aside0.mk hy
        have HS6 := Aside0.mk hs6
        obtain ⟨r, hr⟩ : ∃ r, l ++ [y] = r := ⟨_, rfl⟩
        rw [hr] at HIT
        have HR' := Aside0.mk hr
        obtain ⟨A6, c6, hbx, hRx⟩ := HTI.out.box
        have HBX : Aside0 (wr.drew.heap[bx]? = _) := ⟨hbx⟩
        have HRX := Aside0.mk (Kd.R_below hRx (below_drew (Below.refl wr.heap.size wr)))
        have HS := Aside0.mk (HTI.out.hrd.below (below_drew (Below.refl wr.heap.size wr)))
        have HRR := Aside0.mk (HTI.out.hrr.below (below_drew (Below.refl wr.heap.size wr)))
        have HG := Aside0.mk (grown_drew HTI.out.hgr)
        clear hi hl hs5 hy hs6 hr hbx hRx
        go_wp2_with fail
        refine wp_region_held_drew (S := (fun _ => True)) (by kernel_rfl) (trivial) (fun hHeld => ?_)
        refine tq (i := 0) (v := ?_) ?hy ?_
        case hy => (intro W_ hW_; go_simp; first | done | with_reducible rfl)
        try simp only [Act.put, List.setIfInBounds_toArray, List.set_cons_zero, List.set_cons_succ]
        refine tq (i := 2) (v := ?_) ?hy ?_
        case hy => (intro W_ hW_; go_simp; first | done | with_reducible rfl)
        try simp only [Act.put, List.setIfInBounds_toArray, List.set_cons_zero, List.set_cons_succ]
        refine wpAnyH_ready (rs := [1, 3]) (by kernel_rfl) (by simp) ?_
        refine AllReadyH.cons (by simp only [List.getElem?_toArray, List.getElem?_cons_succ, List.getElem?_cons_zero]; rfl) (fun K hK => ?b3_o_1) (AllReadyH.cons (by simp only [List.getElem?_toArray, List.getElem?_cons_succ, List.getElem?_cons_zero]; rfl) (fun K hK => ?b3_o_3) AllReadyH.nil)
        case' b3_o_1 =>
          rw [if_pos (by rfl)]
          have f18 := (blk_cell HBX.out 18).trans (linC_at HD16.out A6 c6).2.2
          go_wp2_with fail
          refine hK.out _ _ (trivial) (fun hHeld2 => ?_)
          clear hK K hHeld
          have hHeld := hHeld2
          clear hHeld2
          try simp only [Act.put, List.setIfInBounds_toArray, List.set_cons_zero, List.set_cons_succ]
          clear f18
          refine wpAnyH_ready (rs := [3]) (by kernel_rfl) (by simp) ?_
          refine AllReadyH.cons (by simp only [List.getElem?_toArray, List.getElem?_cons_succ, List.getElem?_cons_zero]; rfl) (fun K hK => ?_) AllReadyH.nil
          rw [if_pos (by rfl)]
          go_wp2_with fail
          refine (entrd_call w0 _ rb rr rs s5 HS.out HRR.out).mono ?_
          rintro e_ w7 ⟨Ae, ce, rfl, hRe, hst7, hg7, hd7⟩
          refine hK.out _ _ (trivial) (fun hHeld2 => ?_)
          clear hK K hHeld
          have hHeld := hHeld2
          clear hHeld2
          try simp only [Act.put, List.setIfInBounds_toArray, List.set_cons_zero, List.set_cons_succ]
          rw [HY.out] at hRe hd7 ⊢
          have HWL := Aside0.mk hg7.size
          have HME := Aside0.mk (entK_M hd7 (Kd.R_bound hRe))
          have HMB : Aside0 (∀ k, (True ∧ (wr.drew).heap.size ≤ k ∧ k < w7.heap.size ∧ ∃ q, q ∈ 30 :: sgK.E ∧ ∃ cells, w7.heap[k]? = some (.cells cells q (0, 0))) → True ∧ some k ≠ Value.ownBlock (.slice A6 l.length c6)) := ⟨fun k hk => ⟨trivial, fun he => by
            obtain ⟨inner, ho⟩ := Kd.R_own HRX.out
            have h1 := own_lt ho k he.symm
            have h2 := hk.2.1
            omega⟩⟩
          have HE37 : Aside0 ((entC y Ae ce).toArray.size = 37) := ⟨by rw [List.size_toArray]; exact entC_len hd7 Ae ce⟩
          have HBX := Aside0.mk (blk_grown HBX.out hg7 (fun he => by injection he with he; have := HLT.out; have h4 := HTI.out.lo; omega))
          have HRX := Aside0.mk (R_old HRX.out hg7 HLT.out)
          have HRR := Aside0.mk (HRR.out.grown hg7)
          have HG0 := HG.out.size
          have HG := Aside0.mk (HG.out.trans hg7)
          have HS : Aside0 (RdSt w0 w7 rb s6) := ⟨HS6.out ▸ hst7⟩
          clear hst7 hg7 hRe hd7
          refine wpAnyH_ready (rs := [4]) (by kernel_rfl) (by simp) ?_
          refine AllReadyH.cons (by simp only [List.getElem?_toArray, List.getElem?_cons_succ, List.getElem?_cons_zero]; rfl) (fun K hK => ?_) AllReadyH.nil
          rw [if_pos (by rfl)]
          refine wp_buildSlice_one 145 149 (.tmp 26) rfl 37 (entC y Ae ce).toArray _ Try.underlying145 zeroEnt2 HE37.out.symm (by decide) (by decide) (by rfl) ?_
          refine hK.out _ _ (trivial) (fun hHeld2 => ?_)
          clear hK K hHeld
          have hHeld := hHeld2
          clear hHeld2
          try simp only [Act.put, List.setIfInBounds_toArray, List.set_cons_zero, List.set_cons_succ]
          refine wpAnyH_ready (rs := [5]) (by kernel_rfl) (by simp) ?_
          refine AllReadyH.cons (by simp only [List.getElem?_toArray, List.getElem?_cons_succ, List.getElem?_cons_zero]; rfl) (fun K hK => ?_) AllReadyH.nil
          refine Kd.R_append_step entK (w0 := w7) W.heap.size (by rfl) (.tmp 24) (.tmp 27) 145 149 _ 88 rfl Try.underlying145 zeroEnt3 rfl (by decide) (by decide) (.slice A6 l.length c6) l y (entC y Ae ce) (fun _ => True) _ (by rfl) (by rfl) (entK.M_lower HG0 HME.out) HMB.out (fun _ _ => trivial) HRX.out (Below.refl _ _) HG.out.size (by have := HLI.out; have h2 := HKK.out; have h3 := HI.out; omega) ?_
          intro v8 w8 hR8 hB8 hg8 hat8
          rw [HR'.out] at hR8
          obtain ⟨A7, c7, rfl⟩ := Kd.R_slice hR8
          refine hK.out _ _ (trivial) (fun hHeld2 => ?_)
          clear hK K hHeld
          have hHeld := hHeld2
          clear hHeld2
          try simp only [Act.put, List.setIfInBounds_toArray, List.set_cons_zero, List.set_cons_succ]
          have hhi := own_hi HRX.out
          have HBX := Aside0.mk (blk_grown HBX.out hg8 (Kd.R_ne HRX.out HBX.out (by decide)))
          have HRR := Aside0.mk (HRR.out.other hg8 (fun he => by have := hhi _ he.symm; have h4 := HLR.out; omega))
          have HS := Aside0.mk (HS.out.grown hg8 (fun he => by have := hhi _ he.symm; have h4 := HLT.out; omega) (below_grown HS.out.bel hg8 HS.out.bel.size (fun k hk => by have := hhi _ hk; have h4 := H.out.hrd.bel.size; omega)))
          have HG := Aside0.mk (HG.out.andThen hg8 (fun k hk => .inl (hhi _ hk)))
          have HRX := Aside0.mk hR8
          clear hR8 hB8 hg8 hat8 hhi
          refine tq (i := 6) (v := ?_) ?hy ?_
          case hy => (intro W_ hW_; go_simp; first | done | with_reducible rfl)
          try simp only [Act.put, List.setIfInBounds_toArray, List.set_cons_zero, List.set_cons_succ]
          refine wpAnyH_ready (rs := [7]) (by kernel_rfl) (by simp) ?_
          refine AllReadyH.cons (by simp only [List.getElem?_toArray, List.getElem?_cons_succ, List.getElem?_cons_zero]; rfl) (fun K hK => ?_) AllReadyH.nil
          rw [if_pos (by rfl)]
          have f18 := (blk_cell HBX.out 18).trans (linC_at HD16.out A6 c6).2.2
          have z18 := blk_frozen HBX.out 18
          go_wp2_with fail
          refine hK.out _ _ (trivial) (fun hHeld2 => ?_)
          clear hK K hHeld
          have hHeld := hHeld2
          clear hHeld2
          try simp only [Act.put, List.setIfInBounds_toArray, List.set_cons_zero, List.set_cons_succ]
          have HRX := Aside0.mk (Kd.R_set HRX.out HBX.out (ent_types 147 (by decide) (by decide)) 18 (.slice A7 r.length c7))
          have HRR := Aside0.mk (HRR.out.set (g := bx) (by have := HLR.out; have h4 := HTI.out.lo; omega) 18 (.slice A7 r.length c7))
          have HS := Aside0.mk (HS.out.set (g := bx) (by have := HLT.out; have h4 := HTI.out.lo; omega) (Nat.le_trans H.out.hrd.bel.size HTI.out.lo) 18 (.slice A7 r.length c7))
          have HG := Aside0.mk (grown_setn HG.out HTI.out.lo 18 (.slice A7 r.length c7))
          have HBX := Aside0.mk (blk_put HBX.out 18 (.slice A7 r.length c7) (linC_set (x := ⟨id, sn, sr, l⟩) HD16.out A6 A7 c6 c7 r))
          clear f18 z18
          refine wpAnyH_done (by kernel_rfl) ?_ _
        case' b3_o_3 =>
          rw [if_pos (by rfl)]
          go_wp2_with fail
          refine (entrd_call w0 _ rb rr rs s5 HS.out HRR.out).mono ?_
          rintro e_ w7 ⟨Ae, ce, rfl, hRe, hst7, hg7, hd7⟩
          refine hK.out _ _ (trivial) (fun hHeld2 => ?_)
          clear hK K hHeld
          have hHeld := hHeld2
          clear hHeld2
          try simp only [Act.put, List.setIfInBounds_toArray, List.set_cons_zero, List.set_cons_succ]
          rw [HY.out] at hRe hd7 ⊢
          have HWL := Aside0.mk hg7.size
          have HME := Aside0.mk (entK_M hd7 (Kd.R_bound hRe))
          have HMB : Aside0 (∀ k, (True ∧ (wr.drew).heap.size ≤ k ∧ k < w7.heap.size ∧ ∃ q, q ∈ 30 :: sgK.E ∧ ∃ cells, w7.heap[k]? = some (.cells cells q (0, 0))) → True ∧ some k ≠ Value.ownBlock (.slice A6 l.length c6)) := ⟨fun k hk => ⟨trivial, fun he => by
            obtain ⟨inner, ho⟩ := Kd.R_own HRX.out
            have h1 := own_lt ho k he.symm
            have h2 := hk.2.1
            omega⟩⟩
          have HE37 : Aside0 ((entC y Ae ce).toArray.size = 37) := ⟨by rw [List.size_toArray]; exact entC_len hd7 Ae ce⟩
          have HBX := Aside0.mk (blk_grown HBX.out hg7 (fun he => by injection he with he; have := HLT.out; have h4 := HTI.out.lo; omega))
          have HRX := Aside0.mk (R_old HRX.out hg7 HLT.out)
          have HRR := Aside0.mk (HRR.out.grown hg7)
          have HG0 := HG.out.size
          have HG := Aside0.mk (HG.out.trans hg7)
          have HS : Aside0 (RdSt w0 w7 rb s6) := ⟨HS6.out ▸ hst7⟩
          clear hst7 hg7 hRe hd7
          refine wpAnyH_ready (rs := [1, 4]) (by kernel_rfl) (by simp) ?_
          refine AllReadyH.cons (by simp only [List.getElem?_toArray, List.getElem?_cons_succ, List.getElem?_cons_zero]; rfl) (fun K hK => ?b3_3_1) (AllReadyH.cons (by simp only [List.getElem?_toArray, List.getElem?_cons_succ, List.getElem?_cons_zero]; rfl) (fun K hK => ?b3_3_4) AllReadyH.nil)
          case' b3_3_1 =>
            rw [if_pos (by rfl)]
            have f18 := (blk_cell HBX.out 18).trans (linC_at HD16.out A6 c6).2.2
            go_wp2_with fail
            refine hK.out _ _ (trivial) (fun hHeld2 => ?_)
            clear hK K hHeld
            have hHeld := hHeld2
            clear hHeld2
            try simp only [Act.put, List.setIfInBounds_toArray, List.set_cons_zero, List.set_cons_succ]
            clear f18
            refine wpAnyH_ready (rs := [4]) (by kernel_rfl) (by simp) ?_
            refine AllReadyH.cons (by simp only [List.getElem?_toArray, List.getElem?_cons_succ, List.getElem?_cons_zero]; rfl) (fun K hK => ?_) AllReadyH.nil
            rw [if_pos (by rfl)]
            refine wp_buildSlice_one 145 149 (.tmp 26) rfl 37 (entC y Ae ce).toArray _ Try.underlying145 zeroEnt2 HE37.out.symm (by decide) (by decide) (by rfl) ?_
            refine hK.out _ _ (trivial) (fun hHeld2 => ?_)
            clear hK K hHeld
            have hHeld := hHeld2
            clear hHeld2
            try simp only [Act.put, List.setIfInBounds_toArray, List.set_cons_zero, List.set_cons_succ]
            refine wpAnyH_ready (rs := [5]) (by kernel_rfl) (by simp) ?_
            refine AllReadyH.cons (by simp only [List.getElem?_toArray, List.getElem?_cons_succ, List.getElem?_cons_zero]; rfl) (fun K hK => ?_) AllReadyH.nil
            refine Kd.R_append_step entK (w0 := w7) W.heap.size (by rfl) (.tmp 24) (.tmp 27) 145 149 _ 88 rfl Try.underlying145 zeroEnt3 rfl (by decide) (by decide) (.slice A6 l.length c6) l y (entC y Ae ce) (fun _ => True) _ (by rfl) (by rfl) (entK.M_lower HG0 HME.out) HMB.out (fun _ _ => trivial) HRX.out (Below.refl _ _) HG.out.size (by have := HLI.out; have h2 := HKK.out; have h3 := HI.out; omega) ?_
            intro v8 w8 hR8 hB8 hg8 hat8
            rw [HR'.out] at hR8
            obtain ⟨A7, c7, rfl⟩ := Kd.R_slice hR8
            refine hK.out _ _ (trivial) (fun hHeld2 => ?_)
            clear hK K hHeld
            have hHeld := hHeld2
            clear hHeld2
            try simp only [Act.put, List.setIfInBounds_toArray, List.set_cons_zero, List.set_cons_succ]
            have hhi := own_hi HRX.out
            have HBX := Aside0.mk (blk_grown HBX.out hg8 (Kd.R_ne HRX.out HBX.out (by decide)))
            have HRR := Aside0.mk (HRR.out.other hg8 (fun he => by have := hhi _ he.symm; have h4 := HLR.out; omega))
            have HS := Aside0.mk (HS.out.grown hg8 (fun he => by have := hhi _ he.symm; have h4 := HLT.out; omega) (below_grown HS.out.bel hg8 HS.out.bel.size (fun k hk => by have := hhi _ hk; have h4 := H.out.hrd.bel.size; omega)))
            have HG := Aside0.mk (HG.out.andThen hg8 (fun k hk => .inl (hhi _ hk)))
            have HRX := Aside0.mk hR8
            clear hR8 hB8 hg8 hat8 hhi
            refine tq (i := 6) (v := ?_) ?hy ?_
            case hy => (intro W_ hW_; go_simp; first | done | with_reducible rfl)
            try simp only [Act.put, List.setIfInBounds_toArray, List.set_cons_zero, List.set_cons_succ]
            refine wpAnyH_ready (rs := [7]) (by kernel_rfl) (by simp) ?_
            refine AllReadyH.cons (by simp only [List.getElem?_toArray, List.getElem?_cons_succ, List.getElem?_cons_zero]; rfl) (fun K hK => ?_) AllReadyH.nil
            rw [if_pos (by rfl)]
            have f18 := (blk_cell HBX.out 18).trans (linC_at HD16.out A6 c6).2.2
            have z18 := blk_frozen HBX.out 18
            go_wp2_with fail
            refine hK.out _ _ (trivial) (fun hHeld2 => ?_)
            clear hK K hHeld
            have hHeld := hHeld2
            clear hHeld2
            try simp only [Act.put, List.setIfInBounds_toArray, List.set_cons_zero, List.set_cons_succ]
            have HRX := Aside0.mk (Kd.R_set HRX.out HBX.out (ent_types 147 (by decide) (by decide)) 18 (.slice A7 r.length c7))
            have HRR := Aside0.mk (HRR.out.set (g := bx) (by have := HLR.out; have h4 := HTI.out.lo; omega) 18 (.slice A7 r.length c7))
            have HS := Aside0.mk (HS.out.set (g := bx) (by have := HLT.out; have h4 := HTI.out.lo; omega) (Nat.le_trans H.out.hrd.bel.size HTI.out.lo) 18 (.slice A7 r.length c7))
            have HG := Aside0.mk (grown_setn HG.out HTI.out.lo 18 (.slice A7 r.length c7))
            have HBX := Aside0.mk (blk_put HBX.out 18 (.slice A7 r.length c7) (linC_set (x := ⟨id, sn, sr, l⟩) HD16.out A6 A7 c6 c7 r))
            clear f18 z18
            refine wpAnyH_done (by kernel_rfl) ?_ _
          case' b3_3_4 =>
            rw [if_pos (by rfl)]
            refine wp_buildSlice_one 145 149 (.tmp 26) rfl 37 (entC y Ae ce).toArray _ Try.underlying145 zeroEnt2 HE37.out.symm (by decide) (by decide) (by rfl) ?_
            refine hK.out _ _ (trivial) (fun hHeld2 => ?_)
            clear hK K hHeld
            have hHeld := hHeld2
            clear hHeld2
            try simp only [Act.put, List.setIfInBounds_toArray, List.set_cons_zero, List.set_cons_succ]
            refine wpAnyH_ready (rs := [1]) (by kernel_rfl) (by simp) ?_
            refine AllReadyH.cons (by simp only [List.getElem?_toArray, List.getElem?_cons_succ, List.getElem?_cons_zero]; rfl) (fun K hK => ?_) AllReadyH.nil
            rw [if_pos (by rfl)]
            have f18 := (blk_cell (blk_alloc HBX.out (.cells (entC y Ae ce).toArray 149)) 18).trans (linC_at HD16.out A6 c6).2.2
            go_wp2_with fail
            refine hK.out _ _ (trivial) (fun hHeld2 => ?_)
            clear hK K hHeld
            have hHeld := hHeld2
            clear hHeld2
            try simp only [Act.put, List.setIfInBounds_toArray, List.set_cons_zero, List.set_cons_succ]
            clear f18
            refine wpAnyH_ready (rs := [5]) (by kernel_rfl) (by simp) ?_
            refine AllReadyH.cons (by simp only [List.getElem?_toArray, List.getElem?_cons_succ, List.getElem?_cons_zero]; rfl) (fun K hK => ?_) AllReadyH.nil
            refine Kd.R_append_step entK (w0 := w7) W.heap.size (by rfl) (.tmp 24) (.tmp 27) 145 149 _ 88 rfl Try.underlying145 zeroEnt3 rfl (by decide) (by decide) (.slice A6 l.length c6) l y (entC y Ae ce) (fun _ => True) _ (by rfl) (by rfl) (entK.M_lower HG0 HME.out) HMB.out (fun _ _ => trivial) HRX.out (Below.refl _ _) HG.out.size (by have := HLI.out; have h2 := HKK.out; have h3 := HI.out; omega) ?_
            intro v8 w8 hR8 hB8 hg8 hat8
            rw [HR'.out] at hR8
            obtain ⟨A7, c7, rfl⟩ := Kd.R_slice hR8
            refine hK.out _ _ (trivial) (fun hHeld2 => ?_)
            clear hK K hHeld
            have hHeld := hHeld2
            clear hHeld2
            try simp only [Act.put, List.setIfInBounds_toArray, List.set_cons_zero, List.set_cons_succ]
            have hhi := own_hi HRX.out
            have HBX := Aside0.mk (blk_grown HBX.out hg8 (Kd.R_ne HRX.out HBX.out (by decide)))
            have HRR := Aside0.mk (HRR.out.other hg8 (fun he => by have := hhi _ he.symm; have h4 := HLR.out; omega))
            have HS := Aside0.mk (HS.out.grown hg8 (fun he => by have := hhi _ he.symm; have h4 := HLT.out; omega) (below_grown HS.out.bel hg8 HS.out.bel.size (fun k hk => by have := hhi _ hk; have h4 := H.out.hrd.bel.size; omega)))
            have HG := Aside0.mk (HG.out.andThen hg8 (fun k hk => .inl (hhi _ hk)))
            have HRX := Aside0.mk hR8
            clear hR8 hB8 hg8 hat8 hhi
            refine tq (i := 6) (v := ?_) ?hy ?_
            case hy => (intro W_ hW_; go_simp; first | done | with_reducible rfl)
            try simp only [Act.put, List.setIfInBounds_toArray, List.set_cons_zero, List.set_cons_succ]
            refine wpAnyH_ready (rs := [7]) (by kernel_rfl) (by simp) ?_
            refine AllReadyH.cons (by simp only [List.getElem?_toArray, List.getElem?_cons_succ, List.getElem?_cons_zero]; rfl) (fun K hK => ?_) AllReadyH.nil
            rw [if_pos (by rfl)]
            have f18 := (blk_cell HBX.out 18).trans (linC_at HD16.out A6 c6).2.2
            have z18 := blk_frozen HBX.out 18
            go_wp2_with fail
            refine hK.out _ _ (trivial) (fun hHeld2 => ?_)
            clear hK K hHeld
            have hHeld := hHeld2
            clear hHeld2
            try simp only [Act.put, List.setIfInBounds_toArray, List.set_cons_zero, List.set_cons_succ]
            have HRX := Aside0.mk (Kd.R_set HRX.out HBX.out (ent_types 147 (by decide) (by decide)) 18 (.slice A7 r.length c7))
            have HRR := Aside0.mk (HRR.out.set (g := bx) (by have := HLR.out; have h4 := HTI.out.lo; omega) 18 (.slice A7 r.length c7))
            have HS := Aside0.mk (HS.out.set (g := bx) (by have := HLT.out; have h4 := HTI.out.lo; omega) (Nat.le_trans H.out.hrd.bel.size HTI.out.lo) 18 (.slice A7 r.length c7))
            have HG := Aside0.mk (grown_setn HG.out HTI.out.lo 18 (.slice A7 r.length c7))
            have HBX := Aside0.mk (blk_put HBX.out 18 (.slice A7 r.length c7) (linC_set (x := ⟨id, sn, sr, l⟩) HD16.out A6 A7 c6 c7 r))
            clear f18 z18
            refine wpAnyH_done (by kernel_rfl) ?_ _
        all_goals
          have HT7 : Aside0 (LnSt W w0 _ rb rr rs bx ⟨id, sn, sr, (itR entryR (i + 1) s4).1⟩ (itR entryR (i + 1) s4).2) := ⟨by rw [HIT.out]; exact ⟨HS.out, HRR.out, HG.out, ⟨A7, c7, HBX.out, HRX.out⟩, HTI.out.lo, HTI.out.old, HTI.out.id⟩⟩
          clear hHeld
          go_wp2_with fail
          go_roundg (kk - (i + 1))
          case measure => have := HK.out; have := HI.out; omega
          case rel => exact ⟨i + 1, by first | rfl | (simp [c2]; done), ⟨by have := HI.out; omega⟩, HT7⟩
      · have c0 : decide ((i : Int) < (kk : Int)) = false := by simpa using hi
        have c1 : ((i : Int) < (kk : Int)) = False := by simpa using hi
        have hik : i = kk := by have := HK.out; omega
        subst hik
        obtain ⟨f, hf⟩ : ∃ f, (itR entryR i s4).1 = f := ⟨_, rfl⟩
        obtain ⟨s7, hs7⟩ : ∃ s7, (itR entryR i s4).2 = s7 := ⟨_, rfl⟩
        rw [hf, hs7] at HTI HRES
        obtain ⟨A4, c4, hbx, hRx⟩ := HTI.out.box
        have HMX := Aside0.mk (linK_M (x := ⟨id, sn, sr, f⟩) HD16.out (Kd.R_below hRx (below_drew (Below.refl wr.heap.size wr))))
        obtain ⟨cl, hcl⟩ : ∃ cl, linC ⟨id, sn, sr, f⟩ A4 c4 = cl := ⟨_, rfl⟩
        rw [hcl] at hbx HMX
        have hsz : cl.length = 19 := by rw [← hcl]; exact linC_len HD16.out A4 c4
        have HSZ := Aside0.mk hsz
        have HINF : Aside0 ((Try.prog.info? 147).map (·.size) = some cl.toArray.size) := ⟨by rw [List.size_toArray, hsz]; exact infoLin⟩
        have HBX : Aside0 (wr.drew.heap[bx]? = some (.cells cl.toArray 147 (0, 0))) := ⟨hbx⟩
        obtain ⟨A8, c8, hb8, hR8⟩ := H.out.box
        have hRl := R_lines hR8 H.out.hrd (grown_drew HTI.out.hgr)
        have HRL := Aside0.mk hRl
        have hrr := blk_grown hb8 (grown_drew HTI.out.hgr) (fun he => H.out.ne (by injection he))
        have HRK := Aside0.mk hrr
        have HS := Aside0.mk (HTI.out.hrd.below (below_drew (Below.refl wr.heap.size wr)))
        have HG := Aside0.mk (grown_drew HTI.out.hgr)
        obtain ⟨r, hr⟩ : ∃ r, ls ++ [(⟨id, sn, sr, f⟩ : Lin)] = r := ⟨_, rfl⟩
        have HR' := Aside0.mk hr
        clear hi hf hs7 hbx hRx hcl hsz hb8 hR8 hRl hrr hr
        go_wp2_with fail
        refine wp_region_held_drew (S := (fun W => W.heap[bx]? = some (.cells cl.toArray 147 (0, 0)))) (by kernel_rfl) (HBX.out) (fun hHeld => ?_)
        refine tq (i := 0) (v := ?_) ?hy ?_
        case hy => (intro W_ hW_; go_simp; first | done | with_reducible rfl)
        try simp only [Act.put, List.setIfInBounds_toArray, List.set_cons_zero, List.set_cons_succ]
        refine tq (i := 1) (v := ?_) ?hy ?_
        case hy => (intro W_ hW_; go_simp; first | done | with_reducible rfl)
        try simp only [Act.put, List.setIfInBounds_toArray, List.set_cons_zero, List.set_cons_succ]
        refine tq (i := 2) (v := ?_) ?hy ?_
        case hy => (intro W_ hW_; go_simp; first | done | with_reducible rfl)
        try simp only [Act.put, List.setIfInBounds_toArray, List.set_cons_zero, List.set_cons_succ]
        refine tq (i := 3) (v := ?_) ?hy ?_
        case hy => (intro W_ hW_; go_simp; first | done | with_reducible rfl)
        try simp only [Act.put, List.setIfInBounds_toArray, List.set_cons_zero, List.set_cons_succ]
        refine tq (i := 4) (v := ?_) ?hy ?_
        case hy => (intro W_ hW_; go_simp; first | done | with_reducible rfl)
        try simp only [Act.put, List.setIfInBounds_toArray, List.set_cons_zero, List.set_cons_succ]
        refine tq (i := 6) (v := ?_) ?hy ?_
        case hy => (intro W_ hW_; refine Eq.trans (exec_load_row 147 (.tmp 2) ?_ bx ?_ 147 cl.toArray (0, 0) _ hW_ Try.underlying147 rfl HINF.out) ?_ <;> (first | with_reducible rfl | rfl))
        try simp only [Act.put, List.setIfInBounds_toArray, List.set_cons_zero, List.set_cons_succ]
        refine wpAnyH_ready (rs := [5, 7]) (by kernel_rfl) (by simp) ?_
        refine AllReadyH.cons (by simp only [List.getElem?_toArray, List.getElem?_cons_succ, List.getElem?_cons_zero]; rfl) (fun K hK => ?b5_o_5) (AllReadyH.cons (by simp only [List.getElem?_toArray, List.getElem?_cons_succ, List.getElem?_cons_zero]; rfl) (fun K hK => ?b5_o_7) AllReadyH.nil)
        case' b5_o_5 =>
          rw [if_pos (by rfl)]
          have f33 := (blk_cell HRK.out 33).trans (rdC_33 H.out.b32 rb ls A8 c8)
          go_wp2_with fail
          refine hK.out _ _ (hHeld) (fun hHeld2 => ?_)
          clear hK K hHeld
          have hHeld := hHeld2
          clear hHeld2
          try simp only [Act.put, List.setIfInBounds_toArray, List.set_cons_zero, List.set_cons_succ]
          clear f33
          try clear f33b
          refine wpAnyH_ready (rs := [7]) (by kernel_rfl) (by simp) ?_
          refine AllReadyH.cons (by simp only [List.getElem?_toArray, List.getElem?_cons_succ, List.getElem?_cons_zero]; rfl) (fun K hK => ?_) AllReadyH.nil
          rw [if_pos (by rfl)]
          refine wp_buildSlice_one 69 147 (.tmp 37) rfl 19 cl.toArray _ Try.underlying69 zeroLin2 (by rw [List.size_toArray]; exact HSZ.out.symm) (by decide) (by decide) (by rfl) ?_
          refine hK.out _ _ (blk_alloc hHeld _) (fun hHeld2 => ?_)
          clear hK K hHeld
          have hHeld := hHeld2
          clear hHeld2
          try simp only [Act.put, List.setIfInBounds_toArray, List.set_cons_zero, List.set_cons_succ]
          refine wpAnyH_ready (rs := [8]) (by kernel_rfl) (by simp) ?_
          refine AllReadyH.cons (by simp only [List.getElem?_toArray, List.getElem?_cons_succ, List.getElem?_cons_zero]; rfl) (fun K hK => ?_) AllReadyH.nil
          refine Kd.R_append_step linK (w0 := wr.drew) w0.heap.size (by rfl) (.tmp 36) (.tmp 38) 69 147 _ 56 rfl Try.underlying69 zeroLin3 rfl (by decide) (by decide) (.slice A8 ls.length c8) ls (⟨id, sn, sr, f⟩ : Lin) cl (fun _ => True) _ (by rfl) (by rfl) (linK.M_lower H.out.hrd.bel.size (linK.M_bound HMX.out)) (fun k hk => ⟨trivial, fun he => by have h1 := HRL.out.1 k he.symm; have h2 := hk.2.1; omega⟩) (fun _ _ => trivial) (Kd.R_mono HRL.out (fun _ _ => trivial)) (Below.refl _ _) HS.out.bel.size (by have := HLS.out; omega) ?_
          intro v9 w9 hR9 hB9 hg9 hat9
          rw [HR'.out] at hR9
          obtain ⟨A9, c9, rfl⟩ := Kd.R_slice hR9
          refine hK.out _ _ ((blk_grown HBX.out hg9 (fun he => by have h1 := HRL.out.1 bx he.symm; have h2 := HTI.out.lo; omega))) (fun hHeld2 => ?_)
          clear hK K hHeld
          have hHeld := hHeld2
          clear hHeld2
          try simp only [Act.put, List.setIfInBounds_toArray, List.set_cons_zero, List.set_cons_succ]
          have hhi := own_hi HRL.out
          have HRK := Aside0.mk (blk_grown HRK.out hg9 (Kd.R_ne HRL.out HRK.out (by decide)))
          have HNB : Aside0 (some rb ≠ Value.ownBlock (.slice A8 ls.length c8)) := ⟨by
            obtain ⟨A, c, hr, _⟩ := HS.out.row
            exact Kd.R_ne HRL.out hr (by decide)⟩
          have HS := Aside0.mk (HS.out.grown hg9 HNB.out (below_grown HS.out.bel hg9 HS.out.bel.size (fun k hk => hhi _ hk)))
          have HRL := Aside0.mk hR9
          clear hR9 hB9 hg9 hat9 hhi
          refine tq (i := 9) (v := ?_) ?hy ?_
          case hy => (intro W_ hW_; go_simp; first | done | with_reducible rfl)
          try simp only [Act.put, List.setIfInBounds_toArray, List.set_cons_zero, List.set_cons_succ]
          refine tq (i := 10) (v := ?_) ?hy ?_
          case hy => (intro W_ hW_; go_simp; first | done | with_reducible rfl)
          try simp only [Act.put, List.setIfInBounds_toArray, List.set_cons_zero, List.set_cons_succ]
          refine tq (i := 11) (v := ?_) ?hy ?_
          case hy => (intro W_ hW_; go_simp; first | done | with_reducible rfl)
          try simp only [Act.put, List.setIfInBounds_toArray, List.set_cons_zero, List.set_cons_succ]
          refine wpAnyH_ready (rs := [12]) (by kernel_rfl) (by simp) ?_
          refine AllReadyH.cons (by simp only [List.getElem?_toArray, List.getElem?_cons_succ, List.getElem?_cons_zero]; rfl) (fun K hK => ?_) AllReadyH.nil
          rw [if_pos (by rfl)]
          have f33 := (blk_cell HRK.out 33).trans (rdC_33 H.out.b32 rb ls A8 c8)
          have z33 := blk_frozen HRK.out 33
          go_wp2_with fail
          refine hK.out _ _ ((Below.heap_setCell _ ⟨rr, 33, none⟩ _ bx (by show bx ≠ rr; have := HTI.out.lo; have h2 := HLR.out; omega)).trans hHeld) (fun hHeld2 => ?_)
          clear hK K hHeld
          have hHeld := hHeld2
          clear hHeld2
          try simp only [Act.put, List.setIfInBounds_toArray, List.set_cons_zero, List.set_cons_succ]
          have HRL := Aside0.mk (Kd.R_set HRL.out HRK.out (lin_types 159 (by decide) (by decide) (by decide)) 33 (.slice A9 r.length c9))
          have HS := Aside0.mk (HS.out.set (g := rr) H.out.ne H.out.lo 33 (.slice A9 r.length c9))
          have HRK := Aside0.mk (blk_put HRK.out 33 (.slice A9 r.length c9) (rdC_set H.out.b32 rb ls r A8 A9 c8 c9))
          clear f33 z33
          refine wpAnyH_done (by kernel_rfl) ?_ _
        case' b5_o_7 =>
          rw [if_pos (by rfl)]
          refine wp_buildSlice_one 69 147 (.tmp 37) rfl 19 cl.toArray _ Try.underlying69 zeroLin2 (by rw [List.size_toArray]; exact HSZ.out.symm) (by decide) (by decide) (by rfl) ?_
          refine hK.out _ _ (blk_alloc hHeld _) (fun hHeld2 => ?_)
          clear hK K hHeld
          have hHeld := hHeld2
          clear hHeld2
          try simp only [Act.put, List.setIfInBounds_toArray, List.set_cons_zero, List.set_cons_succ]
          refine wpAnyH_ready (rs := [5]) (by kernel_rfl) (by simp) ?_
          refine AllReadyH.cons (by simp only [List.getElem?_toArray, List.getElem?_cons_succ, List.getElem?_cons_zero]; rfl) (fun K hK => ?_) AllReadyH.nil
          rw [if_pos (by rfl)]
          have f33 := (blk_cell (blk_alloc HRK.out (.cells cl.toArray 147)) 33).trans (rdC_33 H.out.b32 rb ls A8 c8)
          have f33b : (wr.alloc (.cells cl.toArray 147)).drew.cell? ⟨rr, 33, none⟩ = some (.slice A8 ls.length c8) := f33
          go_wp2_with fail
          refine hK.out _ _ (hHeld) (fun hHeld2 => ?_)
          clear hK K hHeld
          have hHeld := hHeld2
          clear hHeld2
          try simp only [Act.put, List.setIfInBounds_toArray, List.set_cons_zero, List.set_cons_succ]
          clear f33
          try clear f33b
          refine wpAnyH_ready (rs := [8]) (by kernel_rfl) (by simp) ?_
          refine AllReadyH.cons (by simp only [List.getElem?_toArray, List.getElem?_cons_succ, List.getElem?_cons_zero]; rfl) (fun K hK => ?_) AllReadyH.nil
          refine Kd.R_append_step linK (w0 := wr.drew) w0.heap.size (by rfl) (.tmp 36) (.tmp 38) 69 147 _ 56 rfl Try.underlying69 zeroLin3 rfl (by decide) (by decide) (.slice A8 ls.length c8) ls (⟨id, sn, sr, f⟩ : Lin) cl (fun _ => True) _ (by rfl) (by rfl) (linK.M_lower H.out.hrd.bel.size (linK.M_bound HMX.out)) (fun k hk => ⟨trivial, fun he => by have h1 := HRL.out.1 k he.symm; have h2 := hk.2.1; omega⟩) (fun _ _ => trivial) (Kd.R_mono HRL.out (fun _ _ => trivial)) (Below.refl _ _) HS.out.bel.size (by have := HLS.out; omega) ?_
          intro v9 w9 hR9 hB9 hg9 hat9
          rw [HR'.out] at hR9
          obtain ⟨A9, c9, rfl⟩ := Kd.R_slice hR9
          refine hK.out _ _ ((blk_grown HBX.out hg9 (fun he => by have h1 := HRL.out.1 bx he.symm; have h2 := HTI.out.lo; omega))) (fun hHeld2 => ?_)
          clear hK K hHeld
          have hHeld := hHeld2
          clear hHeld2
          try simp only [Act.put, List.setIfInBounds_toArray, List.set_cons_zero, List.set_cons_succ]
          have hhi := own_hi HRL.out
          have HRK := Aside0.mk (blk_grown HRK.out hg9 (Kd.R_ne HRL.out HRK.out (by decide)))
          have HNB : Aside0 (some rb ≠ Value.ownBlock (.slice A8 ls.length c8)) := ⟨by
            obtain ⟨A, c, hr, _⟩ := HS.out.row
            exact Kd.R_ne HRL.out hr (by decide)⟩
          have HS := Aside0.mk (HS.out.grown hg9 HNB.out (below_grown HS.out.bel hg9 HS.out.bel.size (fun k hk => hhi _ hk)))
          have HRL := Aside0.mk hR9
          clear hR9 hB9 hg9 hat9 hhi
          refine tq (i := 9) (v := ?_) ?hy ?_
          case hy => (intro W_ hW_; go_simp; first | done | with_reducible rfl)
          try simp only [Act.put, List.setIfInBounds_toArray, List.set_cons_zero, List.set_cons_succ]
          refine tq (i := 10) (v := ?_) ?hy ?_
          case hy => (intro W_ hW_; go_simp; first | done | with_reducible rfl)
          try simp only [Act.put, List.setIfInBounds_toArray, List.set_cons_zero, List.set_cons_succ]
          refine tq (i := 11) (v := ?_) ?hy ?_
          case hy => (intro W_ hW_; go_simp; first | done | with_reducible rfl)
          try simp only [Act.put, List.setIfInBounds_toArray, List.set_cons_zero, List.set_cons_succ]
          refine wpAnyH_ready (rs := [12]) (by kernel_rfl) (by simp) ?_
          refine AllReadyH.cons (by simp only [List.getElem?_toArray, List.getElem?_cons_succ, List.getElem?_cons_zero]; rfl) (fun K hK => ?_) AllReadyH.nil
          rw [if_pos (by rfl)]
          have f33 := (blk_cell HRK.out 33).trans (rdC_33 H.out.b32 rb ls A8 c8)
          have z33 := blk_frozen HRK.out 33
          go_wp2_with fail
          refine hK.out _ _ ((Below.heap_setCell _ ⟨rr, 33, none⟩ _ bx (by show bx ≠ rr; have := HTI.out.lo; have h2 := HLR.out; omega)).trans hHeld) (fun hHeld2 => ?_)
          clear hK K hHeld
          have hHeld := hHeld2
          clear hHeld2
          try simp only [Act.put, List.setIfInBounds_toArray, List.set_cons_zero, List.set_cons_succ]
          have HRL := Aside0.mk (Kd.R_set HRL.out HRK.out (lin_types 159 (by decide) (by decide) (by decide)) 33 (.slice A9 r.length c9))
          have HS := Aside0.mk (HS.out.set (g := rr) H.out.ne H.out.lo 33 (.slice A9 r.length c9))
          have HRK := Aside0.mk (blk_put HRK.out 33 (.slice A9 r.length c9) (rdC_set H.out.b32 rb ls r A8 A9 c8 c9))
          clear f33 z33
          refine wpAnyH_done (by kernel_rfl) ?_ _
        all_goals
          have HT9 : Aside0 (RgSt w0 _ rb rr base (ls ++ [(lineR s).1]) (lineR s).2) := ⟨by rw [HRES.out, HR'.out]; exact ⟨HS.out, ⟨A9, c9, HRK.out, HRL.out⟩, H.out.ne, H.out.lo, H.out.b32⟩⟩
          clear hHeld
          go_wp2_with fail
          go_end0
          exact ⟨rfl, HT9.out⟩
end Go.Proofs.Ytchaegfdcdlfaaa.X

namespace Go.Proofs.Ytchaegfdcdlfaaa.X
set_option linter.unusedVariables false
set_option linter.unusedSimpArgs false
open Go.RowKit Go.Proofs.YtchaegfdcdlfaaaW.PrintWords Go.Proofs.YtchaegfdcdlfaaaW.PrintLast Go.Proofs.YtchaegfdcdlfaaaW.PrintMore
open Go.Proofs.Ytchaegfdcdlfaaa.Y (Bytes RdB rdb_below)
attribute [local go_sem] max2_int min2_int max_two min_two max_three min_three max_four min_four
theorem results_ct {P : Program} {fn : Func} {p u : Tmp} {ty : TypeId} (h : fn.results = #[.cell p ty, .tmp u]) (tmps : Array Value) (w : World) (g : Nat) (t : TypeId) (cs : Array Value) (fr : Nat × Nat) (d : TypeDesc)
    (hp : tmps.getD p undef = .pointer (some ⟨g, 0, none⟩)) (hg : w.heap[g]? = some (.cells cs t fr))
    (hu : P.underlying ty = some d) (hd : (match d with | .struct _ | .array _ _ => true | _ => false) = true) (hi : (P.info? ty).map (·.size) = some cs.size) :
    (results fn tmps).run P w = .ok (.tuple #[.agg cs, tmps.getD u undef]) w := by
  have hp' : tmps[p]?.getD undef = .pointer (some ⟨g, 0, none⟩) := by simpa using hp
  simp [results, h, hp', asAddr, run_loadVar_row w g t ty cs fr d hg hu hd hi]
theorem setCells_heap (g : Nat) (t : TypeId) : ∀ (vs : List Value) (o : Nat) (cur : Array Value) (w : World), w.heap[g]? = some (.cells cur t (0, 0)) → o + vs.length ≤ cur.size →
    (w.setCells g o vs).heap[g]? = some (.cells (cur.toList.take o ++ vs ++ cur.toList.drop (o + vs.length)).toArray t (0, 0))
  | [], o, cur, w, h, _ => by
    rw [World.setCells, h, List.append_nil, List.length_nil, Nat.add_zero, List.take_append_drop, Array.toArray_toList]
  | v :: r, o, cur, w, h, hl => by
    simp only [List.length_cons] at hl
    rw [World.setCells, setCells_heap g t r (o + 1) _ _ (blk_put h o v rfl) (by simp; omega)]
    have hn : o < cur.toList.length := by simp; omega
    have hset : (cur.setIfInBounds o v).toList = cur.toList.take o ++ v :: cur.toList.drop (o + 1) := by
      rw [Array.toList_setIfInBounds, List.set_eq_take_append_cons_drop, if_pos hn]
    rw [hset]
    have hA : (cur.toList.take o).length = o := by simp; omega
    congr 3
    · have e1 : (cur.toList.take o ++ v :: cur.toList.drop (o + 1)).take (o + 1) = cur.toList.take o ++ [v] := by
        rw [show o + 1 = (cur.toList.take o).length + 1 by rw [hA], List.take_length_add_append]
        rfl
      have e2 : (cur.toList.take o ++ v :: cur.toList.drop (o + 1)).drop (o + 1 + r.length) = cur.toList.drop (o + (v :: r).length) := by
        rw [show o + 1 + r.length = (cur.toList.take o).length + (r.length + 1) by rw [hA]; omega, List.drop_length_add_append, List.drop_succ_cons, List.drop_drop]
        congr 1
        simp only [List.length_cons]
        omega
      rw [e1, e2]
      simp only [List.append_assoc, List.cons_append, List.nil_append]
theorem setCells_other (g : Nat) : ∀ (vs : List Value) (o : Nat) (w : World) (k : Nat), k ≠ g → (w.setCells g o vs).heap[k]? = w.heap[k]?
  | [], _, _, _, _ => rfl
  | v :: r, o, w, k, hk => by
    rw [World.setCells, setCells_other g r (o + 1) _ k hk]
    exact Below.heap_setCell _ _ _ _ hk
theorem setCells_below (B g : Nat) (hg : B ≤ g) : ∀ (vs : List Value) (o : Nat) (w0 w : World), Below B w0 w → Below B w0 (w.setCells g o vs)
  | [], _, _, _, h => h
  | v :: r, o, w0, w, h => by
    rw [World.setCells]
    exact setCells_below B g hg r (o + 1) w0 _ (h.setCell (p := ⟨g, o, none⟩) hg v)
theorem rdC_man (rb : Nat) (base : List Int) (ls : List Lin) (A : Option Addr) (c : Nat) : rdC rb base ls A c = [.pointer (some ⟨rb, 0, none⟩)] ++ (manC ⟨base, ls⟩ A c ++ []) := by rw [List.append_nil]; rfl
def GetQ (w : World) (r : Man × Int) (e : Ending) (w' : World) : Prop :=
  ∃ A c, e = .returned (.tuple #[.agg (manC r.1 A c).toArray, .int .i64 r.2]) ∧ r.1.l.length ≤ c ∧ Kd.C linK w' A r.1.l.length r.1.l ∧ Below w.heap.size w w' ∧ r.1.base.length = 32
theorem manC_size {m : Man} (h : m.base.length = 32) (A : Option Addr) (c : Nat) : (manC m A c).toArray.size = 33 := by simp [manC, nums, h]
theorem manC_one (m : Man) (A : Option Addr) (c : Nat) : (manC m A c).toArray.all (·.oneCell') = true := by
  rw [Array.all_eq_true_iff_forall_mem]
  intro v hv
  simp only [manC, List.mem_toArray, List.mem_append, nums, List.mem_map, List.mem_cons, List.not_mem_nil, or_false] at hv
  rcases hv with ⟨q, _, rfl⟩ | rfl <;> rfl
theorem built_zMan : Try.prog.built 71 [] = some (manC zMan none 0).toArray := by kernel_rfl
theorem zs_ex : ∃ zs : Array Value, Aside0 (Try.prog.built 71 [] = some zs) ∧ Aside0 ((manC zMan none 0).toArray = zs) ∧ zs.size = 33 := ⟨_, ⟨built_zMan⟩, ⟨rfl⟩, rfl⟩
set_option maxHeartbeats 4000000 in
set_option maxRecDepth 100000 in
theorem getm_err (A : Option Addr) (c : Nat) (l : List Int) (w : World) (hr : RdB w A l.length l) (hc : l.length ≤ c) (hb : Bytes l) (hl : l.length ≤ 100000000) (k used er : Int) (body : List Int) (ho : openL l = (k, body, used, er)) (h : er ≠ 0) :
    Calls Try.prog 66 #[.slice A l.length c] w (GetQ w (getM l)) := by
  have hg : getM l = (zMan, er) := by
    have h1 := getM_err (b := l) (by rw [ho]; exact h)
    rw [h1, ho]
  have HR := Aside0.mk hr
  have HC := Aside0.mk hc
  have HB := Aside0.mk hb
  have HL := Aside0.mk hl
  have HO := Aside0.mk ho
  have c1 : (er == 0) = false := by simpa using h
  have c2 : (er = 0) = False := by simpa using h
  rw [hg]
  clear hr hc hb hl ho h hg
  go_enter Try.func66, Try.ntmps66
  go_wp2_with fail
  refine (open_call2 A c l l.length rfl _ (rdb_below HR.out (below_alloc (Below.refl _ _) _)) HC.out HB.out (by have := HL.out; omega) _ HO.out).mono ?_
  rintro e_ w1 ⟨A1, b1, rfl, hc1, hr1, hb1⟩
  have HZ := Aside0.mk (blk_below (blk_new w (.cells #[.int .u8 0, .int .u8 0, .int .u8 0, .int .u8 0, .int .u8 0, .int .u8 0, .int .u8 0, .int .u8 0, .int .u8 0, .int .u8 0, .int .u8 0, .int .u8 0, .int .u8 0, .int .u8 0, .int .u8 0, .int .u8 0, .int .u8 0, .int .u8 0, .int .u8 0, .int .u8 0, .int .u8 0, .int .u8 0, .int .u8 0, .int .u8 0, .int .u8 0, .int .u8 0, .int .u8 0, .int .u8 0, .int .u8 0, .int .u8 0, .int .u8 0, .int .u8 0, .slice none 0 0] 71)) hb1)
  have HB1 := Aside0.mk (below_step (below_alloc (Below.refl w.heap.size w) (.cells #[.int .u8 0, .int .u8 0, .int .u8 0, .int .u8 0, .int .u8 0, .int .u8 0, .int .u8 0, .int .u8 0, .int .u8 0, .int .u8 0, .int .u8 0, .int .u8 0, .int .u8 0, .int .u8 0, .int .u8 0, .int .u8 0, .int .u8 0, .int .u8 0, .int .u8 0, .int .u8 0, .int .u8 0, .int .u8 0, .int .u8 0, .int .u8 0, .int .u8 0, .int .u8 0, .int .u8 0, .int .u8 0, .int .u8 0, .int .u8 0, .int .u8 0, .int .u8 0, .slice none 0 0] 71)) hb1)
  obtain ⟨zs, HBU, HZS, hsz⟩ := zs_ex
  have hst := storeA (cs := zs) HZ.out (by rw [hsz]; rfl) (by rw [← HZS.out]; exact manC_one _ _ _)
  clear hc1 hr1 hb1
  dsimp only
  go_wp2_with (first
    | ((with_reducible refine gate_dst (N := 18) rfl ?_); refine wpList_build rfl 71 _ rfl (by kernel_rfl) ?_; generalize hX : (Program.built _ _ _).getD #[] = X; obtain rfl : zs = X := (hX.symm.trans (by rw [← HZS.out]; kernel_rfl)).symm; clear hX)
    | fail)
  refine bodyPost_ret (v := .tuple #[.agg zs, .int .i64 er]) ?_ rfl ?_
  · exact results_ct (P := Try.prog) Try.results66 _ _ w.heap.size 71 zs (0, 0) _ rfl (setRow_heap _ _ _ _ _ _ HZ.out) Try.underlying71 rfl (by rw [hsz]; kernel_rfl)
  · exact ⟨none, 0, by rw [HZS.out], Nat.le_refl _, ⟨rfl, (show 0 ≤ 9223372036854775807 by decide), fun h => absurd (show 0 < 0 from h) (by decide)⟩, below_row HB1.out (Nat.le_refl _), rfl⟩
theorem setCells_run {W : World} {g : Nat} {t : TypeId} {cur : Array Value} (h : W.heap[g]? = some (.cells cur t (0, 0))) (o : Nat) (vs : List Value) (hl : o + vs.length ≤ cur.size) (h1 : ∀ v ∈ vs, v.oneCell' = true) : (storeCells ⟨g, o, none⟩ vs).run Try.prog W = .ok () (W.setCells g o vs) := by
  have := run_storeCells_cells (P := Try.prog) g o vs 0 W (fun j hj => by rw [blk_cell h]; simp; omega) (fun j _ => blk_frozen h _) h1
  simpa using this
theorem RgSt.base {w0 W : World} {rb rr : Nat} {b0 : List Int} {s : Rd} (h : RgSt w0 W rb rr b0 [] s) (d : List Int) (hd : d.length = 32) : RgSt w0 (W.setCells rr 1 (cells8 d).toList) rb rr d [] s := by
  obtain ⟨A, c, hb, hR⟩ := h.box
  obtain ⟨A2, c2, hr, hc2, hA2⟩ := h.hrd.row
  have hlen : (cells8 d).toList.length = 32 := by simp [cells8, hd]
  refine ⟨⟨h.hrd.base, ⟨A2, c2, (setCells_other rr _ 1 W rb (fun e => h.ne e.symm)).trans hr, hc2, hA2⟩, h.hrd.byt, h.hrd.len, setCells_below _ rr h.lo _ 1 _ _ h.hrd.bel⟩, ⟨A, c, ?_, ?_⟩, h.ne, h.lo, hd⟩
  · rw [setCells_heap rr 159 _ 1 _ W hb (by rw [hlen, List.size_toArray, rdC_len h.b32]; omega)]
    rw [hlen]
    congr 3
    have e1 : (rdC rb b0 [] A c).take 1 = [.pointer (some ⟨rb, 0, none⟩)] := rfl
    have e2 : (rdC rb b0 [] A c).drop 33 = [.slice A 0 c] := by
      show (nums .u8 b0 ++ [Value.slice A 0 c]).drop 32 = _
      rw [show 32 = (nums .u8 b0).length by simp [nums, h.b32], List.drop_left]
    show (rdC rb b0 [] A c).take 1 ++ (cells8 d).toList ++ (rdC rb b0 [] A c).drop (1 + 32) = _
    rw [e1, e2]
    simp [rdC, cells8, nums]
  · have h1 := Kd.R_types hR hb (lin_types 159 (by decide) (by decide) (by decide))
    exact Kd.R_mono (Kd.R_move h1 (fun k hk => setCells_other rr _ 1 W k hk.2)) (fun _ _ => trivial)
theorem RgSt.grow {w0 W W1 : World} {rb rr : Nat} {base : List Int} {ls : List Lin} {s s1 : Rd} (h : RgSt w0 W rb rr base ls s) (hst : RdSt w0 W1 rb s1) (hg : W.grownBy W1 (some rb)) : RgSt w0 W1 rb rr base ls s1 := by
  obtain ⟨A, c, hb, hR⟩ := h.box
  exact ⟨hst, ⟨A, c, blk_grown hb hg (fun he => h.ne (by injection he)), Kd.R_mono (R_lines hR h.hrd hg) (fun _ _ => trivial)⟩, h.ne, h.lo, h.b32⟩
theorem RgSt.below {w0 W W1 : World} {rb rr : Nat} {base : List Int} {ls : List Lin} {s : Rd} (h : RgSt w0 W rb rr base ls s) (hb : Below W.heap.size W W1) : RgSt w0 W1 rb rr base ls s := h.grow (h.hrd.below hb) (grown_of_below hb _)
theorem get_none {w w1 W : World} {rb rr : Nat} {base : List Int} {ls : List Lin} {s : Rd} (h : RgSt w1 W rb rr base ls s) (hB : Below w.heap.size w w1) (er : Int) (zs : Array Value) (hzs : (manC zMan none 0).toArray = zs) :
    GetQ w (zMan, er) (.returned (.tuple #[.agg zs, .int .i64 er])) (W.setRow w.heap.size zs) := by
  subst hzs
  exact ⟨none, 0, rfl, Nat.le_refl _, ⟨rfl, (show 0 ≤ 9223372036854775807 by decide), fun h => absurd (show 0 < 0 from h) (by decide)⟩, below_row (below_step hB h.hrd.bel) (Nat.le_refl _), rfl⟩
theorem get_some {w w1 W : World} {rb rr : Nat} {base : List Int} {ls : List Lin} {s : Rd} (h : RgSt w1 W rb rr base ls s) (hB : Below w.heap.size w w1) {zs : Array Value} (hz : W.heap[w.heap.size]? = some (.cells zs 71 (0, 0))) (A : Option Addr) (c : Nat) (hR : Kd.R linK 147 W w1.heap.size (fun _ => True) (.slice A ls.length c) ls) :
    GetQ w (⟨base, ls⟩, 0) (.returned (.tuple #[.agg (manC ⟨base, ls⟩ A c).toArray, .int .i64 0])) (W.setRow w.heap.size (manC ⟨base, ls⟩ A c).toArray) := by
  obtain ⟨A2, c2, hv, hc2, hC⟩ := Kd.R_reads (R_row hR hz (lin_types 71 (by decide) (by decide) (by decide)) (manC ⟨base, ls⟩ A c).toArray)
  injection hv with hv1 hv2 hv3
  subst hv1
  subst hv3
  exact ⟨A, c, rfl, hc2, hC, below_row (below_step hB h.hrd.bel) (Nat.le_refl _), h.b32⟩
def GetFin (A : Option Addr) (c : Nat) (l : List Int) (w w1 : World) (k used : Int) (body : List Int) (A1 : Option Addr) (b1 : Nat) (bad0 : Bool) (a : Act) (W4 : World) : Prop := ∃ (u1 u9 u10 u11 u12 u13 u14 u15 u16 u17 u18 u19 u20 u21 u22 u23 u24 u25 u26 u27 u28 u29 u30 u31 u32 u33 u34 u35 u36 u37 u38 u39 u40 u41 u42 u43 u44 u45 u46 u47 u48 u49 u50 u51 u52 u53 u54 u55 u56 u57 u58 u59 u60 u61 u62 u63 u64 u65 u66 u67 u68 u69 u70 u71 u72 u73 u74 u75 u76 u77 u78 u79 u80 u81 u82 u83 : Value), a = ⟨#[.slice A l.length c, u1, .pointer (some ⟨w.heap.size, 0, none⟩), .int .i64 0, .int .i64 k, .slice A1 body.length b1, .int .i64 used, .int .i64 0, .pointer (some ⟨w1.heap.size + 1, 0, none⟩), u9, u10, u11, u12, u13, u14, u15, u16, u17, u18, u19, u20, u21, u22, u23, u24, u25, u26, u27, u28, u29, u30, u31, u32, u33, u34, u35, u36, u37, u38, u39, u40, u41, u42, u43, u44, u45, u46, u47, u48, u49, u50, u51, u52, u53, u54, u55, u56, u57, u58, u59, u60, u61, u62, u63, u64, u65, u66, u67, u68, u69, u70, u71, u72, u73, u74, u75, u76, u77, u78, u79, u80, u81, u82, u83], []⟩ ∧ RgSt w1 W4 w1.heap.size (w1.heap.size + 1) (List.replicate 32 0) [] ⟨body, bad0⟩
set_option maxHeartbeats 8000000 in
set_option maxRecDepth 100000 in
theorem getm_ok (A : Option Addr) (c : Nat) (l : List Int) (w : World) (hr : RdB w A l.length l) (hc : l.length ≤ c) (hb : Bytes l) (hl : l.length ≤ 100000000) (k used : Int) (body : List Int) (ho : openL l = (k, body, used, 0)) (hbb : Bytes body) (hbl : body.length ≤ 100000) :
    Calls Try.prog 66 #[.slice A l.length c] w (GetQ w (getM l)) := by
  obtain ⟨bad0, hbad0⟩ : ∃ b, (!(k == 1) || !(used == (l.length : Int))) = b := ⟨_, rfl⟩
  have HG : Aside0 (getM l = if (manR ⟨body, bad0⟩).2.bad = true ∨ 0 < (manR ⟨body, bad0⟩).2.b.length then (zMan, 2) else if mayM (manR ⟨body, bad0⟩).1 = true then ((manR ⟨body, bad0⟩).1, 0) else (zMan, 1)) := ⟨by
    unfold getM
    rw [ho]
    dsimp only
    rw [if_pos rfl, hbad0]⟩
  have HR := Aside0.mk hr
  have HC := Aside0.mk hc
  have HB := Aside0.mk hb
  have HL := Aside0.mk hl
  have HO := Aside0.mk ho
  have HBB := Aside0.mk hbb
  have HBL := Aside0.mk hbl
  have HBAD := Aside0.mk hbad0
  clear hr hc hb hl ho hbb hbl hbad0
  obtain ⟨G, hG⟩ : ∃ G, getM l = G := ⟨_, rfl⟩
  rw [hG] at HG ⊢
  clear hG
  go_enter Try.func66, Try.ntmps66
  go_wp2_with fail
  refine (open_call2 A c l l.length rfl _ (rdb_below HR.out (below_alloc (Below.refl _ _) _)) HC.out HB.out (by have := HL.out; omega) _ HO.out).mono ?_
  rintro e_ w1 ⟨A1, b1, rfl, hc1, hr1, hb1⟩
  have HZ := Aside0.mk (blk_below (blk_new w (.cells #[.int .u8 0, .int .u8 0, .int .u8 0, .int .u8 0, .int .u8 0, .int .u8 0, .int .u8 0, .int .u8 0, .int .u8 0, .int .u8 0, .int .u8 0, .int .u8 0, .int .u8 0, .int .u8 0, .int .u8 0, .int .u8 0, .int .u8 0, .int .u8 0, .int .u8 0, .int .u8 0, .int .u8 0, .int .u8 0, .int .u8 0, .int .u8 0, .int .u8 0, .int .u8 0, .int .u8 0, .int .u8 0, .int .u8 0, .int .u8 0, .int .u8 0, .int .u8 0, .slice none 0 0] 71)) hb1)
  have HB1 := Aside0.mk (below_step (below_alloc (Below.refl w.heap.size w) (.cells #[.int .u8 0, .int .u8 0, .int .u8 0, .int .u8 0, .int .u8 0, .int .u8 0, .int .u8 0, .int .u8 0, .int .u8 0, .int .u8 0, .int .u8 0, .int .u8 0, .int .u8 0, .int .u8 0, .int .u8 0, .int .u8 0, .int .u8 0, .int .u8 0, .int .u8 0, .int .u8 0, .int .u8 0, .int .u8 0, .int .u8 0, .int .u8 0, .int .u8 0, .int .u8 0, .int .u8 0, .int .u8 0, .int .u8 0, .int .u8 0, .int .u8 0, .int .u8 0, .slice none 0 0] 71)) hb1)
  have HC1 := Aside0.mk hc1
  have HR1 := Aside0.mk hr1
  clear hc1 hr1 hb1
  dsimp only
  go_upto_region 4 with (fail)
  refine cut_region (GetFin A c l w w1 k used body A1 b1 bad0) ?_ ?_
  case refine_1 =>
    have hRG : ∀ b : Bool, RgSt w1 ((w1.alloc (.cells #[.slice A1 body.length b1, .bool b] 157)).alloc (.cells #[.pointer (some ⟨w1.heap.size, 0, none⟩), .int .u8 0, .int .u8 0, .int .u8 0, .int .u8 0, .int .u8 0, .int .u8 0, .int .u8 0, .int .u8 0, .int .u8 0, .int .u8 0, .int .u8 0, .int .u8 0, .int .u8 0, .int .u8 0, .int .u8 0, .int .u8 0, .int .u8 0, .int .u8 0, .int .u8 0, .int .u8 0, .int .u8 0, .int .u8 0, .int .u8 0, .int .u8 0, .int .u8 0, .int .u8 0, .int .u8 0, .int .u8 0, .int .u8 0, .int .u8 0, .int .u8 0, .int .u8 0, .slice none 0 0] 159)) w1.heap.size (w1.heap.size + 1) (List.replicate 32 0) [] ⟨body, b⟩ := fun b => by
      have HE := blk_alloc (blk_new w1 (.cells #[.slice A1 body.length b1, .bool b] 157)) (.cells #[.pointer (some ⟨w1.heap.size, 0, none⟩), .int .u8 0, .int .u8 0, .int .u8 0, .int .u8 0, .int .u8 0, .int .u8 0, .int .u8 0, .int .u8 0, .int .u8 0, .int .u8 0, .int .u8 0, .int .u8 0, .int .u8 0, .int .u8 0, .int .u8 0, .int .u8 0, .int .u8 0, .int .u8 0, .int .u8 0, .int .u8 0, .int .u8 0, .int .u8 0, .int .u8 0, .int .u8 0, .int .u8 0, .int .u8 0, .int .u8 0, .int .u8 0, .int .u8 0, .int .u8 0, .int .u8 0, .int .u8 0, .slice none 0 0] 159)
      have HD := blk_new (w1.alloc (.cells #[.slice A1 body.length b1, .bool b] 157)) (.cells #[.pointer (some ⟨w1.heap.size, 0, none⟩), .int .u8 0, .int .u8 0, .int .u8 0, .int .u8 0, .int .u8 0, .int .u8 0, .int .u8 0, .int .u8 0, .int .u8 0, .int .u8 0, .int .u8 0, .int .u8 0, .int .u8 0, .int .u8 0, .int .u8 0, .int .u8 0, .int .u8 0, .int .u8 0, .int .u8 0, .int .u8 0, .int .u8 0, .int .u8 0, .int .u8 0, .int .u8 0, .int .u8 0, .int .u8 0, .int .u8 0, .int .u8 0, .int .u8 0, .int .u8 0, .int .u8 0, .int .u8 0, .slice none 0 0] 159)
      have es : (w1.alloc (.cells #[.slice A1 body.length b1, .bool b] 157)).heap.size = w1.heap.size + 1 := Array.size_push ..
      rw [es] at HD
      exact ⟨⟨Nat.le_refl _, ⟨A1, b1, HE, HC1.out, HR1.out⟩, HBB.out, by have := HBL.out; show body.length ≤ 1000000; omega, below_alloc (below_alloc (Below.refl _ _) _) _⟩, ⟨none, 0, HD, Kd.R_nil _ _ _ _ _⟩, by omega, by omega, rfl⟩
    have HRG := Aside0.mk hRG
    clear hRG
    cases hk : (k == 1)
    · have hk2 : (k != 1) = true := by simpa using hk
      have hk3 : (k = 1) = False := by simpa using hk
      obtain rfl : bad0 = true := by rw [← HBAD.out, hk]; rfl
      go_wp2_with fail
      exact ⟨_, _, _, _, _, _, _, _, _, _, _, _, _, _, _, _, _, _, _, _, _, _, _, _, _, _, _, _, _, _, _, _, _, _, _, _, _, _, _, _, _, _, _, _, _, _, _, _, _, _, _, _, _, _, _, _, _, _, _, _, _, _, _, _, _, _, _, _, _, _, _, _, _, _, _, _, rfl, HRG.out true⟩
    · have hk2 : (k != 1) = false := by simpa using hk
      have hk3 : (k = 1) = True := by simpa using hk
      cases hu : (used == (l.length : Int))
      · have hu2 : (used != (l.length : Int)) = true := by simpa using hu
        have hu3 : (used = (l.length : Int)) = False := by simpa using hu
        obtain rfl : bad0 = true := by rw [← HBAD.out, hk, hu]; rfl
        go_wp2_with fail
        exact ⟨_, _, _, _, _, _, _, _, _, _, _, _, _, _, _, _, _, _, _, _, _, _, _, _, _, _, _, _, _, _, _, _, _, _, _, _, _, _, _, _, _, _, _, _, _, _, _, _, _, _, _, _, _, _, _, _, _, _, _, _, _, _, _, _, _, _, _, _, _, _, _, _, _, _, _, _, rfl, HRG.out true⟩
      · have hu2 : (used != (l.length : Int)) = false := by simpa using hu
        have hu3 : (used = (l.length : Int)) = True := by simpa using hu
        obtain rfl : bad0 = false := by rw [← HBAD.out, hk, hu]; rfl
        go_wp2_with fail
        exact ⟨_, _, _, _, _, _, _, _, _, _, _, _, _, _, _, _, _, _, _, _, _, _, _, _, _, _, _, _, _, _, _, _, _, _, _, _, _, _, _, _, _, _, _, _, _, _, _, _, _, _, _, _, _, _, _, _, _, _, _, _, _, _, _, _, _, _, _, _, _, _, _, _, _, _, _, _, rfl, HRG.out false⟩
  case refine_2 =>
    rintro a W4 ⟨u1, u9, u10, u11, u12, u13, u14, u15, u16, u17, u18, u19, u20, u21, u22, u23, u24, u25, u26, u27, u28, u29, u30, u31, u32, u33, u34, u35, u36, u37, u38, u39, u40, u41, u42, u43, u44, u45, u46, u47, u48, u49, u50, u51, u52, u53, u54, u55, u56, u57, u58, u59, u60, u61, u62, u63, u64, u65, u66, u67, u68, u69, u70, u71, u72, u73, u74, u75, u76, u77, u78, u79, u80, u81, u82, u83, rfl, hrg⟩
    have HRG := Aside0.mk hrg
    obtain ⟨rs0, hrs0⟩ := hrg.rrat
    have x0 := hrs0.cell
    have HR0 := Aside0.mk hrs0
    clear hrg hrs0
    go_wp2_with fail
    refine (dig_call w1 _ w1.heap.size ⟨body, bad0⟩ HRG.out.hrd).mono ?_
    rintro e_ w5 ⟨rfl, hst5, hg5⟩
    obtain ⟨d, hd⟩ : ∃ d, (takeR 32 (⟨body, bad0⟩ : Rd)).1 = d := ⟨_, rfl⟩
    obtain ⟨s1, hs1⟩ : ∃ s1, (takeR 32 (⟨body, bad0⟩ : Rd)).2 = s1 := ⟨_, rfl⟩
    have hd32 : d.length = 32 := by rw [← hd]; exact skipR_len _ 32 true
    rw [hs1] at hst5
    rw [hd]
    obtain ⟨A8, c8, hb8, hR8⟩ := HRG.out.box
    have hb85 := blk_grown hb8 hg5 (fun he => by injection he with he; omega)
    have hrg5 : RgSt w1 w5 w1.heap.size (w1.heap.size + 1) (List.replicate 32 0) [] s1 := by
      have hR := Kd.R_mono (R_lines hR8 HRG.out.hrd hg5) (ok' := fun _ => True) (fun _ _ => trivial)
      exact ⟨hst5, ⟨A8, c8, hb85, hR⟩, by omega, by omega, rfl⟩
    have hc8 : ∀ v ∈ (cells8 d).toList, v.oneCell' = true := fun v hv => (Array.all_eq_true_iff_forall_mem.1 (cells8_all d)) v (by simpa using hv)
    have hst := setCells_run hb85 1 (cells8 d).toList (by simp [cells8, hd32, rdC, nums]) hc8
    have HRG6 := Aside0.mk (hrg5.base d hd32)
    have HD := Aside0.mk hd
    have HS1 := Aside0.mk hs1
    have HD32 := Aside0.mk hd32
    have hsz : (cells8 d).size = 32 := by rw [cells8_size, hd32]
    clear hst5 hg5 hd hs1 hd32 hb8 hb85 hrg5 hc8 x0 hR8
    obtain ⟨rs6, hrs6⟩ := HRG6.out.rrat
    have x0 := hrs6.cell
    clear hrs6
    go_wp2_with fail
    refine (num_call w1 _ w1.heap.size s1 10 HRG6.out.hrd (by decide) (by decide)).mono ?_
    rintro e_ w6 ⟨rfl, hst6, hg6⟩
    have hrg := numR_range 10 (by decide) s1 HRG6.out.hrd.byt HRG6.out.hrd.len
    obtain ⟨kk, hkk⟩ : ∃ kk : Nat, (numR 10 s1).1 = (kk : Int) := ⟨(numR 10 s1).1.toNat, by omega⟩
    have HKK : Aside0 (kk ≤ 10) := ⟨by omega⟩
    obtain ⟨s2, hs2⟩ : ∃ s2, (numR 10 s1).2 = s2 := ⟨_, rfl⟩
    have HRES : Aside0 (manR ⟨body, bad0⟩ = (⟨d, (itR lineR kk s2).1⟩, (itR lineR kk s2).2)) := ⟨by
      unfold manR
      rw [HS1.out, HD.out]
      rw [hkk, hs2, Int.toNat_natCast]⟩
    rw [hkk]
    rw [hs2] at hst6
    have HT6 := Aside0.mk (HRG6.out.grow hst6 hg6)
    clear hst6 hg6 hrg hkk hs2 x0
    go_wp2_with fail
    go_loopg [47] kk (fun kq v47 Wl => ∃ i : Nat, v47 = .int .i64 i ∧ Aside0 (kq + i = kk) ∧ Aside0 (RgSt w1 Wl w1.heap.size (w1.heap.size + 1) d (itR lineR i s2).1 (itR lineR i s2).2))
    case atStart => exact ⟨0, rfl, ⟨rfl⟩, HT6⟩
    case round =>
      obtain ⟨i, rfl, HK, HTI⟩ := hrel
      by_cases hi : i < kk
      · have c0 : decide ((i : Int) < (kk : Int)) = true := by simpa using hi
        have c1 : ((i : Int) < (kk : Int)) = True := by simpa using hi
        have c2 : IntKind.i64.wrap ((i : Int) + 1) = ((i + 1 : Nat) : Int) := by have := HKK.out; simp [IntKind.wrap, IntKind.bits, IntKind.signed]; omega
        have HI := Aside0.mk hi
        have HIT : Aside0 (itR lineR (i + 1) s2 = ((itR lineR i s2).1 ++ [(lineR (itR lineR i s2).2).1], (lineR (itR lineR i s2).2).2)) := ⟨rfl⟩
        have HLI : Aside0 ((itR lineR i s2).1.length = i) := ⟨itR_len lineR i s2⟩
        clear hi
        go_wp2_with fail
        refine (linerd_call w1 _ w1.heap.size (w1.heap.size + 1) d _ _ HTI.out (by rw [HLI.out]; have := HI.out; have h2 := HKK.out; omega)).mono ?_
        rintro e_ w7 ⟨rfl, hrg7⟩
        have HT7 : Aside0 (RgSt w1 w7 w1.heap.size (w1.heap.size + 1) d (itR lineR (i + 1) s2).1 (itR lineR (i + 1) s2).2) := ⟨by rw [HIT.out]; exact hrg7⟩
        clear hrg7
        go_wp2_with fail
        go_roundg (kk - (i + 1))
        case measure => have := HK.out; have := HI.out; omega
        case rel => exact ⟨i + 1, by first | rfl | (simp [c2]; done), ⟨by have := HI.out; omega⟩, HT7⟩
      · have c0 : decide ((i : Int) < (kk : Int)) = false := by simpa using hi
        have c1 : ((i : Int) < (kk : Int)) = False := by simpa using hi
        have hik : i = kk := by have := HK.out; omega
        subst hik
        obtain ⟨ls, hls⟩ : ∃ ls, (itR lineR i s2).1 = ls := ⟨_, rfl⟩
        obtain ⟨s3, hs3⟩ : ∃ s3, (itR lineR i s2).2 = s3 := ⟨_, rfl⟩
        rw [hls, hs3] at HTI HRES
        rw [HRES.out] at HG
        dsimp only at HG
        obtain ⟨rs6, hrs6⟩ := HTI.out.rrat
        have x0 := hrs6.cell
        obtain ⟨A3, c3, hr3, hc3, hA3⟩ := HTI.out.hrd.row
        clear hrs6 hi hls hs3
        cases hbad : s3.bad
        · rw [hbad] at hr3
          obtain ⟨y0, y1, z0, z1⟩ := RdSt.cell0 hr3 (w0 := w1)
          by_cases h0 : 0 < s3.b.length
          · have HGE : Aside0 (G = (zMan, 2)) := ⟨by rw [HG.out, if_pos (.inr h0)]⟩
            have d0 : decide ((s3.b.length : Int) > 0) = true := decide_eq_true (by omega)
            have d1 : decide (s3.b.length > 0) = true := decide_eq_true h0
            have d2 : decide (0 < s3.b.length) = true := decide_eq_true h0
            clear hr3 hc3 hA3 hbad h0
            obtain ⟨zs, HBU, HZS, hsz⟩ := zs_ex
            have HZL : Aside0 (wr.heap[w.heap.size]? = some (.cells #[.int .u8 0, .int .u8 0, .int .u8 0, .int .u8 0, .int .u8 0, .int .u8 0, .int .u8 0, .int .u8 0, .int .u8 0, .int .u8 0, .int .u8 0, .int .u8 0, .int .u8 0, .int .u8 0, .int .u8 0, .int .u8 0, .int .u8 0, .int .u8 0, .int .u8 0, .int .u8 0, .int .u8 0, .int .u8 0, .int .u8 0, .int .u8 0, .int .u8 0, .int .u8 0, .int .u8 0, .int .u8 0, .int .u8 0, .int .u8 0, .int .u8 0, .int .u8 0, .slice none 0 0] 71 (0, 0))) := ⟨(HTI.out.hrd.bel.block _ (blk_lt HZ.out)).trans HZ.out⟩
            have hst := storeA (cs := zs) HZL.out (by rw [hsz]; rfl) (by rw [← HZS.out]; exact manC_one _ _ _)
            have HFIN := Aside0.mk (get_none HTI.out HB1.out 2 zs HZS.out)
            go_wp2_with (first
              | ((with_reducible refine gate_dst (N := 71) rfl ?_); refine wpList_build rfl 71 _ rfl (by kernel_rfl) ?_; generalize hX : (Program.built _ _ _).getD #[] = X; obtain rfl : zs = X := (hX.symm.trans (by rw [← HZS.out]; kernel_rfl)).symm; clear hX)
              | fail)
            refine bodyPost_ret (v := .tuple #[.agg zs, .int .i64 2]) ?_ rfl (by rw [HGE.out]; exact HFIN.out)
            exact results_ct (P := Try.prog) Try.results66 _ _ w.heap.size 71 zs (0, 0) _ rfl (setRow_heap _ _ _ _ _ _ HZL.out) Try.underlying71 rfl (by rw [hsz]; kernel_rfl)

          · have d0 : decide ((s3.b.length : Int) > 0) = false := decide_eq_false (by omega)
            have d1 : decide (s3.b.length > 0) = false := decide_eq_false h0
            have d2 : decide (0 < s3.b.length) = false := decide_eq_false h0
            have HG2 : Aside0 (G = if mayM ⟨d, ls⟩ = true then (⟨d, ls⟩, 0) else (zMan, 1)) := ⟨by
              rw [HG.out, if_neg]
              rintro (h | h)
              · rw [hbad] at h; cases h
              · exact h0 h⟩
            obtain ⟨A8, c8, hb8, hR8⟩ := HTI.out.box
            have hat := At.part (l := [.pointer (some ⟨w1.heap.size, 0, none⟩)]) (m := manC ⟨d, ls⟩ A8 c8) (r := []) (by rw [← rdC_man]; exact At.blk hb8) 1 rfl
            rw [add_at] at hat
            obtain ⟨A9, c9, hv9, hc9, hC9⟩ := Kd.R_reads hR8
            injection hv9 with hv1 hv2 hv3
            subst hv1
            subst hv3
            have hmay := may_call ⟨d, ls⟩ A8 c8 wr HD32.out hc9 hC9
            have HMI := Aside0.mk (manInfo (m := ⟨d, ls⟩) HD32.out A8 c8)
            have HMO := Aside0.mk (manC_one ⟨d, ls⟩ A8 c8)
            have hmz := manC_size (m := ⟨d, ls⟩) HD32.out A8 c8
            have HGS := Aside0.mk (fun (W8 : World) (hrg : RgSt w1 W8 w1.heap.size (w1.heap.size + 1) d ls s3) (hz : W8.heap[w.heap.size]? = some (.cells #[.int .u8 0, .int .u8 0, .int .u8 0, .int .u8 0, .int .u8 0, .int .u8 0, .int .u8 0, .int .u8 0, .int .u8 0, .int .u8 0, .int .u8 0, .int .u8 0, .int .u8 0, .int .u8 0, .int .u8 0, .int .u8 0, .int .u8 0, .int .u8 0, .int .u8 0, .int .u8 0, .int .u8 0, .int .u8 0, .int .u8 0, .int .u8 0, .int .u8 0, .int .u8 0, .int .u8 0, .int .u8 0, .int .u8 0, .int .u8 0, .int .u8 0, .int .u8 0, .slice none 0 0] 71 (0, 0))) (hR : Kd.R linK 147 W8 w1.heap.size (fun _ => True) (.slice A8 ls.length c8) ls) => get_some hrg HB1.out hz A8 c8 hR)
            obtain ⟨ms, hms⟩ : ∃ ms, (manC ⟨d, ls⟩ A8 c8).toArray = ms := ⟨_, rfl⟩
            rw [hms] at hat hmay HMI HMO hmz HGS
            have HMAY := Aside0.mk hmay
            have HAT := Aside0.mk hat
            have HR8 := Aside0.mk hR8
            clear hr3 hc3 hA3 hbad h0 hb8 hR8 hat hv2 hc9 hC9 hmay hms
            go_wp2_with (first
              | ((with_reducible refine gate_dst (N := 76) rfl ?_); refine wpList_load_cells rfl 71 (.tmp 75) rfl ⟨w1.heap.size + 1, 1, none⟩ rfl ms _ HAT.out Try.underlying71 rfl HMI.out ?_)
              | fail)
            refine HMAY.out.mono ?_
            rintro e_ w8 ⟨rfl, hb8⟩
            have HRG8 := Aside0.mk (HTI.out.below hb8)
            have HAT8 := Aside0.mk (HAT.out.below hb8)
            have HR88 := Aside0.mk (Kd.R_below HR8.out hb8)
            have x8 : w8.cell? ⟨w1.heap.size + 1, 0, none⟩ = some (.pointer (some ⟨w1.heap.size, 0, none⟩)) := by
              obtain ⟨rs8, hrs8⟩ := HRG8.out.rrat
              exact hrs8.cell
            clear hb8 x0 y0 y1 z0 z1
            cases hmm : mayM ⟨d, ls⟩
            · have HGE : Aside0 (G = (zMan, 1)) := ⟨by rw [HG2.out, hmm]; rfl⟩
              clear hmm
              obtain ⟨zs, HBU, HZS, hsz⟩ := zs_ex
              have HZL : Aside0 (w8.heap[w.heap.size]? = some (.cells #[.int .u8 0, .int .u8 0, .int .u8 0, .int .u8 0, .int .u8 0, .int .u8 0, .int .u8 0, .int .u8 0, .int .u8 0, .int .u8 0, .int .u8 0, .int .u8 0, .int .u8 0, .int .u8 0, .int .u8 0, .int .u8 0, .int .u8 0, .int .u8 0, .int .u8 0, .int .u8 0, .int .u8 0, .int .u8 0, .int .u8 0, .int .u8 0, .int .u8 0, .int .u8 0, .int .u8 0, .int .u8 0, .int .u8 0, .int .u8 0, .int .u8 0, .int .u8 0, .slice none 0 0] 71 (0, 0))) := ⟨(HRG8.out.hrd.bel.block _ (blk_lt HZ.out)).trans HZ.out⟩
              have hst := storeA (cs := zs) HZL.out (by rw [hsz]; rfl) (by rw [← HZS.out]; exact manC_one _ _ _)
              have HFIN := Aside0.mk (get_none HRG8.out HB1.out 1 zs HZS.out)
              go_wp2_with (first
                | ((with_reducible refine gate_dst (N := 79) rfl ?_); refine wpList_build rfl 71 _ rfl (by kernel_rfl) ?_; generalize hX : (Program.built _ _ _).getD #[] = X; obtain rfl : zs = X := (hX.symm.trans (by rw [← HZS.out]; kernel_rfl)).symm; clear hX)
                | fail)
              refine bodyPost_ret (v := .tuple #[.agg zs, .int .i64 1]) ?_ rfl (by rw [HGE.out]; exact HFIN.out)
              exact results_ct (P := Try.prog) Try.results66 _ _ w.heap.size 71 zs (0, 0) _ rfl (setRow_heap _ _ _ _ _ _ HZL.out) Try.underlying71 rfl (by rw [hsz]; kernel_rfl)
            · have HGE : Aside0 (G = (⟨d, ls⟩, 0)) := ⟨by rw [HG2.out, hmm]; rfl⟩
              clear hmm
              have HZL : Aside0 (w8.heap[w.heap.size]? = some (.cells #[.int .u8 0, .int .u8 0, .int .u8 0, .int .u8 0, .int .u8 0, .int .u8 0, .int .u8 0, .int .u8 0, .int .u8 0, .int .u8 0, .int .u8 0, .int .u8 0, .int .u8 0, .int .u8 0, .int .u8 0, .int .u8 0, .int .u8 0, .int .u8 0, .int .u8 0, .int .u8 0, .int .u8 0, .int .u8 0, .int .u8 0, .int .u8 0, .int .u8 0, .int .u8 0, .int .u8 0, .int .u8 0, .int .u8 0, .int .u8 0, .int .u8 0, .int .u8 0, .slice none 0 0] 71 (0, 0))) := ⟨(HRG8.out.hrd.bel.block _ (blk_lt HZ.out)).trans HZ.out⟩
              have hst := storeA (cs := ms) HZL.out (by rw [hmz]; rfl) HMO.out
              have HFIN := Aside0.mk (HGS.out w8 HRG8.out HZL.out HR88.out)
              go_wp2_with (first
                | ((with_reducible refine gate_dst (N := 83) rfl ?_); refine wpList_load_cells rfl 71 (.tmp 82) rfl ⟨w1.heap.size + 1, 1, none⟩ rfl ms _ HAT8.out Try.underlying71 rfl HMI.out ?_)
                | fail)
              refine bodyPost_ret (v := .tuple #[.agg ms, .int .i64 0]) ?_ rfl (by rw [HGE.out]; exact HFIN.out)
              exact results_ct (P := Try.prog) Try.results66 _ _ w.heap.size 71 ms (0, 0) _ rfl (setRow_heap _ _ _ _ _ _ HZL.out) Try.underlying71 rfl HMI.out
        · rw [hbad] at hr3
          obtain ⟨y0, y1, z0, z1⟩ := RdSt.cell0 hr3 (w0 := w1)
          have HGE : Aside0 (G = (zMan, 2)) := ⟨by rw [HG.out, if_pos (.inl hbad)]⟩
          clear hr3 hc3 hA3 hbad
          obtain ⟨zs, HBU, HZS, hsz⟩ := zs_ex
          have HZL : Aside0 (wr.heap[w.heap.size]? = some (.cells #[.int .u8 0, .int .u8 0, .int .u8 0, .int .u8 0, .int .u8 0, .int .u8 0, .int .u8 0, .int .u8 0, .int .u8 0, .int .u8 0, .int .u8 0, .int .u8 0, .int .u8 0, .int .u8 0, .int .u8 0, .int .u8 0, .int .u8 0, .int .u8 0, .int .u8 0, .int .u8 0, .int .u8 0, .int .u8 0, .int .u8 0, .int .u8 0, .int .u8 0, .int .u8 0, .int .u8 0, .int .u8 0, .int .u8 0, .int .u8 0, .int .u8 0, .int .u8 0, .slice none 0 0] 71 (0, 0))) := ⟨(HTI.out.hrd.bel.block _ (blk_lt HZ.out)).trans HZ.out⟩
          have hst := storeA (cs := zs) HZL.out (by rw [hsz]; rfl) (by rw [← HZS.out]; exact manC_one _ _ _)
          have HFIN := Aside0.mk (get_none HTI.out HB1.out 2 zs HZS.out)
          go_wp2_with (first
            | ((with_reducible refine gate_dst (N := 71) rfl ?_); refine wpList_build rfl 71 _ rfl (by kernel_rfl) ?_; generalize hX : (Program.built _ _ _).getD #[] = X; obtain rfl : zs = X := (hX.symm.trans (by rw [← HZS.out]; kernel_rfl)).symm; clear hX)
            | fail)
          refine bodyPost_ret (v := .tuple #[.agg zs, .int .i64 2]) ?_ rfl (by rw [HGE.out]; exact HFIN.out)
          exact results_ct (P := Try.prog) Try.results66 _ _ w.heap.size 71 zs (0, 0) _ rfl (setRow_heap _ _ _ _ _ _ HZL.out) Try.underlying71 rfl (by rw [hsz]; kernel_rfl)
theorem getm_call (A : Option Addr) (c : Nat) (l : List Int) (w : World) (hr : RdB w A l.length l) (hc : l.length ≤ c) (hb : Bytes l) (hl : l.length ≤ 100000000) :
    Calls Try.prog 66 #[.slice A l.length c] w (GetQ w (getM l)) := by
  rcases open_back hb hl with ⟨k, hk, ho⟩ | ⟨a, b, rest, h0, h9, hbb, hbl, he, ho⟩
  · exact getm_err A c l w hr hc hb hl 0 0 k [] ho hk
  · exact getm_ok A c l w hr hc hb hl a _ b ho hbb hbl
end Go.Proofs.Ytchaegfdcdlfaaa.X

namespace Go.Proofs.Ytchaegfdcdlfaaa.X
set_option linter.unusedVariables false
set_option linter.unusedSimpArgs false
open Go.RowKit Go.Proofs.YtchaegfdcdlfaaaW.PrintWords Go.Proofs.YtchaegfdcdlfaaaW.PrintLast Go.Proofs.YtchaegfdcdlfaaaW.PrintMore
open Go.Proofs.Ytchaegfdcdlfaaa.Y (Bytes RdB put put_range put_length put_length_pos word word_length word_bytes rdb_below rdb_drewN put_call word_call row_slice)
attribute [local go_sem] max2_int min2_int max_two min_two max_three min_three max_four min_four
set_option maxHeartbeats 1000000 in
set_option maxRecDepth 100000 in
theorem bookmay_call (w : World) : Calls Try.prog 147 #[.agg #[.slice none 0 0]] w fun e w' => e = .returned (.bool true) ∧ Below w.heap.size w w' := by
  go_enter Try.func147, Try.ntmps147
  go_wp2_with fail
  go_loop [8] (fun v => v = .int .i64 0) (fun _ => 0)
  case atStart => rfl
  case round =>
    subst hrel
    go_wp2_with fail
    go_ret
    exact ⟨rfl, below_alloc (Below.refl _ _) _⟩
theorem put0 : put 0 = [0] := by unfold put; rfl
set_option maxHeartbeats 1000000 in
set_option maxRecDepth 100000 in
theorem canput_call (w : World) : Calls Try.prog 172 #[.agg #[.slice none 0 0]] w fun e w' => (∃ A c, e = .returned (.tuple #[.slice A 1 c, .bool true]) ∧ 1 ≤ c ∧ RdB w' A 1 [0]) ∧ Below w.heap.size w w' := by
  have HN := Aside0.mk (blk_new w (.cells #[.slice none 0 0] 144))
  have g0 := blk_cell HN.out 0
  go_enter Try.func172, Try.ntmps172
  go_wp2_with fail
  refine (bookmay_call _).mono ?_
  rintro e_ w1 ⟨rfl, hb1⟩
  have HN1 := Aside0.mk (blk_below HN.out hb1)
  have HB1 := Aside0.mk (below_step (below_alloc (Below.refl w.heap.size w) _) hb1)
  have g1 := blk_cell HN1.out 0
  clear hb1
  go_wp2_with fail
  refine (put_call 0 (by decide) _).mono ?_
  rintro e_ w2 ⟨A, c, rfl, hc, hr, hb2⟩
  rw [put0] at hc hr ⊢
  have HN2 := Aside0.mk (blk_below HN1.out hb2)
  have HB2 := Aside0.mk (below_step HB1.out hb2)
  have g2 := blk_cell HN2.out 0
  have HF := Aside0.mk (And.intro hc hr)
  clear hb2 hc hr
  go_wp2_with fail
  go_loop [4, 24] (fun v4 v => v4 = .slice A 1 c ∧ v = .int .i64 0) (fun _ _ => 0)
  case atStart => exact ⟨rfl, rfl⟩
  case round =>
    obtain ⟨rfl, rfl⟩ := hrel
    go_wp2_with fail
    go_ret2
    exact ⟨⟨_, _, rfl, HF.out.1, HF.out.2⟩, HB2.out⟩
theorem alloc_size (w : World) (o : Obj) : (w.alloc o).heap.size = w.heap.size + 1 := Array.size_push ..
set_option maxHeartbeats 1000000 in
set_option maxRecDepth 100000 in
theorem candig_call (w : World) : Calls Try.prog 148 #[.agg #[.slice none 0 0]] w fun e w' => e = .returned (.agg (cells8 (shaOf [0]))) ∧ Below w.heap.size w w' := by
  have HN := Aside0.mk (blk_new w (.cells #[.slice none 0 0] 144))
  have g0 := blk_cell HN.out 0
  have hz := blk_new (w.alloc (.cells #[.slice none 0 0] 144)) (.cells #[.int .u8 0, .int .u8 0, .int .u8 0, .int .u8 0, .int .u8 0, .int .u8 0, .int .u8 0, .int .u8 0, .int .u8 0, .int .u8 0, .int .u8 0, .int .u8 0, .int .u8 0, .int .u8 0, .int .u8 0, .int .u8 0, .int .u8 0, .int .u8 0, .int .u8 0, .int .u8 0, .int .u8 0, .int .u8 0, .int .u8 0, .int .u8 0, .int .u8 0, .int .u8 0, .int .u8 0, .int .u8 0, .int .u8 0, .int .u8 0, .int .u8 0, .int .u8 0] 28)
  rw [alloc_size] at hz
  have HZ := Aside0.mk hz
  have HB := Aside0.mk (below_alloc (below_alloc (Below.refl w.heap.size w) (.cells #[.slice none 0 0] 144)) (.cells #[.int .u8 0, .int .u8 0, .int .u8 0, .int .u8 0, .int .u8 0, .int .u8 0, .int .u8 0, .int .u8 0, .int .u8 0, .int .u8 0, .int .u8 0, .int .u8 0, .int .u8 0, .int .u8 0, .int .u8 0, .int .u8 0, .int .u8 0, .int .u8 0, .int .u8 0, .int .u8 0, .int .u8 0, .int .u8 0, .int .u8 0, .int .u8 0, .int .u8 0, .int .u8 0, .int .u8 0, .int .u8 0, .int .u8 0, .int .u8 0, .int .u8 0, .int .u8 0] 28))
  have HSH := Aside0.mk (shaOf_length [0])
  obtain ⟨sh, hsh⟩ : ∃ sh, shaOf [0] = sh := ⟨_, rfl⟩
  rw [hsh] at HSH ⊢
  have HSUM : Aside0 (∀ (A : Option Addr) (c : Nat) (W : World), RdB W A 1 [0] → 1 ≤ c → Calls Try.prog 82 #[.slice A 1 c] W fun e w' => e = .returned (.agg (cells8 sh)) ∧ Below W.heap.size W w') := ⟨fun A c W hr hc => by
    rw [← hsh]
    exact sum_call A c [0] W hr hc (by decide)⟩
  clear hsh hz
  go_enter Try.func148, Try.ntmps148
  go_wp2_with fail
  refine (canput_call _).mono ?_
  rintro e_ w1 ⟨⟨A, c, rfl, hc, hr⟩, hb1⟩
  have HZ1 := Aside0.mk (blk_below HZ.out hb1)
  have HB1 := Aside0.mk (below_step HB.out hb1)
  go_wp2_with fail
  refine (HSUM.out A c _ hr hc).mono ?_
  rintro e_ w2 ⟨rfl, hb2⟩
  have HZ2 := Aside0.mk (blk_below HZ1.out hb2)
  have HB2 := Aside0.mk (below_step HB1.out hb2)
  have hsz : (cells8 sh).size = 32 := by rw [cells8_size, HSH.out]
  have hst := store8 (g := w.heap.size + 1) (t := 28) (old := List.replicate 32 0) (xs := sh) (w := w2) HZ2.out (by rw [HSH.out]; rfl)
  clear hb1 hb2 hc hr
  go_wp2_with fail
  refine bodyPost_ret (v := .agg (cells8 sh)) ?_ rfl ⟨rfl, ?_⟩
  · exact results_cell_row (P := Try.prog) Try.results148 _ _ (w.heap.size + 1) 28 (cells8 sh) (0, 0) _ rfl (setRow_heap _ _ _ _ _ _ HZ2.out) Try.underlying28 rfl (by rw [hsz]; kernel_rfl)
  · exact below_row HB2.out (by omega)
theorem zeroMan : (Try.prog.info? 71).map (·.zero) = some (some (.agg #[.int .u8 0, .int .u8 0, .int .u8 0, .int .u8 0, .int .u8 0, .int .u8 0, .int .u8 0, .int .u8 0, .int .u8 0, .int .u8 0, .int .u8 0, .int .u8 0, .int .u8 0, .int .u8 0, .int .u8 0, .int .u8 0, .int .u8 0, .int .u8 0, .int .u8 0, .int .u8 0, .int .u8 0, .int .u8 0, .int .u8 0, .int .u8 0, .int .u8 0, .int .u8 0, .int .u8 0, .int .u8 0, .int .u8 0, .int .u8 0, .int .u8 0, .int .u8 0, .slice none 0 0])) := by kernel_rfl
theorem built_man (d : List Int) (hd : d.length = 32) : Try.prog.built 71 [(0, .agg (cells8 d))] = some (manC ⟨d, []⟩ none 0).toArray := by
  obtain ⟨i, hi, hz0⟩ := Option.map_eq_some_iff.1 zeroMan
  unfold Program.built
  have e0 : (Try.prog.info? 28).map (·.size) = some 32 := by kernel_rfl
  have e2 : (Try.prog.info? 69).map (·.size) = some 1 := by kernel_rfl
  obtain ⟨i0, hi0, hs0⟩ := Option.map_eq_some_iff.1 e0
  obtain ⟨i2, hi2, hs2⟩ := Option.map_eq_some_iff.1 e2
  rw [hi, Try.underlying71]
  simp only [hz0, List.mapM_cons, List.mapM_nil, hi0, hi2, Option.map_some, hs0, hs2, Option.pure_def, Option.bind_eq_bind, Option.bind_some]
  have := fill_some (([(0, 32), (32, 1)] : List (Nat × Nat)).toArray[·]?) [(0, .agg (cells8 d))] 0 #[.int .u8 0, .int .u8 0, .int .u8 0, .int .u8 0, .int .u8 0, .int .u8 0, .int .u8 0, .int .u8 0, .int .u8 0, .int .u8 0, .int .u8 0, .int .u8 0, .int .u8 0, .int .u8 0, .int .u8 0, .int .u8 0, .int .u8 0, .int .u8 0, .int .u8 0, .int .u8 0, .int .u8 0, .int .u8 0, .int .u8 0, .int .u8 0, .int .u8 0, .int .u8 0, .int .u8 0, .int .u8 0, .int .u8 0, .int .u8 0, .int .u8 0, .int .u8 0, .slice none 0 0] ⟨by simp [Value.cells, cells8, hd], trivial⟩ (by simp [partsL, Value.cells, cells8, hd])
  rw [show (Value.agg #[.int .u8 0, .int .u8 0, .int .u8 0, .int .u8 0, .int .u8 0, .int .u8 0, .int .u8 0, .int .u8 0, .int .u8 0, .int .u8 0, .int .u8 0, .int .u8 0, .int .u8 0, .int .u8 0, .int .u8 0, .int .u8 0, .int .u8 0, .int .u8 0, .int .u8 0, .int .u8 0, .int .u8 0, .int .u8 0, .int .u8 0, .int .u8 0, .int .u8 0, .int .u8 0, .int .u8 0, .int .u8 0, .int .u8 0, .int .u8 0, .int .u8 0, .int .u8 0, .slice none 0 0]).cells = #[.int .u8 0, .int .u8 0, .int .u8 0, .int .u8 0, .int .u8 0, .int .u8 0, .int .u8 0, .int .u8 0, .int .u8 0, .int .u8 0, .int .u8 0, .int .u8 0, .int .u8 0, .int .u8 0, .int .u8 0, .int .u8 0, .int .u8 0, .int .u8 0, .int .u8 0, .int .u8 0, .int .u8 0, .int .u8 0, .int .u8 0, .int .u8 0, .int .u8 0, .int .u8 0, .int .u8 0, .int .u8 0, .int .u8 0, .int .u8 0, .int .u8 0, .int .u8 0, .slice none 0 0] from rfl]
  rw [this]
  simp [partsL, Value.cells, cells8, hd, manC, nums]
set_option maxHeartbeats 2000000 in
set_option maxRecDepth 100000 in
theorem mof_call (w : World) : Calls Try.prog 103 #[.agg #[.slice none 0 0]] w fun e w' => e = .returned (.tuple #[.agg (manC ⟨shaOf [0], []⟩ none 0).toArray, .bool true]) ∧ Below w.heap.size w w' := by
  have HN := Aside0.mk (blk_new w (.cells #[.slice none 0 0] 144))
  have g0 := blk_cell HN.out 0
  have hz := blk_new (w.alloc (.cells #[.slice none 0 0] 144)) (.cells #[.int .u8 0, .int .u8 0, .int .u8 0, .int .u8 0, .int .u8 0, .int .u8 0, .int .u8 0, .int .u8 0, .int .u8 0, .int .u8 0, .int .u8 0, .int .u8 0, .int .u8 0, .int .u8 0, .int .u8 0, .int .u8 0, .int .u8 0, .int .u8 0, .int .u8 0, .int .u8 0, .int .u8 0, .int .u8 0, .int .u8 0, .int .u8 0, .int .u8 0, .int .u8 0, .int .u8 0, .int .u8 0, .int .u8 0, .int .u8 0, .int .u8 0, .int .u8 0, .slice none 0 0] 71)
  rw [alloc_size] at hz
  have HZ := Aside0.mk (And.intro (blk_alloc HN.out (.cells #[.int .u8 0, .int .u8 0, .int .u8 0, .int .u8 0, .int .u8 0, .int .u8 0, .int .u8 0, .int .u8 0, .int .u8 0, .int .u8 0, .int .u8 0, .int .u8 0, .int .u8 0, .int .u8 0, .int .u8 0, .int .u8 0, .int .u8 0, .int .u8 0, .int .u8 0, .int .u8 0, .int .u8 0, .int .u8 0, .int .u8 0, .int .u8 0, .int .u8 0, .int .u8 0, .int .u8 0, .int .u8 0, .int .u8 0, .int .u8 0, .int .u8 0, .int .u8 0, .slice none 0 0] 71)) hz)
  have HB := Aside0.mk (below_alloc (below_alloc (Below.refl w.heap.size w) (.cells #[.slice none 0 0] 144)) (.cells #[.int .u8 0, .int .u8 0, .int .u8 0, .int .u8 0, .int .u8 0, .int .u8 0, .int .u8 0, .int .u8 0, .int .u8 0, .int .u8 0, .int .u8 0, .int .u8 0, .int .u8 0, .int .u8 0, .int .u8 0, .int .u8 0, .int .u8 0, .int .u8 0, .int .u8 0, .int .u8 0, .int .u8 0, .int .u8 0, .int .u8 0, .int .u8 0, .int .u8 0, .int .u8 0, .int .u8 0, .int .u8 0, .int .u8 0, .int .u8 0, .int .u8 0, .int .u8 0, .slice none 0 0] 71))
  have HSH := Aside0.mk (shaOf_length [0])
  have HDG := Aside0.mk candig_call
  obtain ⟨sh, hsh⟩ : ∃ sh, shaOf [0] = sh := ⟨_, rfl⟩
  rw [hsh] at HSH HDG ⊢
  have HBU := Aside0.mk (built_man sh HSH.out)
  have hmz := manC_size (m := ⟨sh, []⟩) HSH.out none 0
  have HMO := Aside0.mk (manC_one ⟨sh, []⟩ none 0)
  have HMI := Aside0.mk (manInfo (m := ⟨sh, []⟩) HSH.out none 0)
  obtain ⟨ms, hms⟩ : ∃ ms, (manC ⟨sh, []⟩ none 0).toArray = ms := ⟨_, rfl⟩
  rw [hms] at HBU hmz HMO HMI ⊢
  clear hsh hz hms
  go_enter Try.func103, Try.ntmps103
  go_wp2_with fail
  refine (bookmay_call _).mono ?_
  rintro e_ w1 ⟨rfl, hb1⟩
  have HZ1 := Aside0.mk (And.intro (blk_below HZ.out.1 hb1) (blk_below HZ.out.2 hb1))
  have HB1 := Aside0.mk (below_step HB.out hb1)
  have g1 := blk_cell HZ1.out.1 0
  clear hb1
  go_wp2_with fail
  refine (HDG.out _).mono ?_
  rintro e_ w2 ⟨rfl, hb2⟩
  have HZ2 := Aside0.mk (And.intro (blk_below HZ1.out.1 hb2) (blk_below HZ1.out.2 hb2))
  have HB2 := Aside0.mk (below_step HB1.out hb2)
  have g2 := blk_cell HZ2.out.1 0
  have hsn := store_new w2 #[.int .u8 0, .int .u8 0, .int .u8 0, .int .u8 0, .int .u8 0, .int .u8 0, .int .u8 0, .int .u8 0, .int .u8 0, .int .u8 0, .int .u8 0, .int .u8 0, .int .u8 0, .int .u8 0, .int .u8 0, .int .u8 0, .int .u8 0, .int .u8 0, .int .u8 0, .int .u8 0, .int .u8 0, .int .u8 0, .int .u8 0, .int .u8 0, .int .u8 0, .int .u8 0, .int .u8 0, .int .u8 0, .int .u8 0, .int .u8 0, .int .u8 0, .int .u8 0, .slice none 0 0] ms 71 (by rw [hmz]; rfl) HMO.out
  have HM3 := Aside0.mk (blk_new w2 (.cells ms 71))
  have HZ3 := Aside0.mk (And.intro (blk_alloc HZ2.out.1 (.cells ms 71)) (blk_alloc HZ2.out.2 (.cells ms 71)))
  have HB3 := Aside0.mk (below_alloc HB2.out (.cells ms 71))
  have g3 := blk_cell HZ3.out.1 0
  clear hb2
  go_wp2_with (first
    | ((with_reducible refine gate_dst (N := 17) rfl ?_); refine wpList_build_cells rfl 71 _ rfl ms ?hb ?_; case hb => (simp only [List.map_toArray, List.map_cons, List.map_nil]; exact HBU.out))
    | fail)
  go_loop [21] (fun v => v = .int .i64 0) (fun _ => 0)
  case atStart => rfl
  case round =>
    subst hrel
    have hst := storeA (cs := ms) HZ3.out.2 (by rw [hmz]; rfl) HMO.out
    go_wp2_with (first
      | ((with_reducible refine gate_dst (N := 65) rfl ?_); refine wpList_load_row rfl 71 (.tmp 4) rfl w2.heap.size rfl 71 ms (0, 0) _ HM3.out Try.underlying71 rfl HMI.out ?_)
      | fail)
    refine bodyPost_ret (v := .tuple #[.agg ms, .bool true]) ?_ rfl ⟨rfl, ?_⟩
    · exact results_ct (P := Try.prog) Try.results103 _ _ (w.heap.size + 1) 71 ms (0, 0) _ rfl (setRow_heap _ _ _ _ _ _ HZ3.out.2) Try.underlying71 rfl HMI.out
    · exact below_row HB3.out (by omega)
end Go.Proofs.Ytchaegfdcdlfaaa.X

namespace Go.Proofs.Ytchaegfdcdlfaaa.X
set_option linter.unusedVariables false
set_option linter.unusedSimpArgs false
open Go.RowKit Go.Proofs.YtchaegfdcdlfaaaW.PrintWords Go.Proofs.YtchaegfdcdlfaaaW.PrintLast Go.Proofs.YtchaegfdcdlfaaaW.PrintMore
attribute [local go_sem] max2_int min2_int max_two min_two max_three min_three max_four min_four
def allEq {α : Type} (e : α → α → Bool) : List α → List α → Bool
  | [], [] => true
  | x :: l, y :: m => e x y && allEq e l m
  | _, _ => false
theorem allEq_len {α : Type} {e : α → α → Bool} : ∀ {l m : List α}, l.length ≠ m.length → allEq e l m = false
  | [], [], h => absurd rfl h
  | _ :: _, [], _ => rfl
  | [], _ :: _, _ => rfl
  | x :: l, y :: m, h => by unfold allEq; rw [allEq_len (l := l) (m := m) (by simpa using h), Bool.and_false]
theorem allEq_drop {α : Type} (e : α → α → Bool) (l m : List α) (i : Nat) (z : α) (hi : i < l.length) (hm : i < m.length) : allEq e (l.drop i) (m.drop i) = (e (l.getD i z) (m.getD i z) && allEq e (l.drop (i + 1)) (m.drop (i + 1))) := by
  rw [List.drop_eq_getElem_cons hi, List.drop_eq_getElem_cons hm, List.getD_eq_getElem?_getD, List.getElem?_eq_getElem hi, Option.getD_some, List.getD_eq_getElem?_getD, List.getElem?_eq_getElem hm, Option.getD_some]
  rfl
theorem allEq_self {α : Type} {e : α → α → Bool} : ∀ {l : List α}, (∀ x ∈ l, e x x = true) → allEq e l l = true
  | [], _ => rfl
  | x :: l, h => by unfold allEq; rw [h x (by simp), allEq_self (fun y hy => h y (by simp [hy]))]; rfl
theorem allEq_eq {α : Type} {e : α → α → Bool} : ∀ {l m : List α}, (∀ x ∈ l, ∀ y ∈ m, e x y = true → x = y) → allEq e l m = true → l = m
  | [], [], _, _ => rfl
  | _ :: _, [], _, h => by cases h
  | [], _ :: _, _, h => by cases h
  | x :: l, y :: m, h, hh => by
    unfold allEq at hh
    rw [Bool.and_eq_true] at hh
    rw [h x (by simp) y (by simp) hh.1, allEq_eq (fun a ha b hb => h a (by simp [ha]) b (by simp [hb])) hh.2]
set_option maxHeartbeats 2000000 in
set_option maxRecDepth 100000 in
theorem eqs_call (A B : Option Addr) (c d : Nat) (l m : List Sg) (w : World) (ha : sgK.C w A l.length l) (hb : sgK.C w B m.length m) (hok : ∀ s ∈ l, SgOk s) (hok2 : ∀ s ∈ m, SgOk s) :
    Calls Try.prog 112 #[.slice A l.length c, .slice B m.length d] w fun e w' => e = .returned (.bool (allEq (· == ·) l m)) ∧ Below w.heap.size w w' := by
  have HA := Aside0.mk ha
  have HB := Aside0.mk hb
  have HOK := Aside0.mk (And.intro hok hok2)
  have HL := Aside0.mk ha.2.1
  clear ha hb hok hok2
  by_cases hlm : l.length = m.length
  case neg =>
    have HR := Aside0.mk (allEq_len (e := fun x y : Sg => x == y) hlm)
    have e1 : ((l.length : Int) != (m.length : Int)) = true := by simp only [bne_iff_ne, ne_eq]; omega
    clear hlm
    go_enter Try.func112, Try.ntmps112
    go_wp2_with fail
    go_ret
    exact ⟨by rw [HR.out]; rfl, Below.refl _ _⟩
  have HLM := Aside0.mk hlm
  have e1 : ((l.length : Int) != (m.length : Int)) = false := by rw [hlm]; simp
  clear hlm
  go_enter Try.func112, Try.ntmps112
  go_wp2_with fail
  clear e1
  go_loopg [5, 13] l.length (fun k v5 v13 w' => ∃ j : Nat, v13 = .int .i64 j ∧ Aside0 (k = l.length - j ∧ j ≤ l.length) ∧ Aside0 (Below w.heap.size w w') ∧ Aside0 (allEq (· == ·) (l.drop j) (m.drop j) = allEq (· == ·) l m))
  case atStart => exact ⟨0, rfl, ⟨by omega, by omega⟩, ⟨Below.refl _ _⟩, ⟨rfl⟩⟩
  case round =>
    obtain ⟨j, rfl, HJ, HBR, HE⟩ := hrel
    by_cases hj : j < l.length
    · obtain ⟨ad, hA, h32, hcell⟩ := sgs_at (Kd.C_below HA.out HBR.out) hj
      obtain ⟨bd, hB, _, hcellb⟩ := sgs_at (Kd.C_below HB.out HBR.out) (show j < m.length by have := HLM.out; omega)
      have hjm : j < m.length := by have := HLM.out; omega
      have hmem : l[j]? = some (l.getD j (0, [])) := by simp [List.getD_eq_getElem?_getD, hj]
      have hmem2 : m[j]? = some (m.getD j (0, [])) := by simp [List.getD_eq_getElem?_getD, hjm]
      have hstep := allEq_drop (fun x y : Sg => x == y) l m j (0, []) hj hjm
      obtain ⟨s, hs⟩ : ∃ s, s = l.getD j (0, []) := ⟨_, rfl⟩
      obtain ⟨y, hy⟩ : ∃ y, y = m.getD j (0, []) := ⟨_, rfl⟩
      rw [← hs, ← hy] at hstep
      rw [← hs] at h32 hcell hmem
      rw [← hy] at hcellb hmem2
      have HC := Aside0.mk hcell
      have HD := Aside0.mk hcellb
      have HST := Aside0.mk hstep
      have HSO : Aside0 (SgOk s ∧ SgOk y) := ⟨HOK.out.1 s (List.mem_of_getElem? hmem), HOK.out.2 y (List.mem_of_getElem? hmem2)⟩
      subst hA
      subst hB
      have e1 : decide ((j : Int) < (l.length : Int)) = true := by simpa using hj
      have e2 : ((j : Int) < (l.length : Int)) = True := by simpa using hj
      have e3 : (0 ≤ (j : Int)) = True := by simp
      have e6 : ((j : Int) < (m.length : Int)) = True := by simpa using hjm
      have e4 : IntKind.i64.wrap ((j : Int) + 1) = ((j + 1 : Nat) : Int) := by have := HL.out; simp [IntKind.wrap, IntKind.bits, IntKind.signed]; omega
      have HJ2 := Aside0.mk hj
      clear hs hy hmem hmem2 hcell hcellb h32 hj hjm hstep
      cases hsy : (s == y)
      · have HF : Aside0 (allEq (· == ·) l m = false) := ⟨by rw [← HE.out]; exact HST.out.trans (by rw [hsy]; rfl)⟩
        go_wp2_with fail
        refine wp_region_held_drew (S := (fun W => (∀ j_ v_, (sgA s)[j_]? = some v_ → W.cell? ((ad.add (j * 33)).add j_) = some v_) ∧ ∀ j_ v_, (sgA y)[j_]? = some v_ → W.cell? ((bd.add (j * 33)).add j_) = some v_)) (by kernel_rfl) (And.intro HC.out HD.out) (fun hHeld => ?_)
        refine tq (i := 0) (v := ?_) ?hy ?_
        case hy => (intro W_ hW_; go_simp; first | done | with_reducible rfl)
        try simp only [Act.put, List.setIfInBounds_toArray, List.set_cons_zero, List.set_cons_succ]
        refine tq (i := 1) (v := ?_) ?hy ?_
        case hy => (intro W_ hW_; go_simp; first | done | with_reducible rfl)
        try simp only [Act.put, List.setIfInBounds_toArray, List.set_cons_zero, List.set_cons_succ]
        refine tq (i := 2) (v := ?_) ?hy ?_
        case hy => (intro W_ hW_; go_simp; first | done | with_reducible rfl)
        try simp only [Act.put, List.setIfInBounds_toArray, List.set_cons_zero, List.set_cons_succ]
        refine tq (i := 3) (v := ?_) ?hy ?_
        case hy => (intro W_ hW_; refine Eq.trans (exec_load_cells 30 (.tmp 18) ?_ (ad.add (j * 33)) ?_ (sgA s) _ hW_.1 Try.underlying30 rfl (sgInfo HSO.out.1.len)) ?_ <;> (first | with_reducible rfl | rfl))
        try simp only [Act.put, List.setIfInBounds_toArray, List.set_cons_zero, List.set_cons_succ]
        refine tq (i := 4) (v := ?_) ?hy ?_
        case hy => (intro W_ hW_; go_simp; first | done | with_reducible rfl)
        try simp only [Act.put, List.setIfInBounds_toArray, List.set_cons_zero, List.set_cons_succ]
        refine tq (i := 5) (v := ?_) ?hy ?_
        case hy => (intro W_ hW_; go_simp; first | done | with_reducible rfl)
        try simp only [Act.put, List.setIfInBounds_toArray, List.set_cons_zero, List.set_cons_succ]
        refine tq (i := 6) (v := ?_) ?hy ?_
        case hy => (intro W_ hW_; go_simp; first | done | with_reducible rfl)
        try simp only [Act.put, List.setIfInBounds_toArray, List.set_cons_zero, List.set_cons_succ]
        refine tq (i := 7) (v := ?_) ?hy ?_
        case hy => (intro W_ hW_; refine Eq.trans (exec_load_cells 30 (.tmp 22) ?_ (bd.add (j * 33)) ?_ (sgA y) _ hW_.2 Try.underlying30 rfl (sgInfo HSO.out.2.len)) ?_ <;> (first | with_reducible rfl | rfl))
        try simp only [Act.put, List.setIfInBounds_toArray, List.set_cons_zero, List.set_cons_succ]
        refine tq (i := 8) (v := ?_) ?hy ?_
        case hy => (intro W_ hW_; refine Eq.trans (exec_neq_sg s y HSO.out.1 HSO.out.2 (.tmp 19) (.tmp 23) ?_ ?_ ?_) ?_ <;> (first | with_reducible rfl | rfl))
        try simp only [Act.put, List.setIfInBounds_toArray, List.set_cons_zero, List.set_cons_succ]
        refine wpAnyH_done (by kernel_rfl) ?_ _
        rw [hsy]
        clear hsy
        go_wp2_with fail
        go_ret
        exact ⟨by rw [HF.out]; rfl, below_drew HBR.out⟩
      · have HF : Aside0 (allEq (· == ·) (l.drop (j + 1)) (m.drop (j + 1)) = allEq (· == ·) l m) := ⟨by rw [← HE.out]; exact (HST.out.trans (by rw [hsy]; rfl)).symm⟩
        go_wp2_with fail
        refine wp_region_held_drew (S := (fun W => (∀ j_ v_, (sgA s)[j_]? = some v_ → W.cell? ((ad.add (j * 33)).add j_) = some v_) ∧ ∀ j_ v_, (sgA y)[j_]? = some v_ → W.cell? ((bd.add (j * 33)).add j_) = some v_)) (by kernel_rfl) (And.intro HC.out HD.out) (fun hHeld => ?_)
        refine tq (i := 0) (v := ?_) ?hy ?_
        case hy => (intro W_ hW_; go_simp; first | done | with_reducible rfl)
        try simp only [Act.put, List.setIfInBounds_toArray, List.set_cons_zero, List.set_cons_succ]
        refine tq (i := 1) (v := ?_) ?hy ?_
        case hy => (intro W_ hW_; go_simp; first | done | with_reducible rfl)
        try simp only [Act.put, List.setIfInBounds_toArray, List.set_cons_zero, List.set_cons_succ]
        refine tq (i := 2) (v := ?_) ?hy ?_
        case hy => (intro W_ hW_; go_simp; first | done | with_reducible rfl)
        try simp only [Act.put, List.setIfInBounds_toArray, List.set_cons_zero, List.set_cons_succ]
        refine tq (i := 3) (v := ?_) ?hy ?_
        case hy => (intro W_ hW_; refine Eq.trans (exec_load_cells 30 (.tmp 18) ?_ (ad.add (j * 33)) ?_ (sgA s) _ hW_.1 Try.underlying30 rfl (sgInfo HSO.out.1.len)) ?_ <;> (first | with_reducible rfl | rfl))
        try simp only [Act.put, List.setIfInBounds_toArray, List.set_cons_zero, List.set_cons_succ]
        refine tq (i := 4) (v := ?_) ?hy ?_
        case hy => (intro W_ hW_; go_simp; first | done | with_reducible rfl)
        try simp only [Act.put, List.setIfInBounds_toArray, List.set_cons_zero, List.set_cons_succ]
        refine tq (i := 5) (v := ?_) ?hy ?_
        case hy => (intro W_ hW_; go_simp; first | done | with_reducible rfl)
        try simp only [Act.put, List.setIfInBounds_toArray, List.set_cons_zero, List.set_cons_succ]
        refine tq (i := 6) (v := ?_) ?hy ?_
        case hy => (intro W_ hW_; go_simp; first | done | with_reducible rfl)
        try simp only [Act.put, List.setIfInBounds_toArray, List.set_cons_zero, List.set_cons_succ]
        refine tq (i := 7) (v := ?_) ?hy ?_
        case hy => (intro W_ hW_; refine Eq.trans (exec_load_cells 30 (.tmp 22) ?_ (bd.add (j * 33)) ?_ (sgA y) _ hW_.2 Try.underlying30 rfl (sgInfo HSO.out.2.len)) ?_ <;> (first | with_reducible rfl | rfl))
        try simp only [Act.put, List.setIfInBounds_toArray, List.set_cons_zero, List.set_cons_succ]
        refine tq (i := 8) (v := ?_) ?hy ?_
        case hy => (intro W_ hW_; refine Eq.trans (exec_neq_sg s y HSO.out.1 HSO.out.2 (.tmp 19) (.tmp 23) ?_ ?_ ?_) ?_ <;> (first | with_reducible rfl | rfl))
        try simp only [Act.put, List.setIfInBounds_toArray, List.set_cons_zero, List.set_cons_succ]
        refine wpAnyH_done (by kernel_rfl) ?_ _
        rw [hsy]
        clear hsy
        go_wp2_with fail
        go_roundg (l.length - (j + 1))
        case measure => have := HJ.out; have := HJ2.out; omega
        case rel => exact ⟨j + 1, by simp [e4], ⟨by omega, by have := HJ2.out; omega⟩, ⟨below_drew HBR.out⟩, HF⟩
    · have hjl : j = l.length := by have := HJ.out; omega
      have HF : Aside0 (allEq (· == ·) l m = true) := ⟨by
        rw [← HE.out, hjl, List.drop_length, HLM.out, List.drop_length]
        rfl⟩
      have e1 : decide ((j : Int) < (l.length : Int)) = false := by simpa using hj
      have e2 : ((j : Int) < (l.length : Int)) = False := by simpa using hj
      clear hj hjl
      go_wp2_with fail
      go_ret
      exact ⟨by rw [HF.out]; rfl, HBR.out⟩
end Go.Proofs.Ytchaegfdcdlfaaa.X

namespace Go.Proofs.Ytchaegfdcdlfaaa.X
set_option linter.unusedVariables false
set_option linter.unusedSimpArgs false
open Go.RowKit Go.Proofs.YtchaegfdcdlfaaaW.PrintWords Go.Proofs.YtchaegfdcdlfaaaW.PrintLast Go.Proofs.YtchaegfdcdlfaaaW.PrintMore
attribute [local go_sem] max2_int min2_int max_two min_two max_three min_three max_four min_four
theorem wpList_load_cells_g {P : Program} {ops : Array Oper} {rest : List Oper} {o : Oper} {a : Act} {w : World} {Q : Exit → Act → World → Prop} (hgd : Region.wanted o (yielded ops a.tmps) = true) (ty : TypeId) (x : Operand) (ho : o.op = .load ty x)
    (ad : Addr) (hx : a.eval x = .pointer (some ad)) (cs : Array Value) (d : TypeDesc) (hc : ∀ j v, cs[j]? = some v → w.cell? (ad.add j) = some v)
    (hu : P.underlying ty = some d) (hd : (match d with | .struct _ | .array _ _ => true | _ => false) = true) (hi : (P.info? ty).map (·.size) = some cs.size)
    (h : wpList P ops Q rest (a.put o.dst (.agg cs)) w) : wpList P ops Q (o :: rest) a w := by
  unfold wpList
  rw [if_pos hgd]
  exact .inl (wp_load_cells ty x ho ad hx cs d hc hu hd hi h)
theorem eql_st (n r n2 r2 : Int) (W : World) : (binOp .eql 96 (.agg #[.int .i64 n, .int .i64 r]) (.agg #[.int .i64 n2, .int .i64 r2])).run Try.prog W = .ok (.bool (n == n2 && r == r2)) W := by
  have h : (Op.equalIn 10000 96 (.agg #[.int .i64 n, .int .i64 r]) (.agg #[.int .i64 n2, .int .i64 r2])).run Try.prog W = .ok (n == n2 && r == r2) W := by
    refine eqA_of (d := 9999) Try.underlying96 (by kernel_rfl) ?_
    refine eqf_cons (by rfl) (a := .int .i64 n) (b := .int .i64 n2) ?_ ?_ ?_ (eqf_last (by rfl) (a := .int .i64 r) (b := .int .i64 r2) ?_ ?_ ?_) <;> go_simp
  rw [run_eql_struct, h]
  rfl
def sameE (x y : Ent) : Bool := x.no == y.no && ((x.n == y.n && x.rep == y.rep) && (x.len == y.len && (x.d == y.d && allEq (· == ·) x.b y.b)))
abbrev TwoS (w0 : World) (t : TypeId) (es fs : Array Value) (W : World) : Prop := W.heap[w0.heap.size]? = some (.cells es t (0, 0)) ∧ W.heap[w0.heap.size + 1]? = some (.cells fs t (0, 0)) ∧ Below w0.heap.size w0 W
theorem TwoS.begin (w0 : World) (t : TypeId) (es fs : Array Value) : TwoS w0 t es fs ((w0.alloc (.cells es t)).alloc (.cells fs t)) := by
  have h := blk_new (w0.alloc (.cells es t)) (.cells fs t)
  rw [alloc_size] at h
  exact ⟨blk_alloc (blk_new w0 (.cells es t)) _, h, below_alloc (below_alloc (Below.refl _ _) _) _⟩
theorem TwoS.step {w0 : World} {t : TypeId} {es fs : Array Value} {W W1 : World} (h : TwoS w0 t es fs W) (hb : Below W.heap.size W W1) : TwoS w0 t es fs W1 := ⟨blk_below h.1 hb, blk_below h.2.1 hb, below_step h.2.2 hb⟩
set_option maxHeartbeats 4000000 in
set_option maxRecDepth 100000 in
theorem same_e0 (es fs : Array Value) (no n rep len no2 n2 rep2 len2 : Int) (d d2 : List Int) (b b2 : List Sg) (A B : Option Addr) (c c' : Nat) (w : World)
    (h0 : es[0]? = some (.int .i64 no)) (h1 : es[1]? = some (.int .i64 n)) (h2 : es[2]? = some (.int .i64 rep)) (h3 : es[3]? = some (.int .i64 len)) (h4 : ∀ W : World, W.heap[w.heap.size]? = some (.cells es 149 (0, 0)) → At W ⟨w.heap.size, 4, none⟩ (cells8 d)) (h5 : es[36]? = some (.slice A b.length c))
    (g0 : fs[0]? = some (.int .i64 no2)) (g1 : fs[1]? = some (.int .i64 n2)) (g2 : fs[2]? = some (.int .i64 rep2)) (g3 : fs[3]? = some (.int .i64 len2)) (g4 : ∀ W : World, W.heap[w.heap.size + 1]? = some (.cells fs 149 (0, 0)) → At W ⟨w.heap.size + 1, 4, none⟩ (cells8 d2)) (g5 : fs[36]? = some (.slice B b2.length c'))
    (hd : d.length = 32) (hd2 : d2.length = 32) (hA : ∀ W : World, Below w.heap.size w W → Calls Try.prog 112 #[.slice A b.length c, .slice B b2.length c'] W fun e w' => e = .returned (.bool (allEq (· == ·) b b2)) ∧ Below W.heap.size W w') (c1 : (no == no2) = false) :
    Calls Try.prog 111 #[.agg es, .agg fs] w fun e w' => e = .returned (.bool false) ∧ Below w.heap.size w w' := by
  have HT := Aside0.mk (TwoS.begin w 149 es fs)
  have f0 := (blk_cell HT.out.1 0).trans h0
  have f1 := (blk_cell HT.out.1 1).trans h1
  have f2 := (blk_cell HT.out.1 2).trans h2
  have f3 := (blk_cell HT.out.1 3).trans h3
  have f5 := (blk_cell HT.out.1 36).trans h5
  have e0 := (blk_cell HT.out.2.1 0).trans g0
  have e1 := (blk_cell HT.out.2.1 1).trans g1
  have e2 := (blk_cell HT.out.2.1 2).trans g2
  have e3 := (blk_cell HT.out.2.1 3).trans g3
  have e5 := (blk_cell HT.out.2.1 36).trans g5
  have HD := Aside0.mk (And.intro (h4 _ HT.out.1) (g4 _ HT.out.2.1))
  have HDL := Aside0.mk (And.intro hd hd2)
  have HA := Aside0.mk hA
  have hst := eql_st n rep n2 rep2
  have hdg : ∀ W : World, (binOp .eql 28 (.agg (cells8 d)) (.agg (cells8 d2))).run Try.prog W = .ok (.bool (d == d2)) W := fun W => eql8 (P := Try.prog) (w := W) Try.underlying28 Try.info5i Try.underlying5 cells5 d d2 hd hd2
  clear h0 h1 h2 h3 h4 h5 g0 g1 g2 g3 g4 g5 hd hd2 hA
  go_enter Try.func111, Try.ntmps111
  go_wp2_with (first
    | fail)
  go_ret
  exact ⟨rfl, HT.out.2.2⟩
set_option maxHeartbeats 4000000 in
set_option maxRecDepth 100000 in
theorem same_e1 (es fs : Array Value) (no n rep len no2 n2 rep2 len2 : Int) (d d2 : List Int) (b b2 : List Sg) (A B : Option Addr) (c c' : Nat) (w : World)
    (h0 : es[0]? = some (.int .i64 no)) (h1 : es[1]? = some (.int .i64 n)) (h2 : es[2]? = some (.int .i64 rep)) (h3 : es[3]? = some (.int .i64 len)) (h4 : ∀ W : World, W.heap[w.heap.size]? = some (.cells es 149 (0, 0)) → At W ⟨w.heap.size, 4, none⟩ (cells8 d)) (h5 : es[36]? = some (.slice A b.length c))
    (g0 : fs[0]? = some (.int .i64 no2)) (g1 : fs[1]? = some (.int .i64 n2)) (g2 : fs[2]? = some (.int .i64 rep2)) (g3 : fs[3]? = some (.int .i64 len2)) (g4 : ∀ W : World, W.heap[w.heap.size + 1]? = some (.cells fs 149 (0, 0)) → At W ⟨w.heap.size + 1, 4, none⟩ (cells8 d2)) (g5 : fs[36]? = some (.slice B b2.length c'))
    (hd : d.length = 32) (hd2 : d2.length = 32) (hA : ∀ W : World, Below w.heap.size w W → Calls Try.prog 112 #[.slice A b.length c, .slice B b2.length c'] W fun e w' => e = .returned (.bool (allEq (· == ·) b b2)) ∧ Below W.heap.size W w') (c1 : (no == no2) = true) (c2 : (n == n2 && rep == rep2) = false) :
    Calls Try.prog 111 #[.agg es, .agg fs] w fun e w' => e = .returned (.bool false) ∧ Below w.heap.size w w' := by
  have HT := Aside0.mk (TwoS.begin w 149 es fs)
  have f0 := (blk_cell HT.out.1 0).trans h0
  have f1 := (blk_cell HT.out.1 1).trans h1
  have f2 := (blk_cell HT.out.1 2).trans h2
  have f3 := (blk_cell HT.out.1 3).trans h3
  have f5 := (blk_cell HT.out.1 36).trans h5
  have e0 := (blk_cell HT.out.2.1 0).trans g0
  have e1 := (blk_cell HT.out.2.1 1).trans g1
  have e2 := (blk_cell HT.out.2.1 2).trans g2
  have e3 := (blk_cell HT.out.2.1 3).trans g3
  have e5 := (blk_cell HT.out.2.1 36).trans g5
  have HD := Aside0.mk (And.intro (h4 _ HT.out.1) (g4 _ HT.out.2.1))
  have HDL := Aside0.mk (And.intro hd hd2)
  have HA := Aside0.mk hA
  have hst := eql_st n rep n2 rep2
  have hdg : ∀ W : World, (binOp .eql 28 (.agg (cells8 d)) (.agg (cells8 d2))).run Try.prog W = .ok (.bool (d == d2)) W := fun W => eql8 (P := Try.prog) (w := W) Try.underlying28 Try.info5i Try.underlying5 cells5 d d2 hd hd2
  simp only [c2] at hst
  clear h0 h1 h2 h3 h4 h5 g0 g1 g2 g3 g4 g5 hd hd2 hA
  go_enter Try.func111, Try.ntmps111
  go_wp2_with (first
    | fail)
  go_ret
  exact ⟨rfl, HT.out.2.2⟩
set_option maxHeartbeats 4000000 in
set_option maxRecDepth 100000 in
theorem same_e2 (es fs : Array Value) (no n rep len no2 n2 rep2 len2 : Int) (d d2 : List Int) (b b2 : List Sg) (A B : Option Addr) (c c' : Nat) (w : World)
    (h0 : es[0]? = some (.int .i64 no)) (h1 : es[1]? = some (.int .i64 n)) (h2 : es[2]? = some (.int .i64 rep)) (h3 : es[3]? = some (.int .i64 len)) (h4 : ∀ W : World, W.heap[w.heap.size]? = some (.cells es 149 (0, 0)) → At W ⟨w.heap.size, 4, none⟩ (cells8 d)) (h5 : es[36]? = some (.slice A b.length c))
    (g0 : fs[0]? = some (.int .i64 no2)) (g1 : fs[1]? = some (.int .i64 n2)) (g2 : fs[2]? = some (.int .i64 rep2)) (g3 : fs[3]? = some (.int .i64 len2)) (g4 : ∀ W : World, W.heap[w.heap.size + 1]? = some (.cells fs 149 (0, 0)) → At W ⟨w.heap.size + 1, 4, none⟩ (cells8 d2)) (g5 : fs[36]? = some (.slice B b2.length c'))
    (hd : d.length = 32) (hd2 : d2.length = 32) (hA : ∀ W : World, Below w.heap.size w W → Calls Try.prog 112 #[.slice A b.length c, .slice B b2.length c'] W fun e w' => e = .returned (.bool (allEq (· == ·) b b2)) ∧ Below W.heap.size W w') (c1 : (no == no2) = true) (c2 : (n == n2 && rep == rep2) = true) (c3 : (len == len2) = false) :
    Calls Try.prog 111 #[.agg es, .agg fs] w fun e w' => e = .returned (.bool false) ∧ Below w.heap.size w w' := by
  have HT := Aside0.mk (TwoS.begin w 149 es fs)
  have f0 := (blk_cell HT.out.1 0).trans h0
  have f1 := (blk_cell HT.out.1 1).trans h1
  have f2 := (blk_cell HT.out.1 2).trans h2
  have f3 := (blk_cell HT.out.1 3).trans h3
  have f5 := (blk_cell HT.out.1 36).trans h5
  have e0 := (blk_cell HT.out.2.1 0).trans g0
  have e1 := (blk_cell HT.out.2.1 1).trans g1
  have e2 := (blk_cell HT.out.2.1 2).trans g2
  have e3 := (blk_cell HT.out.2.1 3).trans g3
  have e5 := (blk_cell HT.out.2.1 36).trans g5
  have HD := Aside0.mk (And.intro (h4 _ HT.out.1) (g4 _ HT.out.2.1))
  have HDL := Aside0.mk (And.intro hd hd2)
  have HA := Aside0.mk hA
  have hst := eql_st n rep n2 rep2
  have hdg : ∀ W : World, (binOp .eql 28 (.agg (cells8 d)) (.agg (cells8 d2))).run Try.prog W = .ok (.bool (d == d2)) W := fun W => eql8 (P := Try.prog) (w := W) Try.underlying28 Try.info5i Try.underlying5 cells5 d d2 hd hd2
  simp only [c2] at hst
  clear h0 h1 h2 h3 h4 h5 g0 g1 g2 g3 g4 g5 hd hd2 hA
  go_enter Try.func111, Try.ntmps111
  go_wp2_with (first
    | fail)
  go_ret
  exact ⟨rfl, HT.out.2.2⟩
set_option maxHeartbeats 4000000 in
set_option maxRecDepth 100000 in
theorem same_e3 (es fs : Array Value) (no n rep len no2 n2 rep2 len2 : Int) (d d2 : List Int) (b b2 : List Sg) (A B : Option Addr) (c c' : Nat) (w : World)
    (h0 : es[0]? = some (.int .i64 no)) (h1 : es[1]? = some (.int .i64 n)) (h2 : es[2]? = some (.int .i64 rep)) (h3 : es[3]? = some (.int .i64 len)) (h4 : ∀ W : World, W.heap[w.heap.size]? = some (.cells es 149 (0, 0)) → At W ⟨w.heap.size, 4, none⟩ (cells8 d)) (h5 : es[36]? = some (.slice A b.length c))
    (g0 : fs[0]? = some (.int .i64 no2)) (g1 : fs[1]? = some (.int .i64 n2)) (g2 : fs[2]? = some (.int .i64 rep2)) (g3 : fs[3]? = some (.int .i64 len2)) (g4 : ∀ W : World, W.heap[w.heap.size + 1]? = some (.cells fs 149 (0, 0)) → At W ⟨w.heap.size + 1, 4, none⟩ (cells8 d2)) (g5 : fs[36]? = some (.slice B b2.length c'))
    (hd : d.length = 32) (hd2 : d2.length = 32) (hA : ∀ W : World, Below w.heap.size w W → Calls Try.prog 112 #[.slice A b.length c, .slice B b2.length c'] W fun e w' => e = .returned (.bool (allEq (· == ·) b b2)) ∧ Below W.heap.size W w') (c1 : (no == no2) = true) (c2 : (n == n2 && rep == rep2) = true) (c3 : (len == len2) = true) (c4 : (d == d2) = false) :
    Calls Try.prog 111 #[.agg es, .agg fs] w fun e w' => e = .returned (.bool false) ∧ Below w.heap.size w w' := by
  have HT := Aside0.mk (TwoS.begin w 149 es fs)
  have f0 := (blk_cell HT.out.1 0).trans h0
  have f1 := (blk_cell HT.out.1 1).trans h1
  have f2 := (blk_cell HT.out.1 2).trans h2
  have f3 := (blk_cell HT.out.1 3).trans h3
  have f5 := (blk_cell HT.out.1 36).trans h5
  have e0 := (blk_cell HT.out.2.1 0).trans g0
  have e1 := (blk_cell HT.out.2.1 1).trans g1
  have e2 := (blk_cell HT.out.2.1 2).trans g2
  have e3 := (blk_cell HT.out.2.1 3).trans g3
  have e5 := (blk_cell HT.out.2.1 36).trans g5
  have HD := Aside0.mk (And.intro (h4 _ HT.out.1) (g4 _ HT.out.2.1))
  have HDL := Aside0.mk (And.intro hd hd2)
  have HA := Aside0.mk hA
  have hst := eql_st n rep n2 rep2
  have hdg : ∀ W : World, (binOp .eql 28 (.agg (cells8 d)) (.agg (cells8 d2))).run Try.prog W = .ok (.bool (d == d2)) W := fun W => eql8 (P := Try.prog) (w := W) Try.underlying28 Try.info5i Try.underlying5 cells5 d d2 hd hd2
  simp only [c2] at hst
  simp only [c4] at hdg
  clear h0 h1 h2 h3 h4 h5 g0 g1 g2 g3 g4 g5 hd hd2 hA
  go_enter Try.func111, Try.ntmps111
  go_wp2_with (first
    | ((with_reducible refine gate_dst (N := 26) rfl ?_); refine wpList_load_cells_g (by rfl) 28 (.tmp 25) rfl ⟨w.heap.size, 4, none⟩ rfl (cells8 d) _ HD.out.1 Try.underlying28 rfl (by rw [cells8_size, HDL.out.1]; kernel_rfl) ?_)
    | ((with_reducible refine gate_dst (N := 28) rfl ?_); refine wpList_load_cells_g (by rfl) 28 (.tmp 27) rfl ⟨w.heap.size + 1, 4, none⟩ rfl (cells8 d2) _ HD.out.2 Try.underlying28 rfl (by rw [cells8_size, HDL.out.2]; kernel_rfl) ?_)
    | fail)
  go_ret
  exact ⟨rfl, HT.out.2.2⟩
set_option maxHeartbeats 4000000 in
set_option maxRecDepth 100000 in
theorem same_e4 (es fs : Array Value) (no n rep len no2 n2 rep2 len2 : Int) (d d2 : List Int) (b b2 : List Sg) (A B : Option Addr) (c c' : Nat) (w : World)
    (h0 : es[0]? = some (.int .i64 no)) (h1 : es[1]? = some (.int .i64 n)) (h2 : es[2]? = some (.int .i64 rep)) (h3 : es[3]? = some (.int .i64 len)) (h4 : ∀ W : World, W.heap[w.heap.size]? = some (.cells es 149 (0, 0)) → At W ⟨w.heap.size, 4, none⟩ (cells8 d)) (h5 : es[36]? = some (.slice A b.length c))
    (g0 : fs[0]? = some (.int .i64 no2)) (g1 : fs[1]? = some (.int .i64 n2)) (g2 : fs[2]? = some (.int .i64 rep2)) (g3 : fs[3]? = some (.int .i64 len2)) (g4 : ∀ W : World, W.heap[w.heap.size + 1]? = some (.cells fs 149 (0, 0)) → At W ⟨w.heap.size + 1, 4, none⟩ (cells8 d2)) (g5 : fs[36]? = some (.slice B b2.length c'))
    (hd : d.length = 32) (hd2 : d2.length = 32) (hA : ∀ W : World, Below w.heap.size w W → Calls Try.prog 112 #[.slice A b.length c, .slice B b2.length c'] W fun e w' => e = .returned (.bool (allEq (· == ·) b b2)) ∧ Below W.heap.size W w') (c1 : (no == no2) = true) (c2 : (n == n2 && rep == rep2) = true) (c3 : (len == len2) = true) (c4 : (d == d2) = true) :
    Calls Try.prog 111 #[.agg es, .agg fs] w fun e w' => e = .returned (.bool (allEq (· == ·) b b2)) ∧ Below w.heap.size w w' := by
  have HT := Aside0.mk (TwoS.begin w 149 es fs)
  have f0 := (blk_cell HT.out.1 0).trans h0
  have f1 := (blk_cell HT.out.1 1).trans h1
  have f2 := (blk_cell HT.out.1 2).trans h2
  have f3 := (blk_cell HT.out.1 3).trans h3
  have f5 := (blk_cell HT.out.1 36).trans h5
  have e0 := (blk_cell HT.out.2.1 0).trans g0
  have e1 := (blk_cell HT.out.2.1 1).trans g1
  have e2 := (blk_cell HT.out.2.1 2).trans g2
  have e3 := (blk_cell HT.out.2.1 3).trans g3
  have e5 := (blk_cell HT.out.2.1 36).trans g5
  have HD := Aside0.mk (And.intro (h4 _ HT.out.1) (g4 _ HT.out.2.1))
  have HDL := Aside0.mk (And.intro hd hd2)
  have HA := Aside0.mk hA
  have hst := eql_st n rep n2 rep2
  have hdg : ∀ W : World, (binOp .eql 28 (.agg (cells8 d)) (.agg (cells8 d2))).run Try.prog W = .ok (.bool (d == d2)) W := fun W => eql8 (P := Try.prog) (w := W) Try.underlying28 Try.info5i Try.underlying5 cells5 d d2 hd hd2
  simp only [c2] at hst
  simp only [c4] at hdg
  clear h0 h1 h2 h3 h4 h5 g0 g1 g2 g3 g4 g5 hd hd2 hA
  go_enter Try.func111, Try.ntmps111
  go_wp2_with (first
    | ((with_reducible refine gate_dst (N := 26) rfl ?_); refine wpList_load_cells_g (by rfl) 28 (.tmp 25) rfl ⟨w.heap.size, 4, none⟩ rfl (cells8 d) _ HD.out.1 Try.underlying28 rfl (by rw [cells8_size, HDL.out.1]; kernel_rfl) ?_)
    | ((with_reducible refine gate_dst (N := 28) rfl ?_); refine wpList_load_cells_g (by rfl) 28 (.tmp 27) rfl ⟨w.heap.size + 1, 4, none⟩ rfl (cells8 d2) _ HD.out.2 Try.underlying28 rfl (by rw [cells8_size, HDL.out.2]; kernel_rfl) ?_)
    | fail)
  refine (HA.out _ HT.out.2.2).mono ?_
  rintro e_ w1 ⟨rfl, hb1⟩
  have HB1 := Aside0.mk (below_step HT.out.2.2 hb1)
  clear hb1 f0 f1 f2 f3 f5 e0 e1 e2 e3 e5
  go_wp2_with fail
  go_ret
  exact ⟨rfl, HB1.out⟩
theorem samee_call (x y : Ent) (A B : Option Addr) (c c' : Nat) (w : World) (hd : x.d.length = 32) (hd2 : y.d.length = 32) (hA : Kd.C sgK w A x.b.length x.b) (hB : Kd.C sgK w B y.b.length y.b) (ok : ∀ s ∈ x.b, SgOk s) (ok2 : ∀ s ∈ y.b, SgOk s) :
    Calls Try.prog 111 #[.agg (entC x A c).toArray, .agg (entC y B c').toArray] w fun e w' => e = .returned (.bool (sameE x y)) ∧ Below w.heap.size w w' := by
  have hat : ∀ (g : Nat) (z : Ent) (C : Option Addr) (k : Nat) (W : World), W.heap[g]? = some (.cells (entC z C k).toArray 149 (0, 0)) → At W ⟨g, 4, none⟩ (cells8 z.d) := fun g z C k W h => by
    have := At.part (l := [.int .i64 z.no, .int .i64 z.n, .int .i64 z.rep, .int .i64 z.len]) (m := nums .u8 z.d) (r := [.slice C z.b.length k]) (At.blk h) 4 rfl
    rw [add_at] at this
    exact this
  have hcall : ∀ W : World, Below w.heap.size w W → Calls Try.prog 112 #[.slice A x.b.length c, .slice B y.b.length c'] W fun e w' => e = .returned (.bool (allEq (· == ·) x.b y.b)) ∧ Below W.heap.size W w' := fun W hW =>
    eqs_call A B c c' x.b y.b W (Kd.C_below hA hW) (Kd.C_below hB hW) ok ok2
  unfold sameE
  cases c1 : x.no == y.no
  · exact same_e0 _ _ x.no x.n x.rep x.len y.no y.n y.rep y.len x.d y.d x.b y.b A B c c' w rfl rfl rfl rfl (hat _ x A c) (entC_36 hd A c) rfl rfl rfl rfl (hat _ y B c') (entC_36 hd2 B c') hd hd2 hcall c1
  cases c2 : x.n == y.n && x.rep == y.rep
  · exact same_e1 _ _ x.no x.n x.rep x.len y.no y.n y.rep y.len x.d y.d x.b y.b A B c c' w rfl rfl rfl rfl (hat _ x A c) (entC_36 hd A c) rfl rfl rfl rfl (hat _ y B c') (entC_36 hd2 B c') hd hd2 hcall c1 c2
  cases c3 : x.len == y.len
  · exact same_e2 _ _ x.no x.n x.rep x.len y.no y.n y.rep y.len x.d y.d x.b y.b A B c c' w rfl rfl rfl rfl (hat _ x A c) (entC_36 hd A c) rfl rfl rfl rfl (hat _ y B c') (entC_36 hd2 B c') hd hd2 hcall c1 c2 c3
  cases c4 : x.d == y.d
  · exact same_e3 _ _ x.no x.n x.rep x.len y.no y.n y.rep y.len x.d y.d x.b y.b A B c c' w rfl rfl rfl rfl (hat _ x A c) (entC_36 hd A c) rfl rfl rfl rfl (hat _ y B c') (entC_36 hd2 B c') hd hd2 hcall c1 c2 c3 c4
  exact same_e4 _ _ x.no x.n x.rep x.len y.no y.n y.rep y.len x.d y.d x.b y.b A B c c' w rfl rfl rfl rfl (hat _ x A c) (entC_36 hd A c) rfl rfl rfl rfl (hat _ y B c') (entC_36 hd2 B c') hd hd2 hcall c1 c2 c3 c4
end Go.Proofs.Ytchaegfdcdlfaaa.X

namespace Go.Proofs.Ytchaegfdcdlfaaa.X
set_option linter.unusedVariables false
set_option linter.unusedSimpArgs false
open Go.RowKit Go.Proofs.YtchaegfdcdlfaaaW.PrintWords Go.Proofs.YtchaegfdcdlfaaaW.PrintLast Go.Proofs.YtchaegfdcdlfaaaW.PrintMore
attribute [local go_sem] max2_int min2_int max_two min_two max_three min_three max_four min_four
def OkE (x : Ent) : Prop := ∀ s ∈ x.b, SgOk s
set_option maxHeartbeats 4000000 in
set_option maxRecDepth 100000 in
theorem eqents_call (A B : Option Addr) (c d : Nat) (l m : List Ent) (w : World) (ha : Kd.C entK w A l.length l) (hb : Kd.C entK w B m.length m) (hok : ∀ s ∈ l, OkE s) (hok2 : ∀ s ∈ m, OkE s) :
    Calls Try.prog 114 #[.slice A l.length c, .slice B m.length d, .func (.func 111) #[] #[]] w fun e w' => e = .returned (.bool (allEq sameE l m)) ∧ Below w.heap.size w w' := by
  have HA := Aside0.mk ha
  have HB := Aside0.mk hb
  have HOK := Aside0.mk (And.intro hok hok2)
  have HL := Aside0.mk ha.2.1
  clear ha hb hok hok2
  by_cases hlm : l.length = m.length
  case neg =>
    have HR := Aside0.mk (allEq_len (e := sameE) hlm)
    have e1 : ((l.length : Int) != (m.length : Int)) = true := by simp only [bne_iff_ne, ne_eq]; omega
    clear hlm
    go_enter Try.func114, Try.ntmps114
    go_wp2_with fail
    go_ret
    exact ⟨by rw [HR.out]; rfl, Below.refl _ _⟩
  have HLM := Aside0.mk hlm
  have e1 : ((l.length : Int) != (m.length : Int)) = false := by rw [hlm]; simp
  clear hlm
  go_enter Try.func114, Try.ntmps114
  go_wp2_with fail
  clear e1
  go_loopg [7, 17] l.length (fun k v7 v17 w' => ∃ j : Nat, v17 = .int .i64 j ∧ Aside0 (k = l.length - j ∧ j ≤ l.length) ∧ Aside0 (Below w.heap.size w w') ∧ Aside0 (allEq sameE (l.drop j) (m.drop j) = allEq sameE l m))
  case atStart => exact ⟨0, rfl, ⟨by omega, by omega⟩, ⟨Below.refl _ _⟩, ⟨rfl⟩⟩
  case round =>
    obtain ⟨j, rfl, HJ, HBR, HE⟩ := hrel
    by_cases hj : j < l.length
    · have hjm : j < m.length := by have := HLM.out; omega
      obtain ⟨x, hx⟩ : ∃ x, x = l.getD j zEnt := ⟨_, rfl⟩
      obtain ⟨y, hy⟩ : ∃ y, y = m.getD j zEnt := ⟨_, rfl⟩
      obtain ⟨ad, A2, c2, hA, hid, hbc, hC2, hcell⟩ := ent_at (Kd.C_below HA.out HBR.out) hj x hx.symm
      obtain ⟨bd, B2, d2, hB, hid2, hbc2, hD2, hcell2⟩ := ent_at (Kd.C_below HB.out HBR.out) hjm y hy.symm
      have hstep := allEq_drop sameE l m j zEnt hj hjm
      rw [← hx, ← hy] at hstep
      have HST := Aside0.mk hstep
      have hmx : x ∈ l := by rw [hx, List.getD_eq_getElem?_getD, List.getElem?_eq_getElem hj]; exact List.getElem_mem hj
      have hmy : y ∈ m := by rw [hy, List.getD_eq_getElem?_getD, List.getElem?_eq_getElem hjm]; exact List.getElem_mem hjm
      have HSO : Aside0 (OkE x ∧ OkE y) := ⟨HOK.out.1 x hmx, HOK.out.2 y hmy⟩
      subst hA
      subst hB
      have e1 : decide ((j : Int) < (l.length : Int)) = true := by simpa using hj
      have e2 : ((j : Int) < (l.length : Int)) = True := by simpa using hj
      have e3 : (0 ≤ (j : Int)) = True := by simp
      have e6 : ((j : Int) < (m.length : Int)) = True := by simpa using hjm
      have e4 : IntKind.i64.wrap ((j : Int) + 1) = ((j + 1 : Nat) : Int) := by have := HL.out; simp [IntKind.wrap, IntKind.bits, IntKind.signed]; omega
      have HJ2 := Aside0.mk hj
      obtain ⟨es, hes⟩ : ∃ es, (entC x A2 c2).toArray = es := ⟨_, rfl⟩
      obtain ⟨fs, hfs⟩ : ∃ fs, (entC y B2 d2).toArray = fs := ⟨_, rfl⟩
      have hsz : es.size = 37 := by rw [← hes, List.size_toArray, entC_len hid]
      have hsz2 : fs.size = 37 := by rw [← hfs, List.size_toArray, entC_len hid2]
      have hone : es.all (·.oneCell') = true := by rw [← hes]; exact entC_one x A2 c2
      have hone2 : fs.all (·.oneCell') = true := by rw [← hfs]; exact entC_one y B2 d2
      have HCE : Aside0 (∀ j' v, es[j']? = some v → wr.cell? ((ad.add (j * 37)).add j') = some v) := ⟨fun j' v h => hcell j' v (by rw [← hes] at h; simpa using h)⟩
      have hcf : ∀ j' v, fs[j']? = some v → wr.cell? ((bd.add (j * 37)).add j') = some v := fun j' v h => hcell2 j' v (by rw [← hfs] at h; simpa using h)
      have HCF : Aside0 (At (wr.alloc (.cells es 149)) (bd.add (j * 37)) fs) := ⟨At.below (W := wr) hcf (below_alloc (Below.refl _ _) _)⟩
      have HINE : Aside0 ((Try.prog.info? 149).map (·.size) = some es.size) := ⟨by rw [hsz]; exact infoEnt⟩
      have HINF : Aside0 ((Try.prog.info? 149).map (·.size) = some fs.size) := ⟨by rw [hsz2]; exact infoEnt⟩
      have hs1 := store_new wr #[.int .i64 0, .int .i64 0, .int .i64 0, .int .i64 0, .int .u8 0, .int .u8 0, .int .u8 0, .int .u8 0, .int .u8 0, .int .u8 0, .int .u8 0, .int .u8 0, .int .u8 0, .int .u8 0, .int .u8 0, .int .u8 0, .int .u8 0, .int .u8 0, .int .u8 0, .int .u8 0, .int .u8 0, .int .u8 0, .int .u8 0, .int .u8 0, .int .u8 0, .int .u8 0, .int .u8 0, .int .u8 0, .int .u8 0, .int .u8 0, .int .u8 0, .int .u8 0, .int .u8 0, .int .u8 0, .int .u8 0, .int .u8 0, .slice none 0 0] es 149 (by rw [hsz]; rfl) hone
      have hs2 := store_new (wr.alloc (.cells es 149)) #[.int .i64 0, .int .i64 0, .int .i64 0, .int .i64 0, .int .u8 0, .int .u8 0, .int .u8 0, .int .u8 0, .int .u8 0, .int .u8 0, .int .u8 0, .int .u8 0, .int .u8 0, .int .u8 0, .int .u8 0, .int .u8 0, .int .u8 0, .int .u8 0, .int .u8 0, .int .u8 0, .int .u8 0, .int .u8 0, .int .u8 0, .int .u8 0, .int .u8 0, .int .u8 0, .int .u8 0, .int .u8 0, .int .u8 0, .int .u8 0, .int .u8 0, .int .u8 0, .int .u8 0, .int .u8 0, .int .u8 0, .int .u8 0, .slice none 0 0] fs 149 (by rw [hsz2]; rfl) hone2
      rw [alloc_size] at hs2
      have HTW := Aside0.mk (TwoS.begin wr 149 es fs)
      have HBB := Aside0.mk (below_step HBR.out HTW.out.2.2)
      have HCALL : Aside0 (∀ W : World, Below wr.heap.size wr W → Calls Try.prog 111 #[.agg es, .agg fs] W fun e w' => e = .returned (.bool (sameE x y)) ∧ Below W.heap.size W w') := ⟨fun W hW => by
        rw [← hes, ← hfs]
        exact samee_call x y A2 B2 c2 d2 W hid hid2 (Kd.C_below hC2 hW) (Kd.C_below hD2 hW) HSO.out.1 HSO.out.2⟩
      clear hx hy hmx hmy hcell hcell2 hcf hj hjm hstep hid hid2 hbc hbc2 hC2 hD2 hes hfs hone hone2
      go_wp2_with (first
        | ((with_reducible refine gate_dst (N := 21) rfl ?_); refine wpList_load_cells rfl 149 (.tmp 20) rfl (ad.add (j * 37)) rfl es _ HCE.out Try.underlying149 rfl HINE.out ?_)
        | ((with_reducible refine gate_dst (N := 25) rfl ?_); refine wpList_load_cells rfl 149 (.tmp 24) rfl (bd.add (j * 37)) rfl fs _ HCF.out Try.underlying149 rfl HINF.out ?_)
        | ((with_reducible refine gate_dst (N := 27) rfl ?_); refine wpList_load_row rfl 149 (.tmp 8) rfl wr.heap.size rfl 149 es (0, 0) _ HTW.out.1 Try.underlying149 rfl HINE.out ?_)
        | ((with_reducible refine gate_dst (N := 28) rfl ?_); refine wpList_load_row rfl 149 (.tmp 9) rfl (wr.heap.size + 1) rfl 149 fs (0, 0) _ HTW.out.2.1 Try.underlying149 rfl HINF.out ?_)
        | fail)
      refine (HCALL.out _ HTW.out.2.2).mono ?_
      rintro e_ w6 ⟨rfl, hb6⟩
      have HB6 := Aside0.mk (below_step HBB.out hb6)
      clear hb6 hs1 hs2
      cases hsy : sameE x y
      · have HF : Aside0 (allEq sameE l m = false) := ⟨by rw [← HE.out]; exact HST.out.trans (by rw [hsy]; rfl)⟩
        clear hsy
        go_wp2_with fail
        go_ret
        exact ⟨by rw [HF.out]; rfl, HB6.out⟩
      · have HF : Aside0 (allEq sameE (l.drop (j + 1)) (m.drop (j + 1)) = allEq sameE l m) := ⟨by rw [← HE.out]; exact (HST.out.trans (by rw [hsy]; rfl)).symm⟩
        clear hsy
        go_wp2_with fail
        go_roundg (l.length - (j + 1))
        case measure => have := HJ.out; have := HJ2.out; omega
        case rel => exact ⟨j + 1, by simp [e4], ⟨by omega, by have := HJ2.out; omega⟩, HB6, HF⟩
    · have hjl : j = l.length := by have := HJ.out; omega
      have HF : Aside0 (allEq sameE l m = true) := ⟨by
        rw [← HE.out, hjl, List.drop_length, HLM.out, List.drop_length]
        rfl⟩
      have e1 : decide ((j : Int) < (l.length : Int)) = false := by simpa using hj
      have e2 : ((j : Int) < (l.length : Int)) = False := by simpa using hj
      clear hj hjl
      go_wp2_with fail
      go_ret
      exact ⟨by rw [HF.out]; rfl, HBR.out⟩
def sameX (x y : Lin) : Bool := x.id == y.id && ((x.n == y.n && x.rep == y.rep) && allEq sameE x.f y.f)
def OkX (x : Lin) : Prop := ∀ e ∈ x.f, OkE e
set_option maxHeartbeats 4000000 in
set_option maxRecDepth 100000 in
theorem same_x0 (es fs : Array Value) (n rep n2 rep2 : Int) (d d2 : List Int) (b b2 : List Ent) (A B : Option Addr) (c c' cell : Nat) (w : World) (hcell : w.cell? ⟨cell, 0, none⟩ = some (.func (.func 111) #[] #[]))
    (h1 : es[16]? = some (.int .i64 n)) (h2 : es[17]? = some (.int .i64 rep)) (h4 : ∀ W : World, W.heap[w.heap.size]? = some (.cells es 147 (0, 0)) → At W ⟨w.heap.size, 0, none⟩ (cells8 d)) (h5 : es[18]? = some (.slice A b.length c))
    (g1 : fs[16]? = some (.int .i64 n2)) (g2 : fs[17]? = some (.int .i64 rep2)) (g4 : ∀ W : World, W.heap[w.heap.size + 1]? = some (.cells fs 147 (0, 0)) → At W ⟨w.heap.size + 1, 0, none⟩ (cells8 d2)) (g5 : fs[18]? = some (.slice B b2.length c'))
    (hd : d.length = 16) (hd2 : d2.length = 16) (hA : ∀ W : World, Below w.heap.size w W → Calls Try.prog 114 #[.slice A b.length c, .slice B b2.length c', .func (.func 111) #[] #[]] W fun e w' => e = .returned (.bool (allEq sameE b b2)) ∧ Below W.heap.size W w') (c1 : (d == d2) = false) :
    Calls Try.prog 113 #[.agg es, .agg fs, .pointer (some ⟨cell, 0, none⟩)] w fun e w' => e = .returned (.bool false) ∧ Below w.heap.size w w' := by
  have HT := Aside0.mk (TwoS.begin w 147 es fs)
  have fc := bel_cell HT.out.2.2 hcell
  have f1 := (blk_cell HT.out.1 16).trans h1
  have f2 := (blk_cell HT.out.1 17).trans h2
  have f5 := (blk_cell HT.out.1 18).trans h5
  have e1 := (blk_cell HT.out.2.1 16).trans g1
  have e2 := (blk_cell HT.out.2.1 17).trans g2
  have e5 := (blk_cell HT.out.2.1 18).trans g5
  have HD := Aside0.mk (And.intro (h4 _ HT.out.1) (g4 _ HT.out.2.1))
  have HDL := Aside0.mk (And.intro hd hd2)
  have HA := Aside0.mk hA
  have hst := eql_st n rep n2 rep2
  have hdg : ∀ W : World, (binOp .eql 94 (.agg (cells8 d)) (.agg (cells8 d2))).run Try.prog W = .ok (.bool (d == d2)) W := fun W => eql8 (P := Try.prog) (w := W) Try.underlying94 Try.info5i Try.underlying5 cells5 d d2 hd hd2
  simp only [c1] at hdg
  clear hcell h1 h2 h4 h5 g1 g2 g4 g5 hd hd2 hA
  go_enter Try.func113, Try.ntmps113
  go_wp2_with (first
    | ((with_reducible refine gate_dst (N := 7) rfl ?_); refine wpList_load_cells rfl 94 (.tmp 6) rfl ⟨w.heap.size, 0, none⟩ rfl (cells8 d) _ HD.out.1 Try.underlying94 rfl (by rw [cells8_size, HDL.out.1]; kernel_rfl) ?_)
    | ((with_reducible refine gate_dst (N := 9) rfl ?_); refine wpList_load_cells rfl 94 (.tmp 8) rfl ⟨w.heap.size + 1, 0, none⟩ rfl (cells8 d2) _ HD.out.2 Try.underlying94 rfl (by rw [cells8_size, HDL.out.2]; kernel_rfl) ?_)
    | fail)
  go_ret
  exact ⟨rfl, HT.out.2.2⟩
set_option maxHeartbeats 4000000 in
set_option maxRecDepth 100000 in
theorem same_x1 (es fs : Array Value) (n rep n2 rep2 : Int) (d d2 : List Int) (b b2 : List Ent) (A B : Option Addr) (c c' cell : Nat) (w : World) (hcell : w.cell? ⟨cell, 0, none⟩ = some (.func (.func 111) #[] #[]))
    (h1 : es[16]? = some (.int .i64 n)) (h2 : es[17]? = some (.int .i64 rep)) (h4 : ∀ W : World, W.heap[w.heap.size]? = some (.cells es 147 (0, 0)) → At W ⟨w.heap.size, 0, none⟩ (cells8 d)) (h5 : es[18]? = some (.slice A b.length c))
    (g1 : fs[16]? = some (.int .i64 n2)) (g2 : fs[17]? = some (.int .i64 rep2)) (g4 : ∀ W : World, W.heap[w.heap.size + 1]? = some (.cells fs 147 (0, 0)) → At W ⟨w.heap.size + 1, 0, none⟩ (cells8 d2)) (g5 : fs[18]? = some (.slice B b2.length c'))
    (hd : d.length = 16) (hd2 : d2.length = 16) (hA : ∀ W : World, Below w.heap.size w W → Calls Try.prog 114 #[.slice A b.length c, .slice B b2.length c', .func (.func 111) #[] #[]] W fun e w' => e = .returned (.bool (allEq sameE b b2)) ∧ Below W.heap.size W w') (c1 : (d == d2) = true) (c2 : (n == n2 && rep == rep2) = false) :
    Calls Try.prog 113 #[.agg es, .agg fs, .pointer (some ⟨cell, 0, none⟩)] w fun e w' => e = .returned (.bool false) ∧ Below w.heap.size w w' := by
  have HT := Aside0.mk (TwoS.begin w 147 es fs)
  have fc := bel_cell HT.out.2.2 hcell
  have f1 := (blk_cell HT.out.1 16).trans h1
  have f2 := (blk_cell HT.out.1 17).trans h2
  have f5 := (blk_cell HT.out.1 18).trans h5
  have e1 := (blk_cell HT.out.2.1 16).trans g1
  have e2 := (blk_cell HT.out.2.1 17).trans g2
  have e5 := (blk_cell HT.out.2.1 18).trans g5
  have HD := Aside0.mk (And.intro (h4 _ HT.out.1) (g4 _ HT.out.2.1))
  have HDL := Aside0.mk (And.intro hd hd2)
  have HA := Aside0.mk hA
  have hst := eql_st n rep n2 rep2
  have hdg : ∀ W : World, (binOp .eql 94 (.agg (cells8 d)) (.agg (cells8 d2))).run Try.prog W = .ok (.bool (d == d2)) W := fun W => eql8 (P := Try.prog) (w := W) Try.underlying94 Try.info5i Try.underlying5 cells5 d d2 hd hd2
  simp only [c1] at hdg
  simp only [c2] at hst
  clear hcell h1 h2 h4 h5 g1 g2 g4 g5 hd hd2 hA
  go_enter Try.func113, Try.ntmps113
  go_wp2_with (first
    | ((with_reducible refine gate_dst (N := 7) rfl ?_); refine wpList_load_cells rfl 94 (.tmp 6) rfl ⟨w.heap.size, 0, none⟩ rfl (cells8 d) _ HD.out.1 Try.underlying94 rfl (by rw [cells8_size, HDL.out.1]; kernel_rfl) ?_)
    | ((with_reducible refine gate_dst (N := 9) rfl ?_); refine wpList_load_cells rfl 94 (.tmp 8) rfl ⟨w.heap.size + 1, 0, none⟩ rfl (cells8 d2) _ HD.out.2 Try.underlying94 rfl (by rw [cells8_size, HDL.out.2]; kernel_rfl) ?_)
    | fail)
  go_ret
  exact ⟨rfl, HT.out.2.2⟩
set_option maxHeartbeats 4000000 in
set_option maxRecDepth 100000 in
theorem same_x2 (es fs : Array Value) (n rep n2 rep2 : Int) (d d2 : List Int) (b b2 : List Ent) (A B : Option Addr) (c c' cell : Nat) (w : World) (hcell : w.cell? ⟨cell, 0, none⟩ = some (.func (.func 111) #[] #[]))
    (h1 : es[16]? = some (.int .i64 n)) (h2 : es[17]? = some (.int .i64 rep)) (h4 : ∀ W : World, W.heap[w.heap.size]? = some (.cells es 147 (0, 0)) → At W ⟨w.heap.size, 0, none⟩ (cells8 d)) (h5 : es[18]? = some (.slice A b.length c))
    (g1 : fs[16]? = some (.int .i64 n2)) (g2 : fs[17]? = some (.int .i64 rep2)) (g4 : ∀ W : World, W.heap[w.heap.size + 1]? = some (.cells fs 147 (0, 0)) → At W ⟨w.heap.size + 1, 0, none⟩ (cells8 d2)) (g5 : fs[18]? = some (.slice B b2.length c'))
    (hd : d.length = 16) (hd2 : d2.length = 16) (hA : ∀ W : World, Below w.heap.size w W → Calls Try.prog 114 #[.slice A b.length c, .slice B b2.length c', .func (.func 111) #[] #[]] W fun e w' => e = .returned (.bool (allEq sameE b b2)) ∧ Below W.heap.size W w') (c1 : (d == d2) = true) (c2 : (n == n2 && rep == rep2) = true) :
    Calls Try.prog 113 #[.agg es, .agg fs, .pointer (some ⟨cell, 0, none⟩)] w fun e w' => e = .returned (.bool (allEq sameE b b2)) ∧ Below w.heap.size w w' := by
  have HT := Aside0.mk (TwoS.begin w 147 es fs)
  have fc := bel_cell HT.out.2.2 hcell
  have f1 := (blk_cell HT.out.1 16).trans h1
  have f2 := (blk_cell HT.out.1 17).trans h2
  have f5 := (blk_cell HT.out.1 18).trans h5
  have e1 := (blk_cell HT.out.2.1 16).trans g1
  have e2 := (blk_cell HT.out.2.1 17).trans g2
  have e5 := (blk_cell HT.out.2.1 18).trans g5
  have HD := Aside0.mk (And.intro (h4 _ HT.out.1) (g4 _ HT.out.2.1))
  have HDL := Aside0.mk (And.intro hd hd2)
  have HA := Aside0.mk hA
  have hst := eql_st n rep n2 rep2
  have hdg : ∀ W : World, (binOp .eql 94 (.agg (cells8 d)) (.agg (cells8 d2))).run Try.prog W = .ok (.bool (d == d2)) W := fun W => eql8 (P := Try.prog) (w := W) Try.underlying94 Try.info5i Try.underlying5 cells5 d d2 hd hd2
  simp only [c1] at hdg
  simp only [c2] at hst
  clear hcell h1 h2 h4 h5 g1 g2 g4 g5 hd hd2 hA
  go_enter Try.func113, Try.ntmps113
  go_wp2_with (first
    | ((with_reducible refine gate_dst (N := 7) rfl ?_); refine wpList_load_cells rfl 94 (.tmp 6) rfl ⟨w.heap.size, 0, none⟩ rfl (cells8 d) _ HD.out.1 Try.underlying94 rfl (by rw [cells8_size, HDL.out.1]; kernel_rfl) ?_)
    | ((with_reducible refine gate_dst (N := 9) rfl ?_); refine wpList_load_cells rfl 94 (.tmp 8) rfl ⟨w.heap.size + 1, 0, none⟩ rfl (cells8 d2) _ HD.out.2 Try.underlying94 rfl (by rw [cells8_size, HDL.out.2]; kernel_rfl) ?_)
    | fail)
  refine (HA.out _ HT.out.2.2).mono ?_
  rintro e_ w1 ⟨rfl, hb1⟩
  have HB1 := Aside0.mk (below_step HT.out.2.2 hb1)
  clear hb1 f1 f2 f5 e1 e2 e5 fc
  go_wp2_with fail
  go_ret
  exact ⟨rfl, HB1.out⟩
theorem samex_call (x y : Lin) (A B : Option Addr) (c c' cell : Nat) (w : World) (hcell : w.cell? ⟨cell, 0, none⟩ = some (.func (.func 111) #[] #[])) (hd : x.id.length = 16) (hd2 : y.id.length = 16) (hA : Kd.C entK w A x.f.length x.f) (hB : Kd.C entK w B y.f.length y.f) (ok : OkX x) (ok2 : OkX y) :
    Calls Try.prog 113 #[.agg (linC x A c).toArray, .agg (linC y B c').toArray, .pointer (some ⟨cell, 0, none⟩)] w fun e w' => e = .returned (.bool (sameX x y)) ∧ Below w.heap.size w w' := by
  have hat : ∀ (g : Nat) (z : Lin) (C : Option Addr) (k : Nat) (W : World), W.heap[g]? = some (.cells (linC z C k).toArray 147 (0, 0)) → At W ⟨g, 0, none⟩ (cells8 z.id) := fun g z C k W h => At.head (m := nums .u8 z.id) (r := [.int .i64 z.n, .int .i64 z.rep, .slice C z.f.length k]) (At.blk h)
  have hcall : ∀ W : World, Below w.heap.size w W → Calls Try.prog 114 #[.slice A x.f.length c, .slice B y.f.length c', .func (.func 111) #[] #[]] W fun e w' => e = .returned (.bool (allEq sameE x.f y.f)) ∧ Below W.heap.size W w' := fun W hW =>
    eqents_call A B c c' x.f y.f W (Kd.C_below hA hW) (Kd.C_below hB hW) ok ok2
  obtain ⟨p1, p2, p3⟩ := linC_at hd A c
  obtain ⟨q1, q2, q3⟩ := linC_at hd2 B c'
  unfold sameX
  cases c1 : x.id == y.id
  · exact same_x0 _ _ x.n x.rep y.n y.rep x.id y.id x.f y.f A B c c' cell w hcell p1 p2 (hat _ x A c) p3 q1 q2 (hat _ y B c') q3 hd hd2 hcall c1
  cases c2 : x.n == y.n && x.rep == y.rep
  · exact same_x1 _ _ x.n x.rep y.n y.rep x.id y.id x.f y.f A B c c' cell w hcell p1 p2 (hat _ x A c) p3 q1 q2 (hat _ y B c') q3 hd hd2 hcall c1 c2
  exact same_x2 _ _ x.n x.rep y.n y.rep x.id y.id x.f y.f A B c c' cell w hcell p1 p2 (hat _ x A c) p3 q1 q2 (hat _ y B c') q3 hd hd2 hcall c1 c2
set_option maxHeartbeats 4000000 in
set_option maxRecDepth 100000 in
theorem eqlins_call (A B : Option Addr) (c d : Nat) (l m : List Lin) (w : World) (cell : Nat) (hcell : w.cell? ⟨cell, 0, none⟩ = some (.func (.func 111) #[] #[])) (ha : Kd.C linK w A l.length l) (hb : Kd.C linK w B m.length m) (hok : ∀ s ∈ l, OkX s) (hok2 : ∀ s ∈ m, OkX s) :
    Calls Try.prog 115 #[.slice A l.length c, .slice B m.length d, .func (.func 113) #[] #[.pointer (some ⟨cell, 0, none⟩)]] w fun e w' => e = .returned (.bool (allEq sameX l m)) ∧ Below w.heap.size w w' := by
  have HA := Aside0.mk ha
  have HB := Aside0.mk hb
  have HOK := Aside0.mk (And.intro hok hok2)
  have HL := Aside0.mk ha.2.1
  have HCELL := Aside0.mk hcell
  clear hcell
  clear ha hb hok hok2
  by_cases hlm : l.length = m.length
  case neg =>
    have HR := Aside0.mk (allEq_len (e := sameX) hlm)
    have e1 : ((l.length : Int) != (m.length : Int)) = true := by simp only [bne_iff_ne, ne_eq]; omega
    clear hlm
    go_enter Try.func115, Try.ntmps115
    go_wp2_with fail
    go_ret
    exact ⟨by rw [HR.out]; rfl, Below.refl _ _⟩
  have HLM := Aside0.mk hlm
  have e1 : ((l.length : Int) != (m.length : Int)) = false := by rw [hlm]; simp
  clear hlm
  go_enter Try.func115, Try.ntmps115
  go_wp2_with fail
  clear e1
  go_loopg [7, 17] l.length (fun k v7 v17 w' => ∃ j : Nat, v17 = .int .i64 j ∧ Aside0 (k = l.length - j ∧ j ≤ l.length) ∧ Aside0 (Below w.heap.size w w') ∧ Aside0 (allEq sameX (l.drop j) (m.drop j) = allEq sameX l m))
  case atStart => exact ⟨0, rfl, ⟨by omega, by omega⟩, ⟨Below.refl _ _⟩, ⟨rfl⟩⟩
  case round =>
    obtain ⟨j, rfl, HJ, HBR, HE⟩ := hrel
    by_cases hj : j < l.length
    · have hjm : j < m.length := by have := HLM.out; omega
      obtain ⟨x, hx⟩ : ∃ x, x = l.getD j zLin := ⟨_, rfl⟩
      obtain ⟨y, hy⟩ : ∃ y, y = m.getD j zLin := ⟨_, rfl⟩
      obtain ⟨ad, A2, c2, hA, hid, hbc, hC2, hcell⟩ := lin_at (Kd.C_below HA.out HBR.out) hj x hx.symm
      obtain ⟨bd, B2, d2, hB, hid2, hbc2, hD2, hcell2⟩ := lin_at (Kd.C_below HB.out HBR.out) hjm y hy.symm
      have hstep := allEq_drop sameX l m j zLin hj hjm
      rw [← hx, ← hy] at hstep
      have HST := Aside0.mk hstep
      have hmx : x ∈ l := by rw [hx, List.getD_eq_getElem?_getD, List.getElem?_eq_getElem hj]; exact List.getElem_mem hj
      have hmy : y ∈ m := by rw [hy, List.getD_eq_getElem?_getD, List.getElem?_eq_getElem hjm]; exact List.getElem_mem hjm
      have HSO : Aside0 (OkX x ∧ OkX y) := ⟨HOK.out.1 x hmx, HOK.out.2 y hmy⟩
      subst hA
      subst hB
      have e1 : decide ((j : Int) < (l.length : Int)) = true := by simpa using hj
      have e2 : ((j : Int) < (l.length : Int)) = True := by simpa using hj
      have e3 : (0 ≤ (j : Int)) = True := by simp
      have e6 : ((j : Int) < (m.length : Int)) = True := by simpa using hjm
      have e4 : IntKind.i64.wrap ((j : Int) + 1) = ((j + 1 : Nat) : Int) := by have := HL.out; simp [IntKind.wrap, IntKind.bits, IntKind.signed]; omega
      have HJ2 := Aside0.mk hj
      obtain ⟨es, hes⟩ : ∃ es, (linC x A2 c2).toArray = es := ⟨_, rfl⟩
      obtain ⟨fs, hfs⟩ : ∃ fs, (linC y B2 d2).toArray = fs := ⟨_, rfl⟩
      have hsz : es.size = 19 := by rw [← hes, List.size_toArray, linC_len hid]
      have hsz2 : fs.size = 19 := by rw [← hfs, List.size_toArray, linC_len hid2]
      have hone : es.all (·.oneCell') = true := by rw [← hes]; exact linC_one x A2 c2
      have hone2 : fs.all (·.oneCell') = true := by rw [← hfs]; exact linC_one y B2 d2
      have HCE : Aside0 (∀ j' v, es[j']? = some v → wr.cell? ((ad.add (j * 19)).add j') = some v) := ⟨fun j' v h => hcell j' v (by rw [← hes] at h; simpa using h)⟩
      have hcf : ∀ j' v, fs[j']? = some v → wr.cell? ((bd.add (j * 19)).add j') = some v := fun j' v h => hcell2 j' v (by rw [← hfs] at h; simpa using h)
      have HCF : Aside0 (At (wr.alloc (.cells es 147)) (bd.add (j * 19)) fs) := ⟨At.below (W := wr) hcf (below_alloc (Below.refl _ _) _)⟩
      have HINE : Aside0 ((Try.prog.info? 147).map (·.size) = some es.size) := ⟨by rw [hsz]; exact infoLin⟩
      have HINF : Aside0 ((Try.prog.info? 147).map (·.size) = some fs.size) := ⟨by rw [hsz2]; exact infoLin⟩
      have hs1 := store_new wr #[.int .u8 0, .int .u8 0, .int .u8 0, .int .u8 0, .int .u8 0, .int .u8 0, .int .u8 0, .int .u8 0, .int .u8 0, .int .u8 0, .int .u8 0, .int .u8 0, .int .u8 0, .int .u8 0, .int .u8 0, .int .u8 0, .int .i64 0, .int .i64 0, .slice none 0 0] es 147 (by rw [hsz]; rfl) hone
      have hs2 := store_new (wr.alloc (.cells es 147)) #[.int .u8 0, .int .u8 0, .int .u8 0, .int .u8 0, .int .u8 0, .int .u8 0, .int .u8 0, .int .u8 0, .int .u8 0, .int .u8 0, .int .u8 0, .int .u8 0, .int .u8 0, .int .u8 0, .int .u8 0, .int .u8 0, .int .i64 0, .int .i64 0, .slice none 0 0] fs 147 (by rw [hsz2]; rfl) hone2
      rw [alloc_size] at hs2
      have HTW := Aside0.mk (TwoS.begin wr 147 es fs)
      have HBB := Aside0.mk (below_step HBR.out HTW.out.2.2)
      have HCALL : Aside0 (∀ W : World, Below wr.heap.size wr W → Calls Try.prog 113 #[.agg es, .agg fs, .pointer (some ⟨cell, 0, none⟩)] W fun e w' => e = .returned (.bool (sameX x y)) ∧ Below W.heap.size W w') := ⟨fun W hW => by
        rw [← hes, ← hfs]
        exact samex_call x y A2 B2 c2 d2 cell W (bel_cell (w := w) (below_step HBR.out hW) HCELL.out) hid hid2 (Kd.C_below hC2 hW) (Kd.C_below hD2 hW) HSO.out.1 HSO.out.2⟩
      clear hx hy hmx hmy hcell hcell2 hcf hj hjm hstep hid hid2 hbc hbc2 hC2 hD2 hes hfs hone hone2
      go_wp2_with (first
        | ((with_reducible refine gate_dst (N := 21) rfl ?_); refine wpList_load_cells rfl 147 (.tmp 20) rfl (ad.add (j * 19)) rfl es _ HCE.out Try.underlying147 rfl HINE.out ?_)
        | ((with_reducible refine gate_dst (N := 25) rfl ?_); refine wpList_load_cells rfl 147 (.tmp 24) rfl (bd.add (j * 19)) rfl fs _ HCF.out Try.underlying147 rfl HINF.out ?_)
        | ((with_reducible refine gate_dst (N := 27) rfl ?_); refine wpList_load_row rfl 147 (.tmp 8) rfl wr.heap.size rfl 147 es (0, 0) _ HTW.out.1 Try.underlying147 rfl HINE.out ?_)
        | ((with_reducible refine gate_dst (N := 28) rfl ?_); refine wpList_load_row rfl 147 (.tmp 9) rfl (wr.heap.size + 1) rfl 147 fs (0, 0) _ HTW.out.2.1 Try.underlying147 rfl HINF.out ?_)
        | fail)
      refine (HCALL.out _ HTW.out.2.2).mono ?_
      rintro e_ w6 ⟨rfl, hb6⟩
      have HB6 := Aside0.mk (below_step HBB.out hb6)
      clear hb6 hs1 hs2
      cases hsy : sameX x y
      · have HF : Aside0 (allEq sameX l m = false) := ⟨by rw [← HE.out]; exact HST.out.trans (by rw [hsy]; rfl)⟩
        clear hsy
        go_wp2_with fail
        go_ret
        exact ⟨by rw [HF.out]; rfl, HB6.out⟩
      · have HF : Aside0 (allEq sameX (l.drop (j + 1)) (m.drop (j + 1)) = allEq sameX l m) := ⟨by rw [← HE.out]; exact (HST.out.trans (by rw [hsy]; rfl)).symm⟩
        clear hsy
        go_wp2_with fail
        go_roundg (l.length - (j + 1))
        case measure => have := HJ.out; have := HJ2.out; omega
        case rel => exact ⟨j + 1, by simp [e4], ⟨by omega, by have := HJ2.out; omega⟩, HB6, HF⟩
    · have hjl : j = l.length := by have := HJ.out; omega
      have HF : Aside0 (allEq sameX l m = true) := ⟨by
        rw [← HE.out, hjl, List.drop_length, HLM.out, List.drop_length]
        rfl⟩
      have e1 : decide ((j : Int) < (l.length : Int)) = false := by simpa using hj
      have e2 : ((j : Int) < (l.length : Int)) = False := by simpa using hj
      clear hj hjl
      go_wp2_with fail
      go_ret
      exact ⟨by rw [HF.out]; rfl, HBR.out⟩
theorem store_fn (W : World) (n : Nat) (hn : n = W.heap.size) (t : TypeId) (u v : Value) (h1 : v.oneCell' = true) : (store ⟨n, 0, none⟩ v).run Try.prog (W.alloc (.cells #[u] t)) = .ok () (W.alloc (.cells #[v] t)) := by
  subst hn
  rw [run_store _ _ _ _ _ h1, (blk_cell (blk_new W (.cells #[u] t)) 0).trans (show _ = some u from rfl)]
  simp only [World.frozen?_alloc_new, Bool.false_eq_true, if_false, World.setCell_alloc_new]
  rfl
def sameM (m n : Man) : Bool := m.base == n.base && allEq sameX m.l n.l
def OkM (m : Man) : Prop := ∀ x ∈ m.l, OkX x
set_option maxHeartbeats 4000000 in
set_option maxRecDepth 100000 in
theorem same_m0 (es fs : Array Value) (d d2 : List Int) (b b2 : List Lin) (A B : Option Addr) (c c' : Nat) (w : World)
    (h4 : ∀ W : World, W.heap[w.heap.size]? = some (.cells es 71 (0, 0)) → At W ⟨w.heap.size, 0, none⟩ (cells8 d)) (h5 : es[32]? = some (.slice A b.length c))
    (g4 : ∀ W : World, W.heap[w.heap.size + 1]? = some (.cells fs 71 (0, 0)) → At W ⟨w.heap.size + 1, 0, none⟩ (cells8 d2)) (g5 : fs[32]? = some (.slice B b2.length c'))
    (hd : d.length = 32) (hd2 : d2.length = 32) (hA : ∀ (W : World) (cell : Nat), Below w.heap.size w W → W.cell? ⟨cell, 0, none⟩ = some (.func (.func 111) #[] #[]) → Calls Try.prog 115 #[.slice A b.length c, .slice B b2.length c', .func (.func 113) #[] #[.pointer (some ⟨cell, 0, none⟩)]] W fun e w' => e = .returned (.bool (allEq sameX b b2)) ∧ Below W.heap.size W w') (c1 : (d == d2) = false) :
    Calls Try.prog 67 #[.agg es, .agg fs] w fun e w' => e = .returned (.bool false) ∧ Below w.heap.size w w' := by
  have HT0 := Aside0.mk (TwoS.begin w 71 es fs)
  have hf := blk_new ((w.alloc (.cells es 71)).alloc (.cells fs 71)) (.cells #[.func (.func 111) #[] #[]] 162)
  rw [alloc_size, alloc_size] at hf
  have HFC := Aside0.mk ((blk_cell hf 0).trans (show _ = some (Value.func (.func 111) #[] #[]) from rfl))
  have HT := Aside0.mk (TwoS.step HT0.out (below_alloc (Below.refl _ _) (.cells #[.func (.func 111) #[] #[]] 162)))
  have f5 := (blk_cell HT.out.1 32).trans h5
  have e5 := (blk_cell HT.out.2.1 32).trans g5
  have HD := Aside0.mk (And.intro (h4 _ HT.out.1) (g4 _ HT.out.2.1))
  have HDL := Aside0.mk (And.intro hd hd2)
  have HA := Aside0.mk hA
  have hmf : ∀ (fn : Fn) (first cap : Array Value) (w : World), (Instr.makeFunc fn first cap).run Try.prog w = .ok (.func fn first cap) w := fun _ _ _ _ => rfl
  have hdg : ∀ W : World, (binOp .eql 28 (.agg (cells8 d)) (.agg (cells8 d2))).run Try.prog W = .ok (.bool (d == d2)) W := fun W => eql8 (P := Try.prog) (w := W) Try.underlying28 Try.info5i Try.underlying5 cells5 d d2 hd hd2
  simp only [c1] at hdg
  have hsf := store_fn ((w.alloc (.cells es 71)).alloc (.cells fs 71)) (w.heap.size + 1 + 1) (by rw [alloc_size, alloc_size]) 162 .nilFunc (.func (.func 111) #[] #[]) rfl
  clear h4 h5 g4 g5 hd hd2 hA hf
  go_enter Try.func67, Try.ntmps67
  go_wp2_with (first
    | ((with_reducible refine gate_dst (N := 9) rfl ?_); refine wpList_load_cells rfl 28 (.tmp 8) rfl ⟨w.heap.size, 0, none⟩ rfl (cells8 d) _ HD.out.1 Try.underlying28 rfl (by rw [cells8_size, HDL.out.1]; kernel_rfl) ?_)
    | ((with_reducible refine gate_dst (N := 11) rfl ?_); refine wpList_load_cells rfl 28 (.tmp 10) rfl ⟨w.heap.size + 1, 0, none⟩ rfl (cells8 d2) _ HD.out.2 Try.underlying28 rfl (by rw [cells8_size, HDL.out.2]; kernel_rfl) ?_)
    | fail)
  go_ret
  exact ⟨rfl, HT.out.2.2⟩
set_option maxHeartbeats 4000000 in
set_option maxRecDepth 100000 in
theorem same_m1 (es fs : Array Value) (d d2 : List Int) (b b2 : List Lin) (A B : Option Addr) (c c' : Nat) (w : World)
    (h4 : ∀ W : World, W.heap[w.heap.size]? = some (.cells es 71 (0, 0)) → At W ⟨w.heap.size, 0, none⟩ (cells8 d)) (h5 : es[32]? = some (.slice A b.length c))
    (g4 : ∀ W : World, W.heap[w.heap.size + 1]? = some (.cells fs 71 (0, 0)) → At W ⟨w.heap.size + 1, 0, none⟩ (cells8 d2)) (g5 : fs[32]? = some (.slice B b2.length c'))
    (hd : d.length = 32) (hd2 : d2.length = 32) (hA : ∀ (W : World) (cell : Nat), Below w.heap.size w W → W.cell? ⟨cell, 0, none⟩ = some (.func (.func 111) #[] #[]) → Calls Try.prog 115 #[.slice A b.length c, .slice B b2.length c', .func (.func 113) #[] #[.pointer (some ⟨cell, 0, none⟩)]] W fun e w' => e = .returned (.bool (allEq sameX b b2)) ∧ Below W.heap.size W w') (c1 : (d == d2) = true) :
    Calls Try.prog 67 #[.agg es, .agg fs] w fun e w' => e = .returned (.bool (allEq sameX b b2)) ∧ Below w.heap.size w w' := by
  have HT0 := Aside0.mk (TwoS.begin w 71 es fs)
  have hf := blk_new ((w.alloc (.cells es 71)).alloc (.cells fs 71)) (.cells #[.func (.func 111) #[] #[]] 162)
  rw [alloc_size, alloc_size] at hf
  have HFC := Aside0.mk ((blk_cell hf 0).trans (show _ = some (Value.func (.func 111) #[] #[]) from rfl))
  have HT := Aside0.mk (TwoS.step HT0.out (below_alloc (Below.refl _ _) (.cells #[.func (.func 111) #[] #[]] 162)))
  have f5 := (blk_cell HT.out.1 32).trans h5
  have e5 := (blk_cell HT.out.2.1 32).trans g5
  have HD := Aside0.mk (And.intro (h4 _ HT.out.1) (g4 _ HT.out.2.1))
  have HDL := Aside0.mk (And.intro hd hd2)
  have HA := Aside0.mk hA
  have hmf : ∀ (fn : Fn) (first cap : Array Value) (w : World), (Instr.makeFunc fn first cap).run Try.prog w = .ok (.func fn first cap) w := fun _ _ _ _ => rfl
  have hdg : ∀ W : World, (binOp .eql 28 (.agg (cells8 d)) (.agg (cells8 d2))).run Try.prog W = .ok (.bool (d == d2)) W := fun W => eql8 (P := Try.prog) (w := W) Try.underlying28 Try.info5i Try.underlying5 cells5 d d2 hd hd2
  simp only [c1] at hdg
  have hsf := store_fn ((w.alloc (.cells es 71)).alloc (.cells fs 71)) (w.heap.size + 1 + 1) (by rw [alloc_size, alloc_size]) 162 .nilFunc (.func (.func 111) #[] #[]) rfl
  clear h4 h5 g4 g5 hd hd2 hA hf
  go_enter Try.func67, Try.ntmps67
  go_wp2_with (first
    | ((with_reducible refine gate_dst (N := 9) rfl ?_); refine wpList_load_cells rfl 28 (.tmp 8) rfl ⟨w.heap.size, 0, none⟩ rfl (cells8 d) _ HD.out.1 Try.underlying28 rfl (by rw [cells8_size, HDL.out.1]; kernel_rfl) ?_)
    | ((with_reducible refine gate_dst (N := 11) rfl ?_); refine wpList_load_cells rfl 28 (.tmp 10) rfl ⟨w.heap.size + 1, 0, none⟩ rfl (cells8 d2) _ HD.out.2 Try.underlying28 rfl (by rw [cells8_size, HDL.out.2]; kernel_rfl) ?_)
    | fail)
  refine (HA.out _ _ HT.out.2.2 HFC.out).mono ?_
  rintro e_ w1 ⟨rfl, hb1⟩
  have HB1 := Aside0.mk (below_step HT.out.2.2 hb1)
  clear hb1 f5 e5
  go_wp2_with fail
  go_ret
  exact ⟨rfl, HB1.out⟩
theorem samem_call (m n : Man) (A B : Option Addr) (c c' : Nat) (w : World) (hd : m.base.length = 32) (hd2 : n.base.length = 32) (hA : Kd.C linK w A m.l.length m.l) (hB : Kd.C linK w B n.l.length n.l) (ok : OkM m) (ok2 : OkM n) :
    Calls Try.prog 67 #[.agg (manC m A c).toArray, .agg (manC n B c').toArray] w fun e w' => e = .returned (.bool (sameM m n)) ∧ Below w.heap.size w w' := by
  have hcall : ∀ (W : World) (cell : Nat), Below w.heap.size w W → W.cell? ⟨cell, 0, none⟩ = some (.func (.func 111) #[] #[]) → Calls Try.prog 115 #[.slice A m.l.length c, .slice B n.l.length c', .func (.func 113) #[] #[.pointer (some ⟨cell, 0, none⟩)]] W fun e w' => e = .returned (.bool (allEq sameX m.l n.l)) ∧ Below W.heap.size W w' := fun W cell hW hc =>
    eqlins_call A B c c' m.l n.l W cell hc (Kd.C_below hA hW) (Kd.C_below hB hW) ok ok2
  unfold sameM
  cases c1 : m.base == n.base
  · exact same_m0 _ _ m.base n.base m.l n.l A B c c' w (fun W h => man_base h) (manC_32 hd A c) (fun W h => man_base h) (manC_32 hd2 B c') hd hd2 hcall c1
  exact same_m1 _ _ m.base n.base m.l n.l A B c c' w (fun W h => man_base h) (manC_32 hd A c) (fun W h => man_base h) (manC_32 hd2 B c') hd hd2 hcall c1
theorem sameE_eq {x y : Ent} : sameE x y = true ↔ x = y := by
  constructor
  · intro h
    unfold sameE at h
    simp only [Bool.and_eq_true, beq_iff_eq] at h
    obtain ⟨h1, ⟨h2, h3⟩, h4, h5, h6⟩ := h
    have h7 := allEq_eq (e := fun a b : Sg => a == b) (fun a _ b _ hab => by simpa using hab) h6
    obtain ⟨a0, a1, a2, a3, a4, a5⟩ := x
    obtain ⟨b0, b1, b2, b3, b4, b5⟩ := y
    simp only at h1 h2 h3 h4 h5 h7
    subst h1; subst h2; subst h3; subst h4; subst h5; subst h7
    rfl
  · rintro rfl
    unfold sameE
    rw [allEq_self (e := fun a b : Sg => a == b) (fun a _ => by simp)]
    simp
theorem sameX_eq {x y : Lin} : sameX x y = true ↔ x = y := by
  constructor
  · intro h
    unfold sameX at h
    simp only [Bool.and_eq_true, beq_iff_eq] at h
    obtain ⟨h1, ⟨h2, h3⟩, h6⟩ := h
    have h7 := allEq_eq (fun a _ b _ hab => sameE_eq.1 hab) h6
    obtain ⟨a0, a1, a2, a3⟩ := x
    obtain ⟨b0, b1, b2, b3⟩ := y
    simp only at h1 h2 h3 h7
    subst h1; subst h2; subst h3; subst h7
    rfl
  · rintro rfl
    unfold sameX
    rw [allEq_self (fun a _ => sameE_eq.2 rfl)]
    simp
theorem sameM_eq {x y : Man} : sameM x y = true ↔ x = y := by
  constructor
  · intro h
    unfold sameM at h
    simp only [Bool.and_eq_true, beq_iff_eq] at h
    have h7 := allEq_eq (fun a _ b _ hab => sameX_eq.1 hab) h.2
    obtain ⟨a0, a1⟩ := x
    obtain ⟨b0, b1⟩ := y
    have h1 := h.1
    simp only at h1 h7
    subst h1; subst h7
    rfl
  · rintro rfl
    unfold sameM
    rw [allEq_self (fun a _ => sameX_eq.2 rfl)]
    simp
end Go.Proofs.Ytchaegfdcdlfaaa.X

namespace Go.Proofs.Ytchaegfdcdlfaaa.X
set_option linter.unusedVariables false
set_option linter.unusedSimpArgs false
open Go.RowKit Go.Proofs.YtchaegfdcdlfaaaW.PrintWords Go.Proofs.YtchaegfdcdlfaaaW.PrintLast Go.Proofs.YtchaegfdcdlfaaaW.PrintMore
open Go.Proofs.Ytchaegfdcdlfaaa.Y (Bytes RdB put put_range put_length put_length_pos word word_length word_bytes rdb_below rdb_drewN put_call word_call row_slice)
attribute [local go_sem] max2_int min2_int max_two min_two max_three min_three max_four min_four
theorem sha_bytes (l : List Int) : (shaOf l).length = 32 ∧ Bytes (shaOf l) := ⟨shaOf_length l, fun x hx => outAt_byt _ 32 x hx⟩
theorem m0_may (sh : List Int) : mayM ⟨sh, []⟩ = true := by rfl
theorem m0_byt {sh : List Int} (h : sh.length = 32 ∧ Bytes sh) : ManByt ⟨sh, []⟩ := ⟨h, fun x hx => by cases hx⟩
theorem put33 : put 33 = [33] := by unfold put; rfl
theorem m0_len {sh : List Int} (h : sh.length = 32) : (packL 1 (manB ⟨sh, []⟩)).length = 39 := by
  have h : (manB ⟨sh, []⟩).length = 33 := by
    unfold manB
    rw [List.length_append, List.length_append, h]
    show 32 + ((put 0).length + 0) = 33
    rw [put0]
    rfl
  rw [packL_length, h, put33]
  rfl
theorem m0_ok (sh : List Int) : OkM ⟨sh, []⟩ := fun x hx => by cases hx
theorem man_store (w : World) (m : Man) (A : Option Addr) (c : Nat) (h : m.base.length = 32) : (storeCells ⟨w.heap.size, 0, none⟩ (manC m A c).toArray.toList).run Try.prog (w.alloc (.cells #[.int .u8 0, .int .u8 0, .int .u8 0, .int .u8 0, .int .u8 0, .int .u8 0, .int .u8 0, .int .u8 0, .int .u8 0, .int .u8 0, .int .u8 0, .int .u8 0, .int .u8 0, .int .u8 0, .int .u8 0, .int .u8 0, .int .u8 0, .int .u8 0, .int .u8 0, .int .u8 0, .int .u8 0, .int .u8 0, .int .u8 0, .int .u8 0, .int .u8 0, .int .u8 0, .int .u8 0, .int .u8 0, .int .u8 0, .int .u8 0, .int .u8 0, .int .u8 0, .slice none 0 0] 71)) = .ok () (w.alloc (.cells (manC m A c).toArray 71)) :=
  store_new w #[.int .u8 0, .int .u8 0, .int .u8 0, .int .u8 0, .int .u8 0, .int .u8 0, .int .u8 0, .int .u8 0, .int .u8 0, .int .u8 0, .int .u8 0, .int .u8 0, .int .u8 0, .int .u8 0, .int .u8 0, .int .u8 0, .int .u8 0, .int .u8 0, .int .u8 0, .int .u8 0, .int .u8 0, .int .u8 0, .int .u8 0, .int .u8 0, .int .u8 0, .int .u8 0, .int .u8 0, .int .u8 0, .int .u8 0, .int .u8 0, .int .u8 0, .int .u8 0, .slice none 0 0] _ 71 (by rw [manC_size h]; rfl) (manC_one m A c)
set_option maxHeartbeats 4000000 in
set_option maxRecDepth 100000 in
theorem awake13_call (w : World) : Calls Try.prog 62 #[] w fun e w' => e = .returned (.bool true) ∧ Below w.heap.size w w' := by
  have hsh := sha_bytes [0]
  have hof0 := mof_call
  obtain ⟨sh, hse⟩ : ∃ sh, shaOf [0] = sh := ⟨_, rfl⟩
  rw [hse] at hsh hof0
  clear hse
  obtain ⟨m0, hm0⟩ : ∃ m0 : Man, (⟨sh, []⟩ : Man) = m0 := ⟨_, rfl⟩
  have m0_may := m0_may sh
  have m0_byt := m0_byt hsh
  have m0_len := m0_len hsh.1
  have m0_ok := m0_ok sh
  have hl0 : m0.l = [] := by rw [← hm0]
  rw [hm0] at m0_may m0_byt m0_len m0_ok hof0
  clear hm0
  have hC0 : ∀ W : World, Kd.C linK W none m0.l.length m0.l := fun W => by rw [hl0]; exact ⟨rfl, by decide, fun h => absurd h (by decide)⟩
  have HPUT : Aside0 (∀ W : World, Calls Try.prog 64 #[.agg (manC m0 none 0).toArray] W fun e w' => (∃ A2 c2, e = .returned (.tuple #[.slice A2 39 c2, .bool true]) ∧ 39 ≤ c2 ∧ RdB w' A2 39 (packL 1 (manB m0))) ∧ Below W.heap.size W w') := ⟨fun W => by
    have h := putm_yes m0 none 0 W m0_byt (by rw [hl0]; exact Nat.le_refl _) (hC0 W) m0_may
    rw [m0_len] at h
    exact h⟩
  have HGET : Aside0 (∀ (A : Option Addr) (c : Nat) (W : World), RdB W A 39 (packL 1 (manB m0)) → 39 ≤ c → Calls Try.prog 66 #[.slice A 39 c] W (GetQ W (m0, 0))) := ⟨fun A c W hr hc => by
    have h := getm_call A c (packL 1 (manB m0)) W (by rw [m0_len]; exact hr) (by rw [m0_len]; exact hc) (packL_byt (by decide) (by decide) (manR_good.byt m0 (mayM_sh m0_may m0_byt))) (by rw [m0_len]; decide)
    rw [getM_put m0_may m0_byt, m0_len] at h
    exact h⟩
  have HS0 : Aside0 (∀ W : World, (storeCells ⟨W.heap.size, 0, none⟩ (manC m0 none 0).toArray.toList).run Try.prog (W.alloc (.cells #[.int .u8 0, .int .u8 0, .int .u8 0, .int .u8 0, .int .u8 0, .int .u8 0, .int .u8 0, .int .u8 0, .int .u8 0, .int .u8 0, .int .u8 0, .int .u8 0, .int .u8 0, .int .u8 0, .int .u8 0, .int .u8 0, .int .u8 0, .int .u8 0, .int .u8 0, .int .u8 0, .int .u8 0, .int .u8 0, .int .u8 0, .int .u8 0, .int .u8 0, .int .u8 0, .int .u8 0, .int .u8 0, .int .u8 0, .int .u8 0, .int .u8 0, .int .u8 0, .slice none 0 0] 71)) = .ok () (W.alloc (.cells (manC m0 none 0).toArray 71))) := ⟨fun W => man_store W m0 none 0 m0_byt.base.1⟩
  have hz0 := manC_size (m := m0) m0_byt.base.1 none 0
  have HI0 := Aside0.mk (manInfo (m := m0) m0_byt.base.1 none 0)
  obtain ⟨ms, hms⟩ : ∃ ms, (manC m0 none 0).toArray = ms := ⟨_, rfl⟩
  have HMS := Aside0.mk hms
  have hof : ∀ W : World, Calls Try.prog 103 #[.agg #[.slice none 0 0]] W fun e w' => e = .returned (.tuple #[.agg ms, .bool true]) ∧ Below W.heap.size W w' := fun W => by
    rw [← hms]
    exact hof0 W
  have HOF := Aside0.mk hof
  rw [hms] at HPUT HS0 HI0 hz0
  clear hms hof hof0
  go_enter Try.func62, Try.ntmps62
  go_wp2_with fail
  refine (HOF.out _).mono ?_
  rintro e_ w1 ⟨rfl, hb1⟩
  have HB1 := Aside0.mk hb1
  have HN1 := Aside0.mk (blk_new w1 (.cells ms 71))
  have hs1 := HS0.out w1
  have HB2 := Aside0.mk (below_alloc hb1 (.cells ms 71))
  clear hb1
  go_wp2_with (first
    | ((with_reducible refine gate_dst (N := 13) rfl ?_); refine wpList_load_row rfl 71 (.tmp 1) rfl w1.heap.size rfl 71 ms (0, 0) _ HN1.out Try.underlying71 rfl HI0.out ?_)
    | fail)
  refine (HPUT.out _).mono ?_
  rintro e_ w2 ⟨⟨A2, c2, rfl, hc2, hr2⟩, hb2⟩
  have HN2 := Aside0.mk (blk_below HN1.out hb2)
  have HB3 := Aside0.mk (below_step HB2.out hb2)
  clear hs1 hb2
  go_wp2_with fail
  refine (HGET.out A2 c2 _ hr2 hc2).mono ?_
  rintro e_ w3 ⟨A3, c3, rfl, hc3, hC3, hb3, h32⟩
  have HN3 := Aside0.mk (blk_below HN2.out hb3)
  have HB4 := Aside0.mk (below_step HB3.out hb3)
  have hs3 := man_store w3 m0 A3 c3 m0_byt.base.1
  have HSM := Aside0.mk (fun (W : World) (hW : Below w3.heap.size w3 W) => samem_call m0 m0 none A3 0 c3 W m0_byt.base.1 m0_byt.base.1 (hC0 W) (Kd.C_below hC3 hW) m0_ok m0_ok)
  rw [sameM_eq.2 rfl, HMS.out] at HSM
  have hz3 := manC_size (m := m0) m0_byt.base.1 A3 c3
  have HI3 := Aside0.mk (manInfo (m := m0) m0_byt.base.1 A3 c3)
  dsimp only
  obtain ⟨ns, hns⟩ : ∃ ns, (manC m0 A3 c3).toArray = ns := ⟨_, rfl⟩
  rw [hns] at hs3 HSM HI3 hz3 ⊢
  have HN4 := Aside0.mk (And.intro (blk_alloc HN3.out (.cells ns 71)) (blk_new w3 (.cells ns 71)))
  have HB5 := Aside0.mk (below_alloc (Below.refl w3.heap.size w3) (.cells ns 71))
  have HB6 := Aside0.mk (below_alloc HB4.out (.cells ns 71))
  clear hns hb3 hC3 hc3 hc2 hr2 h32
  go_wp2_with (first
    | ((with_reducible refine gate_dst (N := 33) rfl ?_); refine wpList_load_row_g (by rfl) 71 (.tmp 1) rfl w1.heap.size rfl 71 ms (0, 0) _ HN4.out.1 Try.underlying71 rfl HI0.out ?_)
    | ((with_reducible refine gate_dst (N := 34) rfl ?_); refine wpList_load_row_g (by rfl) 71 (.tmp 5) rfl w3.heap.size rfl 71 ns (0, 0) _ HN4.out.2 Try.underlying71 rfl HI3.out ?_)
    | fail)
  refine (HSM.out _ HB5.out).mono ?_
  rintro e_ w4 ⟨rfl, hb4⟩
  have HB7 := Aside0.mk (below_step HB6.out hb4)
  clear hb4 hs3
  go_wp2_with fail
  go_ret
  exact ⟨rfl, HB7.out⟩
end Go.Proofs.Ytchaegfdcdlfaaa.X

namespace Go.Proofs.Ytchaegfdcdlfaaa.X
set_option linter.unusedVariables false
set_option linter.unusedSimpArgs false
open Go.RowKit Go.Proofs.YtchaegfdcdlfaaaW.PrintWords Go.Proofs.YtchaegfdcdlfaaaW.PrintLast Go.Proofs.YtchaegfdcdlfaaaW.PrintMore
open Go.Proofs.Ytchaegfdcdlfaaa.Y (Bytes RdB put put_range put_length put_length_pos word word_length word_bytes rdb_below rdb_drewN put_call word_call row_slice conv0 strs_inj bytes_of_wf)
attribute [local go_sem] max2_int min2_int max_two min_two max_three min_three max_four min_four
theorem ManOk.byt {m : Man} (h : ManOk m) : ManByt m :=
  ⟨⟨h.base.1, bytes_of_wf h.base.2⟩, fun x hx => ⟨⟨(h.l x hx).id.1, bytes_of_wf (h.l x hx).id.2⟩, fun e he => ⟨⟨((h.l x hx).f e he).d.1, bytes_of_wf ((h.l x hx).f e he).d.2⟩, fun s hs => by
    have ho := ((h.l x hx).f e he).b s hs
    have hw := ho.wf32
    simp only [Lit.wf, IntKind.min, IntKind.max, IntKind.bits, IntKind.signed, Bool.and_eq_true, decide_eq_true_eq] at hw
    exact ⟨⟨by simpa using hw.1, by have := hw.2; simp at this; omega⟩, ho.len, bytes_of_wf ho.wf8⟩⟩⟩⟩
theorem ManOk.ok {m : Man} (h : ManOk m) : OkM m := fun x hx e he s hs => ((h.l x hx).f e he).b s hs
theorem putM_bytes {m : Man} (hb : ManByt m) : Bytes (putM m).1 := by
  unfold putM
  split
  · rename_i h
    exact packL_byt (by decide) (by decide) (manR_good.byt m (mayM_sh h hb))
  · intro x hx
    cases hx
theorem putm_call (m : Man) (A : Option Addr) (c : Nat) (w : World) (hm : ManByt m) (hc : m.l.length ≤ c) (hC : Kd.C linK w A m.l.length m.l) :
    Calls Try.prog 64 #[.agg (manC m A c).toArray] w fun e w' => (∃ A2 c2, e = .returned (.tuple #[.slice A2 (putM m).1.length c2, .bool (mayM m)]) ∧ (putM m).1.length ≤ c2 ∧ RdB w' A2 (putM m).1.length (putM m).1) ∧ Below w.heap.size w w' := by
  unfold putM
  cases h : mayM m
  · simp only [Bool.false_eq_true, if_false]
    refine (putm_no m A c w hm.base.1 hc hC h).mono ?_
    rintro e w' ⟨rfl, hb⟩
    exact ⟨⟨none, 0, rfl, Nat.le_refl _, ⟨rfl, by decide, fun h => absurd h (by decide)⟩⟩, hb⟩
  · exact putm_yes m A c w hm hc hC h
end Go.Proofs.Ytchaegfdcdlfaaa.X

namespace Go.Proofs.Ytchaegfdcdlfaaa.J
open Go

def closT (P : Program) : (fuel : Nat) → (todo seen : List FuncId) → Option (List FuncId)
  | 0, _, _ => none
  | _ + 1, [], seen => some seen.reverse
  | n + 1, f :: todo, seen => if seen.contains f then closT P n todo seen else closT P n ((P.funcs[f]?).elim [] P.leadsTo ++ todo) (f :: seen)
theorem closT_via (P : Program) : ∀ (n N : Nat) (todo seen r : List FuncId), closT P n todo seen = some r → n ≤ N → P.closureVia N todo seen = r
  | 0, _, _, _, _, h, _ => by simp [closT] at h
  | n + 1, N, [], seen, r, h, hn => by
    obtain ⟨N, rfl⟩ : ∃ M, N = M + 1 := ⟨N - 1, by omega⟩
    have h2 : some seen.reverse = some r := h
    exact Option.some.inj h2
  | n + 1, N, f :: todo, seen, r, h, hn => by
    obtain ⟨N, rfl⟩ : ∃ M, N = M + 1 := ⟨N - 1, by omega⟩
    rw [closT] at h
    rw [Program.closureVia]
    split at h
    · rename_i hs
      rw [if_pos hs]
      exact closT_via P n N todo seen r h (by omega)
    · rename_i hs
      rw [if_neg hs]
      exact closT_via P n N _ _ r h (by omega)
theorem sum_ge {α : Type} (g : α → Nat) : ∀ l : List α, l.length ≤ (l.map fun x => g x + 1).sum
  | [] => by simp
  | x :: l => by
    have := sum_ge g l
    simp only [List.length_cons, List.map_cons, List.sum_cons]
    omega
theorem clos_eq {P : Program} {f n : Nat} (hn : n ≤ 1 + P.funcs.size) (h : (closT P n [f] []).isSome = true) : P.closure f = (closT P n [f] []).getD [] := by
  obtain ⟨r, hr⟩ := Option.isSome_iff_exists.1 h
  have hs := sum_ge (fun g => (P.leadsTo g).length) P.funcs.toList
  rw [Array.length_toList] at hs
  unfold Program.closure
  rw [closT_via P n _ [f] [] r hr (by omega), hr]
  rfl
end Go.Proofs.Ytchaegfdcdlfaaa.J

namespace Go.Proofs.Ytchaegfdcdlfaaa.J
set_option linter.unusedVariables false
set_option linter.unusedSimpArgs false
open Go
def hC : List Nat := [104, 97, 114, 110, 101, 115, 115]
def sC : List Nat := [101, 101, 101, 97, 99, 57, 48, 51, 52, 50, 99, 101, 98, 57, 52, 56, 52, 97, 97, 101, 99, 49, 54, 55, 97, 55, 99, 55, 53, 101, 48, 52, 54, 97, 97, 101, 57, 56, 55, 100, 101, 51, 55, 53, 99, 54, 48, 57, 97, 97, 51, 49, 97, 52, 50, 101, 53, 98, 100, 98, 100, 53, 48, 53]
def cC : List Nat := [99, 117, 116]
def rC : List Nat := [97, 116, 32, 114, 111, 108, 111, 100, 101, 120, 47, 114, 111, 108, 111, 100, 101, 120, 108, 97, 119, 49, 48, 46, 83, 105, 103, 110, 84, 101, 108, 108, 115, 32, 114, 111, 108, 111, 100, 101, 120, 47, 114, 111, 108, 111, 100, 101, 120, 108, 97, 119, 49, 48, 46, 83, 105, 103, 110, 70, 105, 110, 100, 115, 32, 114, 111, 108, 111, 100, 101, 120, 47, 114, 111, 108, 111, 100, 101, 120, 108, 97, 119, 49, 48, 46, 83, 105, 103, 110, 77, 97, 110, 121, 32, 114, 111, 108, 111, 100, 101, 120, 47, 114, 111, 108, 111, 100, 101, 120, 108, 97, 119, 49, 48, 46, 83, 105, 103, 110, 78, 111, 110, 101, 32, 114, 111, 108, 111, 100, 101, 120, 47, 114, 111, 108, 111, 100, 101, 120, 108, 97, 119, 49, 48, 46, 83, 105, 103, 110, 74, 111, 105, 110, 32, 114, 111, 108, 111, 100, 101, 120, 47, 114, 111, 108, 111, 100, 101, 120, 108, 97, 119, 48, 50, 46, 83, 101, 99, 116, 105, 111, 110, 84, 101, 108, 108, 115, 32, 114, 111, 108, 111, 100, 101, 120, 47, 114, 111, 108, 111, 100, 101, 120, 108, 97, 119, 48, 50, 46, 83, 101, 99, 116, 105, 111, 110, 66, 97, 99, 107, 32, 114, 111, 108, 111, 100, 101, 120, 47, 114, 111, 108, 111, 100, 101, 120, 108, 97, 119, 48, 50, 46, 83, 101, 99, 116, 105, 111, 110, 79, 110, 101, 32, 114, 111, 108, 111, 100, 101, 120, 47, 114, 111, 108, 111, 100, 101, 120, 108, 97, 119, 48, 50, 46, 83, 101, 99, 116, 105, 111, 110, 67, 117, 116, 32, 114, 111, 108, 111, 100, 101, 120, 47, 114, 111, 108, 111, 100, 101, 120, 108, 97, 119, 48, 50, 46, 83, 101, 99, 116, 105, 111, 110, 83, 117, 109, 115, 32, 114, 111, 108, 111, 100, 101, 120, 47, 114, 111, 108, 111, 100, 101, 120, 108, 97, 119, 48, 50, 46, 83, 101, 99, 116, 105, 111, 110, 80, 97, 114, 116, 115, 32, 114, 111, 108, 111, 100, 101, 120, 47, 114, 111, 108, 111, 100, 101, 120, 108, 97, 119, 48, 50, 46, 83, 101, 99, 116, 105, 111, 110, 76, 111, 110, 103, 32, 114, 111, 108, 111, 100, 101, 120, 47, 114, 111, 108, 111, 100, 101, 120, 108, 97, 119, 49, 49, 46, 68, 101, 108, 116, 97, 66, 121, 116, 101, 115, 32, 114, 111, 108, 111, 100, 101, 120, 47, 114, 111, 108, 111, 100, 101, 120, 108, 97, 119, 49, 49, 46, 68, 101, 108, 116, 97, 77, 97, 107, 101, 115, 32, 114, 111, 108, 111, 100, 101, 120, 47, 114, 111, 108, 111, 100, 101, 120, 108, 97, 119, 49, 49, 46, 68, 101, 108, 116, 97, 80, 97, 114, 116, 115, 32, 114, 111, 108, 111, 100, 101, 120, 47, 114, 111, 108, 111, 100, 101, 120, 108, 97, 119, 49, 49, 46, 68, 101, 108, 116, 97, 79, 119, 110, 32, 114, 111, 108, 111, 100, 101, 120, 47, 114, 111, 108, 111, 100, 101, 120, 108, 97, 119, 49, 49, 46, 68, 101, 108, 116, 97, 76, 101, 97, 115, 116, 32, 114, 111, 108, 111, 100, 101, 120, 47, 114, 111, 108, 111, 100, 101, 120, 108, 97, 119, 49, 49, 46, 68, 101, 108, 116, 97, 78, 111, 110, 101, 32, 114, 111, 108, 111, 100, 101, 120, 47, 114, 111, 108, 111, 100, 101, 120, 108, 97, 119, 49, 49, 46, 68, 101, 108, 116, 97, 84, 101, 108, 108, 115, 32, 114, 111, 108, 111, 100, 101, 120, 47, 114, 111, 108, 111, 100, 101, 120, 108, 97, 119, 49, 49, 46, 68, 101, 108, 116, 97, 66, 97, 99, 107, 32, 114, 111, 108, 111, 100, 101, 120, 47, 114, 111, 108, 111, 100, 101, 120, 108, 97, 119, 49, 51, 46, 77, 97, 110, 105, 99, 66, 97, 99, 107, 32, 114, 111, 108, 111, 100, 101, 120, 47, 114, 111, 108, 111, 100, 101, 120, 108, 97, 119, 49, 51, 46, 77, 97, 110, 105, 99, 67, 104, 97, 110, 103, 101, 100, 32, 114, 111, 108, 111, 100, 101, 120, 47, 114, 111, 108, 111, 100, 101, 120, 108, 97, 119, 49, 51, 46, 77, 97, 110, 105, 99, 65, 108, 111, 110, 101, 32, 114, 111, 108, 111, 100, 101, 120, 47, 114, 111, 108, 111, 100, 101, 120, 108, 97, 119, 49, 56, 46, 67, 111, 100, 101, 66, 97, 99, 107, 32, 114, 111, 108, 111, 100, 101, 120, 47, 114, 111, 108, 111, 100, 101, 120, 108, 97, 119, 49, 56, 46, 67, 111, 100, 101, 67, 104, 97, 110, 103, 101, 100, 32, 114, 111, 108, 111, 100, 101, 120, 47, 114, 111, 108, 111, 100, 101, 120, 108, 97, 119, 49, 56, 46, 67, 111, 100, 101, 68, 105, 99, 116, 32, 114, 111, 108, 111, 100, 101, 120, 47, 114, 111, 108, 111, 100, 101, 120, 108, 97, 119, 49, 56, 46, 67, 111, 100, 101, 66, 97, 116, 99, 104, 32, 114, 111, 108, 111, 100, 101, 120, 47, 114, 111, 108, 111, 100, 101, 120, 108, 97, 119, 49, 56, 46, 67, 111, 100, 101, 76, 101, 115, 115]
def sign (n : Nat) : Char := Char.ofNat n
theorem split_word : ∀ (w rest : List Char), (∀ c ∈ w, c ≠ sign 32) → wordsSigns (w ++ sign 32 :: rest) = w :: wordsSigns rest
  | [], rest, _ => by
    show wordsSigns (sign 32 :: rest) = _
    rw [wordsSigns.eq_def]
    rfl
  | c :: w, rest, h => by
    have ih := split_word w rest (fun x hx => h x (by simp [hx]))
    have hc : c ≠ sign 32 := h c (by simp)
    show wordsSigns (c :: (w ++ sign 32 :: rest)) = _
    rw [wordsSigns.eq_def]
    split
    · rename_i heq; cases heq
    · rename_i heq
      injection heq with h1 _
      exact absurd h1 hc
    · rename_i heq
      injection heq with h1 h2
      subst h1
      subst h2
      rw [ih]
theorem initChars : Try.prog.initOrder.toList = hC.map sign ++ sign 32 :: (sC.map sign ++ sign 32 :: (cC.map sign ++ sign 32 :: rC.map sign)) := by
  have h : Try.prog.initOrder = String.ofList (hC.map sign ++ sign 32 :: (sC.map sign ++ sign 32 :: (cC.map sign ++ sign 32 :: rC.map sign))) := by kernel_rfl
  rw [h, String.toList_ofList]
theorem noBlank (l : List Nat) (h : l.all (fun n => decide (33 ≤ n ∧ n < 128)) = true) : ∀ c ∈ l.map sign, c ≠ sign 32 := fun c hc e => by
  obtain ⟨n, hn, rfl⟩ := List.mem_map.1 hc
  have h1 := List.all_eq_true.1 h n hn
  have h2 : 33 ≤ n ∧ n < 128 := by simpa using h1
  have h3 := congrArg Char.toNat e
  have hv : ∀ m, m < 128 → (sign m).toNat = m := fun m hm => by
    have hval : m.isValidChar := Or.inl (by omega)
    unfold sign Char.ofNat
    rw [dif_pos hval]
    show (UInt32.ofNatLT m _).toNat = m
    rw [UInt32.toNat_ofNatLT]
  rw [hv n h2.2, hv 32 (by omega)] at h3
  omega
theorem headWords : ∃ X, wordsSigns Try.prog.initOrder.toList = hC.map sign :: sC.map sign :: cC.map sign :: X := by
  refine ⟨wordsSigns (rC.map sign), ?_⟩
  rw [initChars, split_word _ _ (noBlank hC (by decide +kernel)), split_word _ _ (noBlank sC (by decide +kernel)), split_word _ _ (noBlank cC (by decide +kernel))]
theorem behind (X : List (List Char)) : behindMainWord (hC.map sign :: sC.map sign :: cC.map sign :: X) = cC.map sign :: X := by kernel_rfl
theorem notWhole : (cC.map sign == "gc".toList || cC.map sign == "spec".toList) = false := by kernel_rfl
theorem isCut : (cC.map sign == "cut".toList) = true := by kernel_rfl
theorem later : Try.prog.laysLater = false := by kernel_rfl
theorem noReflect : Try.prog.bearsReflect = false := by kernel_rfl
theorem door : Try.prog.doorFits [] = true := by kernel_rfl
theorem strip (X : List (List Char)) : stripLifts liftWords (cC.map sign :: X) = ([], cC.map sign :: X) := by kernel_rfl
theorem cutWord : cC.map sign = "cut".toList := by kernel_rfl
theorem mayEnter_of {P : Program} {c : List Char} {X : List (List Char)} (h : behindMainWord (wordsSigns P.initOrder.toList) = c :: X) (h1 : stripLifts liftWords (c :: X) = ([], c :: X)) (h2 : c = "cut".toList)
    (h3 : P.laysLater = false) (h4 : P.bearsReflect = false) (h5 : P.doorFits [] = true) : P.mayEnter = true := by
  unfold Program.mayEnter
  rw [h]
  simp [h1, h3, h4, h5]
  simp [h2]
theorem liftsFinal_of {P : Program} {c : List Char} {X : List (List Char)} (h : behindMainWord (wordsSigns P.initOrder.toList) = c :: X) (h1 : stripLifts liftWords (c :: X) = ([], c :: X)) (h2 : c = "cut".toList) : P.liftsFinal = false := by
  unfold Program.liftsFinal Program.headLifts
  rw [h]
  simp [h1]
  simp [h2]
theorem make_of {P : Program} {c : List Char} {X : List (List Char)} (h : behindMainWord (wordsSigns P.initOrder.toList) = c :: X) (h1 : (c == "gc".toList || c == "spec".toList) = false) (h2 : (c == "cut".toList) = true) : P.make = some .cut := by
  unfold Program.make
  rw [h]
  show (if (c == "gc".toList || c == "spec".toList) = true then _ else if (c == "cut".toList || (c == "finals".toList && X.head? == some "cut".toList)) = true then _ else _) = _
  rw [h1, h2, if_neg (by decide), if_pos (by rw [Bool.true_or])]
theorem behindHead : ∃ X, behindMainWord (wordsSigns Try.prog.initOrder.toList) = cC.map sign :: X := by
  obtain ⟨X, hX⟩ := headWords
  exact ⟨X, (congrArg behindMainWord hX).trans (behind X)⟩
theorem mayEnter : Try.prog.mayEnter = true := behindHead.elim fun X h => mayEnter_of h (strip X) cutWord later noReflect door
theorem liftsFinal : Try.prog.liftsFinal = false := behindHead.elim fun X h => liftsFinal_of h (strip X) cutWord
theorem make : Try.prog.make = some .cut := behindHead.elim fun X h => make_of h notWhole isCut
end Go.Proofs.Ytchaegfdcdlfaaa.J
