/- Texts of this claim, what it reaches. -/
import Derived.Test.YtchaegfdcdlfaaaM3v
import Derived.Test.YtchaegfdcdlfaaaM4v
import Derived.Laws.Cover3
import Derived.Test.YtchaegfdcdlfaaaM2v

namespace Go.Proofs.Ytchaegfdcdlfaaa.X
set_option linter.unusedVariables false
set_option linter.unusedSimpArgs false
open Go.RowKit Go.Proofs.YtchaegfdcdlfaaaW.PrintWords Go.Proofs.YtchaegfdcdlfaaaW.PrintLast Go.Proofs.YtchaegfdcdlfaaaW.PrintMore
open Go.Proofs.Ytchaegfdcdlfaaa.Y (Bytes RdB put put_range put_length put_length_pos word word_length word_bytes rdb_below rdb_drewN put_call word_call row_slice)
attribute [local go_sem] max2_int min2_int max_two min_two max_three min_three max_four min_four
theorem stput_call (n r : Int) (h : stMay n r = true) (w : World) : Calls Try.prog 104 #[.agg #[.int .i64 n, .int .i64 r]] w fun e w' => (∃ A c, e = .returned (.tuple #[.slice A (put (stNum n r)).length c, .bool true]) ∧ (put (stNum n r)).length ≤ c ∧ RdB w' A (put (stNum n r)).length (put (stNum n r))) ∧ Below w.heap.size w w' :=
  (stamp_Put.calls 20 n r _ _ w (StPut_eq h 20 (by decide))).mono fun e w' ⟨v, he, hR, hB⟩ => by
    obtain ⟨A, c, rfl, hc, hr⟩ := SlB.of_R hR
    exact ⟨⟨A, c, he, hc, hr⟩, hB⟩
def entH (e : Ent) : List Int := [e.no] ++ (put (stNum e.n e.rep) ++ (put e.len.toNat ++ e.d))
theorem entH_B (e : Ent) : entB e = entH e ++ allB sgB e.b := by unfold entB entH; simp only [List.append_assoc]
abbrev EbS (w0 : World) (cs : Array Value) (W : World) : Prop := W.heap[w0.heap.size]? = some (.cells cs 149 (0, 0)) ∧ Below w0.heap.size w0 W
theorem EbS.step {w0 : World} {cs : Array Value} {W W1 : World} (h : EbS w0 cs W) (hb : Below W.heap.size W W1) : EbS w0 cs W1 := ⟨blk_below h.1 hb, below_step h.2 hb⟩
theorem ent_dig {W : World} {g : Nat} {x : Ent} {A : Option Addr} {c : Nat} (h : W.heap[g]? = some (.cells (entC x A c).toArray 149 (0, 0))) : At W ⟨g, 4, none⟩ (cells8 x.d) := by
  have := At.part (l := [.int .i64 x.no, .int .i64 x.n, .int .i64 x.rep, .int .i64 x.len]) (m := nums .u8 x.d) (r := [.slice A x.b.length c]) (At.blk h) 4 rfl
  rw [add_at] at this
  exact this
theorem sg_dig {W : World} {g : Nat} {s : Sg} (h : W.heap[g]? = some (.cells (sgA s) 30 (0, 0))) : At W ⟨g, 1, none⟩ (cells8 s.2) := by
  have := At.part (l := [.int .u32 s.1]) (m := nums .u8 s.2) (r := []) (by rw [List.append_nil]; exact At.blk h) 1 rfl
  rw [add_at] at this
  exact this
theorem sgs_take (l : List Sg) (i : Nat) (hi : i < l.length) : allB sgB (l.take (i + 1)) = allB sgB (l.take i) ++ sgB (l.getD i (0, [])) := by
  rw [List.take_succ_eq_append_getElem hi, allB_snoc, List.getD_eq_getElem?_getD, List.getElem?_eq_getElem hi, Option.getD_some]
theorem sgs_take_len {l : List Sg} (h : ∀ s ∈ l, ShS s) (i : Nat) : (allB sgB (l.take i)).length ≤ 36 * i := by
  have := allB_le (B := sgB) (c := 36) (l := l.take i) (fun x hx => by rw [sgB_len (h x (List.mem_of_mem_take hx))]; exact Nat.le_refl _)
  have h2 : (l.take i).length ≤ i := by rw [List.length_take]; omega
  exact Nat.le_trans this (Nat.mul_le_mul_left 36 h2)
set_option maxHeartbeats 4000000 in
set_option maxRecDepth 100000 in
theorem entb_call (x : Ent) (A : Option Addr) (c : Nat) (w : World) (hx : ShE x) (hc : x.b.length ≤ c) (hC : Kd.C sgK w A x.b.length x.b) :
    Calls Try.prog 105 #[.agg (entC x A c).toArray] w fun e w' => (∃ A2 c2, e = .returned (.slice A2 (entB x).length c2) ∧ (entB x).length ≤ c2 ∧ RdB w' A2 (entB x).length (entB x)) ∧ Below w.heap.size w w' := by
  have HX := Aside0.mk hx
  have HC := Aside0.mk hC
  have HLEN := Aside0.mk hC.2.1
  have HCC := Aside0.mk hc
  obtain ⟨ln, hln⟩ : ∃ ln : Nat, x.len = (ln : Int) := ⟨x.len.toNat, by have := hx.2.2.1.1; omega⟩
  have HLN : Aside0 (ln ≤ 200) := ⟨by have := hx.2.2.1.2; omega⟩
  have HPT : Aside0 (put x.len.toNat = put ln) := ⟨by rw [hln, Int.toNat_natCast]⟩
  have hwn : IntKind.u8.wrap x.no = x.no := by have := hx.1; simp [IntKind.wrap, IntKind.bits, IntKind.signed]; omega
  have hwl : IntKind.u64.wrap (ln : Int) = (ln : Int) := by have := HLN.out; simp [IntKind.wrap, IntKind.bits, IntKind.signed]; omega
  have k36 := entC_36 hx.2.2.2.1.1 A c
  have k3 : (entC x A c).toArray[3]? = some (.int .i64 (ln : Int)) := by rw [← hln]; rfl
  obtain ⟨st, hst⟩ : ∃ st, put (stNum x.n x.rep) = st := ⟨_, rfl⟩
  obtain ⟨pt, hpt⟩ : ∃ pt, put ln = pt := ⟨_, rfl⟩
  have HH : Aside0 ([[x.no], st, pt, x.d].flatten = entH x) := ⟨by unfold entH; rw [HPT.out, hst, hpt]; simp⟩
  have hstp := stput_call x.n x.rep hx.2.1
  rw [hst] at hstp
  have HSTP := Aside0.mk hstp
  have hptp := fun W => put_call ln (by have := HLN.out; omega) W
  rw [hpt] at hptp
  have HPTP := Aside0.mk hptp
  have HSL : Aside0 (st.length ≤ 10) := ⟨by rw [← hst]; have hr := stMay_range hx.2.1; exact put_length _ (by unfold stNum; omega)⟩
  have HPL : Aside0 (pt.length ≤ 10) := ⟨by rw [← hpt]; exact put_length _ (by have := HLN.out; omega)⟩
  have HDL := Aside0.mk hx.2.2.2.1.1
  have HDIG : Aside0 (∀ W : World, W.heap[w.heap.size]? = some (.cells (entC x A c).toArray 149 (0, 0)) → At W ⟨w.heap.size, 4, none⟩ (cells8 x.d)) := ⟨fun W h => ent_dig h⟩
  obtain ⟨cs, hcs⟩ : ∃ cs, (entC x A c).toArray = cs := ⟨_, rfl⟩
  have k0 : cs[0]? = some (.int .i64 x.no) := by rw [← hcs]; rfl
  have k1 : cs[1]? = some (.int .i64 x.n) := by rw [← hcs]; rfl
  have k2 : cs[2]? = some (.int .i64 x.rep) := by rw [← hcs]; rfl
  rw [hcs] at k36 k3 HDIG ⊢
  have K0 := Aside0.mk k0
  have K3 := Aside0.mk k3
  have K36 := Aside0.mk k36
  have HBK := Aside0.mk (blk_new w (.cells cs 149))
  have g1 := (blk_cell HBK.out 1).trans k1
  have g2 := (blk_cell HBK.out 2).trans k2
  clear hx hc hC hln hst hpt hstp hptp hcs k0 k1 k2 k3 k36
  go_enter Try.func105, Try.ntmps105
  go_wp2_with fail
  refine (HSTP.out _).mono ?_
  rintro e_ w1 ⟨⟨A1, c1, rfl, hc1, hr1⟩, hb1⟩
  have S1 : Aside0 (SlB w1 (.slice A1 st.length c1) st) := ⟨⟨A1, c1, rfl, hc1, hr1⟩⟩
  have H1 : Aside0 (EbS w cs w1) := ⟨EbS.step ⟨HBK.out, below_alloc (Below.refl _ _) _⟩ hb1⟩
  clear hc1 hr1 hb1 g1 g2
  go_wp2_with fail
  refine wp_region_held_drew (S := (fun W => EbS w cs W)) (by kernel_rfl) (EbS.step H1.out (below_drew (Below.refl _ _))) (fun hHeld => ?_)
  refine tq (i := 0) (v := ?_) ?hy ?_
  case hy => (intro W_ hW_; go_simp; first | done | with_reducible rfl)
  try simp only [Act.put, List.setIfInBounds_toArray, List.set_cons_zero, List.set_cons_succ]
  refine tq (i := 1) (v := ?_) ?hy ?_
  case hy => (intro W_ hW_; have f0 := (blk_cell hW_.1 0).trans K0.out; go_simp; first | done | with_reducible rfl)
  try simp only [Act.put, List.setIfInBounds_toArray, List.set_cons_zero, List.set_cons_succ]
  refine tq (i := 2) (v := ?_) ?hy ?_
  case hy => (intro W_ hW_; go_simp; first | done | with_reducible rfl)
  try simp only [Act.put, List.setIfInBounds_toArray, List.set_cons_zero, List.set_cons_succ]
  refine tq (i := 4) (v := ?_) ?hy ?_
  case hy => (intro W_ hW_; go_simp; first | done | with_reducible rfl)
  try simp only [Act.put, List.setIfInBounds_toArray, List.set_cons_zero, List.set_cons_succ]
  refine tq (i := 5) (v := ?_) ?hy ?_
  case hy => (intro W_ hW_; go_simp; first | done | with_reducible rfl)
  try simp only [Act.put, List.setIfInBounds_toArray, List.set_cons_zero, List.set_cons_succ]
  refine tq (i := 6) (v := ?_) ?hy ?_
  case hy => (intro W_ hW_; have f3 := (blk_cell hW_.1 3).trans K3.out; go_simp; first | done | with_reducible rfl)
  try simp only [Act.put, List.setIfInBounds_toArray, List.set_cons_zero, List.set_cons_succ]
  refine tq (i := 7) (v := ?_) ?hy ?_
  case hy => (intro W_ hW_; go_simp; first | done | with_reducible rfl)
  try simp only [Act.put, List.setIfInBounds_toArray, List.set_cons_zero, List.set_cons_succ]
  refine tq (i := 9) (v := ?_) ?hy ?_
  case hy => (intro W_ hW_; go_simp; first | done | with_reducible rfl)
  try simp only [Act.put, List.setIfInBounds_toArray, List.set_cons_zero, List.set_cons_succ]
  refine tq (i := 10) (v := ?_) ?hy ?_
  case hy => (intro W_ hW_; go_simp; first | done | with_reducible rfl)
  try simp only [Act.put, List.setIfInBounds_toArray, List.set_cons_zero, List.set_cons_succ]
  refine wpAnyH_ready (rs := [3, 8]) (by kernel_rfl) (by simp) ?_
  refine AllReadyH.cons (by simp only [List.getElem?_toArray, List.getElem?_cons_succ, List.getElem?_cons_zero]; rfl) (fun K hK => ?_) (AllReadyH.cons (by simp only [List.getElem?_toArray, List.getElem?_cons_succ, List.getElem?_cons_zero]; rfl) (fun K hK => ?_) AllReadyH.nil)
  · rw [if_pos (by rfl)]
    go_wp2_with fail
    refine hK.out _ _ (EbS.step hHeld (below_alloc (Below.refl _ _) _)) (fun hHeld2 => ?_)
    clear hK K hHeld
    have hHeld := hHeld2
    clear hHeld2
    try simp only [Act.put, List.setIfInBounds_toArray, List.set_cons_zero, List.set_cons_succ]
    have SO : Aside0 (SlB (w1.drew.alloc (.cells #[.int .u8 x.no] 5)) (.slice (some ⟨w1.drew.heap.size, 0, none⟩) 1 1) [x.no]) := ⟨SlB.one _ _⟩
    refine wpAnyH_ready (rs := [8]) (by kernel_rfl) (by simp) ?_
    refine AllReadyH.cons (by simp only [List.getElem?_toArray, List.getElem?_cons_succ, List.getElem?_cons_zero]; rfl) (fun K hK => ?_) AllReadyH.nil
    rw [if_pos (by rfl)]
    go_wp2_with fail
    refine (HPTP.out _).mono ?_
    rintro e_ w2 ⟨A2, c2, rfl, hc2, hr2, hb2⟩
    refine hK.out _ _ (EbS.step hHeld hb2) (fun hHeld2 => ?_)
    clear hK K hHeld
    have hHeld := hHeld2
    clear hHeld2
    try simp only [Act.put, List.setIfInBounds_toArray, List.set_cons_zero, List.set_cons_succ]
    have SP : Aside0 (SlB w2 (.slice A2 pt.length c2) pt) := ⟨⟨A2, c2, rfl, hc2, hr2⟩⟩
    have S12 := Aside0.mk ((S1.out.drew.alloc (.cells #[.int .u8 x.no] 5)).below hb2)
    have SO2 := Aside0.mk (SO.out.below hb2)
    clear hb2 hc2 hr2
    refine wpAnyH_ready (rs := [11]) (by kernel_rfl) (by simp) ?_
    refine AllReadyH.cons (by simp only [List.getElem?_toArray, List.getElem?_cons_succ, List.getElem?_cons_zero]; rfl) (fun K hK => ?_) AllReadyH.nil
    rw [if_pos (by rfl)]
    have HB11 := Aside0.mk hHeld
    go_wp2_with fail
    refine hK.out _ _ (EbS.step hHeld (below_alloc (Below.refl _ _) _)) (fun hHeld2 => ?_)
    clear hK K hHeld
    have hHeld := hHeld2
    clear hHeld2
    try simp only [Act.put, List.setIfInBounds_toArray, List.set_cons_zero, List.set_cons_succ]
    have SD : Aside0 (SlB w2 (.slice (some ⟨w.heap.size, 4, none⟩) 32 32) x.d) := ⟨SlB.at (HDIG.out _ HB11.out.1) 32 32 HDL.out (by decide) (by decide)⟩
    have SS : Aside0 (SlBs w2 [.slice (some ⟨w1.drew.heap.size, 0, none⟩) 1 1, .slice A1 st.length c1, .slice A2 pt.length c2, .slice (some ⟨w.heap.size, 4, none⟩) 32 32] [[x.no], st, pt, x.d]) := ⟨.cons SO2.out (.cons S12.out (.cons SP.out (.cons SD.out .nil)))⟩
    refine wpAnyH_ready (rs := [12]) (by kernel_rfl) (by simp) ?_
    refine AllReadyH.cons (by simp only [List.getElem?_toArray, List.getElem?_cons_succ, List.getElem?_cons_zero]; rfl) (fun K hK => ?_) AllReadyH.nil
    rw [if_pos (by rfl)]
    go_wp2_with fail
    refine (cat_rows SS.out (by show _ + 1 ≤ 1000; simp) w2.heap.size rfl 4 rfl (by have := HSL.out; have := HPL.out; have := HDL.out; simp; omega) (entH x) HH.out).mono ?_
    rintro e_ w3 ⟨⟨A3, c3, rfl, hc3, hr3⟩, hb3⟩
    refine hK.out _ _ (EbS.step HB11.out hb3) (fun hHeld2 => ?_)
    clear hK K hHeld
    have hHeld := hHeld2
    clear hHeld2
    try simp only [Act.put, List.setIfInBounds_toArray, List.set_cons_zero, List.set_cons_succ]
    have HR3 := Aside0.mk (And.intro hc3 hr3)
    clear hc3 hr3 hb3
    refine tq (i := 13) (v := ?_) ?hy ?_
    case hy => (intro W_ hW_; go_simp; first | done | with_reducible rfl)
    try simp only [Act.put, List.setIfInBounds_toArray, List.set_cons_zero, List.set_cons_succ]
    refine wpAnyH_done (by kernel_rfl) ?_ _
    have HB3 := Aside0.mk hHeld
    clear hHeld
    have f36 := (blk_cell HB3.out.1 36).trans K36.out
    go_wp2_with fail
    clear f36
    go_loopg [5, 30] x.b.length (fun kq v5 v30 W => ∃ (i : Nat) (Av : Option Addr) (cv : Nat) (l : List Int), v5 = .slice Av l.length cv ∧ v30 = .int .i64 i ∧ Aside0 (kq + i = x.b.length) ∧ Aside0 (l = entH x ++ allB sgB (x.b.take i)) ∧ Aside0 (l.length ≤ cv ∧ RdB W Av l.length l) ∧ Aside0 (EbS w cs W))
    case atStart => exact ⟨0, _, _, entH x, rfl, rfl, ⟨rfl⟩, ⟨by simp [allB]⟩, HR3, HB3⟩
    case round =>
      obtain ⟨i, Av, cv, l, rfl, rfl, HK, HL, HR, HB⟩ := hrel
      by_cases hi : i < x.b.length
      · obtain ⟨ad, hA, h32, hcell⟩ := sgs_at (Kd.C_below HC.out HB.out.2) hi
        obtain ⟨s, hs⟩ : ∃ s, s = x.b.getD i (0, []) := ⟨_, rfl⟩
        have HTK := Aside0.mk (sgs_take x.b i hi)
        rw [← hs] at h32 hcell HTK
        have hmem : s ∈ x.b := by rw [hs, List.getD_eq_getElem?_getD, List.getElem?_eq_getElem hi]; exact List.getElem_mem hi
        have hsh := HX.out.2.2.2.2.2 s hmem
        obtain ⟨wk, hwk⟩ : ∃ wk : Nat, s.1 = (wk : Int) := ⟨s.1.toNat, by have := hsh.1.1; omega⟩
        have HSG : Aside0 ([l, word wk, s.2].flatten = l ++ sgB s) := ⟨by unfold sgB; rw [hwk, Int.toNat_natCast]; simp⟩
        obtain ⟨r, hrd⟩ : ∃ r, l ++ sgB s = r := ⟨_, rfl⟩
        rw [hrd] at HSG
        have HRD := Aside0.mk hrd
        clear hrd
        have HLL : Aside0 (l.length ≤ 10000) := ⟨by
          rw [HL.out, List.length_append]
          have h1 := sgs_take_len HX.out.2.2.2.2.2 i
          have h2 := blkM_range HX.out.2.2.1.1 HX.out.2.2.1.2
          have h3 := HX.out.2.2.2.2.1
          have h4 : (entH x).length ≤ 100 := by rw [← HH.out]; have := HSL.out; have := HPL.out; have := HDL.out; simp; omega
          omega⟩
        subst hA
        have HC2 := Aside0.mk hcell
        have H32 := Aside0.mk h32
        have e1 : decide ((i : Int) < (x.b.length : Int)) = true := by simpa using hi
        have e2 : ((i : Int) < (x.b.length : Int)) = True := by simpa using hi
        have e3 : (0 ≤ (i : Int)) = True := by simp
        have e4 : IntKind.i64.wrap ((i : Int) + 1) = ((i + 1 : Nat) : Int) := by have := HLEN.out; simp [IntKind.wrap, IntKind.bits, IntKind.signed]; omega
        have HI := Aside0.mk hi
        have hsz := sgA_size h32
        have kw : (sgA s)[0]? = some (.int .u32 (wk : Int)) := by rw [← hwk]; rfl
        have KW := Aside0.mk kw
        have hst := store_new wr #[.int .u32 0, .int .u8 0, .int .u8 0, .int .u8 0, .int .u8 0, .int .u8 0, .int .u8 0, .int .u8 0, .int .u8 0, .int .u8 0, .int .u8 0, .int .u8 0, .int .u8 0, .int .u8 0, .int .u8 0, .int .u8 0, .int .u8 0, .int .u8 0, .int .u8 0, .int .u8 0, .int .u8 0, .int .u8 0, .int .u8 0, .int .u8 0, .int .u8 0, .int .u8 0, .int .u8 0, .int .u8 0, .int .u8 0, .int .u8 0, .int .u8 0, .int .u8 0, .int .u8 0] (sgA s) 30 (by rw [hsz]; rfl) (sgA_all s)
        have HNEW := Aside0.mk (blk_new wr (.cells (sgA s) 30))
        have HBN := Aside0.mk (EbS.step HB.out (below_alloc (Below.refl _ _) (.cells (sgA s) 30)))
        have SL : Aside0 (SlB wr (.slice Av l.length cv) l) := ⟨⟨Av, cv, rfl, HR.out.1, HR.out.2⟩⟩
        clear hi hs hmem hsh hwk h32 hcell kw
        go_wp2_with (first
          | ((with_reducible refine gate_dst (N := 33) rfl ?_); refine wpList_load_cells rfl 30 (.tmp 32) rfl (ad.add (i * 33)) rfl (sgA s) _ HC2.out Try.underlying30 rfl (sgInfo H32.out) ?_)
          | fail)
        refine wp_region_held_drew (S := (fun W => W.heap[wr.heap.size]? = some (.cells (sgA s) 30 (0, 0)) ∧ EbS w cs W)) (by kernel_rfl) (⟨HNEW.out, EbS.step HBN.out (below_drew (Below.refl _ _))⟩) (fun hHeld => ?_)
        refine tq (i := 0) (v := ?_) ?hy ?_
        case hy => (intro W_ hW_; go_simp; first | done | with_reducible rfl)
        try simp only [Act.put, List.setIfInBounds_toArray, List.set_cons_zero, List.set_cons_succ]
        refine tq (i := 1) (v := ?_) ?hy ?_
        case hy => (intro W_ hW_; go_simp; first | done | with_reducible rfl)
        try simp only [Act.put, List.setIfInBounds_toArray, List.set_cons_zero, List.set_cons_succ]
        refine tq (i := 2) (v := ?_) ?hy ?_
        case hy => (intro W_ hW_; have f0 := (blk_cell hW_.1 0).trans KW.out; go_simp; first | done | with_reducible rfl)
        try simp only [Act.put, List.setIfInBounds_toArray, List.set_cons_zero, List.set_cons_succ]
        refine tq (i := 4) (v := ?_) ?hy ?_
        case hy => (intro W_ hW_; go_simp; first | done | with_reducible rfl)
        try simp only [Act.put, List.setIfInBounds_toArray, List.set_cons_zero, List.set_cons_succ]
        refine tq (i := 5) (v := ?_) ?hy ?_
        case hy => (intro W_ hW_; go_simp; first | done | with_reducible rfl)
        try simp only [Act.put, List.setIfInBounds_toArray, List.set_cons_zero, List.set_cons_succ]
        refine wpAnyH_ready (rs := [3]) (by kernel_rfl) (by simp) ?_
        refine AllReadyH.cons (by simp only [List.getElem?_toArray, List.getElem?_cons_succ, List.getElem?_cons_zero]; rfl) (fun K hK => ?_) AllReadyH.nil
        rw [if_pos (by rfl)]
        go_wp2_with fail
        refine (word_call wk _).mono ?_
        rintro e_ w4 ⟨A4, c4, rfl, hc4, hr4, hb4⟩
        refine hK.out _ _ (⟨blk_below hHeld.1 hb4, EbS.step hHeld.2 hb4⟩) (fun hHeld2 => ?_)
        clear hK K hHeld
        have hHeld := hHeld2
        clear hHeld2
        try simp only [Act.put, List.setIfInBounds_toArray, List.set_cons_zero, List.set_cons_succ]
        have SW : Aside0 (SlB w4 (.slice A4 4 c4) (word wk)) := ⟨⟨A4, c4, rfl, hc4, hr4⟩⟩
        have SL4 := Aside0.mk (((SL.out.alloc (.cells (sgA s) 30)).drew).below hb4)
        clear hb4 hc4 hr4
        refine wpAnyH_ready (rs := [6]) (by kernel_rfl) (by simp) ?_
        refine AllReadyH.cons (by simp only [List.getElem?_toArray, List.getElem?_cons_succ, List.getElem?_cons_zero]; rfl) (fun K hK => ?_) AllReadyH.nil
        rw [if_pos (by rfl)]
        have HB6 := Aside0.mk hHeld
        go_wp2_with fail
        refine hK.out _ _ (⟨blk_alloc hHeld.1 _, EbS.step hHeld.2 (below_alloc (Below.refl _ _) _)⟩) (fun hHeld2 => ?_)
        clear hK K hHeld
        have hHeld := hHeld2
        clear hHeld2
        try simp only [Act.put, List.setIfInBounds_toArray, List.set_cons_zero, List.set_cons_succ]
        have SD : Aside0 (SlB w4 (.slice (some ⟨wr.heap.size, 1, none⟩) 32 32) s.2) := ⟨SlB.at (sg_dig HB6.out.1) 32 32 H32.out (by decide) (by decide)⟩
        have SS : Aside0 (SlBs w4 [.slice Av l.length cv, .slice A4 4 c4, .slice (some ⟨wr.heap.size, 1, none⟩) 32 32] [l, word wk, s.2]) := ⟨.cons SL4.out (.cons SW.out (.cons SD.out .nil))⟩
        refine wpAnyH_ready (rs := [7]) (by kernel_rfl) (by simp) ?_
        refine AllReadyH.cons (by simp only [List.getElem?_toArray, List.getElem?_cons_succ, List.getElem?_cons_zero]; rfl) (fun K hK => ?_) AllReadyH.nil
        rw [if_pos (by rfl)]
        go_wp2_with fail
        refine (cat_rows SS.out (by show _ + 1 ≤ 1000; simp) w4.heap.size rfl 3 rfl (by have := HLL.out; have := H32.out; have := word_length wk; simp; omega) r HSG.out).mono ?_
        rintro e_ w5 ⟨⟨A5, c5, rfl, hc5, hr5⟩, hb5⟩
        refine hK.out _ _ (⟨blk_below HB6.out.1 hb5, EbS.step HB6.out.2 hb5⟩) (fun hHeld2 => ?_)
        clear hK K hHeld
        have hHeld := hHeld2
        clear hHeld2
        try simp only [Act.put, List.setIfInBounds_toArray, List.set_cons_zero, List.set_cons_succ]
        have HR5 := Aside0.mk (And.intro hc5 hr5)
        clear hc5 hr5 hb5
        refine tq (i := 8) (v := ?_) ?hy ?_
        case hy => (intro W_ hW_; go_simp; first | done | with_reducible rfl)
        try simp only [Act.put, List.setIfInBounds_toArray, List.set_cons_zero, List.set_cons_succ]
        refine wpAnyH_done (by kernel_rfl) ?_ _
        have HH2 := Aside0.mk hHeld
        clear hHeld
        go_wp2_with fail
        go_roundg (x.b.length - (i + 1))
        case measure => have := HK.out; have := HI.out; omega
        case rel => exact ⟨i + 1, A5, c5, r, rfl, by first | rfl | (simp [e4]; done), ⟨by have := HI.out; omega⟩, ⟨by rw [HTK.out, ← HRD.out, HL.out, List.append_assoc]⟩, HR5, ⟨HH2.out.2⟩⟩
      · have e1 : decide ((i : Int) < (x.b.length : Int)) = false := by simpa using hi
        have e2 : ((i : Int) < (x.b.length : Int)) = False := by simpa using hi
        have hil : i = x.b.length := by have := HK.out; omega
        have HF : Aside0 (l = entB x) := ⟨by rw [HL.out, hil, List.take_length, entH_B]⟩
        clear hi hil
        go_wp2_with fail
        go_ret
        refine ⟨⟨Av, cv, ?_, ?_, ?_⟩, HB.out.2⟩
        · rw [← HF.out]; rfl
        · rw [← HF.out]; exact HR.out.1
        · rw [← HF.out]; exact HR.out.2
  · rw [if_pos (by rfl)]
    go_wp2_with fail
    refine (HPTP.out _).mono ?_
    rintro e_ w2 ⟨A2, c2, rfl, hc2, hr2, hb2⟩
    refine hK.out _ _ (EbS.step hHeld hb2) (fun hHeld2 => ?_)
    clear hK K hHeld
    have hHeld := hHeld2
    clear hHeld2
    try simp only [Act.put, List.setIfInBounds_toArray, List.set_cons_zero, List.set_cons_succ]
    have SP : Aside0 (SlB w2 (.slice A2 pt.length c2) pt) := ⟨⟨A2, c2, rfl, hc2, hr2⟩⟩
    have S12 := Aside0.mk (S1.out.drew.below hb2)
    clear hb2 hc2 hr2
    refine wpAnyH_ready (rs := [3]) (by kernel_rfl) (by simp) ?_
    refine AllReadyH.cons (by simp only [List.getElem?_toArray, List.getElem?_cons_succ, List.getElem?_cons_zero]; rfl) (fun K hK => ?_) AllReadyH.nil
    rw [if_pos (by rfl)]
    go_wp2_with fail
    refine hK.out _ _ (EbS.step hHeld (below_alloc (Below.refl _ _) _)) (fun hHeld2 => ?_)
    clear hK K hHeld
    have hHeld := hHeld2
    clear hHeld2
    try simp only [Act.put, List.setIfInBounds_toArray, List.set_cons_zero, List.set_cons_succ]
    have SO : Aside0 (SlB (w2.alloc (.cells #[.int .u8 x.no] 5)) (.slice (some ⟨w2.heap.size, 0, none⟩) 1 1) [x.no]) := ⟨SlB.one _ _⟩
    have SP3 := Aside0.mk (SP.out.alloc (.cells #[.int .u8 x.no] 5))
    have S13 := Aside0.mk (S12.out.alloc (.cells #[.int .u8 x.no] 5))
    refine wpAnyH_ready (rs := [11]) (by kernel_rfl) (by simp) ?_
    refine AllReadyH.cons (by simp only [List.getElem?_toArray, List.getElem?_cons_succ, List.getElem?_cons_zero]; rfl) (fun K hK => ?_) AllReadyH.nil
    rw [if_pos (by rfl)]
    have HB11 := Aside0.mk hHeld
    go_wp2_with fail
    refine hK.out _ _ (EbS.step hHeld (below_alloc (Below.refl _ _) _)) (fun hHeld2 => ?_)
    clear hK K hHeld
    have hHeld := hHeld2
    clear hHeld2
    try simp only [Act.put, List.setIfInBounds_toArray, List.set_cons_zero, List.set_cons_succ]
    have SD : Aside0 (SlB (w2.alloc (.cells #[.int .u8 x.no] 5)) (.slice (some ⟨w.heap.size, 4, none⟩) 32 32) x.d) := ⟨SlB.at (HDIG.out _ HB11.out.1) 32 32 HDL.out (by decide) (by decide)⟩
    have SS : Aside0 (SlBs (w2.alloc (.cells #[.int .u8 x.no] 5)) [.slice (some ⟨w2.heap.size, 0, none⟩) 1 1, .slice A1 st.length c1, .slice A2 pt.length c2, .slice (some ⟨w.heap.size, 4, none⟩) 32 32] [[x.no], st, pt, x.d]) := ⟨.cons SO.out (.cons S13.out (.cons SP3.out (.cons SD.out .nil)))⟩
    refine wpAnyH_ready (rs := [12]) (by kernel_rfl) (by simp) ?_
    refine AllReadyH.cons (by simp only [List.getElem?_toArray, List.getElem?_cons_succ, List.getElem?_cons_zero]; rfl) (fun K hK => ?_) AllReadyH.nil
    rw [if_pos (by rfl)]
    go_wp2_with fail
    refine (cat_rows SS.out (by show _ + 1 ≤ 1000; simp) (w2.heap.size + 1) (Array.size_push ..) 4 rfl (by have := HSL.out; have := HPL.out; have := HDL.out; simp; omega) (entH x) HH.out).mono ?_
    rintro e_ w3 ⟨⟨A3, c3, rfl, hc3, hr3⟩, hb3⟩
    refine hK.out _ _ (EbS.step HB11.out hb3) (fun hHeld2 => ?_)
    clear hK K hHeld
    have hHeld := hHeld2
    clear hHeld2
    try simp only [Act.put, List.setIfInBounds_toArray, List.set_cons_zero, List.set_cons_succ]
    have HR3 := Aside0.mk (And.intro hc3 hr3)
    clear hc3 hr3 hb3
    refine tq (i := 13) (v := ?_) ?hy ?_
    case hy => (intro W_ hW_; go_simp; first | done | with_reducible rfl)
    try simp only [Act.put, List.setIfInBounds_toArray, List.set_cons_zero, List.set_cons_succ]
    refine wpAnyH_done (by kernel_rfl) ?_ _
    have HB3 := Aside0.mk hHeld
    clear hHeld
    have f36 := (blk_cell HB3.out.1 36).trans K36.out
    go_wp2_with fail
    clear f36
    go_loopg [5, 30] x.b.length (fun kq v5 v30 W => ∃ (i : Nat) (Av : Option Addr) (cv : Nat) (l : List Int), v5 = .slice Av l.length cv ∧ v30 = .int .i64 i ∧ Aside0 (kq + i = x.b.length) ∧ Aside0 (l = entH x ++ allB sgB (x.b.take i)) ∧ Aside0 (l.length ≤ cv ∧ RdB W Av l.length l) ∧ Aside0 (EbS w cs W))
    case atStart => exact ⟨0, _, _, entH x, rfl, rfl, ⟨rfl⟩, ⟨by simp [allB]⟩, HR3, HB3⟩
    case round =>
      obtain ⟨i, Av, cv, l, rfl, rfl, HK, HL, HR, HB⟩ := hrel
      by_cases hi : i < x.b.length
      · obtain ⟨ad, hA, h32, hcell⟩ := sgs_at (Kd.C_below HC.out HB.out.2) hi
        obtain ⟨s, hs⟩ : ∃ s, s = x.b.getD i (0, []) := ⟨_, rfl⟩
        have HTK := Aside0.mk (sgs_take x.b i hi)
        rw [← hs] at h32 hcell HTK
        have hmem : s ∈ x.b := by rw [hs, List.getD_eq_getElem?_getD, List.getElem?_eq_getElem hi]; exact List.getElem_mem hi
        have hsh := HX.out.2.2.2.2.2 s hmem
        obtain ⟨wk, hwk⟩ : ∃ wk : Nat, s.1 = (wk : Int) := ⟨s.1.toNat, by have := hsh.1.1; omega⟩
        have HSG : Aside0 ([l, word wk, s.2].flatten = l ++ sgB s) := ⟨by unfold sgB; rw [hwk, Int.toNat_natCast]; simp⟩
        obtain ⟨r, hrd⟩ : ∃ r, l ++ sgB s = r := ⟨_, rfl⟩
        rw [hrd] at HSG
        have HRD := Aside0.mk hrd
        clear hrd
        have HLL : Aside0 (l.length ≤ 10000) := ⟨by
          rw [HL.out, List.length_append]
          have h1 := sgs_take_len HX.out.2.2.2.2.2 i
          have h2 := blkM_range HX.out.2.2.1.1 HX.out.2.2.1.2
          have h3 := HX.out.2.2.2.2.1
          have h4 : (entH x).length ≤ 100 := by rw [← HH.out]; have := HSL.out; have := HPL.out; have := HDL.out; simp; omega
          omega⟩
        subst hA
        have HC2 := Aside0.mk hcell
        have H32 := Aside0.mk h32
        have e1 : decide ((i : Int) < (x.b.length : Int)) = true := by simpa using hi
        have e2 : ((i : Int) < (x.b.length : Int)) = True := by simpa using hi
        have e3 : (0 ≤ (i : Int)) = True := by simp
        have e4 : IntKind.i64.wrap ((i : Int) + 1) = ((i + 1 : Nat) : Int) := by have := HLEN.out; simp [IntKind.wrap, IntKind.bits, IntKind.signed]; omega
        have HI := Aside0.mk hi
        have hsz := sgA_size h32
        have kw : (sgA s)[0]? = some (.int .u32 (wk : Int)) := by rw [← hwk]; rfl
        have KW := Aside0.mk kw
        have hst := store_new wr #[.int .u32 0, .int .u8 0, .int .u8 0, .int .u8 0, .int .u8 0, .int .u8 0, .int .u8 0, .int .u8 0, .int .u8 0, .int .u8 0, .int .u8 0, .int .u8 0, .int .u8 0, .int .u8 0, .int .u8 0, .int .u8 0, .int .u8 0, .int .u8 0, .int .u8 0, .int .u8 0, .int .u8 0, .int .u8 0, .int .u8 0, .int .u8 0, .int .u8 0, .int .u8 0, .int .u8 0, .int .u8 0, .int .u8 0, .int .u8 0, .int .u8 0, .int .u8 0, .int .u8 0] (sgA s) 30 (by rw [hsz]; rfl) (sgA_all s)
        have HNEW := Aside0.mk (blk_new wr (.cells (sgA s) 30))
        have HBN := Aside0.mk (EbS.step HB.out (below_alloc (Below.refl _ _) (.cells (sgA s) 30)))
        have SL : Aside0 (SlB wr (.slice Av l.length cv) l) := ⟨⟨Av, cv, rfl, HR.out.1, HR.out.2⟩⟩
        clear hi hs hmem hsh hwk h32 hcell kw
        go_wp2_with (first
          | ((with_reducible refine gate_dst (N := 33) rfl ?_); refine wpList_load_cells rfl 30 (.tmp 32) rfl (ad.add (i * 33)) rfl (sgA s) _ HC2.out Try.underlying30 rfl (sgInfo H32.out) ?_)
          | fail)
        refine wp_region_held_drew (S := (fun W => W.heap[wr.heap.size]? = some (.cells (sgA s) 30 (0, 0)) ∧ EbS w cs W)) (by kernel_rfl) (⟨HNEW.out, EbS.step HBN.out (below_drew (Below.refl _ _))⟩) (fun hHeld => ?_)
        refine tq (i := 0) (v := ?_) ?hy ?_
        case hy => (intro W_ hW_; go_simp; first | done | with_reducible rfl)
        try simp only [Act.put, List.setIfInBounds_toArray, List.set_cons_zero, List.set_cons_succ]
        refine tq (i := 1) (v := ?_) ?hy ?_
        case hy => (intro W_ hW_; go_simp; first | done | with_reducible rfl)
        try simp only [Act.put, List.setIfInBounds_toArray, List.set_cons_zero, List.set_cons_succ]
        refine tq (i := 2) (v := ?_) ?hy ?_
        case hy => (intro W_ hW_; have f0 := (blk_cell hW_.1 0).trans KW.out; go_simp; first | done | with_reducible rfl)
        try simp only [Act.put, List.setIfInBounds_toArray, List.set_cons_zero, List.set_cons_succ]
        refine tq (i := 4) (v := ?_) ?hy ?_
        case hy => (intro W_ hW_; go_simp; first | done | with_reducible rfl)
        try simp only [Act.put, List.setIfInBounds_toArray, List.set_cons_zero, List.set_cons_succ]
        refine tq (i := 5) (v := ?_) ?hy ?_
        case hy => (intro W_ hW_; go_simp; first | done | with_reducible rfl)
        try simp only [Act.put, List.setIfInBounds_toArray, List.set_cons_zero, List.set_cons_succ]
        refine wpAnyH_ready (rs := [3]) (by kernel_rfl) (by simp) ?_
        refine AllReadyH.cons (by simp only [List.getElem?_toArray, List.getElem?_cons_succ, List.getElem?_cons_zero]; rfl) (fun K hK => ?_) AllReadyH.nil
        rw [if_pos (by rfl)]
        go_wp2_with fail
        refine (word_call wk _).mono ?_
        rintro e_ w4 ⟨A4, c4, rfl, hc4, hr4, hb4⟩
        refine hK.out _ _ (⟨blk_below hHeld.1 hb4, EbS.step hHeld.2 hb4⟩) (fun hHeld2 => ?_)
        clear hK K hHeld
        have hHeld := hHeld2
        clear hHeld2
        try simp only [Act.put, List.setIfInBounds_toArray, List.set_cons_zero, List.set_cons_succ]
        have SW : Aside0 (SlB w4 (.slice A4 4 c4) (word wk)) := ⟨⟨A4, c4, rfl, hc4, hr4⟩⟩
        have SL4 := Aside0.mk (((SL.out.alloc (.cells (sgA s) 30)).drew).below hb4)
        clear hb4 hc4 hr4
        refine wpAnyH_ready (rs := [6]) (by kernel_rfl) (by simp) ?_
        refine AllReadyH.cons (by simp only [List.getElem?_toArray, List.getElem?_cons_succ, List.getElem?_cons_zero]; rfl) (fun K hK => ?_) AllReadyH.nil
        rw [if_pos (by rfl)]
        have HB6 := Aside0.mk hHeld
        go_wp2_with fail
        refine hK.out _ _ (⟨blk_alloc hHeld.1 _, EbS.step hHeld.2 (below_alloc (Below.refl _ _) _)⟩) (fun hHeld2 => ?_)
        clear hK K hHeld
        have hHeld := hHeld2
        clear hHeld2
        try simp only [Act.put, List.setIfInBounds_toArray, List.set_cons_zero, List.set_cons_succ]
        have SD : Aside0 (SlB w4 (.slice (some ⟨wr.heap.size, 1, none⟩) 32 32) s.2) := ⟨SlB.at (sg_dig HB6.out.1) 32 32 H32.out (by decide) (by decide)⟩
        have SS : Aside0 (SlBs w4 [.slice Av l.length cv, .slice A4 4 c4, .slice (some ⟨wr.heap.size, 1, none⟩) 32 32] [l, word wk, s.2]) := ⟨.cons SL4.out (.cons SW.out (.cons SD.out .nil))⟩
        refine wpAnyH_ready (rs := [7]) (by kernel_rfl) (by simp) ?_
        refine AllReadyH.cons (by simp only [List.getElem?_toArray, List.getElem?_cons_succ, List.getElem?_cons_zero]; rfl) (fun K hK => ?_) AllReadyH.nil
        rw [if_pos (by rfl)]
        go_wp2_with fail
        refine (cat_rows SS.out (by show _ + 1 ≤ 1000; simp) w4.heap.size rfl 3 rfl (by have := HLL.out; have := H32.out; have := word_length wk; simp; omega) r HSG.out).mono ?_
        rintro e_ w5 ⟨⟨A5, c5, rfl, hc5, hr5⟩, hb5⟩
        refine hK.out _ _ (⟨blk_below HB6.out.1 hb5, EbS.step HB6.out.2 hb5⟩) (fun hHeld2 => ?_)
        clear hK K hHeld
        have hHeld := hHeld2
        clear hHeld2
        try simp only [Act.put, List.setIfInBounds_toArray, List.set_cons_zero, List.set_cons_succ]
        have HR5 := Aside0.mk (And.intro hc5 hr5)
        clear hc5 hr5 hb5
        refine tq (i := 8) (v := ?_) ?hy ?_
        case hy => (intro W_ hW_; go_simp; first | done | with_reducible rfl)
        try simp only [Act.put, List.setIfInBounds_toArray, List.set_cons_zero, List.set_cons_succ]
        refine wpAnyH_done (by kernel_rfl) ?_ _
        have HH2 := Aside0.mk hHeld
        clear hHeld
        go_wp2_with fail
        go_roundg (x.b.length - (i + 1))
        case measure => have := HK.out; have := HI.out; omega
        case rel => exact ⟨i + 1, A5, c5, r, rfl, by first | rfl | (simp [e4]; done), ⟨by have := HI.out; omega⟩, ⟨by rw [HTK.out, ← HRD.out, HL.out, List.append_assoc]⟩, HR5, ⟨HH2.out.2⟩⟩
      · have e1 : decide ((i : Int) < (x.b.length : Int)) = false := by simpa using hi
        have e2 : ((i : Int) < (x.b.length : Int)) = False := by simpa using hi
        have hil : i = x.b.length := by have := HK.out; omega
        have HF : Aside0 (l = entB x) := ⟨by rw [HL.out, hil, List.take_length, entH_B]⟩
        clear hi hil
        go_wp2_with fail
        go_ret
        refine ⟨⟨Av, cv, ?_, ?_, ?_⟩, HB.out.2⟩
        · rw [← HF.out]; rfl
        · rw [← HF.out]; exact HR.out.1
        · rw [← HF.out]; exact HR.out.2
end Go.Proofs.Ytchaegfdcdlfaaa.X

namespace Go.Proofs.Ytchaegfdcdlfaaa.X
set_option linter.unusedVariables false
set_option linter.unusedSimpArgs false
open Go.RowKit Go.Proofs.YtchaegfdcdlfaaaW.PrintWords Go.Proofs.YtchaegfdcdlfaaaW.PrintLast Go.Proofs.YtchaegfdcdlfaaaW.PrintMore
open Go.Proofs.Ytchaegfdcdlfaaa.Y (Bytes RdB put put_range put_length put_length_pos word word_length word_bytes rdb_below rdb_drewN put_call word_call row_slice)
attribute [local go_sem] max2_int min2_int max_two min_two max_three min_three max_four min_four
theorem cat_own {W : World} {vs : List Value} {ls : List (List Int)} (h : SlBs W vs ls) (hn : ls.length ≤ 1000) (N : Nat) (hN : W.heap.size = N) (n : Nat) (hl : ls.length = n) (hf : ls.flatten.length ≤ 1000000000) (r : List Int) (hr : ls.flatten = r) :
    Calls Try.prog 83 #[.slice (some ⟨N, 0, none⟩) n n] (W.alloc (.cells vs.toArray 40)) fun e w' => (∃ A c, e = .returned (.slice A r.length c) ∧ Kd.R (Kd.int .u8) 5 w' W.heap.size (fun _ => True) (.slice A r.length c) r) ∧ Below W.heap.size W w' := by
  subst hl
  subst hr
  subst hN
  have := cat_call (some ⟨W.heap.size, 0, none⟩) ls.length ls _ (rows_C h hn) hf (by omega)
  refine this.mono ?_
  rintro e w' ⟨v, rfl, hR, hB⟩
  obtain ⟨A, c, rfl⟩ := Kd.R_slice hR
  exact ⟨⟨A, c, rfl, Kd.R_lower hR (by rw [show (W.alloc (.cells vs.toArray 40)).heap.size = W.heap.size + 1 from Array.size_push ..]; omega)⟩, below_step (below_alloc (Below.refl _ _) _) hB⟩
def linH (x : Lin) : List Int := x.id ++ (put (stNum x.n x.rep) ++ put x.f.length)
theorem linH_B (x : Lin) : linB x = linH x ++ allB entB x.f := by unfold linB linH; rw [Int.toNat_natCast]; simp only [List.append_assoc]
def manH (m : Man) : List Int := m.base ++ put m.l.length
theorem manH_B (m : Man) : manB m = manH m ++ allB linB m.l := by unfold manB manH; rw [Int.toNat_natCast]; simp only [List.append_assoc]
theorem allB_take {α : Type} (B : α → List Int) (l : List α) (i : Nat) (z : α) (hi : i < l.length) : allB B (l.take (i + 1)) = allB B (l.take i) ++ B (l.getD i z) := by
  rw [List.take_succ_eq_append_getElem hi, allB_snoc, List.getD_eq_getElem?_getD, List.getElem?_eq_getElem hi, Option.getD_some]
theorem take_len {α : Type} {B : α → List Int} {c : Nat} {l : List α} (h : ∀ x ∈ l, (B x).length ≤ c) (i : Nat) : (allB B (l.take i)).length ≤ c * l.length := by
  have h1 := allB_le (B := B) (c := c) (l := l.take i) (fun x hx => h x (List.mem_of_mem_take hx))
  have h2 : (l.take i).length ≤ l.length := by rw [List.length_take]; omega
  exact Nat.le_trans h1 (Nat.mul_le_mul_left c h2)
theorem linH_len {x : Lin} (h : ShL x) : (linH x).length ≤ 36 := by
  have hr := stMay_range h.2.1
  have p1 := put_length (stNum x.n x.rep) (by unfold stNum; omega)
  have p2 := put_length x.f.length (by have := h.2.2.1.2; omega)
  have := h.1.1
  unfold linH
  simp only [List.length_append]
  omega
theorem manH_len {m : Man} (h : ShM m) : (manH m).length ≤ 42 := by
  have p2 := put_length m.l.length (by have := h.2.1.2; omega)
  have := h.1.1
  unfold manH
  simp only [List.length_append]
  omega
abbrev PuS (w0 : World) (ms : Array Value) (W : World) : Prop := W.heap[w0.heap.size]? = some (.cells ms 71 (0, 0)) ∧ Below w0.heap.size w0 W
theorem PuS.step {w0 : World} {ms : Array Value} {W W1 : World} (h : PuS w0 ms W) (hb : Below W.heap.size W W1) : PuS w0 ms W1 := ⟨blk_below h.1 hb, below_step h.2 hb⟩
theorem PuS.grown {w0 : World} {ms : Array Value} {W W1 : World} {v : Value} {l : List Int} (h : PuS w0 ms W) (hR : Kd.R (Kd.int .u8) 5 W w0.heap.size (fun _ => True) v l) (hg : W.grownBy W1 v.ownBlock) (hb : Below w0.heap.size w0 W1) : PuS w0 ms W1 :=
  ⟨blk_grown h.1 hg (Kd.R_ne hR h.1 (by decide)), hb⟩
theorem man_base {W : World} {g : Nat} {m : Man} {A : Option Addr} {c : Nat} (h : W.heap[g]? = some (.cells (manC m A c).toArray 71 (0, 0))) : At W ⟨g, 0, none⟩ (cells8 m.base) := At.head (m := nums .u8 m.base) (r := [.slice A m.l.length c]) (At.blk h)
theorem manInfo {m : Man} (h : m.base.length = 32) (A : Option Addr) (c : Nat) : (Try.prog.info? 71).map (·.size) = some (manC m A c).toArray.size := by
  rw [List.size_toArray, show (manC m A c).length = 33 by simp [manC, nums, h]]
  kernel_rfl
set_option maxHeartbeats 4000000 in
set_option maxRecDepth 100000 in
theorem putm_no (m : Man) (A : Option Addr) (c : Nat) (w : World) (hm : m.base.length = 32) (hc : m.l.length ≤ c) (hC : Kd.C linK w A m.l.length m.l) (h : mayM m = false) :
    Calls Try.prog 64 #[.agg (manC m A c).toArray] w fun e w' => e = .returned (.tuple #[.slice none 0 0, .bool false]) ∧ Below w.heap.size w w' := by
  have hcall : ∀ W : World, Below w.heap.size w W → Calls Try.prog 65 #[.agg (manC m A c).toArray] W fun e w' => e = .returned (.bool false) ∧ Below W.heap.size W w' := fun W hb => by
    have := may_call m A c W hm hc (Kd.C_below hC hb)
    rw [h] at this
    exact this
  have HCALL := Aside0.mk hcall
  have HINFO := Aside0.mk (manInfo hm A c)
  obtain ⟨ms, hms⟩ : ∃ ms, (manC m A c).toArray = ms := ⟨_, rfl⟩
  rw [hms] at HCALL HINFO ⊢
  have HBK := Aside0.mk (blk_new w (.cells ms 71))
  clear hm hc hC h hcall hms
  go_enter Try.func64, Try.ntmps64
  go_wp2_with (first
    | ((with_reducible refine gate_dst (N := 11) rfl ?_); refine wpList_load_row rfl 71 (.tmp 1) rfl w.heap.size rfl 71 ms (0, 0) _ HBK.out Try.underlying71 rfl HINFO.out ?_)
    | fail)
  refine (HCALL.out _ (below_alloc (Below.refl _ _) _)).mono ?_
  rintro e_ w1 ⟨rfl, hb1⟩
  have HB := Aside0.mk (below_step (below_alloc (Below.refl w.heap.size w) _) hb1)
  clear hb1
  go_wp2_with fail
  go_ret2
  exact ⟨rfl, HB.out⟩
set_option maxHeartbeats 8000000 in
set_option maxRecDepth 100000 in
theorem putm_yes (m : Man) (A : Option Addr) (c : Nat) (w : World) (hm : ManByt m) (hc : m.l.length ≤ c) (hC : Kd.C linK w A m.l.length m.l) (h : mayM m = true) :
    Calls Try.prog 64 #[.agg (manC m A c).toArray] w fun e w' => (∃ A2 c2, e = .returned (.tuple #[.slice A2 (packL 1 (manB m)).length c2, .bool true]) ∧ (packL 1 (manB m)).length ≤ c2 ∧ RdB w' A2 (packL 1 (manB m)).length (packL 1 (manB m))) ∧ Below w.heap.size w w' := by
  have hcall : ∀ W : World, Below w.heap.size w W → Calls Try.prog 65 #[.agg (manC m A c).toArray] W fun e w' => e = .returned (.bool true) ∧ Below W.heap.size W w' := fun W hb => by
    have := may_call m A c W hm.base.1 hc (Kd.C_below hC hb)
    rw [h] at this
    exact this
  have HCALL := Aside0.mk hcall
  have HX := Aside0.mk (mayM_sh h hm)
  have HC := Aside0.mk hC
  have HLEN := Aside0.mk hC.2.1
  have HCC := Aside0.mk hc
  have HINFO := Aside0.mk (manInfo hm.base.1 A c)
  have k32 := manC_32 hm.base.1 A c
  have HBASE : Aside0 (∀ W : World, W.heap[w.heap.size]? = some (.cells (manC m A c).toArray 71 (0, 0)) → At W ⟨w.heap.size, 0, none⟩ (cells8 m.base)) := ⟨fun W h => man_base h⟩
  have HB32 := Aside0.mk hm.base.1
  have HN10 := Aside0.mk HX.out.2.1.2
  have hwl : IntKind.u64.wrap (m.l.length : Int) = (m.l.length : Int) := by have := HN10.out; simp [IntKind.wrap, IntKind.bits, IntKind.signed]; omega
  obtain ⟨pt, hpt⟩ : ∃ pt, put m.l.length = pt := ⟨_, rfl⟩
  have hptp := fun W => put_call m.l.length (by have := HN10.out; omega) W
  rw [hpt] at hptp
  have HPTP := Aside0.mk hptp
  have HPL : Aside0 (pt.length ≤ 10) := ⟨by rw [← hpt]; exact put_length _ (by have := HN10.out; omega)⟩
  obtain ⟨pk, hpk⟩ : ∃ pk, packL 1 (manB m) = pk := ⟨_, rfl⟩
  obtain ⟨pn, hpn⟩ : ∃ pn, pk.length = pn := ⟨_, rfl⟩
  have HPN := Aside0.mk hpn
  have HPKM := Aside0.mk hpk
  rw [hpk, hpn]
  clear hpk hpn
  obtain ⟨mh, hmh⟩ : ∃ mh, manH m = mh := ⟨_, rfl⟩
  have HMH := Aside0.mk hmh
  have HFL : Aside0 ([m.base, pt].flatten = mh) := ⟨by rw [← hmh]; unfold manH; rw [hpt]; simp⟩
  have HML : Aside0 (mh.length ≤ 42) := ⟨by rw [← hmh]; exact manH_len HX.out⟩
  obtain ⟨ms, hms⟩ : ∃ ms, (manC m A c).toArray = ms := ⟨_, rfl⟩
  rw [hms] at HCALL HINFO HBASE k32 ⊢
  have K32 := Aside0.mk k32
  have HBK := Aside0.mk (blk_new w (.cells ms 71))
  clear hm hc hC h hcall hms k32 hpt hptp hmh
  go_enter Try.func64, Try.ntmps64
  go_wp2_with (first
    | ((with_reducible refine gate_dst (N := 11) rfl ?_); refine wpList_load_row rfl 71 (.tmp 1) rfl w.heap.size rfl 71 ms (0, 0) _ HBK.out Try.underlying71 rfl HINFO.out ?_)
    | fail)
  refine (HCALL.out _ (below_alloc (Below.refl _ _) _)).mono ?_
  rintro e_ w1 ⟨rfl, hb1⟩
  have H1 : Aside0 (PuS w ms w1) := ⟨PuS.step ⟨HBK.out, below_alloc (Below.refl _ _) _⟩ hb1⟩
  clear hb1
  go_wp2_with fail
  refine wp_region_held_drew (S := (fun W => PuS w ms W)) (by kernel_rfl) (PuS.step H1.out (below_drew (Below.refl _ _))) (fun hHeld => ?_)
  refine tq (i := 0) (v := ?_) ?hy ?_
  case hy => (intro W_ hW_; go_simp; first | done | with_reducible rfl)
  try simp only [Act.put, List.setIfInBounds_toArray, List.set_cons_zero, List.set_cons_succ]
  refine tq (i := 1) (v := ?_) ?hy ?_
  case hy => (intro W_ hW_; go_simp; first | done | with_reducible rfl)
  try simp only [Act.put, List.setIfInBounds_toArray, List.set_cons_zero, List.set_cons_succ]
  refine tq (i := 2) (v := ?_) ?hy ?_
  case hy => (intro W_ hW_; go_simp; first | done | with_reducible rfl)
  try simp only [Act.put, List.setIfInBounds_toArray, List.set_cons_zero, List.set_cons_succ]
  refine tq (i := 3) (v := ?_) ?hy ?_
  case hy => (intro W_ hW_; have f32 := (blk_cell hW_.1 32).trans K32.out; go_simp; first | done | with_reducible rfl)
  try simp only [Act.put, List.setIfInBounds_toArray, List.set_cons_zero, List.set_cons_succ]
  refine tq (i := 4) (v := ?_) ?hy ?_
  case hy => (intro W_ hW_; go_simp; first | done | with_reducible rfl)
  try simp only [Act.put, List.setIfInBounds_toArray, List.set_cons_zero, List.set_cons_succ]
  refine tq (i := 5) (v := ?_) ?hy ?_
  case hy => (intro W_ hW_; go_simp; first | done | with_reducible rfl)
  try simp only [Act.put, List.setIfInBounds_toArray, List.set_cons_zero, List.set_cons_succ]
  refine wpAnyH_ready (rs := [6]) (by kernel_rfl) (by simp) ?_
  refine AllReadyH.cons (by simp only [List.getElem?_toArray, List.getElem?_cons_succ, List.getElem?_cons_zero]; rfl) (fun K hK => ?_) AllReadyH.nil
  rw [if_pos (by rfl)]
  go_wp2_with fail
  refine (HPTP.out _).mono ?_
  rintro e_ w2 ⟨A2, c2, rfl, hc2, hr2, hb2⟩
  refine hK.out _ _ (PuS.step hHeld hb2) (fun hHeld2 => ?_)
  clear hK K hHeld
  have hHeld := hHeld2
  clear hHeld2
  try simp only [Act.put, List.setIfInBounds_toArray, List.set_cons_zero, List.set_cons_succ]
  have SP : Aside0 (SlB w2 (.slice A2 pt.length c2) pt) := ⟨⟨A2, c2, rfl, hc2, hr2⟩⟩
  clear hb2 hc2 hr2
  refine wpAnyH_ready (rs := [7]) (by kernel_rfl) (by simp) ?_
  refine AllReadyH.cons (by simp only [List.getElem?_toArray, List.getElem?_cons_succ, List.getElem?_cons_zero]; rfl) (fun K hK => ?_) AllReadyH.nil
  rw [if_pos (by rfl)]
  have HB7 := Aside0.mk hHeld
  go_wp2_with fail
  refine hK.out _ _ (PuS.step hHeld (below_alloc (Below.refl _ _) _)) (fun hHeld2 => ?_)
  clear hK K hHeld
  have hHeld := hHeld2
  clear hHeld2
  try simp only [Act.put, List.setIfInBounds_toArray, List.set_cons_zero, List.set_cons_succ]
  have SB : Aside0 (SlB w2 (.slice (some ⟨w.heap.size, 0, none⟩) 32 32) m.base) := ⟨SlB.at (HBASE.out _ HB7.out.1) 32 32 HB32.out (by decide) (by decide)⟩
  have SS : Aside0 (SlBs w2 [.slice (some ⟨w.heap.size, 0, none⟩) 32 32, .slice A2 pt.length c2] [m.base, pt]) := ⟨.cons SB.out (.cons SP.out .nil)⟩
  refine wpAnyH_ready (rs := [8]) (by kernel_rfl) (by simp) ?_
  refine AllReadyH.cons (by simp only [List.getElem?_toArray, List.getElem?_cons_succ, List.getElem?_cons_zero]; rfl) (fun K hK => ?_) AllReadyH.nil
  rw [if_pos (by rfl)]
  go_wp2_with fail
  refine (cat_own SS.out (by show _ + 1 ≤ 1000; simp) w2.heap.size rfl 2 rfl (by have := HPL.out; have := HB32.out; simp; omega) mh HFL.out).mono ?_
  rintro e_ w3 ⟨⟨A3, c3, rfl, hR3⟩, hb3⟩
  refine hK.out _ _ (PuS.step HB7.out hb3) (fun hHeld2 => ?_)
  clear hK K hHeld
  have hHeld := hHeld2
  clear hHeld2
  try simp only [Act.put, List.setIfInBounds_toArray, List.set_cons_zero, List.set_cons_succ]
  have HR3 := Aside0.mk (Kd.R_lower hR3 HB7.out.2.size)
  clear hR3 hb3
  refine tq (i := 9) (v := ?_) ?hy ?_
  case hy => (intro W_ hW_; go_simp; first | done | with_reducible rfl)
  try simp only [Act.put, List.setIfInBounds_toArray, List.set_cons_zero, List.set_cons_succ]
  refine wpAnyH_done (by kernel_rfl) ?_ _
  have HB3 := Aside0.mk hHeld
  clear hHeld
  have f32 := (blk_cell HB3.out.1 32).trans K32.out
  go_wp2_with fail
  clear f32
  go_loopg [4, 26] m.l.length (fun kq v4 v26 W => ∃ (i : Nat) (Av : Option Addr) (cv : Nat) (l : List Int), v4 = .slice Av l.length cv ∧ v26 = .int .i64 i ∧ Aside0 (kq + i = m.l.length) ∧ Aside0 (l = mh ++ allB linB (m.l.take i)) ∧ Aside0 (Kd.R (Kd.int .u8) 5 W w.heap.size (fun _ => True) (.slice Av l.length cv) l) ∧ Aside0 (PuS w ms W))
  case atStart => exact ⟨0, _, _, mh, rfl, rfl, ⟨rfl⟩, ⟨by simp [allB]⟩, HR3, HB3⟩
  case round =>
    obtain ⟨i, Av, cv, l, rfl, rfl, HK, HL, HR, HB⟩ := hrel
    obtain ⟨wo, rfl⟩ : ∃ wo : World, wo = wr := ⟨_, rfl⟩
    by_cases hi : i < m.l.length
    · obtain ⟨x, hx⟩ : ∃ x, x = m.l.getD i zLin := ⟨_, rfl⟩
      obtain ⟨ad, B, cb, hA, hid, hbc, hCb, hcell0⟩ := lin_at HC.out hi x hx.symm
      have HTK := Aside0.mk (allB_take linB m.l i zLin hi)
      rw [← hx] at HTK
      have hsh : ShL x := HX.out.2.2.2 x (by rw [hx, List.getD_eq_getElem?_getD, List.getElem?_eq_getElem hi]; exact List.getElem_mem hi)
      have HSH := Aside0.mk hsh
      have HCB := Aside0.mk hCb
      have HLX := Aside0.mk hCb.2.1
      have HXC := Aside0.mk hbc
      subst hA
      have HLL : Aside0 (l.length ≤ 76642) := ⟨by
        rw [HL.out, List.length_append]
        have h1 := take_len (B := linB) (c := 7660) (l := m.l) (fun y hy => linB_len (HX.out.2.2.2 y hy)) i
        have h3 := HML.out
        have h4 := HN10.out
        omega⟩
      have e1 : decide ((i : Int) < (m.l.length : Int)) = true := by simpa using hi
      have e2 : ((i : Int) < (m.l.length : Int)) = True := by simpa using hi
      have e3 : (0 ≤ (i : Int)) = True := by simp
      have e4 : IntKind.i64.wrap ((i : Int) + 1) = ((i + 1 : Nat) : Int) := by have := HLEN.out; simp [IntKind.wrap, IntKind.bits, IntKind.signed]; omega
      have HI := Aside0.mk hi
      obtain ⟨st, hst⟩ : ∃ st, put (stNum x.n x.rep) = st := ⟨_, rfl⟩
      obtain ⟨pf, hpf⟩ : ∃ pf, put x.f.length = pf := ⟨_, rfl⟩
      have HF8 := Aside0.mk hsh.2.2.1.2
      have hwf : IntKind.u64.wrap (x.f.length : Int) = (x.f.length : Int) := by have := HF8.out; simp [IntKind.wrap, IntKind.bits, IntKind.signed]; omega
      obtain ⟨r1, hr1⟩ : ∃ r1, l ++ linH x = r1 := ⟨_, rfl⟩
      have HR1 := Aside0.mk hr1
      have HFX : Aside0 ([l, x.id, st, pf].flatten = r1) := ⟨by rw [← hr1]; unfold linH; rw [hst, hpf]; simp⟩
      have HR1L : Aside0 (r1.length ≤ 76678) := ⟨by rw [← hr1, List.length_append]; have := linH_len hsh; have := HLL.out; omega⟩
      have hstp := stput_call x.n x.rep hsh.2.1
      rw [hst] at hstp
      have HSTP := Aside0.mk hstp
      have hpfp := fun W => put_call x.f.length (by have := HF8.out; omega) W
      rw [hpf] at hpfp
      have HPFP := Aside0.mk hpfp
      have HSL : Aside0 (st.length ≤ 10) := ⟨by rw [← hst]; have hr := stMay_range hsh.2.1; exact put_length _ (by unfold stNum; omega)⟩
      have HPFL : Aside0 (pf.length ≤ 10) := ⟨by rw [← hpf]; exact put_length _ (by have := HF8.out; omega)⟩
      have HID16 := Aside0.mk hid
      obtain ⟨k16, k17, k18⟩ := linC_at hid B cb
      obtain ⟨cs, hcs⟩ : ∃ cs, (linC x B cb).toArray = cs := ⟨_, rfl⟩
      have hsz : cs.size = 19 := by rw [← hcs, List.size_toArray, linC_len hid]
      have hone : cs.all (·.oneCell') = true := by rw [← hcs]; exact linC_one x B cb
      have HCELL : Aside0 (∀ j v, cs[j]? = some v → wo.cell? ((ad.add (i * 19)).add j) = some v) := ⟨fun j v h => by
        have h2 := hcell0 j v (by rw [← hcs] at h; simpa using h)
        exact (HB.out.2.cell (World.block_lt_of_cell? w _ h2)).trans h2⟩
      have HINFX : Aside0 ((Try.prog.info? 147).map (·.size) = some cs.size) := ⟨by rw [hsz]; exact infoLin⟩
      have HID : Aside0 (∀ W : World, W.heap[wo.heap.size]? = some (.cells cs 147 (0, 0)) → At W ⟨wo.heap.size, 0, none⟩ (cells8 x.id)) := ⟨fun W h => At.head (m := nums .u8 x.id) (r := .int .i64 x.n :: .int .i64 x.rep :: [.slice B x.f.length cb]) (by have := At.blk h; rw [← hcs] at this; exact this)⟩
      rw [hcs] at k16 k17 k18
      have K18 := Aside0.mk k18
      have hsn := store_new wo #[.int .u8 0, .int .u8 0, .int .u8 0, .int .u8 0, .int .u8 0, .int .u8 0, .int .u8 0, .int .u8 0, .int .u8 0, .int .u8 0, .int .u8 0, .int .u8 0, .int .u8 0, .int .u8 0, .int .u8 0, .int .u8 0, .int .i64 0, .int .i64 0, .slice none 0 0] cs 147 (by rw [hsz]; rfl) hone
      have HNEW := Aside0.mk (blk_new wo (.cells cs 147))
      have HBN := Aside0.mk (PuS.step HB.out (below_alloc (Below.refl _ _) (.cells cs 147)))
      have HRN := Aside0.mk (Kd.R_below HR.out (below_alloc (Below.refl wo.heap.size wo) (.cells cs 147)))
      have g16 := (blk_cell HNEW.out 16).trans k16
      have g17 := (blk_cell HNEW.out 17).trans k17
      clear hi hx hid hbc hCb hcell0 hsh hst hpf hr1 hstp hpfp hcs hone k16 k17 k18
      go_wp2_with (first
        | ((with_reducible refine gate_dst (N := 29) rfl ?_); refine wpList_load_cells rfl 147 (.tmp 28) rfl (ad.add (i * 19)) rfl cs _ HCELL.out Try.underlying147 rfl HINFX.out ?_)
        | fail)
      refine (HSTP.out _).mono ?_
      rintro e_ w2 ⟨⟨A1, c1, rfl, hc1, hr1⟩, hb2⟩
      have S1 : Aside0 (SlB w2 (.slice A1 st.length c1) st) := ⟨⟨A1, c1, rfl, hc1, hr1⟩⟩
      have HN2 := Aside0.mk (blk_below HNEW.out hb2)
      have HP2 := Aside0.mk (PuS.step HBN.out hb2)
      have SL2 := Aside0.mk ((SlB.of_R HRN.out).below hb2)
      clear g16 g17 hc1 hr1 hb2
      go_wp2_with fail
      refine wp_region_held_drew (S := (fun W => W.heap[wo.heap.size]? = some (.cells cs 147 (0, 0)) ∧ PuS w ms W)) (by kernel_rfl) (⟨HN2.out, PuS.step HP2.out (below_drew (Below.refl _ _))⟩) (fun hHeld => ?_)
      refine tq (i := 0) (v := ?_) ?hy ?_
      case hy => (intro W_ hW_; go_simp; first | done | with_reducible rfl)
      try simp only [Act.put, List.setIfInBounds_toArray, List.set_cons_zero, List.set_cons_succ]
      refine tq (i := 1) (v := ?_) ?hy ?_
      case hy => (intro W_ hW_; go_simp; first | done | with_reducible rfl)
      try simp only [Act.put, List.setIfInBounds_toArray, List.set_cons_zero, List.set_cons_succ]
      refine tq (i := 2) (v := ?_) ?hy ?_
      case hy => (intro W_ hW_; go_simp; first | done | with_reducible rfl)
      try simp only [Act.put, List.setIfInBounds_toArray, List.set_cons_zero, List.set_cons_succ]
      refine tq (i := 3) (v := ?_) ?hy ?_
      case hy => (intro W_ hW_; go_simp; first | done | with_reducible rfl)
      try simp only [Act.put, List.setIfInBounds_toArray, List.set_cons_zero, List.set_cons_succ]
      refine tq (i := 4) (v := ?_) ?hy ?_
      case hy => (intro W_ hW_; go_simp; first | done | with_reducible rfl)
      try simp only [Act.put, List.setIfInBounds_toArray, List.set_cons_zero, List.set_cons_succ]
      refine tq (i := 5) (v := ?_) ?hy ?_
      case hy => (intro W_ hW_; have f18 := (blk_cell hW_.1 18).trans K18.out; go_simp; first | done | with_reducible rfl)
      try simp only [Act.put, List.setIfInBounds_toArray, List.set_cons_zero, List.set_cons_succ]
      refine tq (i := 6) (v := ?_) ?hy ?_
      case hy => (intro W_ hW_; go_simp; first | done | with_reducible rfl)
      try simp only [Act.put, List.setIfInBounds_toArray, List.set_cons_zero, List.set_cons_succ]
      refine tq (i := 7) (v := ?_) ?hy ?_
      case hy => (intro W_ hW_; go_simp; first | done | with_reducible rfl)
      try simp only [Act.put, List.setIfInBounds_toArray, List.set_cons_zero, List.set_cons_succ]
      refine wpAnyH_ready (rs := [8]) (by kernel_rfl) (by simp) ?_
      refine AllReadyH.cons (by simp only [List.getElem?_toArray, List.getElem?_cons_succ, List.getElem?_cons_zero]; rfl) (fun K hK => ?_) AllReadyH.nil
      rw [if_pos (by rfl)]
      go_wp2_with fail
      refine (HPFP.out _).mono ?_
      rintro e_ w4 ⟨A4, c4, rfl, hc4, hr4, hb4⟩
      refine hK.out _ _ (⟨blk_below hHeld.1 hb4, PuS.step hHeld.2 hb4⟩) (fun hHeld2 => ?_)
      clear hK K hHeld
      have hHeld := hHeld2
      clear hHeld2
      try simp only [Act.put, List.setIfInBounds_toArray, List.set_cons_zero, List.set_cons_succ]
      have SP : Aside0 (SlB w4 (.slice A4 pf.length c4) pf) := ⟨⟨A4, c4, rfl, hc4, hr4⟩⟩
      have S14 := Aside0.mk (S1.out.drew.below hb4)
      have SL4 := Aside0.mk (SL2.out.drew.below hb4)
      clear hb4 hc4 hr4
      refine wpAnyH_ready (rs := [9]) (by kernel_rfl) (by simp) ?_
      refine AllReadyH.cons (by simp only [List.getElem?_toArray, List.getElem?_cons_succ, List.getElem?_cons_zero]; rfl) (fun K hK => ?_) AllReadyH.nil
      rw [if_pos (by rfl)]
      have HB9 := Aside0.mk hHeld
      go_wp2_with fail
      refine hK.out _ _ (⟨blk_alloc hHeld.1 _, PuS.step hHeld.2 (below_alloc (Below.refl _ _) _)⟩) (fun hHeld2 => ?_)
      clear hK K hHeld
      have hHeld := hHeld2
      clear hHeld2
      try simp only [Act.put, List.setIfInBounds_toArray, List.set_cons_zero, List.set_cons_succ]
      have SB : Aside0 (SlB w4 (.slice (some ⟨wo.heap.size, 0, none⟩) 16 16) x.id) := ⟨SlB.at (HID.out _ HB9.out.1) 16 16 HID16.out (by decide) (by decide)⟩
      have SS8 : Aside0 (SlBs w4 [.slice Av l.length cv, .slice (some ⟨wo.heap.size, 0, none⟩) 16 16, .slice A1 st.length c1, .slice A4 pf.length c4] [l, x.id, st, pf]) := ⟨.cons SL4.out (.cons SB.out (.cons S14.out (.cons SP.out .nil)))⟩
      refine wpAnyH_ready (rs := [10]) (by kernel_rfl) (by simp) ?_
      refine AllReadyH.cons (by simp only [List.getElem?_toArray, List.getElem?_cons_succ, List.getElem?_cons_zero]; rfl) (fun K hK => ?_) AllReadyH.nil
      rw [if_pos (by rfl)]
      go_wp2_with fail
      refine (cat_own SS8.out (by show _ + 1 ≤ 1000; simp) w4.heap.size rfl 4 rfl (by have := HLL.out; have := HPFL.out; have := HSL.out; have := HID16.out; simp; omega) r1 HFX.out).mono ?_
      rintro e_ w5 ⟨⟨A5, c5, rfl, hR5⟩, hb5⟩
      refine hK.out _ _ (⟨blk_below HB9.out.1 hb5, PuS.step HB9.out.2 hb5⟩) (fun hHeld2 => ?_)
      clear hK K hHeld
      have hHeld := hHeld2
      clear hHeld2
      try simp only [Act.put, List.setIfInBounds_toArray, List.set_cons_zero, List.set_cons_succ]
      have HRX := Aside0.mk (Kd.R_lower hR5 HB9.out.2.2.size)
      clear hR5 hb5
      refine tq (i := 11) (v := ?_) ?hy ?_
      case hy => (intro W_ hW_; go_simp; first | done | with_reducible rfl)
      try simp only [Act.put, List.setIfInBounds_toArray, List.set_cons_zero, List.set_cons_succ]
      refine wpAnyH_done (by kernel_rfl) ?_ _
      have HN3 := Aside0.mk hHeld.1
      have HP3 := Aside0.mk hHeld.2
      clear hHeld
      have f18 := (blk_cell HN3.out 18).trans K18.out
      go_wp2_with fail
      clear f18
      go_loopg [4, 50] x.f.length (fun kq v4 v50 W => ∃ (j : Nat) (Au : Option Addr) (cu : Nat) (q : List Int), v4 = .slice Au q.length cu ∧ v50 = .int .i64 j ∧ Aside0 (kq + j = x.f.length) ∧ Aside0 (q = r1 ++ allB entB (x.f.take j)) ∧ Aside0 (Kd.R (Kd.int .u8) 5 W w.heap.size (fun _ => True) (.slice Au q.length cu) q) ∧ Aside0 (PuS w ms W))
      case atStart => exact ⟨0, _, _, r1, rfl, rfl, ⟨rfl⟩, ⟨by simp [allB]⟩, HRX, HP3⟩
      case round =>
        obtain ⟨j, Au, cu, q, rfl, rfl, HKJ, HQ, HRQ, HBJ⟩ := hrel
        by_cases hj : j < x.f.length
        · obtain ⟨e, he⟩ : ∃ e, e = x.f.getD j zEnt := ⟨_, rfl⟩
          obtain ⟨bd, B2, cb2, hA2, hd2, hbc2, hCb2, hcell2⟩ := ent_at HCB.out hj e he.symm
          have HTE := Aside0.mk (allB_take entB x.f j zEnt hj)
          rw [← he] at HTE
          have hse : ShE e := HSH.out.2.2.2.2 e (by rw [he, List.getD_eq_getElem?_getD, List.getElem?_eq_getElem hj]; exact List.getElem_mem hj)
          have HQL : Aside0 (q.length ≤ 84302) := ⟨by
            rw [HQ.out, List.length_append]
            have h1 := take_len (B := entB) (c := 953) (l := x.f) (fun y hy => entB_len (HSH.out.2.2.2.2 y hy)) j
            have h3 := HR1L.out
            have h4 := HF8.out
            omega⟩
          subst hA2
          have HJ := Aside0.mk hj
          have d1 : decide ((j : Int) < (x.f.length : Int)) = true := by simpa using hj
          have d2 : ((j : Int) < (x.f.length : Int)) = True := by simpa using hj
          have d3 : (0 ≤ (j : Int)) = True := by simp
          have d4 : IntKind.i64.wrap ((j : Int) + 1) = ((j + 1 : Nat) : Int) := by have := HLX.out; simp [IntKind.wrap, IntKind.bits, IntKind.signed]; omega
          obtain ⟨es, hes⟩ : ∃ es, (entC e B2 cb2).toArray = es := ⟨_, rfl⟩
          obtain ⟨eb, heb⟩ : ∃ eb, entB e = eb := ⟨_, rfl⟩
          have HEB := Aside0.mk heb
          have HEBL : Aside0 (eb.length ≤ 953) := ⟨by rw [← heb]; exact entB_len hse⟩
          have hsz2 : es.size = 37 := by rw [← hes, List.size_toArray, entC_len hd2]
          have hone : es.all (·.oneCell') = true := by rw [← hes]; exact entC_one e B2 cb2
          have HCE : Aside0 (∀ j' v, es[j']? = some v → wr.cell? ((bd.add (j * 37)).add j') = some v) := ⟨fun j' v h => by
            have h2 := hcell2 j' v (by rw [← hes] at h; simpa using h)
            exact (HBJ.out.2.cell (World.block_lt_of_cell? w _ h2)).trans h2⟩
          have HINFE : Aside0 ((Try.prog.info? 149).map (·.size) = some es.size) := ⟨by rw [hsz2]; exact infoEnt⟩
          have HCALLE : Aside0 (∀ W : World, Below w.heap.size w W → Calls Try.prog 105 #[.agg es] W fun e w' => (∃ A2 c2, e = .returned (.slice A2 eb.length c2) ∧ eb.length ≤ c2 ∧ RdB w' A2 eb.length eb) ∧ Below W.heap.size W w') := ⟨fun W hW => by
            rw [← hes, ← heb]
            exact entb_call e B2 cb2 W hse hbc2 (Kd.C_below hCb2 hW)⟩
          have hsn2 := store_new wr #[.int .i64 0, .int .i64 0, .int .i64 0, .int .i64 0, .int .u8 0, .int .u8 0, .int .u8 0, .int .u8 0, .int .u8 0, .int .u8 0, .int .u8 0, .int .u8 0, .int .u8 0, .int .u8 0, .int .u8 0, .int .u8 0, .int .u8 0, .int .u8 0, .int .u8 0, .int .u8 0, .int .u8 0, .int .u8 0, .int .u8 0, .int .u8 0, .int .u8 0, .int .u8 0, .int .u8 0, .int .u8 0, .int .u8 0, .int .u8 0, .int .u8 0, .int .u8 0, .int .u8 0, .int .u8 0, .int .u8 0, .int .u8 0, .slice none 0 0] es 149 (by rw [hsz2]; rfl) hone
          have HNE := Aside0.mk (blk_new wr (.cells es 149))
          have HBE := Aside0.mk (PuS.step HBJ.out (below_alloc (Below.refl _ _) (.cells es 149)))
          have HRE := Aside0.mk (Kd.R_below HRQ.out (below_alloc (Below.refl wr.heap.size wr) (.cells es 149)))
          obtain ⟨u4, hu4⟩ : ∃ u4, Value.slice Au q.length cu = u4 := ⟨_, rfl⟩
          have HU4 := Aside0.mk hu4
          clear hj he hse hd2 hbc2 hCb2 hcell2 hes heb hone hu4
          go_wp2_with (first
            | ((with_reducible refine gate_dst (N := 53) rfl ?_); refine wpList_load_cells rfl 149 (.tmp 52) rfl (bd.add (j * 37)) rfl es _ HCE.out Try.underlying149 rfl HINFE.out ?_)
            | ((with_reducible refine gate_dst (N := 55) rfl ?_); refine wpList_load_row rfl 149 (.tmp 10) rfl wr.heap.size rfl 149 es (0, 0) _ HNE.out Try.underlying149 rfl HINFE.out ?_)
            | fail)
          refine (HCALLE.out _ HBE.out.2).mono ?_
          rintro e_ w6 ⟨⟨A6, c6, rfl, hc6, hr6⟩, hb6⟩
          have HR6 := Aside0.mk (Kd.R_below HRE.out hb6)
          have HP6 := Aside0.mk (PuS.step HBE.out hb6)
          have HE6 := Aside0.mk hr6
          clear hc6 hr6 hb6
          go_wp2_with (first
            | ((with_reducible refine gate_builtin (b := .append) (xs := #[.tmp 54, .tmp 56]) rfl ?_); at_builtin; refine Kd.R_append_row (Value.int .u8) 0 (w0 := w) w.heap.size rfl _ _ 40 5 (.int .u8 0) 1 rfl Try.underlying40 info5 rfl (by decide) (.slice Au q.length cu) q eb A6 eb.length c6 (fun _ => True) (by rfl) (by rfl) (fun _ _ => trivial) HR6.out HE6.out HP6.out.2 HP6.out.2.size (by have := HQL.out; have := HEBL.out; omega) ?_; intro v7 w7 hR7 hB7 hg7 hat7; clear hat7; have HP7 := Aside0.mk (PuS.grown HP6.out HR6.out hg7 hB7); clear hg7 hB7; obtain ⟨A7, c7, rfl⟩ := Kd.R_slice hR7; have HR7 := Aside0.mk hR7; clear hR7; obtain ⟨r7, hr7⟩ : ∃ r7, q ++ eb = r7 := ⟨_, rfl⟩; rw [hr7] at HR7 ⊢; have HRR7 := Aside0.mk hr7; clear hr7)
            | fail)
          go_roundg (x.f.length - (j + 1))
          case measure => have := HKJ.out; have := HJ.out; omega
          case rel => exact ⟨j + 1, A7, c7, r7, rfl, by first | rfl | (simp [d4]; done), ⟨by have := HJ.out; omega⟩, ⟨by rw [← HRR7.out, HTE.out, HQ.out, List.append_assoc, HEB.out]⟩, HR7, HP7⟩
        · have d1 : decide ((j : Int) < (x.f.length : Int)) = false := by simpa using hj
          have d2 : ((j : Int) < (x.f.length : Int)) = False := by simpa using hj
          have hjl : j = x.f.length := by have := HKJ.out; omega
          have HQF : Aside0 (q = mh ++ allB linB (m.l.take (i + 1))) := ⟨by rw [HQ.out, hjl, List.take_length, ← HR1.out, HTK.out, HL.out, linH_B]; simp only [List.append_assoc]⟩
          clear hj hjl
          go_wp2_with fail
          go_roundg (m.l.length - (i + 1))
          case measure => have := HK.out; have := HI.out; omega
          case rel => exact ⟨i + 1, Au, cu, q, rfl, by first | rfl | (simp [e4]; done), ⟨by have := HI.out; omega⟩, HQF, HRQ, HBJ⟩
    · have e1 : decide ((i : Int) < (m.l.length : Int)) = false := by simpa using hi
      have e2 : ((i : Int) < (m.l.length : Int)) = False := by simpa using hi
      have hil : i = m.l.length := by have := HK.out; omega
      have hF : l = manB m := by rw [HL.out, hil, List.take_length, manH_B, HMH.out]
      have HBL := manB_len HX.out
      have hby := manR_good.byt m HX.out
      rw [← hF] at HBL hby
      have HPK : Aside0 (packL 1 l = pk) := ⟨by rw [hF]; exact HPKM.out⟩
      have HBY := Aside0.mk hby
      have HBL2 := Aside0.mk HBL
      obtain ⟨A9, c9, hv9, hc9, hr9⟩ := SlB.of_R HR.out
      injection hv9 with hv1 hv2 hv3
      subst hv1
      subst hv3
      have HC9 := Aside0.mk hc9
      have HR9 := Aside0.mk hr9
      clear hi hil hF hby HBL hv2 hc9 hr9
      go_wp2_with fail
      refine (pack_call2 1 _ _ l l.length rfl _ HR9.out HC9.out (by decide) (by decide) HBY.out (by have := HBL2.out; omega) pk HPK.out pn HPN.out).mono ?_
      rintro e_ w8 ⟨A8, c8, rfl, hc8, hr8, hb8⟩
      have HB8 := Aside0.mk (below_step HB.out.2 hb8)
      have HE8 := Aside0.mk (And.intro hc8 hr8)
      clear hc8 hr8 hb8
      go_wp2_with fail
      go_ret2
      exact ⟨⟨_, _, rfl, HE8.out.1, HE8.out.2⟩, HB8.out⟩
end Go.Proofs.Ytchaegfdcdlfaaa.X

namespace Go.Proofs.Ytchaegfdcdlfaaa.X
set_option linter.unusedVariables false
set_option linter.unusedSimpArgs false
open Go.RowKit Go.Proofs.YtchaegfdcdlfaaaW.PrintWords Go.Proofs.YtchaegfdcdlfaaaW.PrintLast Go.Proofs.YtchaegfdcdlfaaaW.PrintMore
open Go.Proofs.Ytchaegfdcdlfaaa.Y (Bytes RdB rdb_below rdb_drop rdb_take)
attribute [local go_sem] max2_int min2_int max_two min_two max_three min_three max_four min_four

structure RdSt (w0 W : World) (rb : Nat) (s : Rd) : Prop where
  base : w0.heap.size ≤ rb
  row : ∃ A c, W.heap[rb]? = some (.cells #[.slice A s.b.length c, .bool s.bad] 157 (0, 0)) ∧ s.b.length ≤ c ∧ RdB w0 A s.b.length s.b
  byt : Bytes s.b
  len : s.b.length ≤ 1000000
  bel : Below w0.heap.size w0 W
theorem RdSt.lt {w0 W : World} {rb : Nat} {s : Rd} (h : RdSt w0 W rb s) : rb < W.heap.size := by
  obtain ⟨A, c, hr, _⟩ := h.row
  exact blk_lt hr
theorem RdSt.below {w0 W W1 : World} {rb : Nat} {s : Rd} (h : RdSt w0 W rb s) (hb : Below W.heap.size W W1) : RdSt w0 W1 rb s := by
  obtain ⟨A, c, hr, hc, hA⟩ := h.row
  exact ⟨h.base, ⟨A, c, blk_below hr hb, hc, hA⟩, h.byt, h.len, below_step h.bel hb⟩
theorem RdSt.grown {w0 W W1 : World} {rb : Nat} {s : Rd} (h : RdSt w0 W rb s) {row : Option Nat} (hg : W.grownBy W1 row) (hne : some rb ≠ row) (hB : Below w0.heap.size w0 W1) : RdSt w0 W1 rb s := by
  obtain ⟨A, c, hr, hc, hA⟩ := h.row
  exact ⟨h.base, ⟨A, c, blk_grown hr hg hne, hc, hA⟩, h.byt, h.len, hB⟩
theorem RdSt.cell0 {w0 W : World} {rb : Nat} {A : Option Addr} {n c : Nat} {b : Bool} (h : W.heap[rb]? = some (.cells #[.slice A n c, .bool b] 157 (0, 0))) : W.cell? ⟨rb, 0, none⟩ = some (.slice A n c) ∧ W.cell? ⟨rb, 1, none⟩ = some (.bool b) ∧ W.frozen? ⟨rb, 0, none⟩ = false ∧ W.frozen? ⟨rb, 1, none⟩ = false :=
  ⟨(blk_cell h 0).trans rfl, (blk_cell h 1).trans rfl, blk_frozen h 0, blk_frozen h 1⟩
def SkipQ (w0 W : World) (rb : Nat) (s : Rd) (n : Nat) (is : Bool) (e : Ending) (W' : World) : Prop :=
  (∃ A c, e = .returned (.slice A n c) ∧ n ≤ c ∧ RdB W' A n (skipR s n is).1) ∧ RdSt w0 W' rb (skipR s n is).2 ∧ W.grownBy W' (some rb)
theorem rdst_after {w0 W : World} {rb : Nat} {s : Rd} (h : RdSt w0 W rb s) {W1 : World} (hg : W.grownBy W1 (some rb)) (s1 : Rd) (A : Option Addr) (c : Nat) (hr : W1.heap[rb]? = some (.cells #[.slice A s1.b.length c, .bool s1.bad] 157 (0, 0))) (hc : s1.b.length ≤ c) (hA : RdB w0 A s1.b.length s1.b) (k : Nat) (hk : s1.b = s.b.drop k) : RdSt w0 W1 rb s1 :=
  ⟨h.base, ⟨A, c, hr, hc, hA⟩, by rw [hk]; exact by_drop h.byt k, by rw [hk, List.length_drop]; have := h.len; omega, below_grown h.bel hg h.bel.size (fun k hk => by injection hk with hk; subst hk; exact h.base)⟩
set_option maxHeartbeats 1000000 in
set_option maxRecDepth 100000 in
theorem skip_ok (w0 W : World) (rb : Nat) (s : Rd) (n : Nat) (h : RdSt w0 W rb s) (hbad : s.bad = false) (hn : n ≤ s.b.length) :
    Calls Try.prog 152 #[.pointer (some ⟨rb, 0, none⟩), .int .i64 n, .bool true] W (SkipQ w0 W rb s n true) := by
  obtain ⟨A, c, hr, hc, hA⟩ := h.row
  rw [hbad] at hr
  have H := Aside0.mk h
  have HR := Aside0.mk hr
  have HC := Aside0.mk hc
  have HA := Aside0.mk hA
  have HBAD := Aside0.mk hbad
  have HN := Aside0.mk hn
  obtain ⟨A', hcut, hA', hC'⟩ := rdb_drop A c s.b n hn hc
  have HA2 := Aside0.mk (hA' w0 hA)
  have HC2 := Aside0.mk hC'
  obtain ⟨x0, x1, f0, f1⟩ := RdSt.cell0 hr (w0 := w0)
  have c1 : decide ((n : Int) > (s.b.length : Int)) = false := decide_eq_false (by omega)
  have c2 : decide (n > s.b.length) = false := decide_eq_false (by omega)
  have c3 : ((n : Int) ≤ (s.b.length : Int)) = True := eq_true (by omega)
  have c4 : (n ≤ s.b.length) = True := eq_true (by omega)
  have c5 : (0 ≤ (n : Int)) = True := by simp
  have c6 : ((n : Int) ≤ (c : Int)) = True := eq_true (by omega)
  have c7 : (n ≤ c) = True := eq_true (by omega)
  clear h hr hc hA hbad hn hA' hC'
  go_enter Try.func152, Try.ntmps152
  go_wp2_with fail
  go_ret
  have hS := skipR_ok HBAD.out rfl HN.out (is := true)
  have hg : W.grownBy ((W.setCell ⟨rb, 1, none⟩ (.bool false)).setCell ⟨rb, 0, none⟩ (.slice A' (s.b.length - n) (c - n))) (some rb) := grown_set (grown_set (World.grownBy.refl W (some rb)) 1 _) 0 _
  have hst : RdSt w0 ((W.setCell ⟨rb, 1, none⟩ (.bool false)).setCell ⟨rb, 0, none⟩ (.slice A' (s.b.length - n) (c - n))) rb ⟨s.b.drop n, false⟩ := by
    refine rdst_after H.out hg ⟨s.b.drop n, false⟩ A' (c - n) ?_ (by rw [List.length_drop]; exact HC2.out) (by rw [List.length_drop]; exact HA2.out) n rfl
    rw [List.length_drop]
    exact blk_put (blk_put HR.out 1 _ rfl) 0 _ rfl
  unfold SkipQ
  rw [hS]
  refine ⟨⟨A, c, rfl, by have := HC.out; have := HN.out; omega, ?_⟩, hst, hg⟩
  exact rdb_below (rdb_take HA.out n HN.out) hst.bel
set_option maxHeartbeats 1000000 in
set_option maxRecDepth 100000 in
theorem skip_no (w0 W : World) (rb : Nat) (s : Rd) (n : Nat) (is : Bool) (h : RdSt w0 W rb s) (hno : s.bad = true ∨ is = false ∨ s.b.length < n) (hn : n ≤ 1000000) :
    Calls Try.prog 152 #[.pointer (some ⟨rb, 0, none⟩), .int .i64 n, .bool is] W (SkipQ w0 W rb s n is) := by
  obtain ⟨A, c, hr, hc, hA⟩ := h.row
  have hS := Aside0.mk (skipR_bad hno)
  have hmk := print_make (P := Try.prog) 40 5 .u8 1 Try.underlying40 info5 (by decide) n (by omega)
  have hmx : max (n : Int) 0 = (n : Int) := by omega
  have H := Aside0.mk h
  have HC := Aside0.mk hc
  have HA := Aside0.mk hA
  have HN := Aside0.mk hn
  have HFIN : Aside0 (W.heap[rb]? = some (.cells #[.slice A s.b.length c, .bool s.bad] 157 (0, 0)) → SkipQ w0 W rb s n is (.returned (.slice (some ⟨W.heap.size, 0, none⟩) n n)) ((W.setCell ⟨rb, 1, none⟩ (.bool true)).alloc (.cells (madeCells #[.int .u8 0] n) 5))) := ⟨fun hr => by
    have hz : (W.setCell ⟨rb, 1, none⟩ (.bool true)).heap.size = W.heap.size := by simp [World.setCell]
    rw [← hz]
    have hg : W.grownBy (W.setCell ⟨rb, 1, none⟩ (.bool true)) (some rb) := grown_set (World.grownBy.refl W (some rb)) 1 _
    have hst : RdSt w0 (W.setCell ⟨rb, 1, none⟩ (.bool true)) rb ⟨s.b, true⟩ := rdst_after h hg ⟨s.b, true⟩ A c (blk_put hr 1 _ rfl) hc hA 0 rfl
    unfold SkipQ
    rw [hS.out]
    refine ⟨⟨_, _, rfl, Nat.le_refl _, ?_⟩, hst.below (below_alloc (Below.refl _ _) _), hg.trans (World.grownBy_alloc _ _ _)⟩
    have := own_made (W.setCell ⟨rb, 1, none⟩ (.bool true)) 0 5 .u8 n (Nat.zero_le _) (by omega)
    obtain ⟨A9, c9, hv, hc9, hr9⟩ := Go.Proofs.Ytchaegfdcdlfaaa.Y.own_row (l := List.replicate n 0) this
    injection hv with h1 h2 h3
    rw [h1]
    exact hr9⟩
  cases hb : s.bad
  · rw [hb] at hr
    obtain ⟨x0, x1, f0, f1⟩ := RdSt.cell0 hr (w0 := w0)
    cases is
    · have HF := Aside0.mk (HFIN.out (by rw [hb]; exact hr))
      clear h hno hr hc hA hb hn HFIN
      go_enter Try.func152, Try.ntmps152
      go_wp2_with fail
      go_ret
      exact HF.out
    · have hlt : s.b.length < n := by
        rcases hno with h1 | h1 | h1
        · rw [hb] at h1; cases h1
        · cases h1
        · exact h1
      have c1 : decide ((n : Int) > (s.b.length : Int)) = true := decide_eq_true (by omega)
      have c2 : decide (n > s.b.length) = true := decide_eq_true (by omega)
      have HF := Aside0.mk (HFIN.out (by rw [hb]; exact hr))
      clear h hno hr hc hA hb hn hlt HFIN
      go_enter Try.func152, Try.ntmps152
      go_wp2_with fail
      go_ret
      exact HF.out
  · rw [hb] at hr
    obtain ⟨x0, x1, f0, f1⟩ := RdSt.cell0 hr (w0 := w0)
    have HF := Aside0.mk (HFIN.out (by rw [hb]; exact hr))
    clear h hno hr hc hA hb hn HFIN
    go_enter Try.func152, Try.ntmps152
    go_wp2_with fail
    go_ret
    exact HF.out
theorem skip_call (w0 W : World) (rb : Nat) (s : Rd) (n : Nat) (is : Bool) (h : RdSt w0 W rb s) (hn : n ≤ 1000000) :
    Calls Try.prog 152 #[.pointer (some ⟨rb, 0, none⟩), .int .i64 n, .bool is] W (SkipQ w0 W rb s n is) := by
  by_cases hno : s.bad = true ∨ is = false ∨ s.b.length < n
  · exact skip_no w0 W rb s n is h hno hn
  · have h1 : s.bad = false := by
      cases hb : s.bad
      · rfl
      · exact absurd (.inl hb) hno
    have h2 : is = true := by
      cases hb : is
      · exact absurd (.inr (.inl hb)) hno
      · rfl
    subst h2
    exact skip_ok w0 W rb s n h h1 (by have : ¬ s.b.length < n := fun h => hno (.inr (.inr h)); omega)
end Go.Proofs.Ytchaegfdcdlfaaa.X

namespace Go.Proofs.Ytchaegfdcdlfaaa.X
set_option linter.unusedVariables false
set_option linter.unusedSimpArgs false
open Go.RowKit Go.Proofs.YtchaegfdcdlfaaaW.PrintWords Go.Proofs.YtchaegfdcdlfaaaW.PrintLast Go.Proofs.YtchaegfdcdlfaaaW.PrintMore
open Go.Proofs.Ytchaegfdcdlfaaa.Y (Bytes RdB IsGet rdb_below rdb_drop rdb_take get_call Get_eq put put_length)
attribute [local go_sem] max2_int min2_int max_two min_two max_three min_three max_four min_four

theorem getL_nat {l : List Int} (hb : Bytes l) (hl : l.length ≤ 1000000) : ∃ (gn gu : Nat) (gi : Bool), getL l = ((gn : Int), (gu : Int), gi) ∧ gn < 18446744073709551616 ∧ gu ≤ l.length ∧ gu ≤ 10 := by
  rcases getL_is hb (by omega) with ⟨m, hm, hp, hg⟩ | ⟨_, hg⟩
  · exact ⟨m, (put m).length, true, hg, hm, hp.length_le, put_length m hm⟩
  · exact ⟨0, 0, false, hg, by decide, Nat.zero_le _, by decide⟩
theorem grown_setn {W W1 : World} {r : Option Nat} (h : W.grownBy W1 r) {g : Nat} (hg : W.heap.size ≤ g) (j : Nat) (u : Value) : W.grownBy (W1.setCell ⟨g, j, none⟩ u) r :=
  ⟨h.os, h.tape, h.output, by have := h.size; simpa [World.setCell] using this, fun k hk hne => by rw [Below.heap_setCell _ _ _ _ (by show k ≠ g; omega)]; exact h.block k hk hne⟩
theorem RdSt.set {w0 W : World} {rb : Nat} {s : Rd} (h : RdSt w0 W rb s) {g : Nat} (hg : g ≠ rb) (hw : w0.heap.size ≤ g) (j : Nat) (u : Value) : RdSt w0 (W.setCell ⟨g, j, none⟩ u) rb s := by
  obtain ⟨A, c, hr, hc, hA⟩ := h.row
  exact ⟨h.base, ⟨A, c, (Below.heap_setCell _ _ _ _ (by show rb ≠ g; omega)).trans hr, hc, hA⟩, h.byt, h.len, below_set h.bel hw⟩
def NumQ (w0 W : World) (rb : Nat) (s : Rd) (most : Int) (e : Ending) (W' : World) : Prop := e = .returned (.int .i64 (numR most s).1) ∧ RdSt w0 W' rb (numR most s).2 ∧ W.grownBy W' (some rb)
set_option maxHeartbeats 1000000 in
set_option maxRecDepth 100000 in
theorem num_call (w0 W : World) (rb : Nat) (s : Rd) (most : Int) (h : RdSt w0 W rb s) (h0 : 0 ≤ most) (h1 : most ≤ 1000) :
    Calls Try.prog 109 #[.pointer (some ⟨rb, 0, none⟩), .int .i64 most] W (NumQ w0 W rb s most) := by
  obtain ⟨A, c, hr, hc, hA⟩ := h.row
  obtain ⟨gn, gu, gi, hget, hgn, hgu, hg10⟩ := getL_nat h.byt h.len
  have HG : Aside0 (IsGet s.b ((gn : Int), (gu : Int), gi)) := ⟨by have := getL_is h.byt (by have := h.len; omega); rwa [hget] at this⟩
  have hnum : ∀ b, (gi && decide ((gn : Int) ≤ most)) = b → numR most s = (if (skipR s gu b).2.bad = true then 0 else (gn : Int), (skipR s gu b).2) := fun b hb => by
    unfold numR
    dsimp only
    rw [hget]
    dsimp only
    rw [Int.toNat_natCast, hb]
  have HNUM := Aside0.mk hnum
  have H := Aside0.mk h
  have HR := Aside0.mk hr
  have HC := Aside0.mk hc
  have HA := Aside0.mk (rdb_below hA h.bel)
  have HG10 := Aside0.mk hg10
  obtain ⟨x0, x1, f0, f1⟩ := RdSt.cell0 hr (w0 := w0)
  have HM := Aside0.mk h1
  have HM0 := Aside0.mk h0
  have hwm : IntKind.u64.wrap most = most := by simp [IntKind.wrap, IntKind.bits, IntKind.signed]; omega
  clear h hr hc hA hget hnum hgn hgu hg10 h0 h1
  cases gi
  · go_enter Try.func109, Try.ntmps109
    go_wp2_with fail
    refine (get_call HG.out H.out.byt (by have := H.out.len; omega) A c _ HA.out HC.out).mono ?_
    rintro e_ w1 ⟨rfl, q, rfl⟩
    go_wp2_with fail
    refine (skip_call w0 _ rb s gu false (H.out.below (pw_below_drewN (Below.refl _ _) q)) (by have := HG10.out; omega)).mono ?_
    rintro e_ w2 ⟨⟨A2, c2, rfl, _, _⟩, hst, hg⟩
    have HST := Aside0.mk hst
    have HGR := Aside0.mk ((grown_of_below (pw_below_drewN (Below.refl W.heap.size W) q) (some rb)).trans hg)
    have hn := HNUM.out false rfl
    have hbad : (skipR s gu false).2.bad = true := by rw [skipR_bad (.inr (.inl rfl))]
    obtain ⟨A3, c3, hr3, hc3, hA3⟩ := hst.row
    rw [hbad] at hr3
    obtain ⟨y0, y1, z0, z1⟩ := RdSt.cell0 hr3 (w0 := w0)
    rw [if_pos hbad] at hn
    have HN := Aside0.mk hn
    clear hst hg hn hbad hr3 hc3 hA3 x0 x1 f0 f1
    go_wp2_with fail
    go_ret
    unfold NumQ
    rw [HN.out]
    exact ⟨rfl, HST.out, HGR.out⟩
  · by_cases hle : (gn : Int) ≤ most
    · have c1 : decide ((gn : Int) ≤ most) = true := decide_eq_true hle
      have hw2 : IntKind.i64.wrap (gn : Int) = (gn : Int) := by have := HM.out; simp [IntKind.wrap, IntKind.bits, IntKind.signed]; omega
      have hn := HNUM.out true (by rw [c1]; rfl)
      have HN := Aside0.mk hn
      clear hle hn
      go_enter Try.func109, Try.ntmps109
      go_wp2_with fail
      refine (get_call HG.out H.out.byt (by have := H.out.len; omega) A c _ HA.out HC.out).mono ?_
      rintro e_ w1 ⟨rfl, q, rfl⟩
      go_wp2_with fail
      refine (skip_call w0 _ rb s gu true (H.out.below (pw_below_drewN (Below.refl _ _) q)) (by have := HG10.out; omega)).mono ?_
      rintro e_ w2 ⟨⟨A2, c2, rfl, _, _⟩, hst, hg⟩
      have HST := Aside0.mk hst
      have HGR := Aside0.mk ((grown_of_below (pw_below_drewN (Below.refl W.heap.size W) q) (some rb)).trans hg)
      obtain ⟨A3, c3, hr3, hc3, hA3⟩ := hst.row
      cases hbad : (skipR s gu true).2.bad
      · rw [hbad] at hr3
        obtain ⟨y0, y1, z0, z1⟩ := RdSt.cell0 hr3 (w0 := w0)
        have HB := Aside0.mk hbad
        clear hst hg hbad hr3 hc3 hA3 x0 x1 f0 f1
        go_wp2_with fail
        go_ret
        unfold NumQ
        rw [HN.out, if_neg (by rw [HB.out]; decide)]
        exact ⟨rfl, HST.out, HGR.out⟩
      · rw [hbad] at hr3
        obtain ⟨y0, y1, z0, z1⟩ := RdSt.cell0 hr3 (w0 := w0)
        have HB := Aside0.mk hbad
        clear hst hg hbad hr3 hc3 hA3 x0 x1 f0 f1
        go_wp2_with fail
        go_ret
        unfold NumQ
        rw [HN.out, if_pos HB.out]
        exact ⟨rfl, HST.out, HGR.out⟩
    · have c1 : decide ((gn : Int) ≤ most) = false := decide_eq_false hle
      have hn := HNUM.out false (by rw [c1]; rfl)
      have hbad : (skipR s gu false).2.bad = true := by rw [skipR_bad (.inr (.inl rfl))]
      rw [if_pos hbad] at hn
      have HN := Aside0.mk hn
      have HB := Aside0.mk hbad
      clear hle hn hbad
      go_enter Try.func109, Try.ntmps109
      go_wp2_with fail
      refine (get_call HG.out H.out.byt (by have := H.out.len; omega) A c _ HA.out HC.out).mono ?_
      rintro e_ w1 ⟨rfl, q, rfl⟩
      go_wp2_with fail
      refine (skip_call w0 _ rb s gu false (H.out.below (pw_below_drewN (Below.refl _ _) q)) (by have := HG10.out; omega)).mono ?_
      rintro e_ w2 ⟨⟨A2, c2, rfl, _, _⟩, hst, hg⟩
      have HST := Aside0.mk hst
      have HGR := Aside0.mk ((grown_of_below (pw_below_drewN (Below.refl W.heap.size W) q) (some rb)).trans hg)
      obtain ⟨A3, c3, hr3, hc3, hA3⟩ := hst.row
      rw [HB.out] at hr3
      obtain ⟨y0, y1, z0, z1⟩ := RdSt.cell0 hr3 (w0 := w0)
      clear hst hg hr3 hc3 hA3 x0 x1 f0 f1
      go_wp2_with fail
      go_ret
      unfold NumQ
      rw [HN.out]
      exact ⟨rfl, HST.out, HGR.out⟩
end Go.Proofs.Ytchaegfdcdlfaaa.X

namespace Go.Proofs.Ytchaegfdcdlfaaa.X
set_option linter.unusedVariables false
set_option linter.unusedSimpArgs false
open Go.RowKit Go.Proofs.YtchaegfdcdlfaaaW.PrintWords Go.Proofs.YtchaegfdcdlfaaaW.PrintLast Go.Proofs.YtchaegfdcdlfaaaW.PrintMore
open Go.Proofs.Ytchaegfdcdlfaaa.Y (Bytes RdB IsGet rdb_below rdb_drop rdb_take get_call Get_eq put put_length four four_call)
attribute [local go_sem] max2_int min2_int max_two min_two max_three min_three max_four min_four
def StQ (w0 W : World) (rb : Nat) (s : Rd) (e : Ending) (W' : World) : Prop := e = .returned (.agg #[.int .i64 (stR s).1.1, .int .i64 (stR s).1.2]) ∧ RdSt w0 W' rb (stR s).2 ∧ W.grownBy W' (some rb)
set_option maxHeartbeats 1000000 in
set_option maxRecDepth 100000 in
theorem strd_call (w0 W : World) (rb : Nat) (s : Rd) (h : RdSt w0 W rb s) :
    Calls Try.prog 153 #[.pointer (some ⟨rb, 0, none⟩)] W (StQ w0 W rb s) := by
  obtain ⟨A, c, hr, hc, hA⟩ := h.row
  obtain ⟨gn, gu, gi, hget, hgn, hgu, hg10⟩ := getL_nat h.byt h.len
  have HG : Aside0 (IsGet s.b ((gn : Int), (gu : Int), gi)) := ⟨by have := getL_is h.byt (by have := h.len; omega); rwa [hget] at this⟩
  obtain ⟨sn, sr, su, si, hsg, hsu⟩ : ∃ (sn sr : Int) (su : Nat) (si : Bool), stGetP ((gn : Int), (gu : Int), gi) = ((sn, sr), (su : Int), si) ∧ su ≤ 10 := by
    unfold stGetP
    split
    · exact ⟨_, _, gu, true, rfl, hg10⟩
    · exact ⟨0, 0, 0, false, rfl, by decide⟩
  have HS : Aside0 (stR s = ((sn, sr), (skipR s su si).2)) := ⟨by unfold stR; rw [hget, hsg]; dsimp only; rw [Int.toNat_natCast]⟩
  have hst := fun (W1 : World) (hA1 : RdB W1 A s.b.length s.b) => stamp_Get.calls (2 * s.b.length + 3) A c s.b gn gu gi W1 hA1 hc (Get_eq HG.out h.byt (by have := h.len; omega) _ (by omega)) hgn
  rw [hsg] at hst
  have HST := Aside0.mk hst
  have H := Aside0.mk h
  have HR := Aside0.mk hr
  have HC := Aside0.mk hc
  have HA := Aside0.mk (rdb_below hA h.bel)
  have HSU := Aside0.mk hsu
  have x0 := (RdSt.cell0 (w0 := w0) (W := W.alloc (.cells #[.int .i64 0, .int .i64 0] 96)) (blk_alloc hr _)).1
  clear h hr hc hA hget hgn hgu hg10 hsg hst hsu
  go_enter Try.func153, Try.ntmps153
  go_wp2_with fail
  refine (HST.out _ (rdb_below HA.out (below_alloc (Below.refl _ _) _))).mono ?_
  rintro e_ w1 ⟨rfl, hb1⟩
  have HZ := Aside0.mk (blk_below (blk_new W (.cells #[.int .i64 0, .int .i64 0] 96)) hb1)
  have H1 := Aside0.mk ((H.out.below (below_alloc (Below.refl _ _) _)).below hb1)
  have HG1 := Aside0.mk (grown_of_below (below_step (below_alloc (Below.refl W.heap.size W) (.cells #[.int .i64 0, .int .i64 0] 96)) hb1) (some rb))
  clear hb1 x0
  go_wp2_with fail
  refine (skip_call w0 _ rb s su si (H1.out.below (below_alloc (Below.refl _ _) _)) (by have := HSU.out; omega)).mono ?_
  rintro e_ w2 ⟨⟨A2, c2, rfl, _, _⟩, hst2, hg2⟩
  have hlt := H.out.lt
  have hn1 : some W.heap.size ≠ some rb := fun he => by injection he with he; omega
  have hw1 := H1.out.lt
  have hn2 : some w1.heap.size ≠ some rb := fun he => by injection he with he; omega
  have HZ2 := Aside0.mk (blk_grown (blk_alloc HZ.out (.cells #[.int .i64 sn, .int .i64 sr] 96)) hg2 hn1)
  have HV2 := Aside0.mk (blk_grown (blk_new w1 (.cells #[.int .i64 sn, .int .i64 sr] 96)) hg2 hn2)
  have q0 := (blk_cell HV2.out 0).trans rfl
  have q1 := (blk_cell HV2.out 1).trans rfl
  have z0 := (blk_cell HZ2.out 0).trans rfl
  have z1 := (blk_cell HZ2.out 1).trans rfl
  have f0 := blk_frozen HZ2.out 0
  have f1 := blk_frozen HZ2.out 1
  have H2 := Aside0.mk hst2
  have HG2 := Aside0.mk ((HG1.out.trans (World.grownBy_alloc w1 (.cells #[.int .i64 sn, .int .i64 sr] 96) (some rb))).trans hg2)
  have HLT := Aside0.mk hlt
  clear hst2 hg2 hlt hn1 hw1 hn2
  go_wp2_with fail
  refine bodyPost_ret (v := .agg #[.int .i64 sn, .int .i64 sr]) ?_ rfl ?_
  · exact results_cell_row (P := Try.prog) Try.results153 _ _ W.heap.size 96 #[.int .i64 sn, .int .i64 sr] (0, 0) _ rfl (blk_put (blk_put HZ2.out 0 _ rfl) 1 _ rfl) Try.underlying96 rfl (by kernel_rfl)
  · unfold StQ
    rw [HS.out]
    have hw0 := H.out.bel.size
    have hne : W.heap.size ≠ rb := by have := HLT.out; omega
    exact ⟨rfl, (H2.out.set hne hw0 0 _).set hne hw0 1 _, grown_setn (grown_setn HG2.out (Nat.le_refl _) 0 _) (Nat.le_refl _) 1 _⟩
theorem grown_row {W W1 : World} {r : Option Nat} (h : W.grownBy W1 r) {g : Nat} (hg : W.heap.size ≤ g) (cs : Array Value) : W.grownBy (W1.setRow g cs) r :=
  ⟨h.os, h.tape, h.output, by rw [setRow_size]; exact h.size, fun k hk hne => by rw [setRow_other _ _ _ _ (by omega)]; exact h.block k hk hne⟩
theorem RdSt.setRow {w0 W : World} {rb : Nat} {s : Rd} (h : RdSt w0 W rb s) {g : Nat} (hg : g ≠ rb) (hw : w0.heap.size ≤ g) (cs : Array Value) : RdSt w0 (W.setRow g cs) rb s := by
  obtain ⟨A, c, hr, hc, hA⟩ := h.row
  exact ⟨h.base, ⟨A, c, (setRow_other _ _ _ _ (by omega)).trans hr, hc, hA⟩, h.byt, h.len, below_row h.bel hw⟩
theorem rdb_at {W : World} {A : Option Addr} {n : Nat} {l : List Int} (h : RdB W A n l) (hn : 0 < n) : ∃ ad, A = some ad ∧ At W ad (cells8 l) := by
  obtain ⟨ad, hA, _⟩ := Kd.at_int h 0 (by omega) (by omega)
  refine ⟨ad, hA, fun j v hj => ?_⟩
  have hjl : j < l.length := by
    have := (Array.getElem?_eq_some_iff.1 hj).1
    simpa [cells8] using this
  obtain ⟨ad2, e, hc⟩ := Kd.at_int h (j : Int) (by omega) (by have := h.1; omega)
  rw [hA] at e
  injection e with e
  subst e
  rw [Int.toNat_natCast] at hc
  rw [hc, ← hj]
  simp [cells8, rd, hjl]
def DigQ (w0 W : World) (rb : Nat) (s : Rd) (e : Ending) (W' : World) : Prop := e = .returned (.agg (cells8 (takeR 32 s).1)) ∧ RdSt w0 W' rb (takeR 32 s).2 ∧ W.grownBy W' (some rb)
set_option maxHeartbeats 1000000 in
set_option maxRecDepth 100000 in
theorem dig_call (w0 W : World) (rb : Nat) (s : Rd) (h : RdSt w0 W rb s) :
    Calls Try.prog 108 #[.pointer (some ⟨rb, 0, none⟩)] W (DigQ w0 W rb s) := by
  have H := Aside0.mk h
  have HL : Aside0 ((takeR 32 s).1.length = 32) := ⟨skipR_len s 32 true⟩
  clear h
  go_enter Try.func108, Try.ntmps108
  go_wp2_with fail
  refine (skip_call w0 _ rb s 32 true (H.out.below (below_alloc (Below.refl _ _) _)) (by decide)).mono ?_
  rintro e_ w2 ⟨⟨A2, c2, rfl, hc2, hr2⟩, hst2, hg2⟩
  obtain ⟨ad, hA, hat⟩ := rdb_at hr2 (by decide)
  subst hA
  have hlt := H.out.lt
  have hn1 : some W.heap.size ≠ some rb := fun he => by injection he with he; omega
  have HZ2 := Aside0.mk (blk_grown (blk_new W (.cells #[.int .u8 0, .int .u8 0, .int .u8 0, .int .u8 0, .int .u8 0, .int .u8 0, .int .u8 0, .int .u8 0, .int .u8 0, .int .u8 0, .int .u8 0, .int .u8 0, .int .u8 0, .int .u8 0, .int .u8 0, .int .u8 0, .int .u8 0, .int .u8 0, .int .u8 0, .int .u8 0, .int .u8 0, .int .u8 0, .int .u8 0, .int .u8 0, .int .u8 0, .int .u8 0, .int .u8 0, .int .u8 0, .int .u8 0, .int .u8 0, .int .u8 0, .int .u8 0] 28)) hg2 hn1)
  obtain ⟨d, hd⟩ : ∃ d, (takeR 32 s).1 = d := ⟨_, rfl⟩
  have hd' : (skipR s 32 true).1 = d := hd
  rw [hd'] at hat
  rw [hd] at HL
  have HD := Aside0.mk hd
  have HAT := Aside0.mk hat
  have H2 := Aside0.mk hst2
  have HG2 := Aside0.mk ((World.grownBy_alloc W (.cells #[.int .u8 0, .int .u8 0, .int .u8 0, .int .u8 0, .int .u8 0, .int .u8 0, .int .u8 0, .int .u8 0, .int .u8 0, .int .u8 0, .int .u8 0, .int .u8 0, .int .u8 0, .int .u8 0, .int .u8 0, .int .u8 0, .int .u8 0, .int .u8 0, .int .u8 0, .int .u8 0, .int .u8 0, .int .u8 0, .int .u8 0, .int .u8 0, .int .u8 0, .int .u8 0, .int .u8 0, .int .u8 0, .int .u8 0, .int .u8 0, .int .u8 0, .int .u8 0] 28) (some rb)).trans hg2)
  have HLT := Aside0.mk hlt
  have har := fun W1 : World => run_arrayAt (P := Try.prog) (w := W1) 28 5 32 (some ad) 32 c2 Try.underlying28 (by decide)
  have hz : (cells8 d).size = 32 := by rw [cells8_size, HL.out]
  have hst := store8 (g := W.heap.size) (t := 28) (old := List.replicate 32 0) (xs := d) (w := w2) HZ2.out (by rw [HL.out]; rfl)
  clear hst2 hg2 hlt hn1 hd hd' hat hr2 hc2
  go_wp2_with (first
    | ((with_reducible refine gate_dst (N := 6) rfl ?_); refine wpList_load_cells rfl 28 (.tmp 5) rfl ad rfl (cells8 d) _ HAT.out Try.underlying28 rfl (by rw [hz]; kernel_rfl) ?_)
    | fail)
  refine bodyPost_ret (v := .agg (cells8 d)) ?_ rfl ?_
  · exact results_cell_row (P := Try.prog) Try.results108 _ _ W.heap.size 28 (cells8 d) (0, 0) _ rfl (setRow_heap _ _ _ _ _ _ HZ2.out) Try.underlying28 rfl (by rw [hz]; kernel_rfl)
  · unfold DigQ
    rw [HD.out]
    exact ⟨rfl, H2.out.setRow (by have := HLT.out; omega) H.out.bel.size _, grown_row HG2.out (Nat.le_refl _) _⟩
end Go.Proofs.Ytchaegfdcdlfaaa.X

namespace Go.Proofs.Ytchaegfdcdlfaaa.X
set_option linter.unusedVariables false
set_option linter.unusedSimpArgs false
open Go.RowKit Go.Proofs.YtchaegfdcdlfaaaW.PrintWords Go.Proofs.YtchaegfdcdlfaaaW.PrintLast Go.Proofs.YtchaegfdcdlfaaaW.PrintMore
open Go.Proofs.Ytchaegfdcdlfaaa.Y (Bytes RdB IsGet rdb_below rdb_drop rdb_take get_call Get_eq put put_length four four_call)
attribute [local go_sem] max2_int min2_int max_two min_two max_three min_three max_four min_four
def RrAt (W : World) (rr rb : Nat) (rs : Array Value) : Prop := W.heap[rr]? = some (.cells rs 159 (0, 0)) ∧ rs[0]? = some (.pointer (some ⟨rb, 0, none⟩)) ∧ rr ≠ rb
theorem RrAt.cell {W : World} {rr rb : Nat} {rs : Array Value} (h : RrAt W rr rb rs) : W.cell? ⟨rr, 0, none⟩ = some (.pointer (some ⟨rb, 0, none⟩)) := (blk_cell h.1 0).trans h.2.1
theorem RrAt.below {W W1 : World} {rr rb : Nat} {rs : Array Value} (h : RrAt W rr rb rs) (hb : Below W.heap.size W W1) : RrAt W1 rr rb rs := ⟨blk_below h.1 hb, h.2⟩
theorem RrAt.grown {W W1 : World} {rr rb : Nat} {rs : Array Value} (h : RrAt W rr rb rs) (hg : W.grownBy W1 (some rb)) : RrAt W1 rr rb rs := ⟨blk_grown h.1 hg (fun he => h.2.2 (by injection he)), h.2⟩
theorem RrAt.lt {W : World} {rr rb : Nat} {rs : Array Value} (h : RrAt W rr rb rs) : rr < W.heap.size := blk_lt h.1
theorem skipR_byt {s : Rd} (h : Bytes s.b) (n : Nat) (is : Bool) : Bytes (skipR s n is).1 := by
  unfold skipR
  split
  · intro x hx
    rw [List.eq_of_mem_replicate hx]
    omega
  · exact by_take h n
def BlQ (w0 W : World) (rb : Nat) (s : Rd) (e : Ending) (W' : World) : Prop := e = .returned (.agg (sgA (blockR s).1)) ∧ RdSt w0 W' rb (blockR s).2 ∧ W.grownBy W' (some rb)
set_option maxHeartbeats 1000000 in
set_option maxRecDepth 100000 in
theorem block_call' (w0 W : World) (rb rr : Nat) (rs : Array Value) (s : Rd) (h : RdSt w0 W rb s) (hr : RrAt W rr rb rs) :
    Calls Try.prog 176 #[.pointer (some ⟨rr, 0, none⟩)] W (BlQ w0 W rb s) := by
  have H := Aside0.mk h
  have HR := Aside0.mk (hr.below (below_alloc (Below.refl W.heap.size W) (.cells #[.int .u32 0, .int .u8 0, .int .u8 0, .int .u8 0, .int .u8 0, .int .u8 0, .int .u8 0, .int .u8 0, .int .u8 0, .int .u8 0, .int .u8 0, .int .u8 0, .int .u8 0, .int .u8 0, .int .u8 0, .int .u8 0, .int .u8 0, .int .u8 0, .int .u8 0, .int .u8 0, .int .u8 0, .int .u8 0, .int .u8 0, .int .u8 0, .int .u8 0, .int .u8 0, .int .u8 0, .int .u8 0, .int .u8 0, .int .u8 0, .int .u8 0, .int .u8 0, .int .u8 0] 30)))
  have HL4 : Aside0 ((skipR s 4 true).1.length = 4) := ⟨skipR_len s 4 true⟩
  have HBY : Aside0 (Bytes (skipR s 4 true).1) := ⟨skipR_byt h.byt 4 true⟩
  have HLT := Aside0.mk h.lt
  have x0 := HR.out.cell
  clear h hr
  go_enter Try.func176, Try.ntmps176
  go_wp2_with fail
  refine (skip_call w0 _ rb s 4 true (H.out.below (below_alloc (Below.refl _ _) _)) (by decide)).mono ?_
  rintro e_ w2 ⟨⟨A2, c2, rfl, hc2, hr2⟩, hst2, hg2⟩
  have H2 := Aside0.mk hst2
  have HR2 := Aside0.mk (HR.out.grown hg2)
  have HZ2 := Aside0.mk (blk_grown (blk_new W (.cells #[.int .u32 0, .int .u8 0, .int .u8 0, .int .u8 0, .int .u8 0, .int .u8 0, .int .u8 0, .int .u8 0, .int .u8 0, .int .u8 0, .int .u8 0, .int .u8 0, .int .u8 0, .int .u8 0, .int .u8 0, .int .u8 0, .int .u8 0, .int .u8 0, .int .u8 0, .int .u8 0, .int .u8 0, .int .u8 0, .int .u8 0, .int .u8 0, .int .u8 0, .int .u8 0, .int .u8 0, .int .u8 0, .int .u8 0, .int .u8 0, .int .u8 0, .int .u8 0, .int .u8 0] 30)) hg2 (fun he => by injection he with he; have := HLT.out; omega))
  have HG2 := Aside0.mk ((World.grownBy_alloc W (.cells #[.int .u32 0, .int .u8 0, .int .u8 0, .int .u8 0, .int .u8 0, .int .u8 0, .int .u8 0, .int .u8 0, .int .u8 0, .int .u8 0, .int .u8 0, .int .u8 0, .int .u8 0, .int .u8 0, .int .u8 0, .int .u8 0, .int .u8 0, .int .u8 0, .int .u8 0, .int .u8 0, .int .u8 0, .int .u8 0, .int .u8 0, .int .u8 0, .int .u8 0, .int .u8 0, .int .u8 0, .int .u8 0, .int .u8 0, .int .u8 0, .int .u8 0, .int .u8 0, .int .u8 0] 30) (some rb)).trans hg2)
  have HRD := Aside0.mk (And.intro hc2 hr2)
  clear hst2 hg2 hc2 hr2 x0
  go_wp2_with fail
  refine (four_call (skipR s 4 true).1 HL4.out HBY.out A2 c2 _ HRD.out.2 HRD.out.1).mono ?_
  rintro e_ w3 ⟨rfl, q, rfl⟩
  have HB3 := Aside0.mk (pw_below_drewN (Below.refl w2.heap.size w2) q)
  have H3 := Aside0.mk (H2.out.below HB3.out)
  have HR3 := Aside0.mk (HR2.out.below HB3.out)
  have x0 := HR3.out.cell
  go_wp2_with fail
  refine (dig_call w0 _ rb (skipR s 4 true).2 H3.out).mono ?_
  rintro e_ w4 ⟨rfl, hst4, hg4⟩
  obtain ⟨d, hd⟩ : ∃ d, (takeR 32 (skipR s 4 true).2).1 = d := ⟨_, rfl⟩
  have hd32 : d.length = 32 := by rw [← hd]; exact skipR_len _ 32 true
  obtain ⟨wk, hwk⟩ : ∃ wk : Nat, four (skipR s 4 true).1 = wk := ⟨_, rfl⟩
  have HRES : Aside0 ((blockR s).1 = ((wk : Int), d)) := ⟨by rw [← hd, ← hwk]; rfl⟩
  rw [hd, hwk]
  have H4 := Aside0.mk hst4
  have HL := Aside0.mk hd32
  have HZ4 := Aside0.mk (blk_grown (blk_drewN HZ2.out q) hg4 (fun he => by injection he with he; have := HLT.out; omega))
  have HG4 := Aside0.mk ((HG2.out.trans (grown_of_below HB3.out (some rb))).trans hg4)
  have hsz := sgA_size (s := ((wk : Int), d)) hd32
  have hst := storeA (g := W.heap.size) (t := 30) (old := #[.int .u32 0, .int .u8 0, .int .u8 0, .int .u8 0, .int .u8 0, .int .u8 0, .int .u8 0, .int .u8 0, .int .u8 0, .int .u8 0, .int .u8 0, .int .u8 0, .int .u8 0, .int .u8 0, .int .u8 0, .int .u8 0, .int .u8 0, .int .u8 0, .int .u8 0, .int .u8 0, .int .u8 0, .int .u8 0, .int .u8 0, .int .u8 0, .int .u8 0, .int .u8 0, .int .u8 0, .int .u8 0, .int .u8 0, .int .u8 0, .int .u8 0, .int .u8 0, .int .u8 0]) (cs := sgA ((wk : Int), d)) (w := w4) HZ4.out (by rw [hsz]; rfl) (sgA_all _)
  have HBU := Aside0.mk (built_sg (wk : Int) d hd32)
  clear hst4 hg4 hd hd32 hwk x0
  go_wp2_with (first
    | ((with_reducible refine gate_dst (N := 20) rfl ?_); refine wpList_build_cells rfl 30 _ rfl (sgA ((wk : Int), d)) ?hb ?_; case hb => (simp only [List.map_toArray, List.map_cons, List.map_nil]; exact HBU.out))
    | fail)
  refine bodyPost_ret (v := .agg (sgA ((wk : Int), d))) ?_ rfl ?_
  · exact results_cell_row (P := Try.prog) Try.results176 _ _ W.heap.size 30 (sgA ((wk : Int), d)) (0, 0) _ rfl (setRow_heap _ _ _ _ _ _ HZ4.out) Try.underlying30 rfl (sgInfo HL.out)
  · unfold BlQ
    rw [HRES.out]
    exact ⟨rfl, H4.out.setRow (by have := HLT.out; omega) H.out.bel.size _, grown_row HG4.out (Nat.le_refl _) _⟩
end Go.Proofs.Ytchaegfdcdlfaaa.X

namespace Go.Proofs.Ytchaegfdcdlfaaa.X
set_option linter.unusedVariables false
set_option linter.unusedSimpArgs false
open Go.RowKit Go.Proofs.YtchaegfdcdlfaaaW.PrintWords Go.Proofs.YtchaegfdcdlfaaaW.PrintLast Go.Proofs.YtchaegfdcdlfaaaW.PrintMore

theorem fill_some (place : Nat → Option (Nat × Nat)) : ∀ (parts : List (Nat × Value)) (off : Nat) (cells : Array Value), Laid place off parts → off + (partsL parts).length ≤ cells.size →
    Instr.fill place cells parts = some (cells.toList.take off ++ partsL parts ++ cells.toList.drop (off + (partsL parts).length)).toArray
  | [], off, cells, _, h => by
    simp only [partsL, List.length_nil, Nat.add_zero] at h
    simp only [Instr.fill, partsL, List.append_nil, List.length_nil, Nat.add_zero, List.take_append_drop, Array.toArray_toList]
  | (i, v) :: rest, off, cells, hl, h => by
    obtain ⟨hp, hr⟩ := hl
    simp only [partsL, List.length_append, Array.length_toList] at h
    unfold Instr.fill
    simp only [hp]
    rw [if_neg (by simp; omega)]
    have hf := fill_fold off v.cells.toList 0 cells (by simp; omega)
    have he : ((v.cells.toList.zipIdx 0).foldl (fun cs (p : Value × Nat) => cs.setIfInBounds (off + p.2) p.1) cells) = v.cells.zipIdx.foldl (fun cs (x : Value × Nat) => match x with | (c, j) => cs.setIfInBounds (off + j) c) cells := by
      rw [← Array.foldl_toList, Array.toList_zipIdx]
    rw [he] at hf
    generalize Array.foldl _ _ _ = cs' at hf
    simp only [Nat.add_zero, Array.length_toList] at hf
    have hs : cs'.size = cells.size := by
      have := congrArg List.length hf
      simp at this
      omega
    rw [fill_some place rest (off + v.cells.size) cs' hr (by rw [hs]; omega), hf]
    have hl2 : (cells.toList.take off ++ v.cells.toList).length = off + v.cells.size := by simp; omega
    have e1 : (cells.toList.take off ++ v.cells.toList ++ cells.toList.drop (off + v.cells.size)).take (off + v.cells.size) = cells.toList.take off ++ v.cells.toList := by
      rw [← hl2, List.take_left]
    have e2 : (cells.toList.take off ++ v.cells.toList ++ cells.toList.drop (off + v.cells.size)).drop (off + v.cells.size + (partsL rest).length) = cells.toList.drop (off + (partsL ((i, v) :: rest)).length) := by
      rw [← List.drop_drop, ← hl2, List.drop_left, hl2, List.drop_drop]
      congr 1
      simp [partsL]
      omega
    rw [e1, e2]
    simp only [partsL, List.append_assoc]
theorem exec_build_cells {P : Program} {a : Act} {o : Oper} {W : World} (t : TypeId) (parts : Array (Nat × Operand)) (ho : o.op = .build t parts) (cs : Array Value) (hf : P.built t (parts.map fun (i, x) => (i, a.eval x)).toList = some cs) :
    (execOp a.eval o).run P W = .ok (.value (.agg cs)) W := by
  unfold execOp
  simp only [ho, Sem.run_bind, run_build W t _ cs hf, Result.andThen_ok]
  rfl
theorem wp_buildSlice_one {P : Program} {o : Oper} {a : Act} {w : World} {K : Act → World → Prop} {Q : Exit → Act → World → Prop} (t e : TypeId) (x : Operand) (ho : o.op = .buildSlice t 1 #[(0, x)])
    (n : Nat) (cs : Array Value) (z : Value) (hu : P.underlying t = some (.slice e)) (hi : (P.info? e).map (fun i => (i.zero, i.size)) = some (some z, n)) (hn : n = cs.size) (h0 : 0 < n) (h1 : n ≤ 1000000) (hx : a.eval x = .agg cs)
    (h : K (a.put o.dst (.slice (some ⟨w.heap.size, 0, none⟩) 1 1)) (w.alloc (.cells cs e))) : o.wp P a w K Q := by
  obtain ⟨ie, hie, hz⟩ := Option.map_eq_some_iff.1 hi
  simp only [Prod.mk.injEq] at hz
  obtain ⟨hz0, hz1⟩ := hz
  refine wp_buildSlice t e 1 _ ho cs ie z hu hie hz0 (by rw [hz1]; omega) (by rw [hz1]; omega) ?_ h
  have := fill_whole (fun i => some (i * ie.size, ie.size)) [(0, .agg cs)] ((Array.range (1 * ie.size)).map (z.cells[· % z.cells.size]!)) ⟨by simp [hz1, hn, Value.cells], trivial⟩ (by simp [partsL, Value.cells, hz1, hn])
  simp only [List.map_toArray, List.map_cons, List.map_nil, hx]
  simpa [partsL, Value.cells] using this
def OnlyN (Fin : Act → World → Prop) : Exit → Act → World → Prop
  | .normal, a, w => Fin a w
  | _, _, _ => False
theorem cut_region {P : Program} {c : Code} {a : Act} {w : World} {Q : Exit → Act → World → Prop} (Fin : Act → World → Prop) (h : c.wp P (OnlyN Fin) a w) (hq : ∀ a w, Fin a w → Q .normal a w) : c.wp P Q a w :=
  Code.wp_mono (fun e a w he => by cases e <;> first | exact hq a w he | exact he.elim) h
theorem zeroEnt : (Try.prog.info? 149).map (·.zero) = some (some (.agg #[.int .i64 0, .int .i64 0, .int .i64 0, .int .i64 0, .int .u8 0, .int .u8 0, .int .u8 0, .int .u8 0, .int .u8 0, .int .u8 0, .int .u8 0, .int .u8 0, .int .u8 0, .int .u8 0, .int .u8 0, .int .u8 0, .int .u8 0, .int .u8 0, .int .u8 0, .int .u8 0, .int .u8 0, .int .u8 0, .int .u8 0, .int .u8 0, .int .u8 0, .int .u8 0, .int .u8 0, .int .u8 0, .int .u8 0, .int .u8 0, .int .u8 0, .int .u8 0, .int .u8 0, .int .u8 0, .int .u8 0, .int .u8 0, .slice none 0 0])) := by kernel_rfl
theorem zeroLin : (Try.prog.info? 147).map (·.zero) = some (some (.agg #[.int .u8 0, .int .u8 0, .int .u8 0, .int .u8 0, .int .u8 0, .int .u8 0, .int .u8 0, .int .u8 0, .int .u8 0, .int .u8 0, .int .u8 0, .int .u8 0, .int .u8 0, .int .u8 0, .int .u8 0, .int .u8 0, .int .i64 0, .int .i64 0, .slice none 0 0])) := by kernel_rfl
theorem built_ent (no n rep len : Int) (d : List Int) (hd : d.length = 32) : Try.prog.built 149 [(0, .int .i64 no), (1, .agg #[.int .i64 n, .int .i64 rep]), (2, .int .i64 len), (3, .agg (cells8 d))] = some (entC ⟨no, n, rep, len, d, []⟩ none 0).toArray := by
  obtain ⟨i, hi, hz0⟩ := Option.map_eq_some_iff.1 zeroEnt
  unfold Program.built
  have e0 : (Try.prog.info? 3).map (·.size) = some 1 := by kernel_rfl
  have e1 : (Try.prog.info? 96).map (·.size) = some 2 := by kernel_rfl
  have e3 : (Try.prog.info? 28).map (·.size) = some 32 := by kernel_rfl
  have e4 : (Try.prog.info? 22).map (·.size) = some 1 := by kernel_rfl
  obtain ⟨i0, hi0, hs0⟩ := Option.map_eq_some_iff.1 e0
  obtain ⟨i1, hi1, hs1⟩ := Option.map_eq_some_iff.1 e1
  obtain ⟨i3, hi3, hs3⟩ := Option.map_eq_some_iff.1 e3
  obtain ⟨i4, hi4, hs4⟩ := Option.map_eq_some_iff.1 e4
  rw [hi, Try.underlying149]
  simp only [hz0, List.mapM_cons, List.mapM_nil, hi0, hi1, hi3, hi4, Option.map_some, hs0, hs1, hs3, hs4, Option.pure_def, Option.bind_eq_bind, Option.bind_some]
  have := fill_some (([(0, 1), (1, 2), (3, 1), (4, 32), (36, 1)] : List (Nat × Nat)).toArray[·]?) [(0, .int .i64 no), (1, .agg #[.int .i64 n, .int .i64 rep]), (2, .int .i64 len), (3, .agg (cells8 d))] 0 #[.int .i64 0, .int .i64 0, .int .i64 0, .int .i64 0, .int .u8 0, .int .u8 0, .int .u8 0, .int .u8 0, .int .u8 0, .int .u8 0, .int .u8 0, .int .u8 0, .int .u8 0, .int .u8 0, .int .u8 0, .int .u8 0, .int .u8 0, .int .u8 0, .int .u8 0, .int .u8 0, .int .u8 0, .int .u8 0, .int .u8 0, .int .u8 0, .int .u8 0, .int .u8 0, .int .u8 0, .int .u8 0, .int .u8 0, .int .u8 0, .int .u8 0, .int .u8 0, .int .u8 0, .int .u8 0, .int .u8 0, .int .u8 0, .slice none 0 0] ⟨rfl, rfl, rfl, by simp [Value.cells, cells8, hd], trivial⟩ (by simp [partsL, Value.cells, cells8, hd])
  rw [show (Value.agg #[.int .i64 0, .int .i64 0, .int .i64 0, .int .i64 0, .int .u8 0, .int .u8 0, .int .u8 0, .int .u8 0, .int .u8 0, .int .u8 0, .int .u8 0, .int .u8 0, .int .u8 0, .int .u8 0, .int .u8 0, .int .u8 0, .int .u8 0, .int .u8 0, .int .u8 0, .int .u8 0, .int .u8 0, .int .u8 0, .int .u8 0, .int .u8 0, .int .u8 0, .int .u8 0, .int .u8 0, .int .u8 0, .int .u8 0, .int .u8 0, .int .u8 0, .int .u8 0, .int .u8 0, .int .u8 0, .int .u8 0, .int .u8 0, .slice none 0 0]).cells = #[.int .i64 0, .int .i64 0, .int .i64 0, .int .i64 0, .int .u8 0, .int .u8 0, .int .u8 0, .int .u8 0, .int .u8 0, .int .u8 0, .int .u8 0, .int .u8 0, .int .u8 0, .int .u8 0, .int .u8 0, .int .u8 0, .int .u8 0, .int .u8 0, .int .u8 0, .int .u8 0, .int .u8 0, .int .u8 0, .int .u8 0, .int .u8 0, .int .u8 0, .int .u8 0, .int .u8 0, .int .u8 0, .int .u8 0, .int .u8 0, .int .u8 0, .int .u8 0, .int .u8 0, .int .u8 0, .int .u8 0, .int .u8 0, .slice none 0 0] from rfl]
  refine Eq.trans this ?_
  simp [partsL, Value.cells, cells8, entC, nums, hd]
theorem built_lin (n rep : Int) (d : List Int) (hd : d.length = 16) : Try.prog.built 147 [(0, .agg (cells8 d)), (1, .agg #[.int .i64 n, .int .i64 rep])] = some (linC ⟨d, n, rep, []⟩ none 0).toArray := by
  obtain ⟨i, hi, hz0⟩ := Option.map_eq_some_iff.1 zeroLin
  unfold Program.built
  have e0 : (Try.prog.info? 94).map (·.size) = some 16 := by kernel_rfl
  have e1 : (Try.prog.info? 96).map (·.size) = some 2 := by kernel_rfl
  have e2 : (Try.prog.info? 145).map (·.size) = some 1 := by kernel_rfl
  obtain ⟨i0, hi0, hs0⟩ := Option.map_eq_some_iff.1 e0
  obtain ⟨i1, hi1, hs1⟩ := Option.map_eq_some_iff.1 e1
  obtain ⟨i2, hi2, hs2⟩ := Option.map_eq_some_iff.1 e2
  rw [hi, Try.underlying147]
  simp only [hz0, List.mapM_cons, List.mapM_nil, hi0, hi1, hi2, Option.map_some, hs0, hs1, hs2, Option.pure_def, Option.bind_eq_bind, Option.bind_some]
  have := fill_some (([(0, 16), (16, 2), (18, 1)] : List (Nat × Nat)).toArray[·]?) [(0, .agg (cells8 d)), (1, .agg #[.int .i64 n, .int .i64 rep])] 0 #[.int .u8 0, .int .u8 0, .int .u8 0, .int .u8 0, .int .u8 0, .int .u8 0, .int .u8 0, .int .u8 0, .int .u8 0, .int .u8 0, .int .u8 0, .int .u8 0, .int .u8 0, .int .u8 0, .int .u8 0, .int .u8 0, .int .i64 0, .int .i64 0, .slice none 0 0] ⟨by simp [Value.cells, cells8, hd], by simp [Value.cells, cells8, hd], trivial⟩ (by simp [partsL, Value.cells, cells8, hd])
  rw [show (Value.agg #[.int .u8 0, .int .u8 0, .int .u8 0, .int .u8 0, .int .u8 0, .int .u8 0, .int .u8 0, .int .u8 0, .int .u8 0, .int .u8 0, .int .u8 0, .int .u8 0, .int .u8 0, .int .u8 0, .int .u8 0, .int .u8 0, .int .i64 0, .int .i64 0, .slice none 0 0]).cells = #[.int .u8 0, .int .u8 0, .int .u8 0, .int .u8 0, .int .u8 0, .int .u8 0, .int .u8 0, .int .u8 0, .int .u8 0, .int .u8 0, .int .u8 0, .int .u8 0, .int .u8 0, .int .u8 0, .int .u8 0, .int .u8 0, .int .i64 0, .int .i64 0, .slice none 0 0] from rfl]
  refine Eq.trans this ?_
  simp [partsL, Value.cells, cells8, linC, nums, hd]
end Go.Proofs.Ytchaegfdcdlfaaa.X

namespace Go.Proofs.Ytchaegfdcdlfaaa.X
set_option linter.unusedVariables false
set_option linter.unusedSimpArgs false
open Go.RowKit Go.Proofs.YtchaegfdcdlfaaaW.PrintWords Go.Proofs.YtchaegfdcdlfaaaW.PrintLast Go.Proofs.YtchaegfdcdlfaaaW.PrintMore
open Go.Proofs.Ytchaegfdcdlfaaa.Y (Bytes RdB IsGet rdb_below rdb_drop rdb_take get_call Get_eq put put_length four four_call)
attribute [local go_sem] max2_int min2_int max_two min_two max_three min_three max_four min_four
theorem RrAt.set {W : World} {rr rb : Nat} {rs : Array Value} (h : RrAt W rr rb rs) {g : Nat} (hg : g ≠ rr) (j : Nat) (u : Value) : RrAt (W.setCell ⟨g, j, none⟩ u) rr rb rs := ⟨(Below.heap_setCell _ _ _ _ (by show rr ≠ g; omega)).trans h.1, h.2⟩
theorem RrAt.setRow {W : World} {rr rb : Nat} {rs : Array Value} (h : RrAt W rr rb rs) {g : Nat} (hg : g ≠ rr) (cs : Array Value) : RrAt (W.setRow g cs) rr rb rs := ⟨(setRow_other _ _ _ _ (by omega)).trans h.1, h.2⟩
theorem RrAt.other {W W1 : World} {rr rb : Nat} {rs : Array Value} (h : RrAt W rr rb rs) {row : Option Nat} (hg : W.grownBy W1 row) (hne : some rr ≠ row) : RrAt W1 rr rb rs := ⟨blk_grown h.1 hg hne, h.2⟩
structure EbSt (W0 w0 W : World) (rb rr : Nat) (rs : Array Value) (g2 g4 : Nat) (x : Ent) (s : Rd) : Prop where
  hrd : RdSt w0 W rb s
  hrr : RrAt W rr rb rs
  hgr : W0.grownBy W (some rb)
  z : W.heap[g2]? = some (.cells #[.int .i64 0, .int .i64 0, .int .i64 0, .int .i64 0, .int .u8 0, .int .u8 0, .int .u8 0, .int .u8 0, .int .u8 0, .int .u8 0, .int .u8 0, .int .u8 0, .int .u8 0, .int .u8 0, .int .u8 0, .int .u8 0, .int .u8 0, .int .u8 0, .int .u8 0, .int .u8 0, .int .u8 0, .int .u8 0, .int .u8 0, .int .u8 0, .int .u8 0, .int .u8 0, .int .u8 0, .int .u8 0, .int .u8 0, .int .u8 0, .int .u8 0, .int .u8 0, .int .u8 0, .int .u8 0, .int .u8 0, .int .u8 0, .slice none 0 0] 149 (0, 0))
  box : ∃ A c, W.heap[g4]? = some (.cells (entC x A c).toArray 149 (0, 0)) ∧ Kd.R sgK 30 W W0.heap.size (fun _ => True) (.slice A x.b.length c) x.b
  lo : W0.heap.size ≤ g2
  lo4 : W0.heap.size ≤ g4
  ne : g2 ≠ g4
  old : rb < W0.heap.size ∧ rr < W0.heap.size
  dig : x.d.length = 32
theorem entC_set {x : Ent} (h : x.d.length = 32) (A A2 : Option Addr) (c c2 : Nat) (b : List Sg) : (entC x A c).toArray.setIfInBounds 36 (.slice A2 b.length c2) = (entC {x with b := b} A2 c2).toArray := by
  rw [List.setIfInBounds_toArray]
  congr 1
  unfold entC
  simp only [List.set_cons_succ]
  rw [List.set_append_right _ _ (by simp [nums, h])]
  simp [nums, h]
theorem R_old {α : Type} {d : Kd α} {e base rb : Nat} {ok : Nat → Prop} {W W1 : World} {v : Value} {xs : List α} (h : d.R e W base ok v xs) (hg : W.grownBy W1 (some rb)) (hrb : rb < base) : d.R e W1 base ok v xs :=
  Kd.R_mono (Kd.R_grown (Kd.R_bound h) hg (fun k hk he => by injection he with he; have := hk.2.1; omega)) (fun _ hk => hk.1)
theorem R_row {α : Type} {d : Kd α} {e base : Nat} {ok : Nat → Prop} {W : World} {v : Value} {xs : List α} (h : d.R e W base ok v xs) {g t : Nat} {cells : Array Value} (hb : W.heap[g]? = some (.cells cells t (0, 0))) (ht : ∀ q, q ∈ e :: d.E → q ≠ t) (cs : Array Value) : d.R e (W.setRow g cs) base ok v xs :=
  Kd.R_mono (Kd.R_move (Kd.R_types h hb ht) (fun k hk => setRow_other _ _ _ _ hk.2)) (fun _ hk => hk.1)
theorem own_hi {α : Type} {d : Kd α} {e base : Nat} {ok : Nat → Prop} {W : World} {v : Value} {xs : List α} (h : d.R e W base ok v xs) (k : Nat) (hk : v.ownBlock = some k) : base ≤ k := by
  obtain ⟨inner, ho⟩ := Kd.R_own h
  exact own_base ho k hk
theorem sg_types (t : Nat) (ht : 30 ≠ t) : ∀ q, q ∈ 30 :: sgK.E → q ≠ t := fun q hq => by
  have : q = 30 := by simpa [sgK, Kd.pair, Kd.int, Kd.scalar, arrK] using hq
  omega
def EnQ (w0 W : World) (rb : Nat) (s : Rd) (e : Ending) (W' : World) : Prop :=
  ∃ A c, e = .returned (.agg (entC (entryR s).1 A c).toArray) ∧ Kd.R sgK 30 W' W.heap.size (fun _ => True) (.slice A (entryR s).1.b.length c) (entryR s).1.b ∧ RdSt w0 W' rb (entryR s).2 ∧ W.grownBy W' (some rb) ∧ (entryR s).1.d.length = 32
theorem en_done {W w0 Wl : World} {rb rr : Nat} {rs : Array Value} {g4 : Nat} {x : Ent} {s s' : Rd} (h : EbSt W w0 Wl rb rr rs W.heap.size g4 x s') (he : entryR s = (x, s')) (A : Option Addr) (c : Nat) (hR : Kd.R sgK 30 Wl W.heap.size (fun _ => True) (.slice A x.b.length c) x.b) :
    EnQ w0 W rb s (.returned (.agg (entC x A c).toArray)) (Wl.setRow W.heap.size (entC x A c).toArray) := by
  unfold EnQ
  rw [he]
  have h1 := h.old
  exact ⟨A, c, rfl, R_row hR h.z (sg_types 149 (by decide)) _, h.hrd.setRow (by omega) (by have := h.hrd.bel.size; have h2 := h.hrd.base; have h3 := h.lo; omega) _, grown_row h.hgr (Nat.le_refl _) _, h.dig⟩
set_option maxHeartbeats 8000000 in
set_option maxRecDepth 100000 in
theorem entrd_call (w0 W : World) (rb rr : Nat) (rs : Array Value) (s : Rd) (h : RdSt w0 W rb s) (hr : RrAt W rr rb rs) :
    Calls Try.prog 154 #[.pointer (some ⟨rr, 0, none⟩)] W (EnQ w0 W rb s) := by
  have H := Aside0.mk h
  have HLT := Aside0.mk h.lt
  have HLR := Aside0.mk hr.lt
  have HR := Aside0.mk (hr.below (below_alloc (Below.refl W.heap.size W) (.cells #[.int .i64 0, .int .i64 0, .int .i64 0, .int .i64 0, .int .u8 0, .int .u8 0, .int .u8 0, .int .u8 0, .int .u8 0, .int .u8 0, .int .u8 0, .int .u8 0, .int .u8 0, .int .u8 0, .int .u8 0, .int .u8 0, .int .u8 0, .int .u8 0, .int .u8 0, .int .u8 0, .int .u8 0, .int .u8 0, .int .u8 0, .int .u8 0, .int .u8 0, .int .u8 0, .int .u8 0, .int .u8 0, .int .u8 0, .int .u8 0, .int .u8 0, .int .u8 0, .int .u8 0, .int .u8 0, .int .u8 0, .int .u8 0, .slice none 0 0] 149)))
  have x0 := HR.out.cell
  clear h hr
  go_enter Try.func154, Try.ntmps154
  go_wp2_with fail
  refine (skip_call w0 _ rb s 1 true (H.out.below (below_alloc (Below.refl _ _) _)) (by decide)).mono ?_
  rintro e_ w2 ⟨⟨A2, c2, rfl, hc2, hr2⟩, hst2, hg2⟩
  obtain ⟨ad, hA, hat⟩ := rdb_at hr2 (by decide)
  subst hA
  obtain ⟨no, hno⟩ : ∃ no, (byteR s).1 = no := ⟨_, rfl⟩
  obtain ⟨s1, hs1⟩ : ∃ s1, (byteR s).2 = s1 := ⟨_, rfl⟩
  have hl1 : (skipR s 1 true).1.length = 1 := skipR_len s 1 true
  have hby : 0 ≤ no ∧ no ≤ 255 := by
    rw [← hno]
    have hb := skipR_byt H.out.byt 1 true
    have he := one_list hl1
    exact hb _ (by rw [he]; simp [byteR])
  have x1 : w2.cell? ad = some (.int .u8 no) := by
    have := hat 0 (.int .u8 no) (by
      rw [← hno]
      have he := one_list hl1
      rw [he]
      rfl)
    simpa [Addr.add] using this
  have hw1 : IntKind.i64.wrap no = no := by simp [IntKind.wrap, IntKind.bits, IntKind.signed]; omega
  have HS : Aside0 (RdSt w0 w2 rb s1) := ⟨hs1 ▸ hst2⟩
  have HRR := Aside0.mk (HR.out.grown hg2)
  have HZ := Aside0.mk (blk_grown (blk_new W (.cells #[.int .i64 0, .int .i64 0, .int .i64 0, .int .i64 0, .int .u8 0, .int .u8 0, .int .u8 0, .int .u8 0, .int .u8 0, .int .u8 0, .int .u8 0, .int .u8 0, .int .u8 0, .int .u8 0, .int .u8 0, .int .u8 0, .int .u8 0, .int .u8 0, .int .u8 0, .int .u8 0, .int .u8 0, .int .u8 0, .int .u8 0, .int .u8 0, .int .u8 0, .int .u8 0, .int .u8 0, .int .u8 0, .int .u8 0, .int .u8 0, .int .u8 0, .int .u8 0, .int .u8 0, .int .u8 0, .int .u8 0, .int .u8 0, .slice none 0 0] 149)) hg2 (fun he => by injection he with he; have := HLT.out; omega))
  have HG := Aside0.mk ((World.grownBy_alloc W (.cells #[.int .i64 0, .int .i64 0, .int .i64 0, .int .i64 0, .int .u8 0, .int .u8 0, .int .u8 0, .int .u8 0, .int .u8 0, .int .u8 0, .int .u8 0, .int .u8 0, .int .u8 0, .int .u8 0, .int .u8 0, .int .u8 0, .int .u8 0, .int .u8 0, .int .u8 0, .int .u8 0, .int .u8 0, .int .u8 0, .int .u8 0, .int .u8 0, .int .u8 0, .int .u8 0, .int .u8 0, .int .u8 0, .int .u8 0, .int .u8 0, .int .u8 0, .int .u8 0, .int .u8 0, .int .u8 0, .int .u8 0, .int .u8 0, .slice none 0 0] 149) (some rb)).trans hg2)
  have HNO := Aside0.mk hno
  have HS1 := Aside0.mk hs1
  clear hst2 hg2 hc2 hr2 hat hl1 hno hs1 hby x0
  go_wp2_with fail
  refine cut_region (fun a W5 => ∃ (sn sr : Int) (ln : Nat) (d : List Int) (s4 : Rd) (g4 : Nat) (u1 u5 u6 u7 u8 u9 u10 u11 u12 u13 u14 u15 u16 u17 u18 u19 u20 u21 u22 u23 u24 u25 u26 u27 u28 u29 u30 u31 u32 u33 u34 u35 u36 u37 u38 u39 u40 u41 u42 u43 u44 u45 u46 u47 : Value), a = ⟨#[.pointer (some ⟨rr, 0, none⟩), u1, .pointer (some ⟨W.heap.size, 0, none⟩), .int .i64 no, .pointer (some ⟨g4, 0, none⟩), u5, u6, u7, u8, u9, u10, u11, u12, u13, u14, u15, u16, u17, u18, u19, u20, u21, u22, u23, u24, u25, u26, u27, u28, u29, u30, u31, u32, u33, u34, u35, u36, u37, u38, u39, u40, u41, u42, u43, u44, u45, u46, u47], []⟩ ∧ EbSt W w0 W5 rb rr rs W.heap.size g4 ⟨no, sn, sr, ln, d, []⟩ s4 ∧ ln ≤ 200 ∧ entryR s = (⟨no, sn, sr, ln, d, (itR blockR (blkM ln).toNat s4).1⟩, (itR blockR (blkM ln).toNat s4).2)) ?_ ?_
  case refine_1 =>
    have HS := Aside0.mk (HS.out.below (below_drew (Below.refl w2.heap.size w2)))
    have HG := Aside0.mk (grown_drew HG.out)
    have HZ : Aside0 (w2.drew.heap[W.heap.size]? = some (.cells #[.int .i64 0, .int .i64 0, .int .i64 0, .int .i64 0, .int .u8 0, .int .u8 0, .int .u8 0, .int .u8 0, .int .u8 0, .int .u8 0, .int .u8 0, .int .u8 0, .int .u8 0, .int .u8 0, .int .u8 0, .int .u8 0, .int .u8 0, .int .u8 0, .int .u8 0, .int .u8 0, .int .u8 0, .int .u8 0, .int .u8 0, .int .u8 0, .int .u8 0, .int .u8 0, .int .u8 0, .int .u8 0, .int .u8 0, .int .u8 0, .int .u8 0, .int .u8 0, .int .u8 0, .int .u8 0, .int .u8 0, .int .u8 0, .slice none 0 0] 149 (0, 0))) := ⟨HZ.out⟩
    refine wp_region_held_drew (S := (fun W => RrAt W rr rb rs)) (by kernel_rfl) (HRR.out.below (below_drew (Below.refl _ _))) (fun hHeld => ?_)
    have HRR := Aside0.mk (HRR.out.below (below_drew (Below.refl w2.heap.size w2)))
    refine tq (i := 0) (v := ?_) ?hy ?_
    case hy => (intro W_ hW_; go_simp; first | done | with_reducible rfl)
    try simp only [Act.put, List.setIfInBounds_toArray, List.set_cons_zero, List.set_cons_succ]
    refine tq (i := 1) (v := ?_) ?hy ?_
    case hy => (intro W_ hW_; go_simp; first | done | with_reducible rfl)
    try simp only [Act.put, List.setIfInBounds_toArray, List.set_cons_zero, List.set_cons_succ]
    refine tq (i := 2) (v := ?_) ?hy ?_
    case hy => (intro W_ hW_; go_simp; first | done | with_reducible rfl)
    try simp only [Act.put, List.setIfInBounds_toArray, List.set_cons_zero, List.set_cons_succ]
    refine tq (i := 3) (v := ?_) ?hy ?_
    case hy => (intro W_ hW_; go_simp; first | done | with_reducible rfl)
    try simp only [Act.put, List.setIfInBounds_toArray, List.set_cons_zero, List.set_cons_succ]
    refine tq (i := 4) (v := ?_) ?hy ?_
    case hy => (intro W_ hW_; have f0 := hW_.cell; go_simp; first | done | with_reducible rfl)
    try simp only [Act.put, List.setIfInBounds_toArray, List.set_cons_zero, List.set_cons_succ]
    refine tq (i := 6) (v := ?_) ?hy ?_
    case hy => (intro W_ hW_; go_simp; first | done | with_reducible rfl)
    try simp only [Act.put, List.setIfInBounds_toArray, List.set_cons_zero, List.set_cons_succ]
    refine tq (i := 7) (v := ?_) ?hy ?_
    case hy => (intro W_ hW_; go_simp; first | done | with_reducible rfl)
    try simp only [Act.put, List.setIfInBounds_toArray, List.set_cons_zero, List.set_cons_succ]
    refine tq (i := 8) (v := ?_) ?hy ?_
    case hy => (intro W_ hW_; go_simp; first | done | with_reducible rfl)
    try simp only [Act.put, List.setIfInBounds_toArray, List.set_cons_zero, List.set_cons_succ]
    refine tq (i := 9) (v := ?_) ?hy ?_
    case hy => (intro W_ hW_; have f0 := hW_.cell; go_simp; first | done | with_reducible rfl)
    try simp only [Act.put, List.setIfInBounds_toArray, List.set_cons_zero, List.set_cons_succ]
    refine tq (i := 11) (v := ?_) ?hy ?_
    case hy => (intro W_ hW_; go_simp; first | done | with_reducible rfl)
    try simp only [Act.put, List.setIfInBounds_toArray, List.set_cons_zero, List.set_cons_succ]
    refine tq (i := 12) (v := ?_) ?hy ?_
    case hy => (intro W_ hW_; go_simp; first | done | with_reducible rfl)
    try simp only [Act.put, List.setIfInBounds_toArray, List.set_cons_zero, List.set_cons_succ]
    refine tq (i := 13) (v := ?_) ?hy ?_
    case hy => (intro W_ hW_; go_simp; first | done | with_reducible rfl)
    try simp only [Act.put, List.setIfInBounds_toArray, List.set_cons_zero, List.set_cons_succ]
    refine tq (i := 14) (v := ?_) ?hy ?_
    case hy => (intro W_ hW_; have f0 := hW_.cell; go_simp; first | done | with_reducible rfl)
    try simp only [Act.put, List.setIfInBounds_toArray, List.set_cons_zero, List.set_cons_succ]
    refine wpAnyH_ready (rs := [5, 17]) (by kernel_rfl) (by simp) ?_
    refine AllReadyH.cons (by simp only [List.getElem?_toArray, List.getElem?_cons_succ, List.getElem?_cons_zero]; rfl) (fun K hK => ?b2_o_5) (AllReadyH.cons (by simp only [List.getElem?_toArray, List.getElem?_cons_succ, List.getElem?_cons_zero]; rfl) (fun K hK => ?b2_o_17) AllReadyH.nil)
    case' b2_o_5 =>
      rw [if_pos (by rfl)]
      go_wp2_with fail
      refine (strd_call w0 _ rb s1 HS.out).mono ?_
      rintro e_ w3 ⟨rfl, hst3, hg3⟩
      refine hK.out _ _ (hHeld.grown hg3) (fun hHeld2 => ?_)
      clear hK K hHeld
      have hHeld := hHeld2
      clear hHeld2
      try simp only [Act.put, List.setIfInBounds_toArray, List.set_cons_zero, List.set_cons_succ]
      obtain ⟨sn, hsn⟩ : ∃ sn, (stR s1).1.1 = sn := ⟨_, rfl⟩
      obtain ⟨sr, hsr⟩ : ∃ sr, (stR s1).1.2 = sr := ⟨_, rfl⟩
      obtain ⟨s2, hs2⟩ : ∃ s2, (stR s1).2 = s2 := ⟨_, rfl⟩
      rw [hsn, hsr]
      have HSN := Aside0.mk (And.intro hsn hsr)
      have HS2 := Aside0.mk hs2
      have HS : Aside0 (RdSt w0 w3 rb s2) := ⟨hs2 ▸ hst3⟩
      have HRR := Aside0.mk (HRR.out.grown hg3)
      have HZ := Aside0.mk (blk_grown HZ.out hg3 (fun he => by injection he with he; have := HLT.out; omega))
      have HG := Aside0.mk (HG.out.trans hg3)
      clear hst3 hg3 hsn hsr hs2
      refine wpAnyH_ready (rs := [10, 17]) (by kernel_rfl) (by simp) ?_
      refine AllReadyH.cons (by simp only [List.getElem?_toArray, List.getElem?_cons_succ, List.getElem?_cons_zero]; rfl) (fun K hK => ?b2_5_10) (AllReadyH.cons (by simp only [List.getElem?_toArray, List.getElem?_cons_succ, List.getElem?_cons_zero]; rfl) (fun K hK => ?b2_5_17) AllReadyH.nil)
      case' b2_5_10 =>
        rw [if_pos (by rfl)]
        go_wp2_with fail
        refine (num_call w0 _ rb s2 200 HS.out (by decide) (by decide)).mono ?_
        rintro e_ w4 ⟨rfl, hst4, hg4⟩
        refine hK.out _ _ (hHeld.grown hg4) (fun hHeld2 => ?_)
        clear hK K hHeld
        have hHeld := hHeld2
        clear hHeld2
        try simp only [Act.put, List.setIfInBounds_toArray, List.set_cons_zero, List.set_cons_succ]
        have hrg := numR_range 200 (by decide) s2 HS.out.byt HS.out.len
        obtain ⟨ln, hln⟩ : ∃ ln : Nat, (numR 200 s2).1 = (ln : Int) := ⟨(numR 200 s2).1.toNat, by omega⟩
        have HLE : Aside0 (ln ≤ 200) := ⟨by omega⟩
        obtain ⟨s3, hs3⟩ : ∃ s3, (numR 200 s2).2 = s3 := ⟨_, rfl⟩
        rw [hln]
        have HLN := Aside0.mk hln
        have HS3 := Aside0.mk hs3
        have HS : Aside0 (RdSt w0 w4 rb s3) := ⟨hs3 ▸ hst4⟩
        have HRR := Aside0.mk (HRR.out.grown hg4)
        have HZ := Aside0.mk (blk_grown HZ.out hg4 (fun he => by injection he with he; have := HLT.out; omega))
        have HG := Aside0.mk (HG.out.trans hg4)
        clear hst4 hg4 hln hs3 hrg
        refine wpAnyH_ready (rs := [15, 17]) (by kernel_rfl) (by simp) ?_
        refine AllReadyH.cons (by simp only [List.getElem?_toArray, List.getElem?_cons_succ, List.getElem?_cons_zero]; rfl) (fun K hK => ?b2_5x10_15) (AllReadyH.cons (by simp only [List.getElem?_toArray, List.getElem?_cons_succ, List.getElem?_cons_zero]; rfl) (fun K hK => ?b2_5x10_17) AllReadyH.nil)
        case' b2_5x10_15 =>
          rw [if_pos (by rfl)]
          go_wp2_with fail
          refine (dig_call w0 _ rb s3 HS.out).mono ?_
          rintro e_ w5 ⟨rfl, hst5, hg5⟩
          refine hK.out _ _ (hHeld.grown hg5) (fun hHeld2 => ?_)
          clear hK K hHeld
          have hHeld := hHeld2
          clear hHeld2
          try simp only [Act.put, List.setIfInBounds_toArray, List.set_cons_zero, List.set_cons_succ]
          obtain ⟨d, hd⟩ : ∃ d, (takeR 32 s3).1 = d := ⟨_, rfl⟩
          obtain ⟨s4, hs4⟩ : ∃ s4, (takeR 32 s3).2 = s4 := ⟨_, rfl⟩
          rw [hd]
          have HD32 : Aside0 (d.length = 32) := ⟨by rw [← hd]; exact skipR_len _ 32 true⟩
          have HDD := Aside0.mk hd
          have HS4 := Aside0.mk hs4
          have HS : Aside0 (RdSt w0 w5 rb s4) := ⟨hs4 ▸ hst5⟩
          have HBU := Aside0.mk (built_ent no sn sr ln d HD32.out)
          have HRR := Aside0.mk (HRR.out.grown hg5)
          have HZ := Aside0.mk (blk_grown HZ.out hg5 (fun he => by injection he with he; have := HLT.out; omega))
          have HG := Aside0.mk (HG.out.trans hg5)
          clear hst5 hg5 hd hs4
          refine tq (i := 16) (v := ?_) ?hy ?_
          case hy => (intro W_ hW_; refine Eq.trans (exec_build_cells 149 #[(0, .tmp 13), (1, .tmp 18), (2, .tmp 23), (3, .tmp 28)] ?_ (entC ⟨no, sn, sr, ln, d, []⟩ none 0).toArray ?_) ?_ <;> first | with_reducible rfl | rfl | (simp only [List.map_toArray, List.map_cons, List.map_nil]; exact HBU.out))
          try simp only [Act.put, List.setIfInBounds_toArray, List.set_cons_zero, List.set_cons_succ]
          refine wpAnyH_ready (rs := [17]) (by kernel_rfl) (by simp) ?_
          refine AllReadyH.cons (by simp only [List.getElem?_toArray, List.getElem?_cons_succ, List.getElem?_cons_zero]; rfl) (fun K hK => ?_) AllReadyH.nil
          rw [if_pos (by rfl)]
          go_wp2_with fail
          refine hK.out _ _ (hHeld.below (below_alloc (Below.refl _ _) _)) (fun hHeld2 => ?_)
          clear hK K hHeld
          have hHeld := hHeld2
          clear hHeld2
          try simp only [Act.put, List.setIfInBounds_toArray, List.set_cons_zero, List.set_cons_succ]
          have HX4 : Aside0 ((w5.alloc (.cells #[.int .i64 0, .int .i64 0, .int .i64 0, .int .i64 0, .int .u8 0, .int .u8 0, .int .u8 0, .int .u8 0, .int .u8 0, .int .u8 0, .int .u8 0, .int .u8 0, .int .u8 0, .int .u8 0, .int .u8 0, .int .u8 0, .int .u8 0, .int .u8 0, .int .u8 0, .int .u8 0, .int .u8 0, .int .u8 0, .int .u8 0, .int .u8 0, .int .u8 0, .int .u8 0, .int .u8 0, .int .u8 0, .int .u8 0, .int .u8 0, .int .u8 0, .int .u8 0, .int .u8 0, .int .u8 0, .int .u8 0, .int .u8 0, .slice none 0 0] 149)).heap[w5.heap.size]? = some (.cells #[.int .i64 0, .int .i64 0, .int .i64 0, .int .i64 0, .int .u8 0, .int .u8 0, .int .u8 0, .int .u8 0, .int .u8 0, .int .u8 0, .int .u8 0, .int .u8 0, .int .u8 0, .int .u8 0, .int .u8 0, .int .u8 0, .int .u8 0, .int .u8 0, .int .u8 0, .int .u8 0, .int .u8 0, .int .u8 0, .int .u8 0, .int .u8 0, .int .u8 0, .int .u8 0, .int .u8 0, .int .u8 0, .int .u8 0, .int .u8 0, .int .u8 0, .int .u8 0, .int .u8 0, .int .u8 0, .int .u8 0, .int .u8 0, .slice none 0 0] 149 (0, 0))) := ⟨blk_new _ _⟩
          have HN4 : Aside0 (W.heap.size ≤ w5.heap.size ∧ W.heap.size ≠ w5.heap.size) := ⟨HG.out.size, Nat.ne_of_lt (by have := blk_lt HZ.out; exact this)⟩
          have HS := Aside0.mk (HS.out.below (below_alloc (Below.refl _ _) (.cells #[.int .i64 0, .int .i64 0, .int .i64 0, .int .i64 0, .int .u8 0, .int .u8 0, .int .u8 0, .int .u8 0, .int .u8 0, .int .u8 0, .int .u8 0, .int .u8 0, .int .u8 0, .int .u8 0, .int .u8 0, .int .u8 0, .int .u8 0, .int .u8 0, .int .u8 0, .int .u8 0, .int .u8 0, .int .u8 0, .int .u8 0, .int .u8 0, .int .u8 0, .int .u8 0, .int .u8 0, .int .u8 0, .int .u8 0, .int .u8 0, .int .u8 0, .int .u8 0, .int .u8 0, .int .u8 0, .int .u8 0, .int .u8 0, .slice none 0 0] 149)))
          have HRR := Aside0.mk (HRR.out.below (below_alloc (Below.refl _ _) (.cells #[.int .i64 0, .int .i64 0, .int .i64 0, .int .i64 0, .int .u8 0, .int .u8 0, .int .u8 0, .int .u8 0, .int .u8 0, .int .u8 0, .int .u8 0, .int .u8 0, .int .u8 0, .int .u8 0, .int .u8 0, .int .u8 0, .int .u8 0, .int .u8 0, .int .u8 0, .int .u8 0, .int .u8 0, .int .u8 0, .int .u8 0, .int .u8 0, .int .u8 0, .int .u8 0, .int .u8 0, .int .u8 0, .int .u8 0, .int .u8 0, .int .u8 0, .int .u8 0, .int .u8 0, .int .u8 0, .int .u8 0, .int .u8 0, .slice none 0 0] 149)))
          have HG := Aside0.mk (HG.out.trans (grown_of_below (below_alloc (Below.refl _ _) (.cells #[.int .i64 0, .int .i64 0, .int .i64 0, .int .i64 0, .int .u8 0, .int .u8 0, .int .u8 0, .int .u8 0, .int .u8 0, .int .u8 0, .int .u8 0, .int .u8 0, .int .u8 0, .int .u8 0, .int .u8 0, .int .u8 0, .int .u8 0, .int .u8 0, .int .u8 0, .int .u8 0, .int .u8 0, .int .u8 0, .int .u8 0, .int .u8 0, .int .u8 0, .int .u8 0, .int .u8 0, .int .u8 0, .int .u8 0, .int .u8 0, .int .u8 0, .int .u8 0, .int .u8 0, .int .u8 0, .int .u8 0, .int .u8 0, .slice none 0 0] 149)) (some rb)))
          have HZ := Aside0.mk (blk_below HZ.out (below_alloc (Below.refl _ _) (.cells #[.int .i64 0, .int .i64 0, .int .i64 0, .int .i64 0, .int .u8 0, .int .u8 0, .int .u8 0, .int .u8 0, .int .u8 0, .int .u8 0, .int .u8 0, .int .u8 0, .int .u8 0, .int .u8 0, .int .u8 0, .int .u8 0, .int .u8 0, .int .u8 0, .int .u8 0, .int .u8 0, .int .u8 0, .int .u8 0, .int .u8 0, .int .u8 0, .int .u8 0, .int .u8 0, .int .u8 0, .int .u8 0, .int .u8 0, .int .u8 0, .int .u8 0, .int .u8 0, .int .u8 0, .int .u8 0, .int .u8 0, .int .u8 0, .slice none 0 0] 149)))
          refine wpAnyH_ready (rs := [18]) (by kernel_rfl) (by simp) ?_
          refine AllReadyH.cons (by simp only [List.getElem?_toArray, List.getElem?_cons_succ, List.getElem?_cons_zero]; rfl) (fun K hK => ?_) AllReadyH.nil
          rw [if_pos (by rfl)]
          obtain ⟨cs, hcs⟩ : ∃ cs, (entC ⟨no, sn, sr, ln, d, []⟩ none 0).toArray = cs := ⟨_, rfl⟩
          have hsz : cs.size = 37 := by rw [← hcs, List.size_toArray]; exact entC_len HD32.out none 0
          have hst := storeA (g := w5.heap.size) (cs := cs) HX4.out (by rw [hsz]; rfl) (by rw [← hcs]; exact entC_one _ _ _)
          try rw [hcs]
          go_wp2_with fail
          refine hK.out _ _ (hHeld.setRow (g := w5.heap.size) (by have := HN4.out; have := HLR.out; omega) _) (fun hHeld2 => ?_)
          clear hK K hHeld
          have hHeld := hHeld2
          clear hHeld2
          try simp only [Act.put, List.setIfInBounds_toArray, List.set_cons_zero, List.set_cons_succ]
          have hce : some (Obj.cells cs 149 (0, 0)) = some (Obj.cells (entC ⟨no, sn, sr, ln, d, []⟩ none 0).toArray 149 (0, 0)) := by rw [hcs]
          have HX4 := Aside0.mk ((setRow_heap _ _ _ cs _ _ HX4.out).trans hce)
          have HS := Aside0.mk (HS.out.setRow (g := w5.heap.size) (by have := HN4.out; have := HLT.out; omega) (Nat.le_trans H.out.bel.size HN4.out.1) cs)
          have HRR := Aside0.mk (HRR.out.setRow (g := w5.heap.size) (by have := HN4.out; have := HLR.out; omega) cs)
          have HG := Aside0.mk (grown_row HG.out HN4.out.1 cs)
          have HZ := Aside0.mk ((setRow_other _ _ _ cs HN4.out.2).trans HZ.out)
          clear hst hsz hcs hce
          refine wpAnyH_done (by kernel_rfl) ?_ _
          obtain ⟨g4, hg4⟩ : ∃ g4 : Nat, g4 = w5.heap.size := ⟨_, rfl⟩
          rw [← hg4] at HX4 HN4 HS HRR HG HZ ⊢
          clear hg4
        case' b2_5x10_17 =>
          rw [if_pos (by rfl)]
          go_wp2_with fail
          refine hK.out _ _ (hHeld.below (below_alloc (Below.refl _ _) _)) (fun hHeld2 => ?_)
          clear hK K hHeld
          have hHeld := hHeld2
          clear hHeld2
          try simp only [Act.put, List.setIfInBounds_toArray, List.set_cons_zero, List.set_cons_succ]
          have HX4 : Aside0 ((w4.alloc (.cells #[.int .i64 0, .int .i64 0, .int .i64 0, .int .i64 0, .int .u8 0, .int .u8 0, .int .u8 0, .int .u8 0, .int .u8 0, .int .u8 0, .int .u8 0, .int .u8 0, .int .u8 0, .int .u8 0, .int .u8 0, .int .u8 0, .int .u8 0, .int .u8 0, .int .u8 0, .int .u8 0, .int .u8 0, .int .u8 0, .int .u8 0, .int .u8 0, .int .u8 0, .int .u8 0, .int .u8 0, .int .u8 0, .int .u8 0, .int .u8 0, .int .u8 0, .int .u8 0, .int .u8 0, .int .u8 0, .int .u8 0, .int .u8 0, .slice none 0 0] 149)).heap[w4.heap.size]? = some (.cells #[.int .i64 0, .int .i64 0, .int .i64 0, .int .i64 0, .int .u8 0, .int .u8 0, .int .u8 0, .int .u8 0, .int .u8 0, .int .u8 0, .int .u8 0, .int .u8 0, .int .u8 0, .int .u8 0, .int .u8 0, .int .u8 0, .int .u8 0, .int .u8 0, .int .u8 0, .int .u8 0, .int .u8 0, .int .u8 0, .int .u8 0, .int .u8 0, .int .u8 0, .int .u8 0, .int .u8 0, .int .u8 0, .int .u8 0, .int .u8 0, .int .u8 0, .int .u8 0, .int .u8 0, .int .u8 0, .int .u8 0, .int .u8 0, .slice none 0 0] 149 (0, 0))) := ⟨blk_new _ _⟩
          have HN4 : Aside0 (W.heap.size ≤ w4.heap.size ∧ W.heap.size ≠ w4.heap.size) := ⟨HG.out.size, Nat.ne_of_lt (by have := blk_lt HZ.out; exact this)⟩
          have HS := Aside0.mk (HS.out.below (below_alloc (Below.refl _ _) (.cells #[.int .i64 0, .int .i64 0, .int .i64 0, .int .i64 0, .int .u8 0, .int .u8 0, .int .u8 0, .int .u8 0, .int .u8 0, .int .u8 0, .int .u8 0, .int .u8 0, .int .u8 0, .int .u8 0, .int .u8 0, .int .u8 0, .int .u8 0, .int .u8 0, .int .u8 0, .int .u8 0, .int .u8 0, .int .u8 0, .int .u8 0, .int .u8 0, .int .u8 0, .int .u8 0, .int .u8 0, .int .u8 0, .int .u8 0, .int .u8 0, .int .u8 0, .int .u8 0, .int .u8 0, .int .u8 0, .int .u8 0, .int .u8 0, .slice none 0 0] 149)))
          have HRR := Aside0.mk (HRR.out.below (below_alloc (Below.refl _ _) (.cells #[.int .i64 0, .int .i64 0, .int .i64 0, .int .i64 0, .int .u8 0, .int .u8 0, .int .u8 0, .int .u8 0, .int .u8 0, .int .u8 0, .int .u8 0, .int .u8 0, .int .u8 0, .int .u8 0, .int .u8 0, .int .u8 0, .int .u8 0, .int .u8 0, .int .u8 0, .int .u8 0, .int .u8 0, .int .u8 0, .int .u8 0, .int .u8 0, .int .u8 0, .int .u8 0, .int .u8 0, .int .u8 0, .int .u8 0, .int .u8 0, .int .u8 0, .int .u8 0, .int .u8 0, .int .u8 0, .int .u8 0, .int .u8 0, .slice none 0 0] 149)))
          have HG := Aside0.mk (HG.out.trans (grown_of_below (below_alloc (Below.refl _ _) (.cells #[.int .i64 0, .int .i64 0, .int .i64 0, .int .i64 0, .int .u8 0, .int .u8 0, .int .u8 0, .int .u8 0, .int .u8 0, .int .u8 0, .int .u8 0, .int .u8 0, .int .u8 0, .int .u8 0, .int .u8 0, .int .u8 0, .int .u8 0, .int .u8 0, .int .u8 0, .int .u8 0, .int .u8 0, .int .u8 0, .int .u8 0, .int .u8 0, .int .u8 0, .int .u8 0, .int .u8 0, .int .u8 0, .int .u8 0, .int .u8 0, .int .u8 0, .int .u8 0, .int .u8 0, .int .u8 0, .int .u8 0, .int .u8 0, .slice none 0 0] 149)) (some rb)))
          have HZ := Aside0.mk (blk_below HZ.out (below_alloc (Below.refl _ _) (.cells #[.int .i64 0, .int .i64 0, .int .i64 0, .int .i64 0, .int .u8 0, .int .u8 0, .int .u8 0, .int .u8 0, .int .u8 0, .int .u8 0, .int .u8 0, .int .u8 0, .int .u8 0, .int .u8 0, .int .u8 0, .int .u8 0, .int .u8 0, .int .u8 0, .int .u8 0, .int .u8 0, .int .u8 0, .int .u8 0, .int .u8 0, .int .u8 0, .int .u8 0, .int .u8 0, .int .u8 0, .int .u8 0, .int .u8 0, .int .u8 0, .int .u8 0, .int .u8 0, .int .u8 0, .int .u8 0, .int .u8 0, .int .u8 0, .slice none 0 0] 149)))
          refine wpAnyH_ready (rs := [15]) (by kernel_rfl) (by simp) ?_
          refine AllReadyH.cons (by simp only [List.getElem?_toArray, List.getElem?_cons_succ, List.getElem?_cons_zero]; rfl) (fun K hK => ?_) AllReadyH.nil
          rw [if_pos (by rfl)]
          go_wp2_with fail
          refine (dig_call w0 _ rb s3 HS.out).mono ?_
          rintro e_ w5 ⟨rfl, hst5, hg5⟩
          refine hK.out _ _ (hHeld.grown hg5) (fun hHeld2 => ?_)
          clear hK K hHeld
          have hHeld := hHeld2
          clear hHeld2
          try simp only [Act.put, List.setIfInBounds_toArray, List.set_cons_zero, List.set_cons_succ]
          obtain ⟨d, hd⟩ : ∃ d, (takeR 32 s3).1 = d := ⟨_, rfl⟩
          obtain ⟨s4, hs4⟩ : ∃ s4, (takeR 32 s3).2 = s4 := ⟨_, rfl⟩
          rw [hd]
          have HD32 : Aside0 (d.length = 32) := ⟨by rw [← hd]; exact skipR_len _ 32 true⟩
          have HDD := Aside0.mk hd
          have HS4 := Aside0.mk hs4
          have HS : Aside0 (RdSt w0 w5 rb s4) := ⟨hs4 ▸ hst5⟩
          have HBU := Aside0.mk (built_ent no sn sr ln d HD32.out)
          have HRR := Aside0.mk (HRR.out.grown hg5)
          have HZ := Aside0.mk (blk_grown HZ.out hg5 (fun he => by injection he with he; have := HLT.out; omega))
          have HX4 := Aside0.mk (blk_grown HX4.out hg5 (fun he => by injection he with he; have := HLT.out; have h4 := HN4.out; omega))
          have HG := Aside0.mk (HG.out.trans hg5)
          clear hst5 hg5 hd hs4
          refine tq (i := 16) (v := ?_) ?hy ?_
          case hy => (intro W_ hW_; refine Eq.trans (exec_build_cells 149 #[(0, .tmp 13), (1, .tmp 18), (2, .tmp 23), (3, .tmp 28)] ?_ (entC ⟨no, sn, sr, ln, d, []⟩ none 0).toArray ?_) ?_ <;> first | with_reducible rfl | rfl | (simp only [List.map_toArray, List.map_cons, List.map_nil]; exact HBU.out))
          try simp only [Act.put, List.setIfInBounds_toArray, List.set_cons_zero, List.set_cons_succ]
          refine wpAnyH_ready (rs := [18]) (by kernel_rfl) (by simp) ?_
          refine AllReadyH.cons (by simp only [List.getElem?_toArray, List.getElem?_cons_succ, List.getElem?_cons_zero]; rfl) (fun K hK => ?_) AllReadyH.nil
          rw [if_pos (by rfl)]
          obtain ⟨cs, hcs⟩ : ∃ cs, (entC ⟨no, sn, sr, ln, d, []⟩ none 0).toArray = cs := ⟨_, rfl⟩
          have hsz : cs.size = 37 := by rw [← hcs, List.size_toArray]; exact entC_len HD32.out none 0
          have hst := storeA (g := w4.heap.size) (cs := cs) HX4.out (by rw [hsz]; rfl) (by rw [← hcs]; exact entC_one _ _ _)
          try rw [hcs]
          go_wp2_with fail
          refine hK.out _ _ (hHeld.setRow (g := w4.heap.size) (by have := HN4.out; have := HLR.out; omega) _) (fun hHeld2 => ?_)
          clear hK K hHeld
          have hHeld := hHeld2
          clear hHeld2
          try simp only [Act.put, List.setIfInBounds_toArray, List.set_cons_zero, List.set_cons_succ]
          have hce : some (Obj.cells cs 149 (0, 0)) = some (Obj.cells (entC ⟨no, sn, sr, ln, d, []⟩ none 0).toArray 149 (0, 0)) := by rw [hcs]
          have HX4 := Aside0.mk ((setRow_heap _ _ _ cs _ _ HX4.out).trans hce)
          have HS := Aside0.mk (HS.out.setRow (g := w4.heap.size) (by have := HN4.out; have := HLT.out; omega) (Nat.le_trans H.out.bel.size HN4.out.1) cs)
          have HRR := Aside0.mk (HRR.out.setRow (g := w4.heap.size) (by have := HN4.out; have := HLR.out; omega) cs)
          have HG := Aside0.mk (grown_row HG.out HN4.out.1 cs)
          have HZ := Aside0.mk ((setRow_other _ _ _ cs HN4.out.2).trans HZ.out)
          clear hst hsz hcs hce
          refine wpAnyH_done (by kernel_rfl) ?_ _
          obtain ⟨g4, hg4⟩ : ∃ g4 : Nat, g4 = w4.heap.size := ⟨_, rfl⟩
          rw [← hg4] at HX4 HN4 HS HRR HG HZ ⊢
          clear hg4
      case' b2_5_17 =>
        rw [if_pos (by rfl)]
        go_wp2_with fail
        refine hK.out _ _ (hHeld.below (below_alloc (Below.refl _ _) _)) (fun hHeld2 => ?_)
        clear hK K hHeld
        have hHeld := hHeld2
        clear hHeld2
        try simp only [Act.put, List.setIfInBounds_toArray, List.set_cons_zero, List.set_cons_succ]
        have HX4 : Aside0 ((w3.alloc (.cells #[.int .i64 0, .int .i64 0, .int .i64 0, .int .i64 0, .int .u8 0, .int .u8 0, .int .u8 0, .int .u8 0, .int .u8 0, .int .u8 0, .int .u8 0, .int .u8 0, .int .u8 0, .int .u8 0, .int .u8 0, .int .u8 0, .int .u8 0, .int .u8 0, .int .u8 0, .int .u8 0, .int .u8 0, .int .u8 0, .int .u8 0, .int .u8 0, .int .u8 0, .int .u8 0, .int .u8 0, .int .u8 0, .int .u8 0, .int .u8 0, .int .u8 0, .int .u8 0, .int .u8 0, .int .u8 0, .int .u8 0, .int .u8 0, .slice none 0 0] 149)).heap[w3.heap.size]? = some (.cells #[.int .i64 0, .int .i64 0, .int .i64 0, .int .i64 0, .int .u8 0, .int .u8 0, .int .u8 0, .int .u8 0, .int .u8 0, .int .u8 0, .int .u8 0, .int .u8 0, .int .u8 0, .int .u8 0, .int .u8 0, .int .u8 0, .int .u8 0, .int .u8 0, .int .u8 0, .int .u8 0, .int .u8 0, .int .u8 0, .int .u8 0, .int .u8 0, .int .u8 0, .int .u8 0, .int .u8 0, .int .u8 0, .int .u8 0, .int .u8 0, .int .u8 0, .int .u8 0, .int .u8 0, .int .u8 0, .int .u8 0, .int .u8 0, .slice none 0 0] 149 (0, 0))) := ⟨blk_new _ _⟩
        have HN4 : Aside0 (W.heap.size ≤ w3.heap.size ∧ W.heap.size ≠ w3.heap.size) := ⟨HG.out.size, Nat.ne_of_lt (by have := blk_lt HZ.out; exact this)⟩
        have HS := Aside0.mk (HS.out.below (below_alloc (Below.refl _ _) (.cells #[.int .i64 0, .int .i64 0, .int .i64 0, .int .i64 0, .int .u8 0, .int .u8 0, .int .u8 0, .int .u8 0, .int .u8 0, .int .u8 0, .int .u8 0, .int .u8 0, .int .u8 0, .int .u8 0, .int .u8 0, .int .u8 0, .int .u8 0, .int .u8 0, .int .u8 0, .int .u8 0, .int .u8 0, .int .u8 0, .int .u8 0, .int .u8 0, .int .u8 0, .int .u8 0, .int .u8 0, .int .u8 0, .int .u8 0, .int .u8 0, .int .u8 0, .int .u8 0, .int .u8 0, .int .u8 0, .int .u8 0, .int .u8 0, .slice none 0 0] 149)))
        have HRR := Aside0.mk (HRR.out.below (below_alloc (Below.refl _ _) (.cells #[.int .i64 0, .int .i64 0, .int .i64 0, .int .i64 0, .int .u8 0, .int .u8 0, .int .u8 0, .int .u8 0, .int .u8 0, .int .u8 0, .int .u8 0, .int .u8 0, .int .u8 0, .int .u8 0, .int .u8 0, .int .u8 0, .int .u8 0, .int .u8 0, .int .u8 0, .int .u8 0, .int .u8 0, .int .u8 0, .int .u8 0, .int .u8 0, .int .u8 0, .int .u8 0, .int .u8 0, .int .u8 0, .int .u8 0, .int .u8 0, .int .u8 0, .int .u8 0, .int .u8 0, .int .u8 0, .int .u8 0, .int .u8 0, .slice none 0 0] 149)))
        have HG := Aside0.mk (HG.out.trans (grown_of_below (below_alloc (Below.refl _ _) (.cells #[.int .i64 0, .int .i64 0, .int .i64 0, .int .i64 0, .int .u8 0, .int .u8 0, .int .u8 0, .int .u8 0, .int .u8 0, .int .u8 0, .int .u8 0, .int .u8 0, .int .u8 0, .int .u8 0, .int .u8 0, .int .u8 0, .int .u8 0, .int .u8 0, .int .u8 0, .int .u8 0, .int .u8 0, .int .u8 0, .int .u8 0, .int .u8 0, .int .u8 0, .int .u8 0, .int .u8 0, .int .u8 0, .int .u8 0, .int .u8 0, .int .u8 0, .int .u8 0, .int .u8 0, .int .u8 0, .int .u8 0, .int .u8 0, .slice none 0 0] 149)) (some rb)))
        have HZ := Aside0.mk (blk_below HZ.out (below_alloc (Below.refl _ _) (.cells #[.int .i64 0, .int .i64 0, .int .i64 0, .int .i64 0, .int .u8 0, .int .u8 0, .int .u8 0, .int .u8 0, .int .u8 0, .int .u8 0, .int .u8 0, .int .u8 0, .int .u8 0, .int .u8 0, .int .u8 0, .int .u8 0, .int .u8 0, .int .u8 0, .int .u8 0, .int .u8 0, .int .u8 0, .int .u8 0, .int .u8 0, .int .u8 0, .int .u8 0, .int .u8 0, .int .u8 0, .int .u8 0, .int .u8 0, .int .u8 0, .int .u8 0, .int .u8 0, .int .u8 0, .int .u8 0, .int .u8 0, .int .u8 0, .slice none 0 0] 149)))
        refine wpAnyH_ready (rs := [10]) (by kernel_rfl) (by simp) ?_
        refine AllReadyH.cons (by simp only [List.getElem?_toArray, List.getElem?_cons_succ, List.getElem?_cons_zero]; rfl) (fun K hK => ?_) AllReadyH.nil
        rw [if_pos (by rfl)]
        go_wp2_with fail
        refine (num_call w0 _ rb s2 200 HS.out (by decide) (by decide)).mono ?_
        rintro e_ w4 ⟨rfl, hst4, hg4⟩
        refine hK.out _ _ (hHeld.grown hg4) (fun hHeld2 => ?_)
        clear hK K hHeld
        have hHeld := hHeld2
        clear hHeld2
        try simp only [Act.put, List.setIfInBounds_toArray, List.set_cons_zero, List.set_cons_succ]
        have hrg := numR_range 200 (by decide) s2 HS.out.byt HS.out.len
        obtain ⟨ln, hln⟩ : ∃ ln : Nat, (numR 200 s2).1 = (ln : Int) := ⟨(numR 200 s2).1.toNat, by omega⟩
        have HLE : Aside0 (ln ≤ 200) := ⟨by omega⟩
        obtain ⟨s3, hs3⟩ : ∃ s3, (numR 200 s2).2 = s3 := ⟨_, rfl⟩
        rw [hln]
        have HLN := Aside0.mk hln
        have HS3 := Aside0.mk hs3
        have HS : Aside0 (RdSt w0 w4 rb s3) := ⟨hs3 ▸ hst4⟩
        have HRR := Aside0.mk (HRR.out.grown hg4)
        have HZ := Aside0.mk (blk_grown HZ.out hg4 (fun he => by injection he with he; have := HLT.out; omega))
        have HX4 := Aside0.mk (blk_grown HX4.out hg4 (fun he => by injection he with he; have := HLT.out; have h4 := HN4.out; omega))
        have HG := Aside0.mk (HG.out.trans hg4)
        clear hst4 hg4 hln hs3 hrg
        refine wpAnyH_ready (rs := [15]) (by kernel_rfl) (by simp) ?_
        refine AllReadyH.cons (by simp only [List.getElem?_toArray, List.getElem?_cons_succ, List.getElem?_cons_zero]; rfl) (fun K hK => ?_) AllReadyH.nil
        rw [if_pos (by rfl)]
        go_wp2_with fail
        refine (dig_call w0 _ rb s3 HS.out).mono ?_
        rintro e_ w5 ⟨rfl, hst5, hg5⟩
        refine hK.out _ _ (hHeld.grown hg5) (fun hHeld2 => ?_)
        clear hK K hHeld
        have hHeld := hHeld2
        clear hHeld2
        try simp only [Act.put, List.setIfInBounds_toArray, List.set_cons_zero, List.set_cons_succ]
        obtain ⟨d, hd⟩ : ∃ d, (takeR 32 s3).1 = d := ⟨_, rfl⟩
        obtain ⟨s4, hs4⟩ : ∃ s4, (takeR 32 s3).2 = s4 := ⟨_, rfl⟩
        rw [hd]
        have HD32 : Aside0 (d.length = 32) := ⟨by rw [← hd]; exact skipR_len _ 32 true⟩
        have HDD := Aside0.mk hd
        have HS4 := Aside0.mk hs4
        have HS : Aside0 (RdSt w0 w5 rb s4) := ⟨hs4 ▸ hst5⟩
        have HBU := Aside0.mk (built_ent no sn sr ln d HD32.out)
        have HRR := Aside0.mk (HRR.out.grown hg5)
        have HZ := Aside0.mk (blk_grown HZ.out hg5 (fun he => by injection he with he; have := HLT.out; omega))
        have HX4 := Aside0.mk (blk_grown HX4.out hg5 (fun he => by injection he with he; have := HLT.out; have h4 := HN4.out; omega))
        have HG := Aside0.mk (HG.out.trans hg5)
        clear hst5 hg5 hd hs4
        refine tq (i := 16) (v := ?_) ?hy ?_
        case hy => (intro W_ hW_; refine Eq.trans (exec_build_cells 149 #[(0, .tmp 13), (1, .tmp 18), (2, .tmp 23), (3, .tmp 28)] ?_ (entC ⟨no, sn, sr, ln, d, []⟩ none 0).toArray ?_) ?_ <;> first | with_reducible rfl | rfl | (simp only [List.map_toArray, List.map_cons, List.map_nil]; exact HBU.out))
        try simp only [Act.put, List.setIfInBounds_toArray, List.set_cons_zero, List.set_cons_succ]
        refine wpAnyH_ready (rs := [18]) (by kernel_rfl) (by simp) ?_
        refine AllReadyH.cons (by simp only [List.getElem?_toArray, List.getElem?_cons_succ, List.getElem?_cons_zero]; rfl) (fun K hK => ?_) AllReadyH.nil
        rw [if_pos (by rfl)]
        obtain ⟨cs, hcs⟩ : ∃ cs, (entC ⟨no, sn, sr, ln, d, []⟩ none 0).toArray = cs := ⟨_, rfl⟩
        have hsz : cs.size = 37 := by rw [← hcs, List.size_toArray]; exact entC_len HD32.out none 0
        have hst := storeA (g := w3.heap.size) (cs := cs) HX4.out (by rw [hsz]; rfl) (by rw [← hcs]; exact entC_one _ _ _)
        try rw [hcs]
        go_wp2_with fail
        refine hK.out _ _ (hHeld.setRow (g := w3.heap.size) (by have := HN4.out; have := HLR.out; omega) _) (fun hHeld2 => ?_)
        clear hK K hHeld
        have hHeld := hHeld2
        clear hHeld2
        try simp only [Act.put, List.setIfInBounds_toArray, List.set_cons_zero, List.set_cons_succ]
        have hce : some (Obj.cells cs 149 (0, 0)) = some (Obj.cells (entC ⟨no, sn, sr, ln, d, []⟩ none 0).toArray 149 (0, 0)) := by rw [hcs]
        have HX4 := Aside0.mk ((setRow_heap _ _ _ cs _ _ HX4.out).trans hce)
        have HS := Aside0.mk (HS.out.setRow (g := w3.heap.size) (by have := HN4.out; have := HLT.out; omega) (Nat.le_trans H.out.bel.size HN4.out.1) cs)
        have HRR := Aside0.mk (HRR.out.setRow (g := w3.heap.size) (by have := HN4.out; have := HLR.out; omega) cs)
        have HG := Aside0.mk (grown_row HG.out HN4.out.1 cs)
        have HZ := Aside0.mk ((setRow_other _ _ _ cs HN4.out.2).trans HZ.out)
        clear hst hsz hcs hce
        refine wpAnyH_done (by kernel_rfl) ?_ _
        obtain ⟨g4, hg4⟩ : ∃ g4 : Nat, g4 = w3.heap.size := ⟨_, rfl⟩
        rw [← hg4] at HX4 HN4 HS HRR HG HZ ⊢
        clear hg4
    case' b2_o_17 =>
      rw [if_pos (by rfl)]
      go_wp2_with fail
      refine hK.out _ _ (hHeld.below (below_alloc (Below.refl _ _) _)) (fun hHeld2 => ?_)
      clear hK K hHeld
      have hHeld := hHeld2
      clear hHeld2
      try simp only [Act.put, List.setIfInBounds_toArray, List.set_cons_zero, List.set_cons_succ]
      have HX4 : Aside0 ((w2.drew.alloc (.cells #[.int .i64 0, .int .i64 0, .int .i64 0, .int .i64 0, .int .u8 0, .int .u8 0, .int .u8 0, .int .u8 0, .int .u8 0, .int .u8 0, .int .u8 0, .int .u8 0, .int .u8 0, .int .u8 0, .int .u8 0, .int .u8 0, .int .u8 0, .int .u8 0, .int .u8 0, .int .u8 0, .int .u8 0, .int .u8 0, .int .u8 0, .int .u8 0, .int .u8 0, .int .u8 0, .int .u8 0, .int .u8 0, .int .u8 0, .int .u8 0, .int .u8 0, .int .u8 0, .int .u8 0, .int .u8 0, .int .u8 0, .int .u8 0, .slice none 0 0] 149)).heap[w2.heap.size]? = some (.cells #[.int .i64 0, .int .i64 0, .int .i64 0, .int .i64 0, .int .u8 0, .int .u8 0, .int .u8 0, .int .u8 0, .int .u8 0, .int .u8 0, .int .u8 0, .int .u8 0, .int .u8 0, .int .u8 0, .int .u8 0, .int .u8 0, .int .u8 0, .int .u8 0, .int .u8 0, .int .u8 0, .int .u8 0, .int .u8 0, .int .u8 0, .int .u8 0, .int .u8 0, .int .u8 0, .int .u8 0, .int .u8 0, .int .u8 0, .int .u8 0, .int .u8 0, .int .u8 0, .int .u8 0, .int .u8 0, .int .u8 0, .int .u8 0, .slice none 0 0] 149 (0, 0))) := ⟨blk_new _ _⟩
      have HN4 : Aside0 (W.heap.size ≤ w2.heap.size ∧ W.heap.size ≠ w2.heap.size) := ⟨HG.out.size, Nat.ne_of_lt (by have := blk_lt HZ.out; exact this)⟩
      have HS := Aside0.mk (HS.out.below (below_alloc (Below.refl _ _) (.cells #[.int .i64 0, .int .i64 0, .int .i64 0, .int .i64 0, .int .u8 0, .int .u8 0, .int .u8 0, .int .u8 0, .int .u8 0, .int .u8 0, .int .u8 0, .int .u8 0, .int .u8 0, .int .u8 0, .int .u8 0, .int .u8 0, .int .u8 0, .int .u8 0, .int .u8 0, .int .u8 0, .int .u8 0, .int .u8 0, .int .u8 0, .int .u8 0, .int .u8 0, .int .u8 0, .int .u8 0, .int .u8 0, .int .u8 0, .int .u8 0, .int .u8 0, .int .u8 0, .int .u8 0, .int .u8 0, .int .u8 0, .int .u8 0, .slice none 0 0] 149)))
      have HRR := Aside0.mk (HRR.out.below (below_alloc (Below.refl _ _) (.cells #[.int .i64 0, .int .i64 0, .int .i64 0, .int .i64 0, .int .u8 0, .int .u8 0, .int .u8 0, .int .u8 0, .int .u8 0, .int .u8 0, .int .u8 0, .int .u8 0, .int .u8 0, .int .u8 0, .int .u8 0, .int .u8 0, .int .u8 0, .int .u8 0, .int .u8 0, .int .u8 0, .int .u8 0, .int .u8 0, .int .u8 0, .int .u8 0, .int .u8 0, .int .u8 0, .int .u8 0, .int .u8 0, .int .u8 0, .int .u8 0, .int .u8 0, .int .u8 0, .int .u8 0, .int .u8 0, .int .u8 0, .int .u8 0, .slice none 0 0] 149)))
      have HG := Aside0.mk (HG.out.trans (grown_of_below (below_alloc (Below.refl _ _) (.cells #[.int .i64 0, .int .i64 0, .int .i64 0, .int .i64 0, .int .u8 0, .int .u8 0, .int .u8 0, .int .u8 0, .int .u8 0, .int .u8 0, .int .u8 0, .int .u8 0, .int .u8 0, .int .u8 0, .int .u8 0, .int .u8 0, .int .u8 0, .int .u8 0, .int .u8 0, .int .u8 0, .int .u8 0, .int .u8 0, .int .u8 0, .int .u8 0, .int .u8 0, .int .u8 0, .int .u8 0, .int .u8 0, .int .u8 0, .int .u8 0, .int .u8 0, .int .u8 0, .int .u8 0, .int .u8 0, .int .u8 0, .int .u8 0, .slice none 0 0] 149)) (some rb)))
      have HZ := Aside0.mk (blk_below HZ.out (below_alloc (Below.refl _ _) (.cells #[.int .i64 0, .int .i64 0, .int .i64 0, .int .i64 0, .int .u8 0, .int .u8 0, .int .u8 0, .int .u8 0, .int .u8 0, .int .u8 0, .int .u8 0, .int .u8 0, .int .u8 0, .int .u8 0, .int .u8 0, .int .u8 0, .int .u8 0, .int .u8 0, .int .u8 0, .int .u8 0, .int .u8 0, .int .u8 0, .int .u8 0, .int .u8 0, .int .u8 0, .int .u8 0, .int .u8 0, .int .u8 0, .int .u8 0, .int .u8 0, .int .u8 0, .int .u8 0, .int .u8 0, .int .u8 0, .int .u8 0, .int .u8 0, .slice none 0 0] 149)))
      refine wpAnyH_ready (rs := [5]) (by kernel_rfl) (by simp) ?_
      refine AllReadyH.cons (by simp only [List.getElem?_toArray, List.getElem?_cons_succ, List.getElem?_cons_zero]; rfl) (fun K hK => ?_) AllReadyH.nil
      rw [if_pos (by rfl)]
      go_wp2_with fail
      refine (strd_call w0 _ rb s1 HS.out).mono ?_
      rintro e_ w3 ⟨rfl, hst3, hg3⟩
      refine hK.out _ _ (hHeld.grown hg3) (fun hHeld2 => ?_)
      clear hK K hHeld
      have hHeld := hHeld2
      clear hHeld2
      try simp only [Act.put, List.setIfInBounds_toArray, List.set_cons_zero, List.set_cons_succ]
      obtain ⟨sn, hsn⟩ : ∃ sn, (stR s1).1.1 = sn := ⟨_, rfl⟩
      obtain ⟨sr, hsr⟩ : ∃ sr, (stR s1).1.2 = sr := ⟨_, rfl⟩
      obtain ⟨s2, hs2⟩ : ∃ s2, (stR s1).2 = s2 := ⟨_, rfl⟩
      rw [hsn, hsr]
      have HSN := Aside0.mk (And.intro hsn hsr)
      have HS2 := Aside0.mk hs2
      have HS : Aside0 (RdSt w0 w3 rb s2) := ⟨hs2 ▸ hst3⟩
      have HRR := Aside0.mk (HRR.out.grown hg3)
      have HZ := Aside0.mk (blk_grown HZ.out hg3 (fun he => by injection he with he; have := HLT.out; omega))
      have HX4 := Aside0.mk (blk_grown HX4.out hg3 (fun he => by injection he with he; have := HLT.out; have h4 := HN4.out; omega))
      have HG := Aside0.mk (HG.out.trans hg3)
      clear hst3 hg3 hsn hsr hs2
      refine wpAnyH_ready (rs := [10]) (by kernel_rfl) (by simp) ?_
      refine AllReadyH.cons (by simp only [List.getElem?_toArray, List.getElem?_cons_succ, List.getElem?_cons_zero]; rfl) (fun K hK => ?_) AllReadyH.nil
      rw [if_pos (by rfl)]
      go_wp2_with fail
      refine (num_call w0 _ rb s2 200 HS.out (by decide) (by decide)).mono ?_
      rintro e_ w4 ⟨rfl, hst4, hg4⟩
      refine hK.out _ _ (hHeld.grown hg4) (fun hHeld2 => ?_)
      clear hK K hHeld
      have hHeld := hHeld2
      clear hHeld2
      try simp only [Act.put, List.setIfInBounds_toArray, List.set_cons_zero, List.set_cons_succ]
      have hrg := numR_range 200 (by decide) s2 HS.out.byt HS.out.len
      obtain ⟨ln, hln⟩ : ∃ ln : Nat, (numR 200 s2).1 = (ln : Int) := ⟨(numR 200 s2).1.toNat, by omega⟩
      have HLE : Aside0 (ln ≤ 200) := ⟨by omega⟩
      obtain ⟨s3, hs3⟩ : ∃ s3, (numR 200 s2).2 = s3 := ⟨_, rfl⟩
      rw [hln]
      have HLN := Aside0.mk hln
      have HS3 := Aside0.mk hs3
      have HS : Aside0 (RdSt w0 w4 rb s3) := ⟨hs3 ▸ hst4⟩
      have HRR := Aside0.mk (HRR.out.grown hg4)
      have HZ := Aside0.mk (blk_grown HZ.out hg4 (fun he => by injection he with he; have := HLT.out; omega))
      have HX4 := Aside0.mk (blk_grown HX4.out hg4 (fun he => by injection he with he; have := HLT.out; have h4 := HN4.out; omega))
      have HG := Aside0.mk (HG.out.trans hg4)
      clear hst4 hg4 hln hs3 hrg
      refine wpAnyH_ready (rs := [15]) (by kernel_rfl) (by simp) ?_
      refine AllReadyH.cons (by simp only [List.getElem?_toArray, List.getElem?_cons_succ, List.getElem?_cons_zero]; rfl) (fun K hK => ?_) AllReadyH.nil
      rw [if_pos (by rfl)]
      go_wp2_with fail
      refine (dig_call w0 _ rb s3 HS.out).mono ?_
      rintro e_ w5 ⟨rfl, hst5, hg5⟩
      refine hK.out _ _ (hHeld.grown hg5) (fun hHeld2 => ?_)
      clear hK K hHeld
      have hHeld := hHeld2
      clear hHeld2
      try simp only [Act.put, List.setIfInBounds_toArray, List.set_cons_zero, List.set_cons_succ]
      obtain ⟨d, hd⟩ : ∃ d, (takeR 32 s3).1 = d := ⟨_, rfl⟩
      obtain ⟨s4, hs4⟩ : ∃ s4, (takeR 32 s3).2 = s4 := ⟨_, rfl⟩
      rw [hd]
      have HD32 : Aside0 (d.length = 32) := ⟨by rw [← hd]; exact skipR_len _ 32 true⟩
      have HDD := Aside0.mk hd
      have HS4 := Aside0.mk hs4
      have HS : Aside0 (RdSt w0 w5 rb s4) := ⟨hs4 ▸ hst5⟩
      have HBU := Aside0.mk (built_ent no sn sr ln d HD32.out)
      have HRR := Aside0.mk (HRR.out.grown hg5)
      have HZ := Aside0.mk (blk_grown HZ.out hg5 (fun he => by injection he with he; have := HLT.out; omega))
      have HX4 := Aside0.mk (blk_grown HX4.out hg5 (fun he => by injection he with he; have := HLT.out; have h4 := HN4.out; omega))
      have HG := Aside0.mk (HG.out.trans hg5)
      clear hst5 hg5 hd hs4
      refine tq (i := 16) (v := ?_) ?hy ?_
      case hy => (intro W_ hW_; refine Eq.trans (exec_build_cells 149 #[(0, .tmp 13), (1, .tmp 18), (2, .tmp 23), (3, .tmp 28)] ?_ (entC ⟨no, sn, sr, ln, d, []⟩ none 0).toArray ?_) ?_ <;> first | with_reducible rfl | rfl | (simp only [List.map_toArray, List.map_cons, List.map_nil]; exact HBU.out))
      try simp only [Act.put, List.setIfInBounds_toArray, List.set_cons_zero, List.set_cons_succ]
      refine wpAnyH_ready (rs := [18]) (by kernel_rfl) (by simp) ?_
      refine AllReadyH.cons (by simp only [List.getElem?_toArray, List.getElem?_cons_succ, List.getElem?_cons_zero]; rfl) (fun K hK => ?_) AllReadyH.nil
      rw [if_pos (by rfl)]
      obtain ⟨cs, hcs⟩ : ∃ cs, (entC ⟨no, sn, sr, ln, d, []⟩ none 0).toArray = cs := ⟨_, rfl⟩
      have hsz : cs.size = 37 := by rw [← hcs, List.size_toArray]; exact entC_len HD32.out none 0
      have hst := storeA (g := w2.heap.size) (cs := cs) HX4.out (by rw [hsz]; rfl) (by rw [← hcs]; exact entC_one _ _ _)
      try rw [hcs]
      go_wp2_with fail
      refine hK.out _ _ (hHeld.setRow (g := w2.heap.size) (by have := HN4.out; have := HLR.out; omega) _) (fun hHeld2 => ?_)
      clear hK K hHeld
      have hHeld := hHeld2
      clear hHeld2
      try simp only [Act.put, List.setIfInBounds_toArray, List.set_cons_zero, List.set_cons_succ]
      have hce : some (Obj.cells cs 149 (0, 0)) = some (Obj.cells (entC ⟨no, sn, sr, ln, d, []⟩ none 0).toArray 149 (0, 0)) := by rw [hcs]
      have HX4 := Aside0.mk ((setRow_heap _ _ _ cs _ _ HX4.out).trans hce)
      have HS := Aside0.mk (HS.out.setRow (g := w2.heap.size) (by have := HN4.out; have := HLT.out; omega) (Nat.le_trans H.out.bel.size HN4.out.1) cs)
      have HRR := Aside0.mk (HRR.out.setRow (g := w2.heap.size) (by have := HN4.out; have := HLR.out; omega) cs)
      have HG := Aside0.mk (grown_row HG.out HN4.out.1 cs)
      have HZ := Aside0.mk ((setRow_other _ _ _ cs HN4.out.2).trans HZ.out)
      clear hst hsz hcs hce
      refine wpAnyH_done (by kernel_rfl) ?_ _
      obtain ⟨g4, hg4⟩ : ∃ g4 : Nat, g4 = w2.heap.size := ⟨_, rfl⟩
      rw [← hg4] at HX4 HN4 HS HRR HG HZ ⊢
      clear hg4
    all_goals
      have HT := Aside0.mk (EbSt.mk (W0 := W) (x := ⟨no, sn, sr, ln, d, []⟩) HS.out HRR.out HG.out HZ.out ⟨none, 0, HX4.out, Kd.R_nil _ _ _ _ _⟩ (Nat.le_refl _) HN4.out.1 HN4.out.2 ⟨HLT.out, HLR.out⟩ HD32.out)
      have HRES : Aside0 (entryR s = (⟨no, sn, sr, ln, d, (itR blockR (blkM ln).toNat s4).1⟩, (itR blockR (blkM ln).toNat s4).2)) := ⟨by rw [← HDD.out, ← HS4.out, ← HLN.out, ← HS3.out, ← HSN.out.1, ← HSN.out.2, ← HS2.out, ← HNO.out, ← HS1.out]; rfl⟩
      exact ⟨sn, sr, ln, d, s4, _, _, _, _, _, _, _, _, _, _, _, _, _, _, _, _, _, _, _, _, _, _, _, _, _, _, _, _, _, _, _, _, _, _, _, _, _, _, _, _, _, _, _, _, _, rfl, HT.out, HLE.out, HRES.out⟩
  case refine_2 =>
    rintro a W5 ⟨sn, sr, ln, d, s4, g4, u1, u5, u6, u7, u8, u9, u10, u11, u12, u13, u14, u15, u16, u17, u18, u19, u20, u21, u22, u23, u24, u25, u26, u27, u28, u29, u30, u31, u32, u33, u34, u35, u36, u37, u38, u39, u40, u41, u42, u43, u44, u45, u46, u47, rfl, hT, hle, hres⟩
    have HT := Aside0.mk hT
    have HLE := Aside0.mk hle
    have HRES := Aside0.mk hres
    have HD32 := Aside0.mk hT.dig
    clear hT hle hres x1 hw1 HS HRR HG HZ
    by_cases h24 : ln < 24
    · obtain ⟨A4, c4, hbx, hRx⟩ := HT.out.box
      have hb0 : blkM (ln : Int) = 0 := by unfold blkM; rw [if_pos (by omega)]
      rw [hb0] at HRES
      have HFIN := Aside0.mk (en_done HT.out HRES.out A4 c4 hRx)
      obtain ⟨cs, hcs⟩ : ∃ cs, (entC ⟨no, sn, sr, ln, d, []⟩ A4 c4).toArray = cs := ⟨_, rfl⟩
      rw [hcs] at hbx HFIN
      have f3 := (blk_cell hbx 3).trans (show _ = some (.int .i64 (ln : Int)) by rw [← hcs]; rfl)
      have HBX := Aside0.mk hbx
      have hsz : cs.size = 37 := by rw [← hcs, List.size_toArray]; exact entC_len HD32.out A4 c4
      have HINF : Aside0 ((Try.prog.info? 149).map (·.size) = some cs.size) := ⟨by rw [hsz]; exact infoEnt⟩
      have hst := storeA (cs := cs) HT.out.z (by rw [hsz]; rfl) (by rw [← hcs]; exact entC_one _ _ _)
      have HZ := Aside0.mk HT.out.z
      have c0 : decide ((ln : Int) < 24) = true := decide_eq_true (by omega)
      have c1 : decide (ln < 24) = true := decide_eq_true h24
      clear hbx hRx hcs h24 hb0
      go_wp2_with (first
        | ((with_reducible refine gate_dst (N := 33) rfl ?_); refine wpList_load_row rfl 149 (.tmp 4) rfl g4 rfl 149 cs (0, 0) _ HBX.out Try.underlying149 rfl HINF.out ?_)
        | fail)
      refine bodyPost_ret (v := .agg cs) ?_ rfl HFIN.out
      exact results_cell_row (P := Try.prog) Try.results154 _ _ W.heap.size 149 cs (0, 0) _ rfl (setRow_heap _ _ _ _ _ _ HZ.out) Try.underlying149 rfl HINF.out
    · obtain ⟨kk, hkk⟩ : ∃ kk : Nat, kk = ln / 8 := ⟨_, rfl⟩
      have hb0 : (blkM (ln : Int)).toNat = kk := by unfold blkM; rw [if_neg (by omega)]; omega
      rw [hb0] at HRES
      have HKK : Aside0 (kk ≤ 25) := ⟨by have := HLE.out; omega⟩
      have c0 : decide ((ln : Int) < 24) = false := decide_eq_false (by omega)
      have c1 : decide (ln < 24) = false := decide_eq_false h24
      have q0 : (ln : Int).tdiv 8 = (kk : Int) := by rw [Int.tdiv_eq_ediv_of_nonneg (by omega)]; omega
      have q1 : (ln : Int) / 8 = (kk : Int) := by omega
      have q2 : IntKind.i64.wrap (kk : Int) = (kk : Int) := by have := HKK.out; simp [IntKind.wrap, IntKind.bits, IntKind.signed]; omega
      obtain ⟨A4, c4, hbx, hRx⟩ := HT.out.box
      have f3 := (blk_cell hbx 3).trans (show _ = some (.int .i64 (ln : Int)) from rfl)
      clear hbx hRx hb0 hkk h24
      go_wp2_with fail
      clear f3 c0 c1 q0 q1 q2
      go_loopg [37] kk (fun kq v37 Wl => ∃ i : Nat, v37 = .int .i64 i ∧ Aside0 (kq + i = kk) ∧ Aside0 (EbSt W w0 Wl rb rr rs W.heap.size g4 ⟨no, sn, sr, ln, d, (itR blockR i s4).1⟩ (itR blockR i s4).2))
      case atStart => exact ⟨0, rfl, ⟨rfl⟩, HT⟩
      case round =>
        obtain ⟨i, rfl, HK, HTI⟩ := hrel
        by_cases hi : i < kk
        · have c0 : decide ((i : Int) < (kk : Int)) = true := by simpa using hi
          have c1 : ((i : Int) < (kk : Int)) = True := by simpa using hi
          have c2 : IntKind.i64.wrap ((i : Int) + 1) = ((i + 1 : Nat) : Int) := by have := HKK.out; simp [IntKind.wrap, IntKind.bits, IntKind.signed]; omega
          have HI := Aside0.mk hi
          have HIT : Aside0 (itR blockR (i + 1) s4 = ((itR blockR i s4).1 ++ [(blockR (itR blockR i s4).2).1], (blockR (itR blockR i s4).2).2)) := ⟨rfl⟩
          have HLI : Aside0 ((itR blockR i s4).1.length = i) := ⟨itR_len blockR i s4⟩
          obtain ⟨l, hl⟩ : ∃ l, (itR blockR i s4).1 = l := ⟨_, rfl⟩
          obtain ⟨s5, hs5⟩ : ∃ s5, (itR blockR i s4).2 = s5 := ⟨_, rfl⟩
          rw [hl, hs5] at HTI HIT
          rw [hl] at HLI
          obtain ⟨y, hy⟩ : ∃ y, (blockR s5).1 = y := ⟨_, rfl⟩
          obtain ⟨s6, hs6⟩ : ∃ s6, (blockR s5).2 = s6 := ⟨_, rfl⟩
          rw [hy, hs6] at HIT
          have HY := Aside0.mk hy
          have HS6 := Aside0.mk hs6
          have HY32 : Aside0 (y.2.length = 32) := ⟨by rw [← hy]; exact skipR_len _ 32 true⟩
          obtain ⟨r, hr⟩ : ∃ r, l ++ [y] = r := ⟨_, rfl⟩
          rw [hr] at HIT
          have HR' := Aside0.mk hr
          obtain ⟨A6, c6, hbx, hRx⟩ := HTI.out.box
          have HBX := Aside0.mk hbx
          have HRX := Aside0.mk hRx
          have HS := Aside0.mk HTI.out.hrd
          have HRR := Aside0.mk HTI.out.hrr
          have HG := Aside0.mk HTI.out.hgr
          have HZ := Aside0.mk HTI.out.z
          clear hi hl hs5 hy hs6 hr hbx hRx
          go_wp2_with fail
          have HBX : Aside0 (wr.drew.heap[g4]? = _) := ⟨HBX.out⟩
          have HRX := Aside0.mk (Kd.R_below HRX.out (below_drew (Below.refl wr.heap.size wr)))
          have HS := Aside0.mk (HS.out.below (below_drew (Below.refl wr.heap.size wr)))
          have HRR := Aside0.mk (HRR.out.below (below_drew (Below.refl wr.heap.size wr)))
          have HG := Aside0.mk (grown_drew HG.out)
          have HZ : Aside0 (wr.drew.heap[W.heap.size]? = _) := ⟨HZ.out⟩
          refine wp_region_held_drew (S := (fun _ => True)) (by kernel_rfl) (trivial) (fun hHeld => ?_)
          refine tq (i := 0) (v := ?_) ?hy ?_
          case hy => (intro W_ hW_; go_simp; first | done | with_reducible rfl)
          try simp only [Act.put, List.setIfInBounds_toArray, List.set_cons_zero, List.set_cons_succ]
          refine tq (i := 2) (v := ?_) ?hy ?_
          case hy => (intro W_ hW_; go_simp; first | done | with_reducible rfl)
          try simp only [Act.put, List.setIfInBounds_toArray, List.set_cons_zero, List.set_cons_succ]
          refine wpAnyH_ready (rs := [1, 3]) (by kernel_rfl) (by simp) ?_
          refine AllReadyH.cons (by simp only [List.getElem?_toArray, List.getElem?_cons_succ, List.getElem?_cons_zero]; rfl) (fun K hK => ?b7_o_1) (AllReadyH.cons (by simp only [List.getElem?_toArray, List.getElem?_cons_succ, List.getElem?_cons_zero]; rfl) (fun K hK => ?b7_o_3) AllReadyH.nil)
          case' b7_o_1 =>
            rw [if_pos (by rfl)]
            have f36 := (blk_cell HBX.out 36).trans (entC_36 HD32.out A6 c6)
            go_wp2_with fail
            refine hK.out _ _ (trivial) (fun hHeld2 => ?_)
            clear hK K hHeld
            have hHeld := hHeld2
            clear hHeld2
            try simp only [Act.put, List.setIfInBounds_toArray, List.set_cons_zero, List.set_cons_succ]
            clear f36
            refine wpAnyH_ready (rs := [3]) (by kernel_rfl) (by simp) ?_
            refine AllReadyH.cons (by simp only [List.getElem?_toArray, List.getElem?_cons_succ, List.getElem?_cons_zero]; rfl) (fun K hK => ?_) AllReadyH.nil
            rw [if_pos (by rfl)]
            go_wp2_with fail
            refine (block_call' w0 _ rb rr rs s5 HS.out HRR.out).mono ?_
            rintro e_ w7 ⟨rfl, hst7, hg7⟩
            refine hK.out _ _ (trivial) (fun hHeld2 => ?_)
            clear hK K hHeld
            have hHeld := hHeld2
            clear hHeld2
            try simp only [Act.put, List.setIfInBounds_toArray, List.set_cons_zero, List.set_cons_succ]
            rw [HY.out]
            have HBX := Aside0.mk (blk_grown HBX.out hg7 (fun he => by injection he with he; have := HLT.out; have h4 := HTI.out.lo4; omega))
            have HRX := Aside0.mk (R_old HRX.out hg7 HLT.out)
            have HRR := Aside0.mk (HRR.out.grown hg7)
            have HZ := Aside0.mk (blk_grown HZ.out hg7 (fun he => by injection he with he; have := HLT.out; omega))
            have HG := Aside0.mk (HG.out.trans hg7)
            have HS : Aside0 (RdSt w0 w7 rb s6) := ⟨HS6.out ▸ hst7⟩
            clear hst7 hg7
            refine wpAnyH_ready (rs := [4]) (by kernel_rfl) (by simp) ?_
            refine AllReadyH.cons (by simp only [List.getElem?_toArray, List.getElem?_cons_succ, List.getElem?_cons_zero]; rfl) (fun K hK => ?_) AllReadyH.nil
            rw [if_pos (by rfl)]
            refine wp_buildSlice_one 22 30 (.tmp 42) rfl 33 (sgA y) _ Try.underlying22 zeroSig2 (sgA_size HY32.out).symm (by decide) (by decide) (by rfl) ?_
            refine hK.out _ _ (trivial) (fun hHeld2 => ?_)
            clear hK K hHeld
            have hHeld := hHeld2
            clear hHeld2
            try simp only [Act.put, List.setIfInBounds_toArray, List.set_cons_zero, List.set_cons_succ]
            refine wpAnyH_ready (rs := [5]) (by kernel_rfl) (by simp) ?_
            refine AllReadyH.cons (by simp only [List.getElem?_toArray, List.getElem?_cons_succ, List.getElem?_cons_zero]; rfl) (fun K hK => ?_) AllReadyH.nil
            refine Kd.R_append_step sgK (w0 := w7) W.heap.size (by rfl) (.tmp 40) (.tmp 43) 22 30 _ 36 rfl Try.underlying22 zeroSig rfl (by decide) (by decide) (.slice A6 l.length c6) l y (sgL y) (fun _ => True) (fun _ => False) (by rfl) (by rfl) (sgK_M HY32.out) (fun k hk => hk.elim) (fun _ _ => trivial) HRX.out (Below.refl _ _) HG.out.size (by have := HLI.out; have h2 := HKK.out; have h3 := HI.out; omega) ?_
            intro v8 w8 hR8 hB8 hg8 hat8
            rw [HR'.out] at hR8
            obtain ⟨A7, c7, rfl⟩ := Kd.R_slice hR8
            refine hK.out _ _ (trivial) (fun hHeld2 => ?_)
            clear hK K hHeld
            have hHeld := hHeld2
            clear hHeld2
            try simp only [Act.put, List.setIfInBounds_toArray, List.set_cons_zero, List.set_cons_succ]
            have hhi := own_hi HRX.out
            have HBX := Aside0.mk (blk_grown HBX.out hg8 (Kd.R_ne HRX.out HBX.out (by decide)))
            have HZ := Aside0.mk (blk_grown HZ.out hg8 (Kd.R_ne HRX.out HZ.out (by decide)))
            have HRR := Aside0.mk (HRR.out.other hg8 (fun he => by have := hhi _ he.symm; have h4 := HLR.out; omega))
            have HS := Aside0.mk (HS.out.grown hg8 (fun he => by have := hhi _ he.symm; have h4 := HLT.out; omega) (below_grown HS.out.bel hg8 HS.out.bel.size (fun k hk => by have := hhi _ hk; have h4 := H.out.bel.size; omega)))
            have HG := Aside0.mk (HG.out.andThen hg8 (fun k hk => .inl (hhi _ hk)))
            have HRX := Aside0.mk hR8
            clear hR8 hB8 hg8 hat8 hhi
            refine tq (i := 6) (v := ?_) ?hy ?_
            case hy => (intro W_ hW_; go_simp; first | done | with_reducible rfl)
            try simp only [Act.put, List.setIfInBounds_toArray, List.set_cons_zero, List.set_cons_succ]
            refine wpAnyH_ready (rs := [7]) (by kernel_rfl) (by simp) ?_
            refine AllReadyH.cons (by simp only [List.getElem?_toArray, List.getElem?_cons_succ, List.getElem?_cons_zero]; rfl) (fun K hK => ?_) AllReadyH.nil
            rw [if_pos (by rfl)]
            have f36 := (blk_cell HBX.out 36).trans (entC_36 HD32.out A6 c6)
            have z36 := blk_frozen HBX.out 36
            go_wp2_with fail
            refine hK.out _ _ (trivial) (fun hHeld2 => ?_)
            clear hK K hHeld
            have hHeld := hHeld2
            clear hHeld2
            try simp only [Act.put, List.setIfInBounds_toArray, List.set_cons_zero, List.set_cons_succ]
            have HRX := Aside0.mk (Kd.R_set HRX.out HBX.out (sg_types 149 (by decide)) 36 (.slice A7 r.length c7))
            have HZ := Aside0.mk ((Below.heap_setCell _ ⟨g4, 36, none⟩ (.slice A7 r.length c7) W.heap.size HTI.out.ne).trans HZ.out)
            have HRR := Aside0.mk (HRR.out.set (g := g4) (by have := HLR.out; have h4 := HTI.out.lo4; omega) 36 (.slice A7 r.length c7))
            have HS := Aside0.mk (HS.out.set (g := g4) (by have := HLT.out; have h4 := HTI.out.lo4; omega) (Nat.le_trans H.out.bel.size HTI.out.lo4) 36 (.slice A7 r.length c7))
            have HG := Aside0.mk (grown_setn HG.out HTI.out.lo4 36 (.slice A7 r.length c7))
            have HBX := Aside0.mk (blk_put HBX.out 36 (.slice A7 r.length c7) (entC_set (x := ⟨no, sn, sr, ln, d, l⟩) HD32.out A6 A7 c6 c7 r))
            clear f36 z36
            refine wpAnyH_done (by kernel_rfl) ?_ _
          case' b7_o_3 =>
            rw [if_pos (by rfl)]
            go_wp2_with fail
            refine (block_call' w0 _ rb rr rs s5 HS.out HRR.out).mono ?_
            rintro e_ w7 ⟨rfl, hst7, hg7⟩
            refine hK.out _ _ (trivial) (fun hHeld2 => ?_)
            clear hK K hHeld
            have hHeld := hHeld2
            clear hHeld2
            try simp only [Act.put, List.setIfInBounds_toArray, List.set_cons_zero, List.set_cons_succ]
            rw [HY.out]
            have HBX := Aside0.mk (blk_grown HBX.out hg7 (fun he => by injection he with he; have := HLT.out; have h4 := HTI.out.lo4; omega))
            have HRX := Aside0.mk (R_old HRX.out hg7 HLT.out)
            have HRR := Aside0.mk (HRR.out.grown hg7)
            have HZ := Aside0.mk (blk_grown HZ.out hg7 (fun he => by injection he with he; have := HLT.out; omega))
            have HG := Aside0.mk (HG.out.trans hg7)
            have HS : Aside0 (RdSt w0 w7 rb s6) := ⟨HS6.out ▸ hst7⟩
            clear hst7 hg7
            refine wpAnyH_ready (rs := [1, 4]) (by kernel_rfl) (by simp) ?_
            refine AllReadyH.cons (by simp only [List.getElem?_toArray, List.getElem?_cons_succ, List.getElem?_cons_zero]; rfl) (fun K hK => ?b7_3_1) (AllReadyH.cons (by simp only [List.getElem?_toArray, List.getElem?_cons_succ, List.getElem?_cons_zero]; rfl) (fun K hK => ?b7_3_4) AllReadyH.nil)
            case' b7_3_1 =>
              rw [if_pos (by rfl)]
              have f36 := (blk_cell HBX.out 36).trans (entC_36 HD32.out A6 c6)
              go_wp2_with fail
              refine hK.out _ _ (trivial) (fun hHeld2 => ?_)
              clear hK K hHeld
              have hHeld := hHeld2
              clear hHeld2
              try simp only [Act.put, List.setIfInBounds_toArray, List.set_cons_zero, List.set_cons_succ]
              clear f36
              refine wpAnyH_ready (rs := [4]) (by kernel_rfl) (by simp) ?_
              refine AllReadyH.cons (by simp only [List.getElem?_toArray, List.getElem?_cons_succ, List.getElem?_cons_zero]; rfl) (fun K hK => ?_) AllReadyH.nil
              rw [if_pos (by rfl)]
              refine wp_buildSlice_one 22 30 (.tmp 42) rfl 33 (sgA y) _ Try.underlying22 zeroSig2 (sgA_size HY32.out).symm (by decide) (by decide) (by rfl) ?_
              refine hK.out _ _ (trivial) (fun hHeld2 => ?_)
              clear hK K hHeld
              have hHeld := hHeld2
              clear hHeld2
              try simp only [Act.put, List.setIfInBounds_toArray, List.set_cons_zero, List.set_cons_succ]
              refine wpAnyH_ready (rs := [5]) (by kernel_rfl) (by simp) ?_
              refine AllReadyH.cons (by simp only [List.getElem?_toArray, List.getElem?_cons_succ, List.getElem?_cons_zero]; rfl) (fun K hK => ?_) AllReadyH.nil
              refine Kd.R_append_step sgK (w0 := w7) W.heap.size (by rfl) (.tmp 40) (.tmp 43) 22 30 _ 36 rfl Try.underlying22 zeroSig rfl (by decide) (by decide) (.slice A6 l.length c6) l y (sgL y) (fun _ => True) (fun _ => False) (by rfl) (by rfl) (sgK_M HY32.out) (fun k hk => hk.elim) (fun _ _ => trivial) HRX.out (Below.refl _ _) HG.out.size (by have := HLI.out; have h2 := HKK.out; have h3 := HI.out; omega) ?_
              intro v8 w8 hR8 hB8 hg8 hat8
              rw [HR'.out] at hR8
              obtain ⟨A7, c7, rfl⟩ := Kd.R_slice hR8
              refine hK.out _ _ (trivial) (fun hHeld2 => ?_)
              clear hK K hHeld
              have hHeld := hHeld2
              clear hHeld2
              try simp only [Act.put, List.setIfInBounds_toArray, List.set_cons_zero, List.set_cons_succ]
              have hhi := own_hi HRX.out
              have HBX := Aside0.mk (blk_grown HBX.out hg8 (Kd.R_ne HRX.out HBX.out (by decide)))
              have HZ := Aside0.mk (blk_grown HZ.out hg8 (Kd.R_ne HRX.out HZ.out (by decide)))
              have HRR := Aside0.mk (HRR.out.other hg8 (fun he => by have := hhi _ he.symm; have h4 := HLR.out; omega))
              have HS := Aside0.mk (HS.out.grown hg8 (fun he => by have := hhi _ he.symm; have h4 := HLT.out; omega) (below_grown HS.out.bel hg8 HS.out.bel.size (fun k hk => by have := hhi _ hk; have h4 := H.out.bel.size; omega)))
              have HG := Aside0.mk (HG.out.andThen hg8 (fun k hk => .inl (hhi _ hk)))
              have HRX := Aside0.mk hR8
              clear hR8 hB8 hg8 hat8 hhi
              refine tq (i := 6) (v := ?_) ?hy ?_
              case hy => (intro W_ hW_; go_simp; first | done | with_reducible rfl)
              try simp only [Act.put, List.setIfInBounds_toArray, List.set_cons_zero, List.set_cons_succ]
              refine wpAnyH_ready (rs := [7]) (by kernel_rfl) (by simp) ?_
              refine AllReadyH.cons (by simp only [List.getElem?_toArray, List.getElem?_cons_succ, List.getElem?_cons_zero]; rfl) (fun K hK => ?_) AllReadyH.nil
              rw [if_pos (by rfl)]
              have f36 := (blk_cell HBX.out 36).trans (entC_36 HD32.out A6 c6)
              have z36 := blk_frozen HBX.out 36
              go_wp2_with fail
              refine hK.out _ _ (trivial) (fun hHeld2 => ?_)
              clear hK K hHeld
              have hHeld := hHeld2
              clear hHeld2
              try simp only [Act.put, List.setIfInBounds_toArray, List.set_cons_zero, List.set_cons_succ]
              have HRX := Aside0.mk (Kd.R_set HRX.out HBX.out (sg_types 149 (by decide)) 36 (.slice A7 r.length c7))
              have HZ := Aside0.mk ((Below.heap_setCell _ ⟨g4, 36, none⟩ (.slice A7 r.length c7) W.heap.size HTI.out.ne).trans HZ.out)
              have HRR := Aside0.mk (HRR.out.set (g := g4) (by have := HLR.out; have h4 := HTI.out.lo4; omega) 36 (.slice A7 r.length c7))
              have HS := Aside0.mk (HS.out.set (g := g4) (by have := HLT.out; have h4 := HTI.out.lo4; omega) (Nat.le_trans H.out.bel.size HTI.out.lo4) 36 (.slice A7 r.length c7))
              have HG := Aside0.mk (grown_setn HG.out HTI.out.lo4 36 (.slice A7 r.length c7))
              have HBX := Aside0.mk (blk_put HBX.out 36 (.slice A7 r.length c7) (entC_set (x := ⟨no, sn, sr, ln, d, l⟩) HD32.out A6 A7 c6 c7 r))
              clear f36 z36
              refine wpAnyH_done (by kernel_rfl) ?_ _
            case' b7_3_4 =>
              rw [if_pos (by rfl)]
              refine wp_buildSlice_one 22 30 (.tmp 42) rfl 33 (sgA y) _ Try.underlying22 zeroSig2 (sgA_size HY32.out).symm (by decide) (by decide) (by rfl) ?_
              refine hK.out _ _ (trivial) (fun hHeld2 => ?_)
              clear hK K hHeld
              have hHeld := hHeld2
              clear hHeld2
              try simp only [Act.put, List.setIfInBounds_toArray, List.set_cons_zero, List.set_cons_succ]
              refine wpAnyH_ready (rs := [1]) (by kernel_rfl) (by simp) ?_
              refine AllReadyH.cons (by simp only [List.getElem?_toArray, List.getElem?_cons_succ, List.getElem?_cons_zero]; rfl) (fun K hK => ?_) AllReadyH.nil
              rw [if_pos (by rfl)]
              have f36 := (blk_cell (blk_alloc HBX.out (.cells (sgA y) 30)) 36).trans (entC_36 HD32.out A6 c6)
              go_wp2_with fail
              refine hK.out _ _ (trivial) (fun hHeld2 => ?_)
              clear hK K hHeld
              have hHeld := hHeld2
              clear hHeld2
              try simp only [Act.put, List.setIfInBounds_toArray, List.set_cons_zero, List.set_cons_succ]
              clear f36
              refine wpAnyH_ready (rs := [5]) (by kernel_rfl) (by simp) ?_
              refine AllReadyH.cons (by simp only [List.getElem?_toArray, List.getElem?_cons_succ, List.getElem?_cons_zero]; rfl) (fun K hK => ?_) AllReadyH.nil
              refine Kd.R_append_step sgK (w0 := w7) W.heap.size (by rfl) (.tmp 40) (.tmp 43) 22 30 _ 36 rfl Try.underlying22 zeroSig rfl (by decide) (by decide) (.slice A6 l.length c6) l y (sgL y) (fun _ => True) (fun _ => False) (by rfl) (by rfl) (sgK_M HY32.out) (fun k hk => hk.elim) (fun _ _ => trivial) HRX.out (Below.refl _ _) HG.out.size (by have := HLI.out; have h2 := HKK.out; have h3 := HI.out; omega) ?_
              intro v8 w8 hR8 hB8 hg8 hat8
              rw [HR'.out] at hR8
              obtain ⟨A7, c7, rfl⟩ := Kd.R_slice hR8
              refine hK.out _ _ (trivial) (fun hHeld2 => ?_)
              clear hK K hHeld
              have hHeld := hHeld2
              clear hHeld2
              try simp only [Act.put, List.setIfInBounds_toArray, List.set_cons_zero, List.set_cons_succ]
              have hhi := own_hi HRX.out
              have HBX := Aside0.mk (blk_grown HBX.out hg8 (Kd.R_ne HRX.out HBX.out (by decide)))
              have HZ := Aside0.mk (blk_grown HZ.out hg8 (Kd.R_ne HRX.out HZ.out (by decide)))
              have HRR := Aside0.mk (HRR.out.other hg8 (fun he => by have := hhi _ he.symm; have h4 := HLR.out; omega))
              have HS := Aside0.mk (HS.out.grown hg8 (fun he => by have := hhi _ he.symm; have h4 := HLT.out; omega) (below_grown HS.out.bel hg8 HS.out.bel.size (fun k hk => by have := hhi _ hk; have h4 := H.out.bel.size; omega)))
              have HG := Aside0.mk (HG.out.andThen hg8 (fun k hk => .inl (hhi _ hk)))
              have HRX := Aside0.mk hR8
              clear hR8 hB8 hg8 hat8 hhi
              refine tq (i := 6) (v := ?_) ?hy ?_
              case hy => (intro W_ hW_; go_simp; first | done | with_reducible rfl)
              try simp only [Act.put, List.setIfInBounds_toArray, List.set_cons_zero, List.set_cons_succ]
              refine wpAnyH_ready (rs := [7]) (by kernel_rfl) (by simp) ?_
              refine AllReadyH.cons (by simp only [List.getElem?_toArray, List.getElem?_cons_succ, List.getElem?_cons_zero]; rfl) (fun K hK => ?_) AllReadyH.nil
              rw [if_pos (by rfl)]
              have f36 := (blk_cell HBX.out 36).trans (entC_36 HD32.out A6 c6)
              have z36 := blk_frozen HBX.out 36
              go_wp2_with fail
              refine hK.out _ _ (trivial) (fun hHeld2 => ?_)
              clear hK K hHeld
              have hHeld := hHeld2
              clear hHeld2
              try simp only [Act.put, List.setIfInBounds_toArray, List.set_cons_zero, List.set_cons_succ]
              have HRX := Aside0.mk (Kd.R_set HRX.out HBX.out (sg_types 149 (by decide)) 36 (.slice A7 r.length c7))
              have HZ := Aside0.mk ((Below.heap_setCell _ ⟨g4, 36, none⟩ (.slice A7 r.length c7) W.heap.size HTI.out.ne).trans HZ.out)
              have HRR := Aside0.mk (HRR.out.set (g := g4) (by have := HLR.out; have h4 := HTI.out.lo4; omega) 36 (.slice A7 r.length c7))
              have HS := Aside0.mk (HS.out.set (g := g4) (by have := HLT.out; have h4 := HTI.out.lo4; omega) (Nat.le_trans H.out.bel.size HTI.out.lo4) 36 (.slice A7 r.length c7))
              have HG := Aside0.mk (grown_setn HG.out HTI.out.lo4 36 (.slice A7 r.length c7))
              have HBX := Aside0.mk (blk_put HBX.out 36 (.slice A7 r.length c7) (entC_set (x := ⟨no, sn, sr, ln, d, l⟩) HD32.out A6 A7 c6 c7 r))
              clear f36 z36
              refine wpAnyH_done (by kernel_rfl) ?_ _
          all_goals
            have HT7 : Aside0 (EbSt W w0 _ rb rr rs W.heap.size g4 ⟨no, sn, sr, ln, d, (itR blockR (i + 1) s4).1⟩ (itR blockR (i + 1) s4).2) := ⟨by rw [HIT.out]; exact ⟨HS.out, HRR.out, HG.out, HZ.out, ⟨A7, c7, HBX.out, HRX.out⟩, HTI.out.lo, HTI.out.lo4, HTI.out.ne, HTI.out.old, HTI.out.dig⟩⟩
            clear hHeld
            go_wp2_with fail
            go_roundg (kk - (i + 1))
            case measure => have := HK.out; have := HI.out; omega
            case rel => exact ⟨i + 1, by first | rfl | (simp [c2]; done), ⟨by have := HI.out; omega⟩, HT7⟩
        · have c0 : decide ((i : Int) < (kk : Int)) = false := by simpa using hi
          have c1 : ((i : Int) < (kk : Int)) = False := by simpa using hi
          have hik : i = kk := by have := HK.out; omega
          subst hik
          obtain ⟨A4, c4, hbx, hRx⟩ := HTI.out.box
          have HFIN := Aside0.mk (en_done HTI.out HRES.out A4 c4 hRx)
          obtain ⟨cs, hcs⟩ : ∃ cs, (entC ⟨no, sn, sr, ln, d, (itR blockR i s4).1⟩ A4 c4).toArray = cs := ⟨_, rfl⟩
          rw [hcs] at hbx HFIN
          have HBX := Aside0.mk hbx
          have hsz : cs.size = 37 := by rw [← hcs, List.size_toArray]; exact entC_len HD32.out A4 c4
          have HINF : Aside0 ((Try.prog.info? 149).map (·.size) = some cs.size) := ⟨by rw [hsz]; exact infoEnt⟩
          have hst := storeA (cs := cs) HTI.out.z (by rw [hsz]; rfl) (by rw [← hcs]; exact entC_one _ _ _)
          have HZ := Aside0.mk HTI.out.z
          clear hbx hRx hcs hi
          go_wp2_with (first
            | ((with_reducible refine gate_dst (N := 47) rfl ?_); refine wpList_load_row rfl 149 (.tmp 4) rfl g4 rfl 149 cs (0, 0) _ HBX.out Try.underlying149 rfl HINF.out ?_)
            | fail)
          refine bodyPost_ret (v := .agg cs) ?_ rfl HFIN.out
          exact results_cell_row (P := Try.prog) Try.results154 _ _ W.heap.size 149 cs (0, 0) _ rfl (setRow_heap _ _ _ _ _ _ HZ.out) Try.underlying149 rfl HINF.out
end Go.Proofs.Ytchaegfdcdlfaaa.X

namespace Go.Proofs.Ytchaegfdcdlfaaa.X
set_option linter.unusedVariables false
set_option linter.unusedSimpArgs false
open Go.RowKit Go.Proofs.YtchaegfdcdlfaaaW.PrintWords Go.Proofs.YtchaegfdcdlfaaaW.PrintLast Go.Proofs.YtchaegfdcdlfaaaW.PrintMore
open Go.Proofs.Ytchaegfdcdlfaaa.Y (Bytes RdB)

theorem entK_M {w : World} {base : Nat} {ok : Nat → Prop} {x : Ent} {A : Option Addr} {c : Nat} (hd : x.d.length = 32) (h : Kd.R sgK 30 w base ok (.slice A x.b.length c) x.b) : entK.M w base ok x (entC x A c) :=
  ⟨[.int .i64 x.no], _, rfl, rfl, [.int .i64 x.n], _, rfl, rfl, [.int .i64 x.rep], _, rfl, rfl, [.int .i64 x.len], _, rfl, rfl, nums .u8 x.d, _, rfl, ⟨rfl, hd⟩, _, rfl, h⟩
theorem linK_M {w : World} {base : Nat} {ok : Nat → Prop} {x : Lin} {A : Option Addr} {c : Nat} (hd : x.id.length = 16) (h : Kd.R entK 149 w base ok (.slice A x.f.length c) x.f) : linK.M w base ok x (linC x A c) :=
  ⟨nums .u8 x.id, _, rfl, ⟨rfl, hd⟩, [.int .i64 x.n], _, rfl, rfl, [.int .i64 x.rep], _, rfl, rfl, _, rfl, h⟩
theorem entK_E : entK.E = [30] := rfl
theorem linK_E : linK.E = [149, 30] := rfl
theorem ent_types (t : Nat) (h1 : t ≠ 149) (h2 : t ≠ 30) : ∀ q, q ∈ 149 :: entK.E → q ≠ t := fun q hq => by
  rw [entK_E] at hq
  simp at hq
  rcases hq with rfl | rfl <;> omega
theorem lin_types (t : Nat) (h0 : t ≠ 147) (h1 : t ≠ 149) (h2 : t ≠ 30) : ∀ q, q ∈ 147 :: linK.E → q ≠ t := fun q hq => by
  rw [linK_E] at hq
  simp at hq
  rcases hq with rfl | rfl | rfl <;> omega
theorem zeroEnt2 : (Try.prog.info? 149).map (fun i => (i.zero, i.size)) = some (some (.agg #[.int .i64 0, .int .i64 0, .int .i64 0, .int .i64 0, .int .u8 0, .int .u8 0, .int .u8 0, .int .u8 0, .int .u8 0, .int .u8 0, .int .u8 0, .int .u8 0, .int .u8 0, .int .u8 0, .int .u8 0, .int .u8 0, .int .u8 0, .int .u8 0, .int .u8 0, .int .u8 0, .int .u8 0, .int .u8 0, .int .u8 0, .int .u8 0, .int .u8 0, .int .u8 0, .int .u8 0, .int .u8 0, .int .u8 0, .int .u8 0, .int .u8 0, .int .u8 0, .int .u8 0, .int .u8 0, .int .u8 0, .int .u8 0, .slice none 0 0]), 37) := by kernel_rfl
theorem zeroEnt3 : (Try.prog.info? 149).map (fun i => (i.zero, i.size, i.bytes)) = some (some (.agg #[.int .i64 0, .int .i64 0, .int .i64 0, .int .i64 0, .int .u8 0, .int .u8 0, .int .u8 0, .int .u8 0, .int .u8 0, .int .u8 0, .int .u8 0, .int .u8 0, .int .u8 0, .int .u8 0, .int .u8 0, .int .u8 0, .int .u8 0, .int .u8 0, .int .u8 0, .int .u8 0, .int .u8 0, .int .u8 0, .int .u8 0, .int .u8 0, .int .u8 0, .int .u8 0, .int .u8 0, .int .u8 0, .int .u8 0, .int .u8 0, .int .u8 0, .int .u8 0, .int .u8 0, .int .u8 0, .int .u8 0, .int .u8 0, .slice none 0 0]), 37, 88) := by kernel_rfl
theorem zeroLin2 : (Try.prog.info? 147).map (fun i => (i.zero, i.size)) = some (some (.agg #[.int .u8 0, .int .u8 0, .int .u8 0, .int .u8 0, .int .u8 0, .int .u8 0, .int .u8 0, .int .u8 0, .int .u8 0, .int .u8 0, .int .u8 0, .int .u8 0, .int .u8 0, .int .u8 0, .int .u8 0, .int .u8 0, .int .i64 0, .int .i64 0, .slice none 0 0]), 19) := by kernel_rfl
theorem zeroLin3 : (Try.prog.info? 147).map (fun i => (i.zero, i.size, i.bytes)) = some (some (.agg #[.int .u8 0, .int .u8 0, .int .u8 0, .int .u8 0, .int .u8 0, .int .u8 0, .int .u8 0, .int .u8 0, .int .u8 0, .int .u8 0, .int .u8 0, .int .u8 0, .int .u8 0, .int .u8 0, .int .u8 0, .int .u8 0, .int .i64 0, .int .i64 0, .slice none 0 0]), 19, 56) := by kernel_rfl
theorem linC_set {x : Lin} (h : x.id.length = 16) (A A2 : Option Addr) (c c2 : Nat) (f : List Ent) : (linC x A c).toArray.setIfInBounds 18 (.slice A2 f.length c2) = (linC {x with f := f} A2 c2).toArray := by
  rw [List.setIfInBounds_toArray]
  congr 1
  unfold linC
  rw [List.set_append_right _ _ (by simp [nums, h])]
  simp [nums, h]
def rdC (rb : Nat) (base : List Int) (ls : List Lin) (A : Option Addr) (c : Nat) : List Value := .pointer (some ⟨rb, 0, none⟩) :: (nums .u8 base ++ [.slice A ls.length c])
theorem rdC_len {base : List Int} (h : base.length = 32) (rb : Nat) (ls : List Lin) (A : Option Addr) (c : Nat) : (rdC rb base ls A c).length = 34 := by simp [rdC, nums, h]
theorem rdC_33 {base : List Int} (h : base.length = 32) (rb : Nat) (ls : List Lin) (A : Option Addr) (c : Nat) : (rdC rb base ls A c).toArray[33]? = some (.slice A ls.length c) := by
  rw [List.getElem?_toArray]
  show (nums .u8 base ++ [Value.slice A ls.length c])[32]? = _
  rw [List.getElem?_append_right (by simp [nums, h])]
  simp [nums, h]
theorem rdC_set {base : List Int} (h : base.length = 32) (rb : Nat) (ls l2 : List Lin) (A A2 : Option Addr) (c c2 : Nat) : (rdC rb base ls A c).toArray.setIfInBounds 33 (.slice A2 l2.length c2) = (rdC rb base l2 A2 c2).toArray := by
  rw [List.setIfInBounds_toArray]
  congr 1
  unfold rdC
  simp only [List.set_cons_succ]
  rw [List.set_append_right _ _ (by simp [nums, h])]
  simp [nums, h]
structure RgSt (w0 W : World) (rb rr : Nat) (base : List Int) (ls : List Lin) (s : Rd) : Prop where
  hrd : RdSt w0 W rb s
  box : ∃ A c, W.heap[rr]? = some (.cells (rdC rb base ls A c).toArray 159 (0, 0)) ∧ Kd.R linK 147 W w0.heap.size (fun _ => True) (.slice A ls.length c) ls
  ne : rr ≠ rb
  lo : w0.heap.size ≤ rr
  b32 : base.length = 32
structure LnSt (W0 w0 W : World) (rb rr : Nat) (rs : Array Value) (bx : Nat) (x : Lin) (s : Rd) : Prop where
  hrd : RdSt w0 W rb s
  hrr : RrAt W rr rb rs
  hgr : W0.grownBy W (some rb)
  box : ∃ A c, W.heap[bx]? = some (.cells (linC x A c).toArray 147 (0, 0)) ∧ Kd.R entK 149 W W0.heap.size (fun _ => True) (.slice A x.f.length c) x.f
  lo : W0.heap.size ≤ bx
  old : rb < W0.heap.size ∧ rr < W0.heap.size
  id : x.id.length = 16
theorem At.ne {W : World} {ad : Addr} {l : List Int} (h : At W ad (cells8 l)) (hl : 0 < l.length) {rb : Nat} {v : Value} {b : Bool} (hr : W.heap[rb]? = some (.cells #[v, .bool b] 157 (0, 0))) (hv : ∀ k n, v ≠ .int k n) : ad.block ≠ rb := fun he => by
  have h0 := h 0 (.int .u8 (l.getD 0 0)) (by simp [cells8, List.getD_eq_getElem?_getD, hl])
  rw [show ad.add 0 = ad from by simp [Addr.add]] at h0
  unfold World.cell? at h0
  rw [he, hr] at h0
  rcases hk : ad.off with _ | _ | k
  · simp [hk] at h0
    exact hv _ _ h0.2
  · simp [hk] at h0
  · simp [hk] at h0
theorem At.grown {W W1 : World} {ad : Addr} {cs : Array Value} (h : At W ad cs) {row : Option Nat} (hg : W.grownBy W1 row) (hne : some ad.block ≠ row) (hlt : ad.block < W.heap.size) : At W1 ad cs := fun j v hj => by
  have h0 := h j v hj
  rw [← h0]
  exact World.cell?_of_block (hg.block _ (by unfold Addr.add; split <;> exact hlt) (by unfold Addr.add; split <;> exact hne))
end Go.Proofs.Ytchaegfdcdlfaaa.X

namespace Go.Proofs.Ytchaegfdcdlfaaa.X
set_option linter.unusedVariables false
set_option linter.unusedSimpArgs false
open Go.RowKit Go.Proofs.YtchaegfdcdlfaaaW.PrintWords Go.Proofs.YtchaegfdcdlfaaaW.PrintLast Go.Proofs.YtchaegfdcdlfaaaW.PrintMore
open Go.Proofs.Ytchaegfdcdlfaaa.Y (Bytes RdB rdb_below rdb_drop rdb_take)
attribute [local go_sem] max2_int min2_int max_two min_two max_three min_three max_four min_four
def SkipX (w0 W : World) (rb : Nat) (s : Rd) (n : Nat) (is : Bool) (e : Ending) (W' : World) : Prop :=
  SkipQ w0 W rb s n is e W' ∧ (0 < n → ∀ ad c, e = .returned (.slice (some ad) n c) → ad.block < w0.heap.size ∨ W.heap.size ≤ ad.block)
set_option maxHeartbeats 1000000 in
set_option maxRecDepth 100000 in
theorem skipx_ok (w0 W : World) (rb : Nat) (s : Rd) (n : Nat) (h : RdSt w0 W rb s) (hbad : s.bad = false) (hn : n ≤ s.b.length) :
    Calls Try.prog 152 #[.pointer (some ⟨rb, 0, none⟩), .int .i64 n, .bool true] W (SkipX w0 W rb s n true) := by
  obtain ⟨A, c, hr, hc, hA⟩ := h.row
  rw [hbad] at hr
  have H := Aside0.mk h
  have HR := Aside0.mk hr
  have HC := Aside0.mk hc
  have HA := Aside0.mk hA
  have HBAD := Aside0.mk hbad
  have HN := Aside0.mk hn
  obtain ⟨A', hcut, hA', hC'⟩ := rdb_drop A c s.b n hn hc
  have HA2 := Aside0.mk (hA' w0 hA)
  have HC2 := Aside0.mk hC'
  obtain ⟨x0, x1, f0, f1⟩ := RdSt.cell0 hr (w0 := w0)
  have c1 : decide ((n : Int) > (s.b.length : Int)) = false := decide_eq_false (by omega)
  have c2 : decide (n > s.b.length) = false := decide_eq_false (by omega)
  have c3 : ((n : Int) ≤ (s.b.length : Int)) = True := eq_true (by omega)
  have c4 : (n ≤ s.b.length) = True := eq_true (by omega)
  have c5 : (0 ≤ (n : Int)) = True := by simp
  have c6 : ((n : Int) ≤ (c : Int)) = True := eq_true (by omega)
  have c7 : (n ≤ c) = True := eq_true (by omega)
  clear h hr hc hA hbad hn hA' hC'
  go_enter Try.func152, Try.ntmps152
  go_wp2_with fail
  go_ret
  have hS := skipR_ok HBAD.out rfl HN.out (is := true)
  have hg : W.grownBy ((W.setCell ⟨rb, 1, none⟩ (.bool false)).setCell ⟨rb, 0, none⟩ (.slice A' (s.b.length - n) (c - n))) (some rb) := grown_set (grown_set (World.grownBy.refl W (some rb)) 1 _) 0 _
  have hst : RdSt w0 ((W.setCell ⟨rb, 1, none⟩ (.bool false)).setCell ⟨rb, 0, none⟩ (.slice A' (s.b.length - n) (c - n))) rb ⟨s.b.drop n, false⟩ := by
    refine rdst_after H.out hg ⟨s.b.drop n, false⟩ A' (c - n) ?_ (by rw [List.length_drop]; exact HC2.out) (by rw [List.length_drop]; exact HA2.out) n rfl
    rw [List.length_drop]
    exact blk_put (blk_put HR.out 1 _ rfl) 0 _ rfl
  unfold SkipX SkipQ
  rw [hS]
  refine ⟨⟨⟨A, c, rfl, by have := HC.out; have := HN.out; omega, ?_⟩, hst, hg⟩, fun h0 ad c' he => .inl ?_⟩
  · exact rdb_below (rdb_take HA.out n HN.out) hst.bel
  · have he' : Value.slice A n c = .slice (some ad) n c' := by injection he
    injection he' with hA1
    obtain ⟨ad2, hA2, hcell⟩ := Kd.at_int HA.out 0 (by omega) (by have := HN.out; omega)
    rw [hA1] at hA2
    injection hA2 with hA2
    subst hA2
    have := World.block_lt_of_cell? w0 _ hcell
    simpa [Addr.add] using this
set_option maxHeartbeats 1000000 in
set_option maxRecDepth 100000 in
theorem skipx_no (w0 W : World) (rb : Nat) (s : Rd) (n : Nat) (is : Bool) (h : RdSt w0 W rb s) (hno : s.bad = true ∨ is = false ∨ s.b.length < n) (hn : n ≤ 1000000) :
    Calls Try.prog 152 #[.pointer (some ⟨rb, 0, none⟩), .int .i64 n, .bool is] W (SkipX w0 W rb s n is) := by
  obtain ⟨A, c, hr, hc, hA⟩ := h.row
  have hS := Aside0.mk (skipR_bad hno)
  have hmk := print_make (P := Try.prog) 40 5 .u8 1 Try.underlying40 info5 (by decide) n (by omega)
  have hmx : max (n : Int) 0 = (n : Int) := by omega
  have H := Aside0.mk h
  have HC := Aside0.mk hc
  have HA := Aside0.mk hA
  have HN := Aside0.mk hn
  have HFIN : Aside0 (W.heap[rb]? = some (.cells #[.slice A s.b.length c, .bool s.bad] 157 (0, 0)) → SkipX w0 W rb s n is (.returned (.slice (some ⟨W.heap.size, 0, none⟩) n n)) ((W.setCell ⟨rb, 1, none⟩ (.bool true)).alloc (.cells (madeCells #[.int .u8 0] n) 5))) := ⟨fun hr => by
    have hz : (W.setCell ⟨rb, 1, none⟩ (.bool true)).heap.size = W.heap.size := by simp [World.setCell]
    rw [← hz]
    have hg : W.grownBy (W.setCell ⟨rb, 1, none⟩ (.bool true)) (some rb) := grown_set (World.grownBy.refl W (some rb)) 1 _
    have hst : RdSt w0 (W.setCell ⟨rb, 1, none⟩ (.bool true)) rb ⟨s.b, true⟩ := rdst_after h hg ⟨s.b, true⟩ A c (blk_put hr 1 _ rfl) hc hA 0 rfl
    unfold SkipX SkipQ
    rw [hS.out]
    refine ⟨⟨⟨_, _, rfl, Nat.le_refl _, ?_⟩, hst.below (below_alloc (Below.refl _ _) _), hg.trans (World.grownBy_alloc _ _ _)⟩, fun _ ad c' he => .inr ?_⟩
    · have := own_made (W.setCell ⟨rb, 1, none⟩ (.bool true)) 0 5 .u8 n (Nat.zero_le _) (by omega)
      obtain ⟨A9, c9, hv, hc9, hr9⟩ := Go.Proofs.Ytchaegfdcdlfaaa.Y.own_row (l := List.replicate n 0) this
      injection hv with h1 h2 h3
      rw [h1]
      exact hr9
    · have he' : Value.slice (some ⟨(W.setCell ⟨rb, 1, none⟩ (.bool true)).heap.size, 0, none⟩) n n = .slice (some ad) n c' := by injection he
      injection he' with hA1
      injection hA1 with hA1
      rw [← hA1, hz]
      exact Nat.le_refl _⟩
  cases hb : s.bad
  · rw [hb] at hr
    obtain ⟨x0, x1, f0, f1⟩ := RdSt.cell0 hr (w0 := w0)
    cases is
    · have HF := Aside0.mk (HFIN.out (by rw [hb]; exact hr))
      clear h hno hr hc hA hb hn HFIN
      go_enter Try.func152, Try.ntmps152
      go_wp2_with fail
      go_ret
      exact HF.out
    · have hlt : s.b.length < n := by
        rcases hno with h1 | h1 | h1
        · rw [hb] at h1; cases h1
        · cases h1
        · exact h1
      have c1 : decide ((n : Int) > (s.b.length : Int)) = true := decide_eq_true (by omega)
      have c2 : decide (n > s.b.length) = true := decide_eq_true (by omega)
      have HF := Aside0.mk (HFIN.out (by rw [hb]; exact hr))
      clear h hno hr hc hA hb hn hlt HFIN
      go_enter Try.func152, Try.ntmps152
      go_wp2_with fail
      go_ret
      exact HF.out
  · rw [hb] at hr
    obtain ⟨x0, x1, f0, f1⟩ := RdSt.cell0 hr (w0 := w0)
    have HF := Aside0.mk (HFIN.out (by rw [hb]; exact hr))
    clear h hno hr hc hA hb hn HFIN
    go_enter Try.func152, Try.ntmps152
    go_wp2_with fail
    go_ret
    exact HF.out
theorem skipx_call (w0 W : World) (rb : Nat) (s : Rd) (n : Nat) (is : Bool) (h : RdSt w0 W rb s) (hn : n ≤ 1000000) :
    Calls Try.prog 152 #[.pointer (some ⟨rb, 0, none⟩), .int .i64 n, .bool is] W (SkipX w0 W rb s n is) := by
  by_cases hno : s.bad = true ∨ is = false ∨ s.b.length < n
  · exact skipx_no w0 W rb s n is h hno hn
  · have h1 : s.bad = false := by
      cases hb : s.bad
      · rfl
      · exact absurd (.inl hb) hno
    have h2 : is = true := by
      cases hb : is
      · exact absurd (.inr (.inl hb)) hno
      · rfl
    subst h2
    exact skipx_ok w0 W rb s n h h1 (by have : ¬ s.b.length < n := fun h => hno (.inr (.inr h)); omega)
end Go.Proofs.Ytchaegfdcdlfaaa.X
