/- CodeBack: the walk, the row -/
import Derived.Test.YtchaegfdcdlfaaaA8
import Derived.Test.YtchaegfdcdlfaaaRows
import Derived.ShutString
import Derived.ChangeOld
set_option linter.unusedVariables false
set_option linter.unusedSimpArgs false
set_option maxRecDepth 100000
namespace Go.Proofs.Ytchaegfdcdlfaaa.X
section
open Go.RowKit Go.Proofs.YtchaegfdcdlfaaaW.PrintWords Go.Proofs.YtchaegfdcdlfaaaW.PrintLast Go.Proofs.YtchaegfdcdlfaaaW.PrintMore
open Go.Proofs.Ytchaegfdcdlfaaa.Y (Bytes RdB put put_range put_length put_length_pos word word_length word_bytes rdb_below rdb_drewN put_call row_slice conv0 bytes_of_wf rdb_cut rdb_take)
attribute [local go_sem] max2_int min2_int max_two min_two max_three min_three max_four min_four
set_option maxHeartbeats 2000000 in
theorem cback_main (p : PlanT) (A : Option Addr) (c : Nat) (w : World) (l : List Int) (B : Option Addr) (cap : Nat) (ok : PlanOk p) (hc : p.b.length ≤ c) (hC : Kd.C batK w A p.b.length p.b) (hr : RdB w B l.length l) (hcap : l.length ≤ cap) (hby : Bytes l) :
  Calls Try.prog 26 #[.agg (planC p A c).toArray, .slice B l.length cap] w fun e w' => e = .returned (.bool true) ∧ Below w.heap.size w w' := by
 have HRL := am hr
 have hfit := plan_fit hC
 have HFEW : Aside0 (∀ W : World, Below w.heap.size w W → Calls Try.prog 69 #[.agg (planC p A c).toArray] W fun e w' => e = .returned (.bool (fewP p)) ∧ Below W.heap.size W w') := ⟨fun W hW => fewp_call p A c W ok.base.1 hc (Kd.C_below hC hW)⟩
 have HPUT := am (fun (W : World) (hW : Below w.heap.size w W) => putp_call p A c W ok.byt hc (Kd.C_below hC hW) hfit)
 have HMAY : Aside0 (∀ W : World, Below w.heap.size w W → Calls Try.prog 71 #[.agg (planC p A c).toArray] W fun e w' => e = .returned (.bool (mayPl p)) ∧ Below W.heap.size W w') := ⟨fun W hW => mayp_call p A c W ok.base.1 hc (Kd.C_below hC hW) hfit⟩
 have HSAME : Aside0 (∀ (W V : World) (A2 : Option Addr) (c2 : Nat), Below w.heap.size w V → Kd.C batK W A2 p.b.length p.b → Below W.heap.size W V → Calls Try.prog 73 #[.agg (planC p A2 c2).toArray, .agg (planC p A c).toArray] V fun e w' => e = .returned (.bool true) ∧ Below V.heap.size V w') := ⟨fun W V A2 c2 hV hC2 hWV => by
  have h := samepl_call p p A2 A c2 c V ok.base.1 ok.base.1 (Kd.C_below hC2 hWV) (Kd.C_below hC hV) hfit hfit
  rw [samePl_eq.2 rfl] at h
  exact h⟩
 have HGETP : Aside0 (mayPl p = true → ∀ (W : World) (A2 : Option Addr) (c2 : Nat), RdB W A2 (putPl p).1.length (putPl p).1 → (putPl p).1.length ≤ c2 → Calls Try.prog 72 #[.slice A2 (putPl p).1.length c2] W (CgQ W (p, 0))) := ⟨fun hm W A2 c2 hr2 hc2 => by
  have h := getp_call A2 c2 (putPl p).1 W hr2 hc2 (putPl_bytes ok.byt) (by have := putPl_len ok.byt; omega)
  have e : getPl (putPl p).1 = (p, 0) := by
   unfold putPl
   rw [if_pos hm]
   exact getPl_put hm ok.byt
  rw [e] at h
  exact h⟩
 have HB32 := am ok.base.1
 have HI := am (planInfo (p := p) ok.base.1 A c)
 have HPE : Aside0 ((putPl p).2 = if mayPl p = true then 0 else 1) := ⟨by unfold putPl; split <;> rfl⟩
 obtain ⟨⟨pk, pe⟩, hpk⟩ : ∃ r, putPl p = r := ⟨_, rfl⟩
 rw [hpk] at HPUT HGETP HPE
 dsimp only at HGETP HPE
 obtain ⟨pn, hpn⟩ : ∃ pn, pk.length = pn := ⟨_, rfl⟩
 unfold CpQ at HPUT
 dsimp only at HPUT
 rw [hpn] at HPUT HGETP
 obtain ⟨⟨gm, er⟩, hgr⟩ : ∃ r, getPl l = r := ⟨_, rfl⟩
 obtain ⟨ln, hln⟩ : ∃ ln, l.length = ln := ⟨_, rfl⟩
 have HLN := am hln
 have HGETL : Aside0 (ln ≤ 4000 → ∀ (W : World), Below w.heap.size w W → Calls Try.prog 72 #[.slice B ln cap] W (CgQ W (gm, er))) := ⟨fun h5 W hW => by
  have h := getp_call B cap l W (rdb_below hr hW) hcap hby (by omega)
  rw [hgr, hln] at h
  exact h⟩
 have HGB : Aside0 (ln ≤ 4000 → PlByt gm) := ⟨fun h5 => by
  have h := getPl_byt hby (by omega)
  rw [hgr] at h
  exact h⟩
 have HGOT : Aside0 (er = 0 → mayPl gm = true ∧ plB gm = l) := ⟨fun h0 => by
  have h := getPl_got (b := l) (by rw [hgr]; exact h0)
  rw [hgr] at h
  exact h⟩
 have HZER : Aside0 (er ≠ 0 → gm = zPl) := ⟨fun h0 => by
  have h := getPl_zero (b := l) (by rw [hgr]; exact h0)
  rw [hgr] at h
  exact h⟩
 rw [hln] at HRL ⊢
 obtain ⟨ms, hms⟩ : ∃ ms, (planC p A c).toArray = ms := ⟨_, rfl⟩
 rw [hms] at HFEW HPUT HMAY HSAME HI ⊢
 have HBK := am (blk_new w (.cells ms 81))
 have HB0 := am (below_alloc (Below.refl w.heap.size w) (.cells ms 81))
 clear ok hc hC hr hcap hby hpn hpk hgr hln hms hfit
 go_enter Try.func26, Try.ntmps26
 go_wp2_with fail
 refine (awake18_call _).mono ?_
 rintro e_ w1 ⟨rfl, hb1⟩
 have HK1 := am (blk_below HBK.out hb1)
 have HB1 := am (below_step HB0.out hb1)
 clear hb1
 go_wp2_with (first
  | ((with_reducible refine gate_dst (N := 16) rfl ?_); refine wpList_load_row rfl 81 (.tmp 2) rfl w.heap.size rfl 81 ms (0, 0) _ HK1.out Try.underlying81 rfl HI.out ?_)
  | fail)
 refine (HFEW.out _ HB1.out).mono ?_
 rintro e_ w2 ⟨rfl, hb2⟩
 have HK2 := am (blk_below HK1.out hb2)
 have HB2 := am (below_step HB1.out hb2)
 clear hb2
 cases hf : fewP p
 ·clear hf
  go_wp2_with fail
  go_ret
  exact ⟨rfl, HB2.out⟩
 clear hf
 by_cases h5 : ln > 4000
 ·have q1 : decide ((ln : Int) > 4000) = true := decide_eq_true (by omega)
  have q1n : decide (4000 < ln) = true := decide_eq_true (by omega)
  clear h5
  go_wp2_with fail
  go_ret
  exact ⟨rfl, HB2.out⟩
 have q1 : decide ((ln : Int) > 4000) = false := decide_eq_false (by omega)
 have q1n : decide (4000 < ln) = false := decide_eq_false (by omega)
 have HGETL := am (HGETL.out (by omega))
 have HGB := am (HGB.out (by omega))
 clear h5
 go_wp2_with (first
  | ((with_reducible refine gate_dst (N := 31) rfl ?_); refine wpList_load_row rfl 81 (.tmp 2) rfl w.heap.size rfl 81 ms (0, 0) _ HK2.out Try.underlying81 rfl HI.out ?_)
  | fail)
 refine (HPUT.out _ HB2.out).mono ?_
 rintro e_ w3 ⟨⟨B1, c1, rfl, hc1, hr1⟩, hb3⟩
 have HK3 := am (blk_below HK2.out hb3)
 have HB3 := am (below_step HB2.out hb3)
 have HR1 := am (And.intro hc1 hr1)
 clear hb3 hc1 hr1
 cases hm : mayPl p
 ·have hpe : pe = 1 := by rw [HPE.out, hm]; rfl
  subst hpe
  rw [hm] at HMAY
  clear hm
  go_wp2_with (first
   | ((with_reducible refine gate_dst (N := 37) rfl ?_); refine wpList_load_row rfl 81 (.tmp 2) rfl w.heap.size rfl 81 ms (0, 0) _ HK3.out Try.underlying81 rfl HI.out ?_)
   | fail)
  refine (HMAY.out _ HB3.out).mono ?_
  rintro e_ w4 ⟨rfl, hb4⟩
  have HB4 := am (below_step HB3.out hb4)
  clear hb4
  go_wp2_with fail
  refine (HGETL.out _ HB4.out).mono ?_
  rintro e_ wx ⟨⟨Ax, cx, rfl, hcx, hCx⟩, hbx⟩
  have h32 := HGB.out.base.1
  have HBX := am (below_step HB4.out hbx)
  have hsx := plan_store wx gm Ax cx h32
  have hzx := planC_size (p := gm) h32 Ax cx
  have HIX := am (planInfo (p := gm) h32 Ax cx)
  have HBY := am (below_alloc HBX.out (.cells (planC gm Ax cx).toArray 81))
  have HNX := am (blk_new wx (.cells (planC gm Ax cx).toArray 81))
  by_cases hr0 : er = 0
  ·obtain ⟨hmay, hpl⟩ := HGOT.out hr0
   have HP2 := am (fun (W : World) (hW : Below wx.heap.size wx W) => putp_call gm Ax cx W HGB.out hcx (Kd.C_below hCx hW) (plan_fit hCx))
   have HM2 := am (fun (W : World) (hW : Below wx.heap.size wx W) => mayp_call gm Ax cx W h32 hcx (Kd.C_below hCx hW) (plan_fit hCx))
   rw [hmay] at HM2
   rw [show putPl gm = (l, 0) by unfold putPl; rw [if_pos hmay, hpl]] at HP2
   unfold CpQ at HP2
   dsimp only at HP2
   rw [HLN.out] at HP2
   subst hr0
   dsimp only at h32 ⊢
   obtain ⟨xs, hxs⟩ : ∃ xs, (planC gm Ax cx).toArray = xs := ⟨_, rfl⟩
   rw [hxs] at hsx hzx HIX HBY HNX HP2 HM2 ⊢
   have HBZ := am (below_alloc (Below.refl wx.heap.size wx) (.cells xs 81))
   clear hcx hCx hbx h32 hmay hpl hxs
   go_wp2_with (first
    | ((with_reducible refine gate_dst (N := 73) rfl ?_); refine wpList_load_row rfl 81 (.tmp 11) rfl wx.heap.size rfl 81 xs (0, 0) _ HNX.out Try.underlying81 rfl HIX.out ?_)
    | fail)
   refine (HP2.out _ HBZ.out).mono ?_
   rintro e_ wy ⟨⟨By, cy, rfl, hcy, hry⟩, hby⟩
   have HNY := am (blk_below HNX.out hby)
   have HBW := am (below_step HBY.out hby)
   have HBV := am (below_step HBZ.out hby)
   have HRY := am hry
   clear hcy hry hby hsx hzx
   go_wp2_with (first
    | ((with_reducible refine gate_dst (N := 80) rfl ?_); refine wpList_load_row_g (by rfl) 81 (.tmp 11) rfl wx.heap.size rfl 81 xs (0, 0) _ HNY.out Try.underlying81 rfl HIX.out ?_)
    | fail)
   refine (HM2.out _ HBV.out).mono ?_
   rintro e_ wz ⟨rfl, hbz⟩
   have HBU := am (below_step HBW.out hbz)
   have hcv1 := conv0 (rdb_below HRY.out hbz) cy
   have hcv2 := conv0 (rdb_below HRL.out HBU.out) cap
   clear hbz
   go_wp2_with fail
   go_ret
   exact ⟨by first | rfl | simp, HBU.out⟩
  ·obtain rfl := HZER.out hr0
   have k1 : (er != 0) = true := by simpa using hr0
   have k2 : decide (er = 0) = false := decide_eq_false hr0
   dsimp only
   have k32 := (blk_cell HNX.out 32).trans (planC_32 (m := zPl) rfl Ax cx)
   have HAT := am (planp_base HNX.out)
   have hz := eql_z18
   obtain ⟨zb, hzb⟩ : ∃ zb, cells8 zPl.base = zb := ⟨_, rfl⟩
   have HSZ : Aside0 (zb.size = 32) := ⟨by rw [← hzb, cells8_size]; rfl⟩
   rw [hzb] at HAT hz
   obtain ⟨xs, hxs⟩ : ∃ xs, (planC zPl Ax cx).toArray = xs := ⟨_, rfl⟩
   rw [hxs] at hsx hzx HIX HBY HNX HAT k32 ⊢
   clear hcx hCx hbx h32 hxs hzb hr0
   go_wp2_with (first
    | ((with_reducible refine gate_dst (N := 68) rfl ?_); refine wpList_load_cells_g (by rfl) 28 (.tmp 67) rfl ⟨wx.heap.size, 0, none⟩ rfl zb _ HAT.out Try.underlying28 rfl (by rw [HSZ.out]; kernel_rfl) ?_)
    | fail)
   go_ret
   exact ⟨by first | rfl | simp, HBY.out⟩
 have hpe : pe = 0 := by rw [HPE.out, hm]; rfl
 subst hpe
 have HGETP := am (HGETP.out hm)
 rw [hm] at HMAY
 clear hm
 go_wp2_with (first
  | ((with_reducible refine gate_dst (N := 37) rfl ?_); refine wpList_load_row rfl 81 (.tmp 2) rfl w.heap.size rfl 81 ms (0, 0) _ HK3.out Try.underlying81 rfl HI.out ?_)
  | fail)
 refine (HMAY.out _ HB3.out).mono ?_
 rintro e_ w4 ⟨rfl, hb4⟩
 have HK4 := am (blk_below HK3.out hb4)
 have HB4 := am (below_step HB3.out hb4)
 have HR4 := am (rdb_below HR1.out.2 hb4)
 clear hb4
 go_wp2_with fail
 refine (HGETP.out _ _ _ HR4.out HR1.out.1).mono ?_
 rintro e_ w5 ⟨⟨A5, c5, rfl, hc5, hC5⟩, hb5⟩
 have HK5 := am (blk_below HK4.out hb5)
 have HB5 := am (below_step HB4.out hb5)
 have hs5 := plan_store w5 p A5 c5 HB32.out
 have hz5 := planC_size (p := p) HB32.out A5 c5
 have HI5 := am (planInfo (p := p) HB32.out A5 c5)
 have HS5 := am (fun (V : World) (hV : Below w.heap.size w V) (hWV : Below w5.heap.size w5 V) => HSAME.out w5 V A5 c5 hV hC5 hWV)
 dsimp only
 obtain ⟨n5, hn5⟩ : ∃ n5, (planC p A5 c5).toArray = n5 := ⟨_, rfl⟩
 rw [hn5] at hs5 hz5 HI5 HS5 ⊢
 have HN6 := am (And.intro (blk_alloc HK5.out (.cells n5 81)) (blk_new w5 (.cells n5 81)))
 have HBL := am (below_alloc (Below.refl w5.heap.size w5) (.cells n5 81))
 have HB6 := am (below_alloc HB5.out (.cells n5 81))
 clear hc5 hC5 hb5 hn5
 go_wp2_with (first
  | ((with_reducible refine gate_dst (N := 50) rfl ?_); refine wpList_load_row_g (by rfl) 81 (.tmp 9) rfl w5.heap.size rfl 81 n5 (0, 0) _ HN6.out.2 Try.underlying81 rfl HI5.out ?_)
  | ((with_reducible refine gate_dst (N := 51) rfl ?_); refine wpList_load_row_g (by rfl) 81 (.tmp 2) rfl w.heap.size rfl 81 ms (0, 0) _ HN6.out.1 Try.underlying81 rfl HI.out ?_)
  | fail)
 refine (HS5.out _ HB6.out HBL.out).mono ?_
 rintro e_ w7 ⟨rfl, hb7⟩
 have HB7 := am (below_step HB6.out hb7)
 clear hb7 hs5 hz5
 go_wp2_with fail
 refine (HGETL.out _ HB7.out).mono ?_
 rintro e_ wx ⟨⟨Ax, cx, rfl, hcx, hCx⟩, hbx⟩
 have h32 := HGB.out.base.1
 have HBX := am (below_step HB7.out hbx)
 have hsx := plan_store wx gm Ax cx h32
 have hzx := planC_size (p := gm) h32 Ax cx
 have HIX := am (planInfo (p := gm) h32 Ax cx)
 have HBY := am (below_alloc HBX.out (.cells (planC gm Ax cx).toArray 81))
 have HNX := am (blk_new wx (.cells (planC gm Ax cx).toArray 81))
 by_cases hr0 : er = 0
 ·obtain ⟨hmay, hpl⟩ := HGOT.out hr0
  have HP2 := am (fun (W : World) (hW : Below wx.heap.size wx W) => putp_call gm Ax cx W HGB.out hcx (Kd.C_below hCx hW) (plan_fit hCx))
  have HM2 := am (fun (W : World) (hW : Below wx.heap.size wx W) => mayp_call gm Ax cx W h32 hcx (Kd.C_below hCx hW) (plan_fit hCx))
  rw [hmay] at HM2
  rw [show putPl gm = (l, 0) by unfold putPl; rw [if_pos hmay, hpl]] at HP2
  unfold CpQ at HP2
  dsimp only at HP2
  rw [HLN.out] at HP2
  subst hr0
  dsimp only at h32 ⊢
  obtain ⟨xs, hxs⟩ : ∃ xs, (planC gm Ax cx).toArray = xs := ⟨_, rfl⟩
  rw [hxs] at hsx hzx HIX HBY HNX HP2 HM2 ⊢
  have HBZ := am (below_alloc (Below.refl wx.heap.size wx) (.cells xs 81))
  clear hcx hCx hbx h32 hmay hpl hxs
  go_wp2_with (first
   | ((with_reducible refine gate_dst (N := 73) rfl ?_); refine wpList_load_row rfl 81 (.tmp 11) rfl wx.heap.size rfl 81 xs (0, 0) _ HNX.out Try.underlying81 rfl HIX.out ?_)
   | fail)
  refine (HP2.out _ HBZ.out).mono ?_
  rintro e_ wy ⟨⟨By, cy, rfl, hcy, hry⟩, hby⟩
  have HNY := am (blk_below HNX.out hby)
  have HBW := am (below_step HBY.out hby)
  have HBV := am (below_step HBZ.out hby)
  have HRY := am hry
  clear hcy hry hby hsx hzx
  go_wp2_with (first
   | ((with_reducible refine gate_dst (N := 80) rfl ?_); refine wpList_load_row_g (by rfl) 81 (.tmp 11) rfl wx.heap.size rfl 81 xs (0, 0) _ HNY.out Try.underlying81 rfl HIX.out ?_)
   | fail)
  refine (HM2.out _ HBV.out).mono ?_
  rintro e_ wz ⟨rfl, hbz⟩
  have HBU := am (below_step HBW.out hbz)
  have hcv1 := conv0 (rdb_below HRY.out hbz) cy
  have hcv2 := conv0 (rdb_below HRL.out HBU.out) cap
  clear hbz
  go_wp2_with fail
  go_ret
  exact ⟨by first | rfl | simp, HBU.out⟩
 ·obtain rfl := HZER.out hr0
  have k1 : (er != 0) = true := by simpa using hr0
  have k2 : decide (er = 0) = false := decide_eq_false hr0
  dsimp only
  have k32 := (blk_cell HNX.out 32).trans (planC_32 (m := zPl) rfl Ax cx)
  have HAT := am (planp_base HNX.out)
  have hz := eql_z18
  obtain ⟨zb, hzb⟩ : ∃ zb, cells8 zPl.base = zb := ⟨_, rfl⟩
  have HSZ : Aside0 (zb.size = 32) := ⟨by rw [← hzb, cells8_size]; rfl⟩
  rw [hzb] at HAT hz
  obtain ⟨xs, hxs⟩ : ∃ xs, (planC zPl Ax cx).toArray = xs := ⟨_, rfl⟩
  rw [hxs] at hsx hzx HIX HBY HNX HAT k32 ⊢
  clear hcx hCx hbx h32 hxs hzb hr0
  go_wp2_with (first
   | ((with_reducible refine gate_dst (N := 68) rfl ?_); refine wpList_load_cells_g (by rfl) 28 (.tmp 67) rfl ⟨wx.heap.size, 0, none⟩ rfl zb _ HAT.out Try.underlying28 rfl (by rw [HSZ.out]; kernel_rfl) ?_)
   | fail)
  go_ret
  exact ⟨by first | rfl | simp, HBY.out⟩
theorem rolodexlaw18_CodeBack.walk (m : PlanT) (A : Option Addr) (c : Nat) (a1 : Option Addr) (len1 cap1 : Nat) (z1 : List Int) (w : World) (ok : PlanOk m) (hc : m.b.length ≤ c) (hC : Kd.C batK w A m.b.length m.b)
  (w1 : (a1 = none ∧ len1 = 0 ∧ cap1 = 0 ∧ z1 = []) ∨ ∃ x, a1 = some x ∧ len1 ≤ cap1 ∧ cap1 ≤ maxLen ∧ z1.length = cap1 ∧ (∀ i, i < z1.length → w.cell? (x.add i) = some (.int .u8 (z1.getD i 0))) ∧ ∀ n ∈ z1, (Lit.int .u8 n).wf = true) (y1 : len1 * 1 ≤ 140737488351232) :
  Calls Try.prog 26 #[.agg (planC m A c).toArray, .slice a1 len1 cap1] w fun e w' => e = .returned (.bool true) ∧ Below w.heap.size w w' := by
 obtain ⟨l1, hl1, hr1, hm1, hw1, hc1⟩ := ReadsInt.ofRowC w1
 have hr := Kd.C_of_reads (d := (0 : Int)) (h1 := fun _ => rfl) hr1
 subst hl1
 exact cback_main m A c w l1 a1 cap1 ok hc hC hr hc1 (bytes_of_wf hw1)
end
end Go.Proofs.Ytchaegfdcdlfaaa.X
namespace Go.Proofs.Ytchaegfdcdlfaaa.codeBack
section
open Go.ChangeShapes Go.WideShapes Go.ChangeAt Go.RowKit
open Go.ChangeMaps (open_string shut_string)
theorem own : ownKnob Try.prog.godebug = none := by kernel_rfl
theorem laidOut : laidOutB Try.prog = true := by kernel_rfl
def IsRow (k : IntKind) (w : World) (a : Option Addr) (len cap : Nat) (zs : List Int) : Prop :=
 (a = none ∧ len = 0 ∧ cap = 0 ∧ zs = []) ∨
 ∃ x, a = some x ∧ len ≤ cap ∧ cap ≤ maxLen ∧ zs.length = cap ∧ (∀ i, i < zs.length → w.cell? (x.add i) = some (.int k (zs.getD i 0))) ∧ ∀ n ∈ zs, (Lit.int k n).wf = true
theorem lifted (os : Os) (started : os.Started) (H : Type) (enc : TypeId × Value → H) :
  ReturnsInHanded {} Try.checked os 26 .any (Rows.codeBackSpec.pre6 enc Try.prog Try.f26 Rows.codeBackRow.domain false) (Rows.codeBackSpec.post enc Try.prog Try.f26 false true false false) := by
 refine returnsInHanded_of_change_sized (C := Try.checked) own started (by kernel_rfl) Try.func26
  (ChangeSpec.witness6 (enc := enc) (C := Try.checked) false ⟨#[], #[.agg #[.int .u8 0, .int .u8 0, .int .u8 0, .int .u8 0, .int .u8 0, .int .u8 0, .int .u8 0, .int .u8 0, .int .u8 0, .int .u8 0, .int .u8 0, .int .u8 0, .int .u8 0, .int .u8 0, .int .u8 0, .int .u8 0, .int .u8 0, .int .u8 0, .int .u8 0, .int .u8 0, .int .u8 0, .int .u8 0, .int .u8 0, .int .u8 0, .int .u8 0, .int .u8 0, .int .u8 0, .int .u8 0, .int .u8 0, .int .u8 0, .int .u8 0, .int .u8 0, .slice none 0 0], .slice none 0 0], []⟩ 8 (by kernel_rfl) (by kernel_rfl) (by kernel_rfl) (by kernel_rfl)) ?_
 intro W base args ds gs before hval0 hW hcnd hsz0 _
 have hsz : (DataW.weightsEach Try.prog (Try.f26.params.toList ++ Rows.codeBackSpec.plain.varTypes Try.prog) (ds ++ gs)).all (· ≤ reachBytes) = true := hsz0
 have hval : ∀ (j : Nat) t v, Try.f26.params[j]? = some t → args[j]? = some v → Value.okWide Try.prog W .any base t v := hval0
 have hW' := hW
 obtain ⟨p, q, hA0, hV, rfl, hfz, hnd⟩ := hW
 have hA : DataW.TrodAll enc Try.prog W 0 (fun _ => true) true Try.f26.params.toList args.toList ds p := hA0
 rw [Try.params26] at hA hval hsz
 obtain ⟨v0, vs0, d0, ds0, p0, q0, hargs, rfl, rfl, h0, r0⟩ := trodAll_cons hA
 obtain ⟨v1, vs1, d1, ds1, p1, q1, rfl, rfl, rfl, h1, r1⟩ := trodAll_cons r0
 obtain ⟨rfl, rfl, rfl⟩ := trodAll_nil r1
 obtain rfl : args = #[v0, v1] := by cases args; simp_all
 obtain ⟨rfl, rfl⟩ := trodVars_none hV
 have k0 := h0
 have lt0 : ∀ x ∈ p0, x.block < W.heap.size := by obtain ⟨m, hm⟩ := k0; exact DataW.trod_lt m _ _ _ hm
 obtain ⟨l0, a0, c0, rfl, o0, n0, b0⟩ := X.open_plan (hval 0 81 v0 rfl rfl) h0
 obtain ⟨a1, len1, cap1, rfl⟩ := okWide_slice Try.underlying40 (hval 1 40 v1 rfl rfl)
 have k1 := h1
 have lt1 : ∀ x ∈ p1, x.block < W.heap.size := by obtain ⟨m, hm⟩ := k1; exact DataW.trod_lt m _ _ _ hm
 obtain ⟨z1, w1⟩ : ∃ zs, IsRow .u8 W a1 len1 cap1 zs := by
  obtain ⟨fuel, hf⟩ := h1
  rcases open_ints Try.underlying40 Try.underlying5 (by kernel_rfl) hf with ⟨hcs, _⟩ | ⟨x, l, c, zs, hcs, _, hl, hm, hz, _, hcell, hwz⟩
  ·simp [Value.cells] at hcs
   obtain ⟨rfl, rfl, rfl⟩ := hcs
   exact ⟨[], .inl ⟨rfl, rfl, rfl, rfl⟩⟩
  ·simp [Value.cells] at hcs
   obtain ⟨rfl, rfl, rfl⟩ := hcs
   exact ⟨zs, .inr ⟨_, rfl, hl, hm, by simpa using hz, hcell, hwz⟩⟩
 have y1 : len1 * 1 ≤ 140737488351232 := Go.Proofs.YtchaegfdcdlfaaaW.PrintWords.sized_ints hsz (j := 1) (t := 40) rfl rfl Try.underlying40 Try.underlying5 (by kernel_rfl) (by kernel_rfl) h1
 clear hA0 hval0 hsz0 hsz
 refine (X.rolodexlaw18_CodeBack.walk l0 a0 c0 a1 len1 cap1 z1 W o0 n0 b0 w1 y1).mono fun e W' ⟨he, bel⟩ => ?_
 subst he
 exact ⟨_, rfl, _, _, _, [], _, [], hW', trodAll_mk1 (shut_bool Try.underlying4 _), (trodAll_cons_mk (Below.trod laidOut (by kernel_rfl) (of_decide_eq_true (by kernel_rfl)) k0 bel lt0) (trodAll_cons_mk (Below.trod laidOut (by kernel_rfl) (of_decide_eq_true (by kernel_rfl)) k1 bel lt1) trodAll_mk0)), rfl, bel.frame _, fun h => by cases h⟩
theorem clos0 : (J.closT Try.prog 185 [26] []).isSome = true := by kernel_rfl
theorem clos1 : Try.prog.closure 26 = (J.closT Try.prog 185 [26] []).getD [] := J.clos_eq (of_decide_eq_true (by kernel_rfl)) clos0
theorem fact1 : Try.prog.inPlace 26 = [] := by unfold Program.inPlace; rw [clos1]; kernel_rfl
theorem fact2 : Try.prog.unfollowed 26 = true := by unfold Program.unfollowed; rw [clos1]; kernel_rfl
theorem fact3 : Try.prog.recurses 26 = true := by unfold Program.recurses; rw [fact2]; rfl
theorem fact4 : Try.prog.varsNamed 26 = [] := by unfold Program.varsNamed; rw [clos1]; kernel_rfl
theorem facts : joinedFacts Try.prog 26 Try.f26 Rows.codeBackSpec Rows.codeBackRow = true := by
 unfold joinedFacts
 simp only [Bool.and_eq_true]
 repeat' apply And.intro
 all_goals first | (with_reducible exact J.mayEnter) | (rw [J.liftsFinal]; kernel_rfl) | (rw [J.make]; kernel_rfl) | (rw [fact1]; kernel_rfl) | (rw [fact2]; kernel_rfl) | (rw [fact3]; kernel_rfl) | (rw [fact4]; kernel_rfl) | kernel_rfl
theorem over : Rows.codeBackRow.holds Try.pinned (OpenSpec.ofChange Rows.codeBackSpec) :=
 OpenClaim.holds_of_wide 26 Try.f26 rfl rfl rfl rfl rfl rfl rfl ⟨rfl, rfl, rfl, rfl, rfl⟩ rfl rfl rfl rfl rfl (by kernel_rfl) Try.func26 facts
  (of_decide_eq_true (by kernel_rfl)) (by unfold Func.isWrapper; first | (rw [if_pos (by decide +kernel)]; kernel_rfl) | (rw [if_neg (by decide +kernel)]; exact ⟨rfl, rfl⟩))
  (fun os started H enc _ => lifted os started H enc)
theorem proved : Rows.CodeBackSaid := over
end
end Go.Proofs.Ytchaegfdcdlfaaa.codeBack
namespace Go.Proofs.Ytchaegfdcdlfaaa
theorem codeBack_holds : Rows.CodeBackSaid := codeBack.proved
end Go.Proofs.Ytchaegfdcdlfaaa
