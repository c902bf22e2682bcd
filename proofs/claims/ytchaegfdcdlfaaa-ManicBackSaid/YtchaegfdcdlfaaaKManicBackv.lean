/- ManicBack: the walk, the plain law, the row. -/
import Derived.Test.YtchaegfdcdlfaaaM6v
import Derived.Test.YtchaegfdcdlfaaaRows
import Derived.WalkKit
import Derived.ProofKit
import Derived.OpenShut
import Derived.ShutString
import Derived.ChangeOld
import Derived.Below
import Derived.SizedLaws
import Derived.Test.YtchaegfdcdlfaaaVSized

/- ManicBack, walked: function 23. -/
namespace Go.Proofs.Ytchaegfdcdlfaaa.X
set_option linter.unusedVariables false
set_option linter.unusedSimpArgs false
open Go.RowKit Go.Proofs.YtchaegfdcdlfaaaW.PrintWords Go.Proofs.YtchaegfdcdlfaaaW.PrintLast Go.Proofs.YtchaegfdcdlfaaaW.PrintMore
open Go.Proofs.Ytchaegfdcdlfaaa.Y (Bytes RdB put put_range put_length put_length_pos word word_length word_bytes rdb_below rdb_drewN put_call word_call row_slice conv0 strs_inj bytes_of_wf rdb_cut rdb_take)
attribute [local go_sem] max2_int min2_int max_two min_two max_three min_three max_four min_four
theorem ShM.byt {m : Man} (h : ShM m) : ManByt m := ⟨h.1, fun x hx => ⟨(h.2.2.2 x hx).1, fun e he => ⟨((h.2.2.2 x hx).2.2.2.2 e he).2.2.2.1, ((h.2.2.2 x hx).2.2.2.2 e he).2.2.2.2.2⟩⟩⟩
theorem z32_eq : cells8 zMan.base = #[.int .u8 0, .int .u8 0, .int .u8 0, .int .u8 0, .int .u8 0, .int .u8 0, .int .u8 0, .int .u8 0, .int .u8 0, .int .u8 0, .int .u8 0, .int .u8 0, .int .u8 0, .int .u8 0, .int .u8 0, .int .u8 0, .int .u8 0, .int .u8 0, .int .u8 0, .int .u8 0, .int .u8 0, .int .u8 0, .int .u8 0, .int .u8 0, .int .u8 0, .int .u8 0, .int .u8 0, .int .u8 0, .int .u8 0, .int .u8 0, .int .u8 0, .int .u8 0] := rfl
theorem eql_z (W : World) : (binOp .eql 28 (.agg (cells8 zMan.base)) (.agg #[.int .u8 0, .int .u8 0, .int .u8 0, .int .u8 0, .int .u8 0, .int .u8 0, .int .u8 0, .int .u8 0, .int .u8 0, .int .u8 0, .int .u8 0, .int .u8 0, .int .u8 0, .int .u8 0, .int .u8 0, .int .u8 0, .int .u8 0, .int .u8 0, .int .u8 0, .int .u8 0, .int .u8 0, .int .u8 0, .int .u8 0, .int .u8 0, .int .u8 0, .int .u8 0, .int .u8 0, .int .u8 0, .int .u8 0, .int .u8 0, .int .u8 0, .int .u8 0])).run Try.prog W = .ok (.bool true) W := by
  have := eql8 (P := Try.prog) (w := W) (t := 28) Try.underlying28 Try.info5i Try.underlying5 cells5 zMan.base zMan.base rfl rfl
  rw [show (zMan.base == zMan.base) = true from beq_self_eq_true _] at this
  rw [← z32_eq]
  exact this
set_option maxHeartbeats 2000000 in
set_option maxRecDepth 100000 in
theorem mback_main (m : Man) (A : Option Addr) (c : Nat) (w : World) (l : List Int) (B : Option Addr) (cap : Nat) (ok : ManOk m) (hc : m.l.length ≤ c) (hC : Kd.C linK w A m.l.length m.l) (hr : RdB w B l.length l) (hcap : l.length ≤ cap) (hby : Bytes l) (hl : l.length ≤ 140737488351232) :
    Calls Try.prog 23 #[.agg (manC m A c).toArray, .slice B l.length cap] w fun e w' => e = .returned (.bool true) ∧ Below w.heap.size w w' := by
  have HRL := Aside0.mk hr
  have HFEW : Aside0 (∀ W : World, Below w.heap.size w W → Calls Try.prog 63 #[.agg (manC m A c).toArray] W fun e w' => e = .returned (.bool (fewM m)) ∧ Below W.heap.size W w') := ⟨fun W hW => few_call m A c W ok.base.1 hc (Kd.C_below hC hW)⟩
  have HPUT := Aside0.mk (fun (W : World) (hW : Below w.heap.size w W) => putm_call m A c W ok.byt hc (Kd.C_below hC hW))
  have HMAY : Aside0 (∀ W : World, Below w.heap.size w W → Calls Try.prog 65 #[.agg (manC m A c).toArray] W fun e w' => e = .returned (.bool (mayM m)) ∧ Below W.heap.size W w') := ⟨fun W hW => may_call m A c W ok.base.1 hc (Kd.C_below hC hW)⟩
  have HSAME : Aside0 (∀ (W V : World) (A2 : Option Addr) (c2 : Nat), Below w.heap.size w V → Kd.C linK W A2 m.l.length m.l → Below W.heap.size W V → Calls Try.prog 67 #[.agg (manC m A2 c2).toArray, .agg (manC m A c).toArray] V fun e w' => e = .returned (.bool true) ∧ Below V.heap.size V w') := ⟨fun W V A2 c2 hV hC2 hWV => by
    have h := samem_call m m A2 A c2 c V ok.base.1 ok.base.1 (Kd.C_below hC2 hWV) (Kd.C_below hC hV) ok.ok ok.ok
    rw [sameM_eq.2 rfl] at h
    exact h⟩
  have HGETP : Aside0 (mayM m = true → ∀ (W : World) (A2 : Option Addr) (c2 : Nat), RdB W A2 (putM m).1.length (putM m).1 → (putM m).1.length ≤ c2 → Calls Try.prog 66 #[.slice A2 (putM m).1.length c2] W (GetQ W (m, 0))) := ⟨fun hm W A2 c2 hr2 hc2 => by
    have h := getm_call A2 c2 (putM m).1 W hr2 hc2 (putM_bytes ok.byt) (by
      unfold putM
      rw [if_pos hm]
      have := (packM_len hm ok.byt).2
      dsimp only
      omega)
    have e : getM (putM m).1 = (m, 0) := by
      unfold putM
      rw [if_pos hm]
      exact getM_put hm ok.byt
    rw [e] at h
    exact h⟩
  have HB32 := Aside0.mk ok.base.1
  have HI := Aside0.mk (manInfo (m := m) ok.base.1 A c)
  obtain ⟨pn, hpn⟩ : ∃ pn, (putM m).1.length = pn := ⟨_, rfl⟩
  rw [hpn] at HPUT HGETP
  obtain ⟨pk, hpk⟩ : ∃ pk, (putM m).1 = pk := ⟨_, rfl⟩
  rw [hpk] at HPUT HGETP
  obtain ⟨⟨gm, er⟩, hgr⟩ : ∃ r, getM l = r := ⟨_, rfl⟩
  obtain ⟨ln, hln⟩ : ∃ ln, l.length = ln := ⟨_, rfl⟩
  have HLN := Aside0.mk hln
  have HGETL : Aside0 (ln ≤ 5000 → ∀ (W : World), Below w.heap.size w W → Calls Try.prog 66 #[.slice B ln cap] W (GetQ W (gm, er))) := ⟨fun h5 W hW => by
    have h := getm_call B cap l W (rdb_below hr hW) hcap hby (by omega)
    rw [hgr, hln] at h
    exact h⟩
  have HGOT : Aside0 (ln ≤ 5000 → er = 0 → mayM gm = true ∧ ManByt gm ∧ packL 1 (manB gm) = l) := ⟨fun h5 h0 => by
    have h := getM_got hby (by omega) (by rw [hgr]; exact h0)
    rw [hgr] at h
    exact ⟨h.1, h.2.1.byt, h.2.2⟩⟩
  have HZER : Aside0 (er ≠ 0 → gm = zMan) := ⟨fun h0 => by
    have h := getM_zero (b := l) (by rw [hgr]; exact h0)
    rw [hgr] at h
    exact h⟩
  rw [hln] at HRL ⊢
  obtain ⟨ms, hms⟩ : ∃ ms, (manC m A c).toArray = ms := ⟨_, rfl⟩
  rw [hms] at HFEW HPUT HMAY HSAME HI ⊢
  have HBK := Aside0.mk (blk_new w (.cells ms 71))
  have HB0 := Aside0.mk (below_alloc (Below.refl w.heap.size w) (.cells ms 71))
  clear ok hc hC hr hcap hby hl hpn hpk hgr hln hms
  go_enter Try.func23, Try.ntmps23
  go_wp2_with fail
  refine (awake13_call _).mono ?_
  rintro e_ w1 ⟨rfl, hb1⟩
  have HK1 := Aside0.mk (blk_below HBK.out hb1)
  have HB1 := Aside0.mk (below_step HB0.out hb1)
  clear hb1
  go_wp2_with (first
    | ((with_reducible refine gate_dst (N := 16) rfl ?_); refine wpList_load_row rfl 71 (.tmp 2) rfl w.heap.size rfl 71 ms (0, 0) _ HK1.out Try.underlying71 rfl HI.out ?_)
    | fail)
  refine (HFEW.out _ HB1.out).mono ?_
  rintro e_ w2 ⟨rfl, hb2⟩
  have HK2 := Aside0.mk (blk_below HK1.out hb2)
  have HB2 := Aside0.mk (below_step HB1.out hb2)
  clear hb2
  cases hf : fewM m
  · clear hf
    go_wp2_with fail
    go_ret
    exact ⟨rfl, HB2.out⟩
  clear hf
  by_cases h5 : ln > 5000
  · have q1 : decide ((ln : Int) > 5000) = true := decide_eq_true (by omega)
    have q1n : decide (5000 < ln) = true := decide_eq_true (by omega)
    clear h5
    go_wp2_with fail
    go_ret
    exact ⟨rfl, HB2.out⟩
  have q1 : decide ((ln : Int) > 5000) = false := decide_eq_false (by omega)
  have q1n : decide (5000 < ln) = false := decide_eq_false (by omega)
  have HGETL := Aside0.mk (HGETL.out (by omega))
  have HGOT := Aside0.mk (HGOT.out (by omega))
  clear h5
  go_wp2_with (first
    | ((with_reducible refine gate_dst (N := 31) rfl ?_); refine wpList_load_row rfl 71 (.tmp 2) rfl w.heap.size rfl 71 ms (0, 0) _ HK2.out Try.underlying71 rfl HI.out ?_)
    | fail)
  refine (HPUT.out _ HB2.out).mono ?_
  rintro e_ w3 ⟨⟨B1, c1, rfl, hc1, hr1⟩, hb3⟩
  have HK3 := Aside0.mk (blk_below HK2.out hb3)
  have HB3 := Aside0.mk (below_step HB2.out hb3)
  have HR1 := Aside0.mk (And.intro hc1 hr1)
  clear hb3 hc1 hr1
  go_wp2_with (first
    | ((with_reducible refine gate_dst (N := 36) rfl ?_); refine wpList_load_row rfl 71 (.tmp 2) rfl w.heap.size rfl 71 ms (0, 0) _ HK3.out Try.underlying71 rfl HI.out ?_)
    | fail)
  refine (HMAY.out _ HB3.out).mono ?_
  rintro e_ w4 ⟨rfl, hb4⟩
  have HK4 := Aside0.mk (blk_below HK3.out hb4)
  have HB4 := Aside0.mk (below_step HB3.out hb4)
  have HR4 := Aside0.mk (rdb_below HR1.out.2 hb4)
  clear hb4
  cases hm : mayM m
  · clear hm
    go_wp2_with fail
    refine (HGETL.out _ HB4.out).mono ?_
    rintro e_ wx ⟨Ax, cx, rfl, hcx, hCx, hbx, h32⟩
    have HBX := Aside0.mk (below_step HB4.out hbx)
    have hsx := man_store wx gm Ax cx h32
    have hzx := manC_size (m := gm) h32 Ax cx
    have HIX := Aside0.mk (manInfo (m := gm) h32 Ax cx)
    have HBY := Aside0.mk (below_alloc HBX.out (.cells (manC gm Ax cx).toArray 71))
    have HNX := Aside0.mk (blk_new wx (.cells (manC gm Ax cx).toArray 71))
    by_cases hr0 : er = 0
    · obtain ⟨hmay, hbyt, hpl⟩ := HGOT.out hr0
      have HP2 := Aside0.mk (fun (W : World) (hW : Below wx.heap.size wx W) => putm_yes gm Ax cx W hbyt hcx (Kd.C_below hCx hW) hmay)
      have HM2 := Aside0.mk (fun (W : World) (hW : Below wx.heap.size wx W) => may_call gm Ax cx W h32 hcx (Kd.C_below hCx hW))
      rw [hmay] at HM2
      rw [hpl, HLN.out] at HP2
      subst hr0
      dsimp only at h32 ⊢
      obtain ⟨xs, hxs⟩ : ∃ xs, (manC gm Ax cx).toArray = xs := ⟨_, rfl⟩
      rw [hxs] at hsx hzx HIX HBY HNX HP2 HM2 ⊢
      have HBZ := Aside0.mk (below_alloc (Below.refl wx.heap.size wx) (.cells xs 71))
      clear hcx hCx hbx h32 hmay hbyt hpl hxs
      go_wp2_with (first
        | ((with_reducible refine gate_dst (N := 71) rfl ?_); refine wpList_load_row rfl 71 (.tmp 11) rfl wx.heap.size rfl 71 xs (0, 0) _ HNX.out Try.underlying71 rfl HIX.out ?_)
        | fail)
      refine (HP2.out _ HBZ.out).mono ?_
      rintro e_ wy ⟨⟨By, cy, rfl, hcy, hry⟩, hby⟩
      have HNY := Aside0.mk (blk_below HNX.out hby)
      have HBW := Aside0.mk (below_step HBY.out hby)
      have HBV := Aside0.mk (below_step HBZ.out hby)
      have HRY := Aside0.mk hry
      clear hcy hry hby hsx hzx
      go_wp2_with (first
        | ((with_reducible refine gate_dst (N := 77) rfl ?_); refine wpList_load_row_g (by rfl) 71 (.tmp 11) rfl wx.heap.size rfl 71 xs (0, 0) _ HNY.out Try.underlying71 rfl HIX.out ?_)
        | fail)
      refine (HM2.out _ HBV.out).mono ?_
      rintro e_ wz ⟨rfl, hbz⟩
      have HBU := Aside0.mk (below_step HBW.out hbz)
      have hcv1 := conv0 (rdb_below HRY.out hbz) cy
      have hcv2 := conv0 (rdb_below HRL.out HBU.out) cap
      clear hbz
      go_wp2_with fail
      go_ret
      exact ⟨by first | rfl | simp, HBU.out⟩
    · obtain rfl := HZER.out hr0
      have k1 : (er != 0) = true := by simpa using hr0
      have k2 : decide (er = 0) = false := decide_eq_false hr0
      dsimp only
      have k32 := (blk_cell HNX.out 32).trans (manC_32 (m := zMan) rfl Ax cx)
      have HAT := Aside0.mk (man_base HNX.out)
      have hz := eql_z
      obtain ⟨zb, hzb⟩ : ∃ zb, cells8 zMan.base = zb := ⟨_, rfl⟩
      have HSZ : Aside0 (zb.size = 32) := ⟨by rw [← hzb, cells8_size]; rfl⟩
      rw [hzb] at HAT hz
      obtain ⟨xs, hxs⟩ : ∃ xs, (manC zMan Ax cx).toArray = xs := ⟨_, rfl⟩
      rw [hxs] at hsx hzx HIX HBY HNX HAT k32 ⊢
      clear hcx hCx hbx h32 hxs hzb hr0
      go_wp2_with (first
        | ((with_reducible refine gate_dst (N := 66) rfl ?_); refine wpList_load_cells_g (by rfl) 28 (.tmp 65) rfl ⟨wx.heap.size, 0, none⟩ rfl zb _ HAT.out Try.underlying28 rfl (by rw [HSZ.out]; kernel_rfl) ?_)
        | fail)
      go_ret
      exact ⟨by first | rfl | simp, HBY.out⟩
  have HGETP := Aside0.mk (HGETP.out hm)
  clear hm
  go_wp2_with fail
  refine (HGETP.out _ _ _ HR4.out HR1.out.1).mono ?_
  rintro e_ w5 ⟨A5, c5, rfl, hc5, hC5, hb5, h5z⟩
  have HK5 := Aside0.mk (blk_below HK4.out hb5)
  have HB5 := Aside0.mk (below_step HB4.out hb5)
  have hs5 := man_store w5 m A5 c5 HB32.out
  have hz5 := manC_size (m := m) HB32.out A5 c5
  have HI5 := Aside0.mk (manInfo (m := m) HB32.out A5 c5)
  have HS5 := Aside0.mk (fun (V : World) (hV : Below w.heap.size w V) (hWV : Below w5.heap.size w5 V) => HSAME.out w5 V A5 c5 hV hC5 hWV)
  dsimp only
  obtain ⟨n5, hn5⟩ : ∃ n5, (manC m A5 c5).toArray = n5 := ⟨_, rfl⟩
  rw [hn5] at hs5 hz5 HI5 HS5 ⊢
  have HN6 := Aside0.mk (And.intro (blk_alloc HK5.out (.cells n5 71)) (blk_new w5 (.cells n5 71)))
  have HBL := Aside0.mk (below_alloc (Below.refl w5.heap.size w5) (.cells n5 71))
  have HB6 := Aside0.mk (below_alloc HB5.out (.cells n5 71))
  clear hc5 hC5 hb5 h5z hn5
  go_wp2_with (first
    | ((with_reducible refine gate_dst (N := 48) rfl ?_); refine wpList_load_row_g (by rfl) 71 (.tmp 9) rfl w5.heap.size rfl 71 n5 (0, 0) _ HN6.out.2 Try.underlying71 rfl HI5.out ?_)
    | ((with_reducible refine gate_dst (N := 49) rfl ?_); refine wpList_load_row_g (by rfl) 71 (.tmp 2) rfl w.heap.size rfl 71 ms (0, 0) _ HN6.out.1 Try.underlying71 rfl HI.out ?_)
    | fail)
  refine (HS5.out _ HB6.out HBL.out).mono ?_
  rintro e_ w7 ⟨rfl, hb7⟩
  have HB7 := Aside0.mk (below_step HB6.out hb7)
  clear hb7 hs5 hz5
  go_wp2_with fail
  refine (HGETL.out _ HB7.out).mono ?_
  rintro e_ wx ⟨Ax, cx, rfl, hcx, hCx, hbx, h32⟩
  have HBX := Aside0.mk (below_step HB7.out hbx)
  have hsx := man_store wx gm Ax cx h32
  have hzx := manC_size (m := gm) h32 Ax cx
  have HIX := Aside0.mk (manInfo (m := gm) h32 Ax cx)
  have HBY := Aside0.mk (below_alloc HBX.out (.cells (manC gm Ax cx).toArray 71))
  have HNX := Aside0.mk (blk_new wx (.cells (manC gm Ax cx).toArray 71))
  by_cases hr0 : er = 0
  · obtain ⟨hmay, hbyt, hpl⟩ := HGOT.out hr0
    have HP2 := Aside0.mk (fun (W : World) (hW : Below wx.heap.size wx W) => putm_yes gm Ax cx W hbyt hcx (Kd.C_below hCx hW) hmay)
    have HM2 := Aside0.mk (fun (W : World) (hW : Below wx.heap.size wx W) => may_call gm Ax cx W h32 hcx (Kd.C_below hCx hW))
    rw [hmay] at HM2
    rw [hpl, HLN.out] at HP2
    subst hr0
    dsimp only at h32 ⊢
    obtain ⟨xs, hxs⟩ : ∃ xs, (manC gm Ax cx).toArray = xs := ⟨_, rfl⟩
    rw [hxs] at hsx hzx HIX HBY HNX HP2 HM2 ⊢
    have HBZ := Aside0.mk (below_alloc (Below.refl wx.heap.size wx) (.cells xs 71))
    clear hcx hCx hbx h32 hmay hbyt hpl hxs
    go_wp2_with (first
      | ((with_reducible refine gate_dst (N := 71) rfl ?_); refine wpList_load_row rfl 71 (.tmp 11) rfl wx.heap.size rfl 71 xs (0, 0) _ HNX.out Try.underlying71 rfl HIX.out ?_)
      | fail)
    refine (HP2.out _ HBZ.out).mono ?_
    rintro e_ wy ⟨⟨By, cy, rfl, hcy, hry⟩, hby⟩
    have HNY := Aside0.mk (blk_below HNX.out hby)
    have HBW := Aside0.mk (below_step HBY.out hby)
    have HBV := Aside0.mk (below_step HBZ.out hby)
    have HRY := Aside0.mk hry
    clear hcy hry hby hsx hzx
    go_wp2_with (first
      | ((with_reducible refine gate_dst (N := 77) rfl ?_); refine wpList_load_row_g (by rfl) 71 (.tmp 11) rfl wx.heap.size rfl 71 xs (0, 0) _ HNY.out Try.underlying71 rfl HIX.out ?_)
      | fail)
    refine (HM2.out _ HBV.out).mono ?_
    rintro e_ wz ⟨rfl, hbz⟩
    have HBU := Aside0.mk (below_step HBW.out hbz)
    have hcv1 := conv0 (rdb_below HRY.out hbz) cy
    have hcv2 := conv0 (rdb_below HRL.out HBU.out) cap
    clear hbz
    go_wp2_with fail
    go_ret
    exact ⟨by first | rfl | simp, HBU.out⟩
  · obtain rfl := HZER.out hr0
    have k1 : (er != 0) = true := by simpa using hr0
    have k2 : decide (er = 0) = false := decide_eq_false hr0
    dsimp only
    have k32 := (blk_cell HNX.out 32).trans (manC_32 (m := zMan) rfl Ax cx)
    have HAT := Aside0.mk (man_base HNX.out)
    have hz := eql_z
    obtain ⟨zb, hzb⟩ : ∃ zb, cells8 zMan.base = zb := ⟨_, rfl⟩
    have HSZ : Aside0 (zb.size = 32) := ⟨by rw [← hzb, cells8_size]; rfl⟩
    rw [hzb] at HAT hz
    obtain ⟨xs, hxs⟩ : ∃ xs, (manC zMan Ax cx).toArray = xs := ⟨_, rfl⟩
    rw [hxs] at hsx hzx HIX HBY HNX HAT k32 ⊢
    clear hcx hCx hbx h32 hxs hzb hr0
    go_wp2_with (first
      | ((with_reducible refine gate_dst (N := 66) rfl ?_); refine wpList_load_cells_g (by rfl) 28 (.tmp 65) rfl ⟨wx.heap.size, 0, none⟩ rfl zb _ HAT.out Try.underlying28 rfl (by rw [HSZ.out]; kernel_rfl) ?_)
      | fail)
    go_ret
    exact ⟨by first | rfl | simp, HBY.out⟩
theorem rolodexlaw13_ManicBack.walk (m : Man) (A : Option Addr) (c : Nat) (a1 : Option Addr) (len1 cap1 : Nat) (z1 : List Int) (w : World) (ok : ManOk m) (hc : m.l.length ≤ c) (hC : Kd.C linK w A m.l.length m.l)
    (w1 : (a1 = none ∧ len1 = 0 ∧ cap1 = 0 ∧ z1 = []) ∨ ∃ x, a1 = some x ∧ len1 ≤ cap1 ∧ cap1 ≤ maxLen ∧ z1.length = cap1 ∧ (∀ i, i < z1.length → w.cell? (x.add i) = some (.int .u8 (z1.getD i 0))) ∧ ∀ n ∈ z1, (Lit.int .u8 n).wf = true) (y1 : len1 * 1 ≤ 140737488351232) :
    Calls Try.prog 23 #[.agg (manC m A c).toArray, .slice a1 len1 cap1] w fun e w' => e = .returned (.bool true) ∧ Below w.heap.size w w' := by
  obtain ⟨l1, hl1, hr1, hm1, hw1, hc1⟩ := ReadsInt.ofRowC w1
  have hr := Kd.C_of_reads (d := (0 : Int)) (h1 := fun _ => rfl) hr1
  subst hl1
  exact mback_main m A c w l1 a1 cap1 ok hc hC hr hc1 (bytes_of_wf hw1) (by omega)
end Go.Proofs.Ytchaegfdcdlfaaa.X

/- The row of ManicBack, over the walk that is proved by hand. -/
namespace Go.Proofs.Ytchaegfdcdlfaaa.manicBack
open Go.ChangeShapes Go.WideShapes Go.ChangeAt Go.RowKit
open Go.ChangeMaps (open_string shut_string)
set_option linter.unusedVariables false
theorem own : ownKnob Try.prog.godebug = none := by kernel_rfl
theorem laidOut : laidOutB Try.prog = true := by kernel_rfl
def IsRow (k : IntKind) (w : World) (a : Option Addr) (len cap : Nat) (zs : List Int) : Prop :=
  (a = none ∧ len = 0 ∧ cap = 0 ∧ zs = []) ∨
  ∃ x, a = some x ∧ len ≤ cap ∧ cap ≤ maxLen ∧ zs.length = cap ∧ (∀ i, i < zs.length → w.cell? (x.add i) = some (.int k (zs.getD i 0))) ∧ ∀ n ∈ zs, (Lit.int k n).wf = true
set_option maxRecDepth 100000 in
theorem lifted (os : Os) (started : os.Started) (H : Type) (enc : TypeId × Value → H) :
    ReturnsInHanded {} Try.checked os 23 .any (Rows.manicBackSpec.pre6 enc Try.prog Try.f23 Rows.manicBackRow.domain false) (Rows.manicBackSpec.post enc Try.prog Try.f23 false true false false) := by
  refine returnsInHanded_of_change_sized (C := Try.checked) own started (by kernel_rfl) Try.func23
    (ChangeSpec.witness6 (enc := enc) (C := Try.checked) false ⟨#[], #[.agg #[.int .u8 0, .int .u8 0, .int .u8 0, .int .u8 0, .int .u8 0, .int .u8 0, .int .u8 0, .int .u8 0, .int .u8 0, .int .u8 0, .int .u8 0, .int .u8 0, .int .u8 0, .int .u8 0, .int .u8 0, .int .u8 0, .int .u8 0, .int .u8 0, .int .u8 0, .int .u8 0, .int .u8 0, .int .u8 0, .int .u8 0, .int .u8 0, .int .u8 0, .int .u8 0, .int .u8 0, .int .u8 0, .int .u8 0, .int .u8 0, .int .u8 0, .int .u8 0, .slice none 0 0], .slice none 0 0], []⟩ 8 (by kernel_rfl) (by kernel_rfl) (by kernel_rfl) (by kernel_rfl)) ?_
  intro W base args ds gs before hval0 hW hcnd hsz0 _
  have hsz : (DataW.weightsEach Try.prog (Try.f23.params.toList ++ Rows.manicBackSpec.plain.varTypes Try.prog) (ds ++ gs)).all (· ≤ reachBytes) = true := hsz0
  have hval : ∀ (j : Nat) t v, Try.f23.params[j]? = some t → args[j]? = some v → Value.okWide Try.prog W .any base t v := hval0
  have hW' := hW
  obtain ⟨p, q, hA0, hV, rfl, hfz, hnd⟩ := hW
  have hA : DataW.TrodAll enc Try.prog W 0 (fun _ => true) true Try.f23.params.toList args.toList ds p := hA0
  rw [Try.params23] at hA hval hsz
  obtain ⟨v0, vs0, d0, ds0, p0, q0, hargs, rfl, rfl, h0, r0⟩ := trodAll_cons hA
  obtain ⟨v1, vs1, d1, ds1, p1, q1, rfl, rfl, rfl, h1, r1⟩ := trodAll_cons r0
  obtain ⟨rfl, rfl, rfl⟩ := trodAll_nil r1
  obtain rfl : args = #[v0, v1] := by cases args; simp_all
  obtain ⟨rfl, rfl⟩ := trodVars_none hV
  have k0 := h0
  have lt0 : ∀ x ∈ p0, x.block < W.heap.size := by obtain ⟨m, hm⟩ := k0; exact DataW.trod_lt m _ _ _ hm
  obtain ⟨l0, a0, c0, rfl, o0, n0, b0⟩ := X.open_man (hval 0 71 v0 rfl rfl) h0
  obtain ⟨a1, len1, cap1, rfl⟩ := okWide_slice Try.underlying40 (hval 1 40 v1 rfl rfl)
  have k1 := h1
  have lt1 : ∀ x ∈ p1, x.block < W.heap.size := by obtain ⟨m, hm⟩ := k1; exact DataW.trod_lt m _ _ _ hm
  obtain ⟨z1, w1⟩ : ∃ zs, IsRow .u8 W a1 len1 cap1 zs := by
    obtain ⟨fuel, hf⟩ := h1
    rcases open_ints Try.underlying40 Try.underlying5 (by kernel_rfl) hf with ⟨hcs, _⟩ | ⟨x, l, c, zs, hcs, _, hl, hm, hz, _, hcell, hwz⟩
    · simp [Value.cells] at hcs
      obtain ⟨rfl, rfl, rfl⟩ := hcs
      exact ⟨[], .inl ⟨rfl, rfl, rfl, rfl⟩⟩
    · simp [Value.cells] at hcs
      obtain ⟨rfl, rfl, rfl⟩ := hcs
      exact ⟨zs, .inr ⟨_, rfl, hl, hm, by simpa using hz, hcell, hwz⟩⟩
  have y1 : len1 * 1 ≤ 140737488351232 := Go.Proofs.YtchaegfdcdlfaaaW.PrintWords.sized_ints hsz (j := 1) (t := 40) rfl rfl Try.underlying40 Try.underlying5 (by kernel_rfl) (by kernel_rfl) h1
  clear hA0 hval0 hsz0 hsz
  refine (X.rolodexlaw13_ManicBack.walk l0 a0 c0 a1 len1 cap1 z1 W o0 n0 b0 w1 y1).mono fun e W' ⟨he, bel⟩ => ?_
  subst he
  exact ⟨_, rfl, _, _, _, [], _, [], hW', trodAll_mk1 (shut_bool Try.underlying4 _), (trodAll_cons_mk (Below.trod laidOut (by kernel_rfl) (of_decide_eq_true (by kernel_rfl)) k0 bel lt0) (trodAll_cons_mk (Below.trod laidOut (by kernel_rfl) (of_decide_eq_true (by kernel_rfl)) k1 bel lt1) trodAll_mk0)), rfl, bel.frame _, fun h => by cases h⟩
theorem clos0 : (J.closT Try.prog 185 [23] []).isSome = true := by kernel_rfl
theorem clos1 : Try.prog.closure 23 = (J.closT Try.prog 185 [23] []).getD [] := J.clos_eq (of_decide_eq_true (by kernel_rfl)) clos0
theorem fact1 : Try.prog.inPlace 23 = ["internal/bytealg.Compare"] := by unfold Program.inPlace; rw [clos1]; kernel_rfl
theorem fact2 : Try.prog.unfollowed 23 = true := by unfold Program.unfollowed; rw [clos1]; kernel_rfl
theorem fact3 : Try.prog.recurses 23 = true := by unfold Program.recurses; rw [fact2]; rfl
theorem fact4 : Try.prog.varsNamed 23 = [] := by unfold Program.varsNamed; rw [clos1]; kernel_rfl
set_option maxRecDepth 100000 in
theorem facts : joinedFacts Try.prog 23 Try.f23 Rows.manicBackSpec Rows.manicBackRow = true := by
  unfold joinedFacts
  simp only [Bool.and_eq_true]
  repeat' apply And.intro
  all_goals first | (with_reducible exact J.mayEnter) | (rw [J.liftsFinal]; kernel_rfl) | (rw [J.make]; kernel_rfl) | (rw [fact1]; kernel_rfl) | (rw [fact2]; kernel_rfl) | (rw [fact3]; kernel_rfl) | (rw [fact4]; kernel_rfl) | kernel_rfl
theorem over : Rows.manicBackRow.holds Try.pinned (OpenSpec.ofChange Rows.manicBackSpec) :=
  OpenClaim.holds_of_wide 23 Try.f23 rfl rfl rfl rfl rfl rfl rfl ⟨rfl, rfl, rfl, rfl, rfl⟩ rfl rfl rfl rfl rfl (by kernel_rfl) Try.func23 facts
    (of_decide_eq_true (by kernel_rfl)) (by unfold Func.isWrapper; first | (rw [if_pos (by decide +kernel)]; kernel_rfl) | (rw [if_neg (by decide +kernel)]; exact ⟨rfl, rfl⟩))
    (fun os started H enc _ => lifted os started H enc)
theorem proved : Rows.ManicBackSaid := over
#print axioms proved
end Go.Proofs.Ytchaegfdcdlfaaa.manicBack
namespace Go.Proofs.Ytchaegfdcdlfaaa
/-- The row, under a short name, for the claim. -/
theorem manicBack_holds : Rows.ManicBackSaid := manicBack.proved
end Go.Proofs.Ytchaegfdcdlfaaa
