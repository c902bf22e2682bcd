/- CodeLess: the walk, the row -/
import Derived.Test.YtchaegfdcdlfaaaA8
import Derived.Test.YtchaegfdcdlfaaaRows
import Derived.ShutString
import Derived.ChangeOld
set_option linter.unusedVariables false
set_option linter.unusedSimpArgs false
set_option maxRecDepth 100000
namespace Go.Proofs.Ytchaegfdcdlfaaa.X
section
open Go.RowKit Go.Proofs.YtchaegfdcdlfaaaW.PrintWords Go.Proofs.YtchaegfdcdlfaaaW.PrintLast Go.Proofs.YtchaegfdcdlfaaaW.PrintMore
open Go.Proofs.Ytchaegfdcdlfaaa.Y (Bytes RdB)
attribute [local go_sem] max2_int min2_int max_two min_two max_three min_three max_four min_four
theorem wrapS {a b : Nat} (h : a + b ≤ 1000000000) : IntKind.i64.wrap ((a : Int) + (b : Int)) = ((a + b : Nat) : Int) := by simp [IntKind.wrap, IntKind.bits, IntKind.signed]; omega
set_option maxHeartbeats 4000000 in
theorem cless_few (p : PlanT) (ms : Array Value) (w : World) (hI : (Try.prog.info? 81).map (·.size) = some ms.size) (few : Bool) (e0 : Int) (hfe : few = false ∨ e0 ≠ 0)
  (hfew : ∀ W : World, Below w.heap.size w W → Calls Try.prog 69 #[.agg ms] W fun e w' => e = .returned (.bool few) ∧ Below W.heap.size W w')
  (hput : ∀ W : World, Below w.heap.size w W → Calls Try.prog 70 #[.agg ms] W fun e w' => (∃ A2 n2 c2, e = .returned (.tuple #[.slice A2 n2 c2, .int .i64 e0])) ∧ Below W.heap.size W w') :
  Calls Try.prog 30 #[.agg ms] w fun e w' => e = .returned (.bool true) ∧ Below w.heap.size w w' := by
 have HI := am hI
 have HFEW := am hfew
 have HPUT := am hput
 have HFE := am hfe
 have HBK := am (blk_new w (.cells ms 81))
 have HB0 := am (below_alloc (Below.refl w.heap.size w) (.cells ms 81))
 clear hI hfew hput hfe
 go_enter Try.func30, Try.ntmps30
 go_wp2_with fail
 refine (awake18_call _).mono ?_
 rintro e_ w1 ⟨rfl, hb1⟩
 have HK1 := am (blk_below HBK.out hb1)
 have HB1 := am (below_step HB0.out hb1)
 clear hb1
 go_wp2_with (first
  | ((with_reducible refine gate_dst (N := 17) rfl ?_); refine wpList_load_row rfl 81 (.tmp 1) rfl w.heap.size rfl 81 ms (0, 0) _ HK1.out Try.underlying81 rfl HI.out ?_)
  | fail)
 refine (HFEW.out _ HB1.out).mono ?_
 rintro e_ w2 ⟨rfl, hb2⟩
 have HK2 := am (blk_below HK1.out hb2)
 have HB2 := am (below_step HB1.out hb2)
 clear hb2
 go_wp2_with (first
  | ((with_reducible refine gate_dst (N := 20) rfl ?_); refine wpList_load_row rfl 81 (.tmp 1) rfl w.heap.size rfl 81 ms (0, 0) _ HK2.out Try.underlying81 rfl HI.out ?_)
  | fail)
 refine (HPUT.out _ HB2.out).mono ?_
 rintro e_ w3 ⟨⟨B1, nb, cb, rfl⟩, hb3⟩
 have HB3 := am (below_step HB2.out hb3)
 clear hb3
 cases few
 ·go_wp2_with fail
  go_ret
  exact ⟨rfl, HB3.out⟩
 ·have he : e0 ≠ 0 := HFE.out.resolve_left (by decide)
  have q1 : (e0 != 0) = true := by simpa using he
  have q2 : (e0 == 0) = false := by simpa using he
  clear he
  go_wp2_with fail
  go_ret
  exact ⟨rfl, HB3.out⟩
set_option maxHeartbeats 8000000 in
theorem cless_main (p : PlanT) (A : Option Addr) (c : Nat) (w : World) (ok : PlanOk p) (hc : p.b.length ≤ c) (hC : Kd.C batK w A p.b.length p.b) (hfw : fewP p = true) (hm : mayPl p = true) :
  Calls Try.prog 30 #[.agg (planC p A c).toArray] w fun e w' => e = .returned (.bool true) ∧ Below w.heap.size w w' := by
 have hby := ok.byt
 have hfit := plan_fit hC
 have HFEW : Aside0 (∀ W : World, Below w.heap.size w W → Calls Try.prog 69 #[.agg (planC p A c).toArray] W fun e w' => e = .returned (.bool true) ∧ Below W.heap.size W w') := ⟨fun W hW => by
  have := fewp_call p A c W ok.base.1 hc (Kd.C_below hC hW)
  rwa [hfw] at this⟩
 have HFF := am (few_facts hfw)
 have HDICT : Aside0 (∀ W : World, Below w.heap.size w W → Calls Try.prog 74 #[.agg (planC p A c).toArray] W (RowS W (dictP p))) := ⟨fun W hW => by
  obtain ⟨f1, f2, f3, f4⟩ := few_facts hfw
  exact dict_call p A c W ok.base.1 hc (Kd.C_below hC hW) (by omega) (by omega) (fun b hb x hx => by have := f3 b hb x hx; omega)⟩
 have HPUT : Aside0 (∀ W : World, Below w.heap.size w W → Calls Try.prog 70 #[.agg (planC p A c).toArray] W (CpQ W (plB p, 0))) := ⟨fun W hW => by
  have := putp_call p A c W hby hc (Kd.C_below hC hW) hfit
  rwa [show putPl p = (plB p, 0) by unfold putPl; rw [if_pos hm]] at this⟩
 have HMOST := am (plB_most hm hby)
 obtain ⟨lb1, lb2, lb3⟩ := less_bound hm hby
 have HLB := am (And.intro lb1 lb3)
 have HCNT : Aside0 (∀ t ∈ dictP p, 2 ≤ cntV t p.b.flatten ∧ 4 ≤ t.size) := ⟨fun t ht => cnt_two ht⟩
 have H16 : Aside0 ((dictP p).length ≤ 16) := ⟨dictL_len _⟩
 have HOK := am (mayPl_ok hm hby)
 obtain ⟨d, hd⟩ : ∃ d, dictP p = d := ⟨_, rfl⟩
 rw [hd] at HDICT HMOST HLB HCNT H16
 obtain ⟨pk, hpk⟩ : ∃ pk, plB p = pk := ⟨_, rfl⟩
 rw [hpk] at HMOST HPUT
 obtain ⟨sd, hsd⟩ : ∃ sd, ssum dsz d = sd := ⟨_, rfl⟩
 obtain ⟨sb, hsb⟩ : ∃ sb, ssum batZ p.b = sb := ⟨_, rfl⟩
 rw [hsd, hsb] at HMOST HLB
 have HSD := am hsd
 have HSB := am hsb
 have HI := am (planInfo (p := p) ok.base.1 A c)
 have k32 := planC_32 ok.base.1 A c
 have HPC := am hC
 have HPL := am (And.intro hc hC.2.1)
 obtain ⟨ms, hms⟩ : ∃ ms, (planC p A c).toArray = ms := ⟨_, rfl⟩
 rw [hms] at HFEW HDICT HPUT HI k32 ⊢
 have HK32 := am k32
 have HBK := am (blk_new w (.cells ms 81))
 have HB0 := am (below_alloc (Below.refl w.heap.size w) (.cells ms 81))
 clear ok hc hC hd hms k32 hby hfit hfw hm lb1 lb2 lb3 hpk hsd hsb
 go_enter Try.func30, Try.ntmps30
 go_wp2_with fail
 refine (awake18_call _).mono ?_
 rintro e_ w1 ⟨rfl, hb1⟩
 have HK1 := am (blk_below HBK.out hb1)
 have HB1 := am (below_step HB0.out hb1)
 clear hb1
 go_wp2_with (first
  | ((with_reducible refine gate_dst (N := 17) rfl ?_); refine wpList_load_row rfl 81 (.tmp 1) rfl w.heap.size rfl 81 ms (0, 0) _ HK1.out Try.underlying81 rfl HI.out ?_)
  | fail)
 refine (HFEW.out _ HB1.out).mono ?_
 rintro e_ w2 ⟨rfl, hb2⟩
 have HK2 := am (blk_below HK1.out hb2)
 have HB2 := am (below_step HB1.out hb2)
 clear hb2
 go_wp2_with (first
  | ((with_reducible refine gate_dst (N := 20) rfl ?_); refine wpList_load_row rfl 81 (.tmp 1) rfl w.heap.size rfl 81 ms (0, 0) _ HK2.out Try.underlying81 rfl HI.out ?_)
  | fail)
 refine (HPUT.out _ HB2.out).mono ?_
 rintro e_ wp ⟨⟨B1, c1, rfl, hcb, hrb⟩, hbp⟩
 have HKP := am (blk_below HK2.out hbp)
 have HBP := am (below_step HB2.out hbp)
 clear hbp hcb hrb
 dsimp only
 go_wp2_with (first
  | ((with_reducible refine gate_dst (N := 35) rfl ?_); refine wpList_load_row rfl 81 (.tmp 1) rfl w.heap.size rfl 81 ms (0, 0) _ HKP.out Try.underlying81 rfl HI.out ?_)
  | fail)
 refine (HDICT.out _ HBP.out).mono ?_
 rintro e_ w3 ⟨⟨Ad, cd, rfl, hcd, hCd⟩, hb3⟩
 have HK3 := am (blk_below HKP.out hb3)
 have HB3 := am (below_step HBP.out hb3)
 have HDC := am (And.intro hcd hCd)
 have HC3 := am (Kd.C_below HPC.out HB3.out)
 clear hb3 hcd hCd
 go_wp2_with fail
 go_loopg [8, 9] d.length (fun kq v8 v9 W => ∃ i m : Nat, v9 = .int .i64 i ∧ v8 = .int .i64 m ∧ Aside0 (kq + i = d.length) ∧ Aside0 (m = 60 + ssum dsz (d.take i)) ∧ Aside0 (Below w3.heap.size w3 W))
 case atStart => exact ⟨0, 60, rfl, rfl, ⟨rfl⟩, ⟨rfl⟩, ⟨Below.refl _ _⟩⟩
 case round =>
  obtain ⟨i, m, rfl, rfl, HKI, HM, HBR⟩ := hrel
  by_cases hi : i < d.length
  ·obtain ⟨e1, e2⟩ := ltY hi
   have e3 : (0 ≤ (i : Int)) = True := by simp
   have e4 := wr1 (i := i) (by have := H16.out; omega)
   obtain ⟨t, ht⟩ : ∃ t, d.getD i ⟨#[]⟩ = t := ⟨_, rfl⟩
   obtain ⟨add, hA, hcs⟩ := str_at (Kd.C_below HDC.out.2 HBR.out) hi t ht
   subst hA
   have HSO := am (ssum_one dsz d i hi ⟨#[]⟩ t ht)
   have HMB : Aside0 (m + t.size + 2 ≤ 1000000) := ⟨by
    have a := HM.out
    have b := HSO.out
    have c_ := ssum_take dsz d (i + 1)
    have e := HSD.out
    have f := HLB.out.1
    unfold dsz at b
    unfold dsz at a c_ e
    omega⟩
   have g1 : IntKind.i64.wrap ((m : Int) + (t.size : Int)) = ((m + t.size : Nat) : Int) := wrapS (by have := HMB.out; omega)
   have g2 : IntKind.i64.wrap (((m + t.size : Nat) : Int) + 2) = ((m + t.size + 2 : Nat) : Int) := wrapS (b := 2) (by have := HMB.out; omega)
   have g3 : IntKind.i64.wrap ((m : Int) + (t.size : Int) + 2) = ((m + t.size + 2 : Nat) : Int) := by have := HMB.out; simp [IntKind.wrap, IntKind.bits, IntKind.signed]; omega
   have HI2 := am hi
   clear hi ht
   go_wp2_with fail
   go_roundg (d.length - (i + 1))
   case measure => have := HKI.out; have := HI2.out; omega
   case rel => exact ⟨i + 1, m + t.size + 2, by first | rfl | (simp [e4]; done), by first | rfl | (simp [g1, g2, g3]; done), ⟨by have := HI2.out; omega⟩, ⟨by have a := HM.out; have b := HSO.out; rw [b]; unfold dsz at a ⊢; omega⟩, HBR⟩
  ·obtain ⟨e1, e2⟩ := ltN hi
   have hid : i = d.length := by have := HKI.out; omega
   have HM1 : Aside0 (m = 60 + sd) := ⟨by have a := HM.out; rw [hid, List.take_length, HSD.out] at a; exact a⟩
   clear hi HKI hid HM
   obtain ⟨w4, rfl⟩ : ∃ w4 : World, w4 = wr := ⟨_, rfl⟩
   go_wp2_with fail
   go_loopg [8, 10, 11] p.b.length (fun kq v8 v10 v11 W => ∃ k n : Nat, v10 = .int .i64 k ∧ v8 = .int .i64 n ∧ Aside0 (kq + k = p.b.length) ∧ Aside0 (n = m + ssum batZ (p.b.take k)) ∧ Aside0 (Below w3.heap.size w3 W))
   case atStart => exact ⟨0, m, rfl, rfl, ⟨rfl⟩, ⟨rfl⟩, HBR⟩
   case round =>
    clear HBR
    obtain ⟨k, n, rfl, rfl, HKI, HN, HRB⟩ := hrel
    have f32 := (blk_cell (blk_below HK3.out HRB.out) 32).trans HK32.out
    by_cases hk : k < p.b.length
    ·obtain ⟨e1, e2⟩ := ltY hk
     have e3 : (0 ≤ (k : Int)) = True := by simp
     have e4 := wr1 (i := k) (by have := HFF.out.1; omega)
     obtain ⟨x, hx⟩ : ∃ x, p.b.getD k [] = x := ⟨_, rfl⟩
     obtain ⟨ad, B, cb, hA, hbc, hCb, hcell⟩ := bat_at HC3.out hk x hx
     subst hA
     have HXM : Aside0 (x ∈ p.b) := ⟨by rw [← hx, List.getD_eq_getElem?_getD, List.getElem?_eq_getElem hk]; exact List.getElem_mem hk⟩
     have HXC := am hcell
     have HXB := am hCb
     have HI2 := am hk
     have HSO := am (ssum_one batZ p.b k hk [] x hx)
     have HXL : Aside0 (x.length ≤ 24) := ⟨HFF.out.2.1 x HXM.out⟩
     have HNB : Aside0 (n + 10 + ssum (fun z => (opB z).length) x ≤ 1000000) := ⟨by
      have a := HN.out
      have b := HSO.out
      have c_ := ssum_take batZ p.b (k + 1)
      have e := HSB.out
      have f := HLB.out
      have g := HM1.out
      rw [b] at c_
      unfold batZ at c_ a e
      omega⟩
     have g1 : IntKind.i64.wrap ((n : Int) + 10) = ((n + 10 : Nat) : Int) := wrapS (b := 10) (by have := HNB.out; omega)
     clear hk hx hbc hCb hcell f32
     have f32 := (blk_cell (blk_below HK3.out HRB.out) 32).trans HK32.out
     go_wp2_with fail
     go_loopg [8, 11] x.length (fun kq v8 v11 W => ∃ j q : Nat, v11 = .int .i64 j ∧ v8 = .int .i64 q ∧ Aside0 (kq + j = x.length) ∧ Aside0 (q = n + 10 + ssum (fun z => (opB z).length) (x.take j)) ∧ Aside0 (Below w3.heap.size w3 W))
     case atStart => exact ⟨0, n + 10, rfl, by first | rfl | (simp [g1]; done), ⟨rfl⟩, ⟨rfl⟩, HRB⟩
     case round =>
      clear HRB f32
      obtain ⟨j, q, rfl, rfl, HKJ, HQ, HRB⟩ := hrel
      obtain ⟨wi, rfl⟩ : ∃ wi : World, wi = wr := ⟨_, rfl⟩
      have f32 := (blk_cell (blk_below HK3.out HRB.out) 32).trans HK32.out
      have fb := (HRB.out.cell (World.block_lt_of_cell? _ _ HXC.out)).trans HXC.out
      by_cases hj : j < x.length
      ·obtain ⟨d1, d2⟩ := ltY hj
       have d3 : (0 ≤ (j : Int)) = True := by simp
       have d4 := wr1 (i := j) (by have := HXL.out; omega)
       obtain ⟨y, hy⟩ : ∃ y, x.getD j zOp = y := ⟨_, rfl⟩
       obtain ⟨ad2, B2, c2, hA2, hlens, hyc, hyC, hat⟩ := op_at (Kd.C_below HXB.out HRB.out) hj y hy
       subst hA2
       have hym : y ∈ x := by rw [← hy, List.getD_eq_getElem?_getD, List.getElem?_eq_getElem hj]; exact List.getElem_mem hj
       have HSZ := am (osize_call y B2 c2 wi (HOK.out x HXM.out y hym) hyc hyC)
       have HIY := am (opInfo (x := y) hlens B2 c2)
       have HS1 := am (ssum_one (fun z => (opB z).length) x j hj zOp y hy)
       obtain ⟨es, hes⟩ : ∃ es, (opC y B2 c2).toArray = es := ⟨_, rfl⟩
       obtain ⟨ol, hol⟩ : ∃ ol, (opB y).length = ol := ⟨_, rfl⟩
       rw [hes] at hat HSZ HIY
       simp only [hol] at HSZ HS1
       have HAT := am hat
       have HQB : Aside0 (q + ol ≤ 1000000) := ⟨by
        have a := HQ.out
        have b := HS1.out
        have c_ := ssum_take (fun z => (opB z).length) x (j + 1)
        have e := HNB.out
        omega⟩
       have g1 : IntKind.i64.wrap ((q : Int) + (ol : Int)) = ((q + ol : Nat) : Int) := wrapS (by have := HQB.out; omega)
       have HJ2 := am hj
       clear hj hy hlens hyc hyC hat hym hes hol
       go_wp2_with (first
        | ((with_reducible refine gate_dst (N := 78) rfl ?_); refine wpList_load_cells rfl 98 (.tmp 77) rfl (ad2.add (j * 71)) rfl es _ HAT.out Try.underlying98 rfl HIY.out ?_)
        | fail)
       refine HSZ.out.mono ?_
       rintro e_ w6 ⟨rfl, hb6⟩
       have HB6 := am (below_step HRB.out hb6)
       clear hb6
       go_wp2_with fail
       go_roundg (x.length - (j + 1))
       case measure => have := HKJ.out; have := HJ2.out; omega
       case rel => exact ⟨j + 1, q + ol, by first | rfl | (simp [d4]; done), by first | rfl | (simp [g1]; done), ⟨by have := HJ2.out; omega⟩, ⟨by have a := HQ.out; have b := HS1.out; omega⟩, HB6⟩
      ·obtain ⟨d1, d2⟩ := ltN hj
       have hjl : j = x.length := by have := HKJ.out; omega
       have HQF : Aside0 (q = m + ssum batZ (p.b.take (k + 1))) := ⟨by
        have a := HQ.out
        have b := HN.out
        have c_ := HSO.out
        rw [hjl, List.take_length] at a
        rw [c_]
        unfold batZ
        unfold batZ at b
        omega⟩
       clear hj hjl
       go_wp2_with fail
       go_roundg (p.b.length - (k + 1))
       case measure => have := HKI.out; have := HI2.out; omega
       case rel => exact ⟨k + 1, q, by first | rfl | (simp [e4]; done), rfl, ⟨by have := HI2.out; omega⟩, HQF, HRB⟩
    ·obtain ⟨e1, e2⟩ := ltN hk
     have hkl : k = p.b.length := by have := HKI.out; omega
     have HNF : Aside0 (pk.length ≤ n) := ⟨by
      have a := HN.out
      have b := HM1.out
      have c_ := HMOST.out
      have e := HSB.out
      rw [hkl, List.take_length] at a
      omega⟩
     clear hk hkl
     obtain ⟨w5, rfl⟩ : ∃ w5 : World, w5 = wr := ⟨_, rfl⟩
     go_wp2_with fail
     go_loopg [12, 13, 14, 15] d.length (fun kq v12 v13 v14 v15 W => ∃ i : Nat, v12 = .int .i64 i ∧ Aside0 (kq + i = d.length) ∧ Aside0 (Below w3.heap.size w3 W))
     case atStart => exact ⟨0, rfl, ⟨rfl⟩, HRB⟩
     case round =>
      clear HRB f32
      obtain ⟨i, rfl, HKD, HRB⟩ := hrel
      by_cases hi : i < d.length
      ·obtain ⟨e1, e2⟩ := ltY hi
       have e3 : (0 ≤ (i : Int)) = True := by simp
       have e4 := wr1 (i := i) (by have := H16.out; omega)
       obtain ⟨t, ht⟩ : ∃ t, d.getD i ⟨#[]⟩ = t := ⟨_, rfl⟩
       obtain ⟨add, hA, hcs⟩ := str_at HDC.out.2 hi t ht
       subst hA
       have HCS := am hcs
       have HT2 := am (HCNT.out t (by rw [← ht, List.getD_eq_getElem?_getD, List.getElem?_eq_getElem hi]; exact List.getElem_mem hi))
       have HDI := am hi
       clear hi ht hcs
       go_wp2_with fail
       go_loopg [13, 14, 15] p.b.length (fun kq v13 v14 v15 W => ∃ k : Nat, v14 = .int .i64 k ∧ v13 = .int .i64 ((cntV t (p.b.take k).flatten : Nat) : Int) ∧ Aside0 (kq + k = p.b.length) ∧ Aside0 (Below w3.heap.size w3 W))
       case atStart => exact ⟨0, rfl, rfl, ⟨rfl⟩, HRB⟩
       case round =>
        clear HRB
        obtain ⟨k, rfl, rfl, HKI, HRB⟩ := hrel
        obtain ⟨wk, rfl⟩ : ∃ wk : World, wk = wr := ⟨_, rfl⟩
        have f32 := (blk_cell (blk_below HK3.out HRB.out) 32).trans HK32.out
        by_cases hk : k < p.b.length
        ·obtain ⟨h1, h2⟩ := ltY hk
         have h3 : (0 ≤ (k : Int)) = True := by simp
         have h4 := wr1 (i := k) (by have := HFF.out.1; omega)
         obtain ⟨x, hx⟩ : ∃ x, p.b.getD k [] = x := ⟨_, rfl⟩
         obtain ⟨ad, B, cb, hA, hbc, hCb, hcell⟩ := bat_at HC3.out hk x hx
         subst hA
         have HXM : Aside0 (x ∈ p.b) := ⟨by rw [← hx, List.getD_eq_getElem?_getD, List.getElem?_eq_getElem hk]; exact List.getElem_mem hk⟩
         have HXC := am hcell
         have HXB := am hCb
         have HI2 := am hk
         have HXT := am (flat_take p.b k hk x hx)
         have HXL : Aside0 (x.length ≤ 24) := ⟨HFF.out.2.1 x HXM.out⟩
         obtain ⟨pre, hpre⟩ : ∃ pre, (p.b.take k).flatten = pre := ⟨_, rfl⟩
         rw [hpre] at HXT ⊢
         clear hk hx hbc hCb hcell f32 hpre
         have f32 := (blk_cell (blk_below HK3.out HRB.out) 32).trans HK32.out
         go_wp2_with fail
         go_loopg [13, 15] x.length (fun kq v13 v15 W => ∃ j : Nat, v15 = .int .i64 j ∧ v13 = .int .i64 ((cntV t (pre ++ x.take j) : Nat) : Int) ∧ Aside0 (kq + j = x.length) ∧ Aside0 (Below w3.heap.size w3 W))
         case atStart => exact ⟨0, rfl, by rw [List.take_zero, List.append_nil], ⟨rfl⟩, HRB⟩
         case round =>
          clear HRB f32
          obtain ⟨j, rfl, rfl, HKJ, HRB⟩ := hrel
          obtain ⟨wi, rfl⟩ : ∃ wi : World, wi = wr := ⟨_, rfl⟩
          have f32 := (blk_cell (blk_below HK3.out HRB.out) 32).trans HK32.out
          have fb := (HRB.out.cell (World.block_lt_of_cell? _ _ HXC.out)).trans HXC.out
          by_cases hj : j < x.length
          ·obtain ⟨d1, d2⟩ := ltY hj
           have d3 : (0 ≤ (j : Int)) = True := by simp
           have d4 := wr1 (i := j) (by have := HXL.out; omega)
           obtain ⟨y, hy⟩ : ∃ y, x.getD j zOp = y := ⟨_, rfl⟩
           have HBD := am (below_drew1 HRB.out)
           obtain ⟨ad2, B2, c2, hA2, hlens, _, _, hat⟩ := op_at (Kd.C_below HXB.out HBD.out) hj y hy
           subst hA2
           obtain ⟨k0, _, _, _, k20, _, _⟩ := opC_at hlens B2 c2
           have f0 := hat 0 _ k0
           have f20 := hat 20 _ k20
           rw [add_lit _ (by decide)] at f20
           have HS30 : Aside0 ((fun W => W.cell? ⟨w.heap.size, 32, none⟩ = some (.slice (some ad) p.b.length c) ∧ W.cell? (ad.add k) = some (.slice (some ad2) x.length cb) ∧ W.cell? (ad2.add (j * 71)) = some (.int .i64 y.kind) ∧ W.cell? ⟨(ad2.add (j * 71)).block, (ad2.add (j * 71)).off + 20, none⟩ = some (.string y.v) ∧ W.cell? (add.add i) = some (.string t)) wi.drew) := ⟨⟨(blk_cell (blk_below HK3.out HBD.out) 32).trans HK32.out, (HBD.out.cell (World.block_lt_of_cell? _ _ HXC.out)).trans HXC.out, f0, f20, (HBD.out.cell (World.block_lt_of_cell? _ _ HCS.out)).trans HCS.out⟩⟩
           have HTK : Aside0 (pre ++ x.take (j + 1) = (pre ++ x.take j) ++ [y]) := ⟨by rw [take_one x j hj zOp y hy, List.append_assoc]⟩
           have HJ2 := am hj
           have HLN : Aside0 (cntV t (pre ++ x.take j) + 1 ≤ 1000) := ⟨by
            have a := cntV_le t (pre ++ x.take j)
            have b : (pre ++ x.take j).length ≤ p.b.flatten.length := by
             have h1 : (p.b.take (k + 1)).flatten.length ≤ p.b.flatten.length := by
              conv => rhs; rw [← List.take_append_drop (k + 1) p.b, List.flatten_append, List.length_append]
              omega
             rw [HXT.out, List.length_append] at h1
             rw [List.length_append, List.length_take]
             omega
            have c_ := HFF.out.2.2.2
            omega⟩
           obtain ⟨cn, hcn⟩ : ∃ cn, cntV t (pre ++ x.take j) = cn := ⟨_, rfl⟩
           rw [hcn] at HLN ⊢
           have HCN := am hcn
           have g1 : IntKind.i64.wrap ((cn : Int) + 1) = ((cn + 1 : Nat) : Int) := wrapS (b := 1) (by have := HLN.out; omega)
           clear hj hy hlens hat k0 k20 f0 f20 hcn
           by_cases hkd : y.kind = 1
           ·have n1 : (y.kind == 1) = true := by simpa using hkd
            have n2 : decide (y.kind = 1) = true := decide_eq_true hkd
            by_cases hv : y.v = t
            ·have n3 : (y.v.toList == t.toList) = true := by rw [hv]; simp
             have n4 : decide (y.v = t) = true := decide_eq_true hv
             have HAV := am (cntV_yes (t := t) hkd hv)
             clear hkd hv
             go_upto_region 30 with (fail)
             refine wp_region_held_drew (S := (fun W => W.cell? ⟨w.heap.size, 32, none⟩ = some (.slice (some ad) p.b.length c) ∧ W.cell? (ad.add k) = some (.slice (some ad2) x.length cb) ∧ W.cell? (ad2.add (j * 71)) = some (.int .i64 y.kind) ∧ W.cell? ⟨(ad2.add (j * 71)).block, (ad2.add (j * 71)).off + 20, none⟩ = some (.string y.v) ∧ W.cell? (add.add i) = some (.string t))) (by kernel_rfl) (HS30.out) (fun hHeld => ?_)
             refine th (i := 0) ?_
             refine tu (i := 1) (fun W_ hW_ => hW_.1) ?_
             refine th (i := 2) ?_
             refine th (i := 3) ?_
             refine tu (i := 4) (fun W_ hW_ => hW_.2.1) ?_
             refine th (i := 5) ?_
             refine th (i := 6) ?_
             refine th (i := 7) ?_
             refine tu (i := 8) (fun W_ hW_ => hW_.2.2.1) ?_
             refine th (i := 9) ?_
             refine th (i := 10) ?_
             refine th (i := 11) ?_
             refine tu (i := 12) (fun W_ hW_ => hW_.1) ?_
             refine th (i := 13) ?_
             refine th (i := 14) ?_
             refine tu (i := 15) (fun W_ hW_ => hW_.2.1) ?_
             refine th (i := 16) ?_
             refine th (i := 17) ?_
             refine th (i := 18) ?_
             refine tu (i := 19) (fun W_ hW_ => hW_.2.2.2.1) ?_
             refine th (i := 20) ?_
             refine th (i := 21) ?_
             refine th (i := 22) ?_
             refine tu (i := 23) (fun W_ hW_ => hW_.2.2.2.2) ?_
             refine th (i := 24) ?_
             refine th (i := 25) ?_
             refine td ?_
             go_wp2_with fail
             go_roundg (x.length - (j + 1))
             case measure => have := HKJ.out; have := HJ2.out; omega
             case rel => exact ⟨j + 1, by first | rfl | (simp [d4]; done), by rw [HTK.out, cntV_app, HAV.out, HCN.out]; first | rfl | (simp [g1]; done), ⟨by have := HJ2.out; omega⟩, HBD⟩
            ·have n3 : (y.v.toList == t.toList) = false := by simpa using (fun h => hv (bytes_inj h))
             have n4 : decide (y.v = t) = false := decide_eq_false hv
             have HAV := am (cntV_not (t := t) (fun h => hv h.2))
             clear hkd hv
             go_upto_region 30 with (fail)
             refine wp_region_held_drew (S := (fun W => W.cell? ⟨w.heap.size, 32, none⟩ = some (.slice (some ad) p.b.length c) ∧ W.cell? (ad.add k) = some (.slice (some ad2) x.length cb) ∧ W.cell? (ad2.add (j * 71)) = some (.int .i64 y.kind) ∧ W.cell? ⟨(ad2.add (j * 71)).block, (ad2.add (j * 71)).off + 20, none⟩ = some (.string y.v) ∧ W.cell? (add.add i) = some (.string t))) (by kernel_rfl) (HS30.out) (fun hHeld => ?_)
             refine th (i := 0) ?_
             refine tu (i := 1) (fun W_ hW_ => hW_.1) ?_
             refine th (i := 2) ?_
             refine th (i := 3) ?_
             refine tu (i := 4) (fun W_ hW_ => hW_.2.1) ?_
             refine th (i := 5) ?_
             refine th (i := 6) ?_
             refine th (i := 7) ?_
             refine tu (i := 8) (fun W_ hW_ => hW_.2.2.1) ?_
             refine th (i := 9) ?_
             refine th (i := 10) ?_
             refine th (i := 11) ?_
             refine tu (i := 12) (fun W_ hW_ => hW_.1) ?_
             refine th (i := 13) ?_
             refine th (i := 14) ?_
             refine tu (i := 15) (fun W_ hW_ => hW_.2.1) ?_
             refine th (i := 16) ?_
             refine th (i := 17) ?_
             refine th (i := 18) ?_
             refine tu (i := 19) (fun W_ hW_ => hW_.2.2.2.1) ?_
             refine th (i := 20) ?_
             refine th (i := 21) ?_
             refine th (i := 22) ?_
             refine tu (i := 23) (fun W_ hW_ => hW_.2.2.2.2) ?_
             refine th (i := 24) ?_
             refine th (i := 25) ?_
             refine td ?_
             go_wp2_with fail
             go_roundg (x.length - (j + 1))
             case measure => have := HKJ.out; have := HJ2.out; omega
             case rel => exact ⟨j + 1, by first | rfl | (simp [d4]; done), by rw [HTK.out, cntV_app, HAV.out, HCN.out]; rfl, ⟨by have := HJ2.out; omega⟩, HBD⟩
           ·have n1 : (y.kind == 1) = false := by simpa using hkd
            have n2 : decide (y.kind = 1) = false := decide_eq_false hkd
            have HAV := am (cntV_not (t := t) (fun h => hkd h.1))
            clear hkd
            go_upto_region 30 with (fail)
            refine wp_region_held_drew (S := (fun W => W.cell? ⟨w.heap.size, 32, none⟩ = some (.slice (some ad) p.b.length c) ∧ W.cell? (ad.add k) = some (.slice (some ad2) x.length cb) ∧ W.cell? (ad2.add (j * 71)) = some (.int .i64 y.kind) ∧ W.cell? ⟨(ad2.add (j * 71)).block, (ad2.add (j * 71)).off + 20, none⟩ = some (.string y.v) ∧ W.cell? (add.add i) = some (.string t))) (by kernel_rfl) (HS30.out) (fun hHeld => ?_)
            refine th (i := 0) ?_
            refine tu (i := 1) (fun W_ hW_ => hW_.1) ?_
            refine th (i := 2) ?_
            refine th (i := 3) ?_
            refine tu (i := 4) (fun W_ hW_ => hW_.2.1) ?_
            refine th (i := 5) ?_
            refine th (i := 6) ?_
            refine th (i := 7) ?_
            refine tu (i := 8) (fun W_ hW_ => hW_.2.2.1) ?_
            refine th (i := 9) ?_
            refine th (i := 10) ?_
            refine tj (i := 11) ?_
            refine tj (i := 12) ?_
            refine tj (i := 13) ?_
            refine tj (i := 14) ?_
            refine tj (i := 15) ?_
            refine tj (i := 16) ?_
            refine tj (i := 17) ?_
            refine tj (i := 18) ?_
            refine tj (i := 19) ?_
            refine tj (i := 20) ?_
            refine tj (i := 21) ?_
            refine tj (i := 22) ?_
            refine tj (i := 23) ?_
            refine tj (i := 24) ?_
            refine th (i := 25) ?_
            refine td ?_
            go_wp2_with fail
            go_roundg (x.length - (j + 1))
            case measure => have := HKJ.out; have := HJ2.out; omega
            case rel => exact ⟨j + 1, by first | rfl | (simp [d4]; done), by rw [HTK.out, cntV_app, HAV.out, HCN.out]; rfl, ⟨by have := HJ2.out; omega⟩, HBD⟩
          ·obtain ⟨d1, d2⟩ := ltN hj
           have hjx : j = x.length := by have := HKJ.out; omega
           have HE : Aside0 (pre ++ x.take j = (p.b.take (k + 1)).flatten) := ⟨by rw [hjx, List.take_length, HXT.out]⟩
           clear hj hjx
           go_wp2_with fail
           go_roundg (p.b.length - (k + 1))
           case measure => have := HKI.out; have := HI2.out; omega
           case rel => exact ⟨k + 1, by first | rfl | (simp [h4]; done), by rw [HE.out], ⟨by have := HI2.out; omega⟩, HRB⟩
        ·obtain ⟨h1, h2⟩ := ltN hk
         have hkl : k = p.b.length := by have := HKI.out; omega
         obtain ⟨cn, hcn⟩ : ∃ cn, cntV t (p.b.take k).flatten = cn := ⟨_, rfl⟩
         have hcn2 : 2 ≤ cn := by rw [← hcn, hkl, List.take_length]; exact HT2.out.1
         have m1 : decide ((cn : Int) < 2) = false := decide_eq_false (by omega)
         have m2 : decide (cn < 2) = false := decide_eq_false (by omega)
         have m3 : decide ((t.size : Int) < 4) = false := decide_eq_false (by have := HT2.out.2; omega)
         have m4 : decide (t.size < 4) = false := decide_eq_false (by have := HT2.out.2; omega)
         have fd := (HRB.out.cell (World.block_lt_of_cell? _ _ HCS.out)).trans HCS.out
         rw [hcn]
         clear hk hkl hcn hcn2
         go_wp2_with fail
         go_roundg (d.length - (i + 1))
         case measure => have := HKD.out; have := HDI.out; omega
         case rel => exact ⟨i + 1, by first | rfl | (simp [e4]; done), ⟨by have := HDI.out; omega⟩, HRB⟩
      ·obtain ⟨e1, e2⟩ := ltN hi
       have m1 : decide ((d.length : Int) ≤ 16) = true := decide_eq_true (by have := H16.out; omega)
       have m2 : decide (d.length ≤ 16) = true := decide_eq_true H16.out
       have m3 : decide ((pk.length : Int) ≤ (n : Int)) = true := decide_eq_true (by have := HNF.out; omega)
       have m4 : decide (pk.length ≤ n) = true := decide_eq_true HNF.out
       have HBF := am (below_step HB3.out HRB.out)
       clear hi
       go_wp2_with fail
       go_ret
       exact ⟨rfl, HBF.out⟩
theorem rolodexlaw18_CodeLess.walk (m : PlanT) (A : Option Addr) (c : Nat) (w : World) (ok : PlanOk m) (hc : m.b.length ≤ c) (hC : Kd.C batK w A m.b.length m.b) :
  Calls Try.prog 30 #[.agg (planC m A c).toArray] w fun e w' => e = .returned (.bool true) ∧ Below w.heap.size w w' := by
 have hby := ok.byt
 have hfit := plan_fit hC
 have hI := planInfo (p := m) ok.base.1 A c
 have hfew := fun (W : World) (hW : Below w.heap.size w W) => fewp_call m A c W ok.base.1 hc (Kd.C_below hC hW)
 have hput : ∀ W : World, Below w.heap.size w W → Calls Try.prog 70 #[.agg (planC m A c).toArray] W fun e w' => (∃ A2 n2 c2, e = .returned (.tuple #[.slice A2 n2 c2, .int .i64 (putPl m).2])) ∧ Below W.heap.size W w' := fun W hW => (putp_call m A c W hby hc (Kd.C_below hC hW) hfit).mono fun e w' h => ⟨⟨h.1.choose, _, h.1.choose_spec.choose, h.1.choose_spec.choose_spec.1⟩, h.2⟩
 by_cases hf : fewP m = true
 ·by_cases hm : mayPl m = true
  ·exact cless_main m A c w ok hc hC hf hm
  ·exact cless_few m _ w hI _ _ (.inr (by unfold putPl; rw [if_neg hm]; decide)) hfew hput
 ·exact cless_few m _ w hI _ _ (.inl (by simpa using hf)) hfew hput
end
end Go.Proofs.Ytchaegfdcdlfaaa.X
namespace Go.Proofs.Ytchaegfdcdlfaaa.codeLess
section
open Go.ChangeShapes Go.WideShapes Go.ChangeAt Go.RowKit
open Go.ChangeMaps (open_string shut_string)
theorem own : ownKnob Try.prog.godebug = none := by kernel_rfl
theorem laidOut : laidOutB Try.prog = true := by kernel_rfl
theorem lifted (os : Os) (started : os.Started) (H : Type) (enc : TypeId × Value → H) :
  ReturnsInHanded {} Try.checked os 30 .any (Rows.codeLessSpec.pre6 enc Try.prog Try.f30 Rows.codeLessRow.domain false) (Rows.codeLessSpec.post enc Try.prog Try.f30 false true false false) := by
 refine returnsInHanded_of_change_sized (C := Try.checked) own started (by kernel_rfl) Try.func30
  (ChangeSpec.witness6 (enc := enc) (C := Try.checked) false ⟨#[], #[.agg #[.int .u8 0, .int .u8 0, .int .u8 0, .int .u8 0, .int .u8 0, .int .u8 0, .int .u8 0, .int .u8 0, .int .u8 0, .int .u8 0, .int .u8 0, .int .u8 0, .int .u8 0, .int .u8 0, .int .u8 0, .int .u8 0, .int .u8 0, .int .u8 0, .int .u8 0, .int .u8 0, .int .u8 0, .int .u8 0, .int .u8 0, .int .u8 0, .int .u8 0, .int .u8 0, .int .u8 0, .int .u8 0, .int .u8 0, .int .u8 0, .int .u8 0, .int .u8 0, .slice none 0 0]], []⟩ 8 (by kernel_rfl) (by kernel_rfl) (by kernel_rfl) (by kernel_rfl)) ?_
 intro W base args ds gs before hval0 hW hcnd hsz0 _
 have hsz : (DataW.weightsEach Try.prog (Try.f30.params.toList ++ Rows.codeLessSpec.plain.varTypes Try.prog) (ds ++ gs)).all (· ≤ reachBytes) = true := hsz0
 have hval : ∀ (j : Nat) t v, Try.f30.params[j]? = some t → args[j]? = some v → Value.okWide Try.prog W .any base t v := hval0
 have hW' := hW
 obtain ⟨p, q, hA0, hV, rfl, hfz, hnd⟩ := hW
 have hA : DataW.TrodAll enc Try.prog W 0 (fun _ => true) true Try.f30.params.toList args.toList ds p := hA0
 rw [Try.params30] at hA hval hsz
 obtain ⟨v0, vs0, d0, ds0, p0, q0, hargs, rfl, rfl, h0, r0⟩ := trodAll_cons hA
 obtain ⟨rfl, rfl, rfl⟩ := trodAll_nil r0
 obtain rfl : args = #[v0] := by cases args; simp_all
 obtain ⟨rfl, rfl⟩ := trodVars_none hV
 have k0 := h0
 have lt0 : ∀ x ∈ p0, x.block < W.heap.size := by obtain ⟨m, hm⟩ := k0; exact DataW.trod_lt m _ _ _ hm
 obtain ⟨l0, a0, c0, rfl, o0, n0, b0⟩ := X.open_plan (hval 0 81 v0 rfl rfl) h0
 clear hA0 hval0 hsz0 hsz
 refine (X.rolodexlaw18_CodeLess.walk l0 a0 c0 W o0 n0 b0).mono fun e W' ⟨he, bel⟩ => ?_
 subst he
 exact ⟨_, rfl, _, _, _, [], _, [], hW', trodAll_mk1 (shut_bool Try.underlying4 _), (trodAll_cons_mk (Below.trod laidOut (by kernel_rfl) (of_decide_eq_true (by kernel_rfl)) k0 bel lt0) trodAll_mk0), rfl, bel.frame _, fun h => by cases h⟩
theorem clos0 : (J.closT Try.prog 185 [30] []).isSome = true := by kernel_rfl
theorem clos1 : Try.prog.closure 30 = (J.closT Try.prog 185 [30] []).getD [] := J.clos_eq (of_decide_eq_true (by kernel_rfl)) clos0
theorem fact1 : Try.prog.inPlace 30 = [] := by unfold Program.inPlace; rw [clos1]; kernel_rfl
theorem fact2 : Try.prog.unfollowed 30 = true := by unfold Program.unfollowed; rw [clos1]; kernel_rfl
theorem fact3 : Try.prog.recurses 30 = true := by unfold Program.recurses; rw [fact2]; rfl
theorem fact4 : Try.prog.varsNamed 30 = [] := by unfold Program.varsNamed; rw [clos1]; kernel_rfl
theorem facts : joinedFacts Try.prog 30 Try.f30 Rows.codeLessSpec Rows.codeLessRow = true := by
 unfold joinedFacts
 simp only [Bool.and_eq_true]
 repeat' apply And.intro
 all_goals first | (with_reducible exact J.mayEnter) | (rw [J.liftsFinal]; kernel_rfl) | (rw [J.make]; kernel_rfl) | (rw [fact1]; kernel_rfl) | (rw [fact2]; kernel_rfl) | (rw [fact3]; kernel_rfl) | (rw [fact4]; kernel_rfl) | kernel_rfl
theorem over : Rows.codeLessRow.holds Try.pinned (OpenSpec.ofChange Rows.codeLessSpec) :=
 OpenClaim.holds_of_wide 30 Try.f30 rfl rfl rfl rfl rfl rfl rfl ⟨rfl, rfl, rfl, rfl, rfl⟩ rfl rfl rfl rfl rfl (by kernel_rfl) Try.func30 facts
  (of_decide_eq_true (by kernel_rfl)) (by unfold Func.isWrapper; first | (rw [if_pos (by decide +kernel)]; kernel_rfl) | (rw [if_neg (by decide +kernel)]; exact ⟨rfl, rfl⟩))
  (fun os started H enc _ => lifted os started H enc)
theorem proved : Rows.CodeLessSaid := over
end
end Go.Proofs.Ytchaegfdcdlfaaa.codeLess
namespace Go.Proofs.Ytchaegfdcdlfaaa
theorem codeLess_holds : Rows.CodeLessSaid := codeLess.proved
end Go.Proofs.Ytchaegfdcdlfaaa
