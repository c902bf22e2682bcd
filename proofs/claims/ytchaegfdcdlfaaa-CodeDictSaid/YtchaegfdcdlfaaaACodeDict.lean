/- CodeDict: the walk, the row -/
import Derived.Test.YtchaegfdcdlfaaaA8
import Derived.Test.YtchaegfdcdlfaaaRows
import Derived.ShutString
import Derived.ChangeOld
set_option linter.unusedVariables false
set_option linter.unusedSimpArgs false
set_option maxRecDepth 100000
namespace Go.Proofs.Ytchaegfdcdlfaaa.X
section
open Go.RowKit Go.Proofs.YtchaegfdcdlfaaaW.PrintWords Go.Proofs.YtchaegfdcdlfaaaW.PrintLast Go.Proofs.YtchaegfdcdlfaaaW.PrintMore
open Go.Proofs.Ytchaegfdcdlfaaa.Y (Bytes RdB)
attribute [local go_sem] max2_int min2_int max_two min_two max_three min_three max_four min_four
set_option maxHeartbeats 4000000 in
theorem cdict_main (p : PlanT) (A : Option Addr) (c : Nat) (w : World) (ok : PlanOk p) (hc : p.b.length ≤ c) (hC : Kd.C batK w A p.b.length p.b) :
  Calls Try.prog 28 #[.agg (planC p A c).toArray] w fun e w' => e = .returned (.bool true) ∧ Below w.heap.size w w' := by
 have HFEW : Aside0 (∀ W : World, Below w.heap.size w W → Calls Try.prog 69 #[.agg (planC p A c).toArray] W fun e w' => e = .returned (.bool (fewP p)) ∧ Below W.heap.size W w') := ⟨fun W hW => fewp_call p A c W ok.base.1 hc (Kd.C_below hC hW)⟩
 have HDICT : Aside0 (fewP p = true → ∀ W : World, Below w.heap.size w W → Calls Try.prog 74 #[.agg (planC p A c).toArray] W (RowS W (dictP p))) := ⟨fun hf W hW => by
  obtain ⟨f1, f2, f3, f4⟩ := few_facts hf
  exact dict_call p A c W ok.base.1 hc (Kd.C_below hC hW) (by omega) (by omega) (fun b hb x hx => by have := f3 b hb x hx; omega)⟩
 have HZD : Aside0 (∀ (B : Option Addr) (W : World), Calls Try.prog 74 #[.agg (planC zPl B 0).toArray] W (RowS W ([] : List ByteArray))) := ⟨fun B W => by
  have := dict_call zPl B 0 W rfl (Nat.le_refl _) ⟨rfl, by show (0 : Nat) ≤ 9223372036854775807; decide, fun h => absurd h (by show ¬ (0 < 0); decide)⟩ (by decide) (by decide) (fun b hb => by cases hb)
  rw [zPl_dict] at this
  exact this⟩
 have HND : Aside0 ((dictP p).Nodup) := ⟨dictL_nodup _⟩
 have HSUB : Aside0 ((dictP p).Sublist (allV p.b.flatten)) := ⟨(dictL_sub _).trans (svals_all _)⟩
 have H16 : Aside0 ((dictP p).length ≤ 16) := ⟨dictL_len _⟩
 obtain ⟨d, hd⟩ : ∃ d, dictP p = d := ⟨_, rfl⟩
 rw [hd] at HDICT HND HSUB H16
 have HI := am (planInfo (p := p) ok.base.1 A c)
 have k32 := planC_32 ok.base.1 A c
 have HPC := am hC
 have HPL := am (And.intro hc hC.2.1)
 obtain ⟨ms, hms⟩ : ∃ ms, (planC p A c).toArray = ms := ⟨_, rfl⟩
 rw [hms] at HFEW HDICT HI k32 ⊢
 have HK32 := am k32
 have HBK := am (blk_new w (.cells ms 81))
 have HB0 := am (below_alloc (Below.refl w.heap.size w) (.cells ms 81))
 clear ok hc hC hd hms k32
 go_enter Try.func28, Try.ntmps28
 go_wp2_with fail
 refine (awake18_call _).mono ?_
 rintro e_ w1 ⟨rfl, hb1⟩
 have HK1 := am (blk_below HBK.out hb1)
 have HB1 := am (below_step HB0.out hb1)
 clear hb1
 go_wp2_with (first
  | ((with_reducible refine gate_dst (N := 14) rfl ?_); refine wpList_load_row rfl 81 (.tmp 1) rfl w.heap.size rfl 81 ms (0, 0) _ HK1.out Try.underlying81 rfl HI.out ?_)
  | fail)
 refine (HFEW.out _ HB1.out).mono ?_
 rintro e_ w2 ⟨rfl, hb2⟩
 have HK2 := am (blk_below HK1.out hb2)
 have HB2 := am (below_step HB1.out hb2)
 clear hb2
 cases hf : fewP p
 ·clear hf
  go_wp2_with fail
  go_ret
  exact ⟨rfl, HB2.out⟩
 have HDICT := am (HDICT.out hf)
 have HFF := am (few_facts hf)
 clear hf
 go_wp2_with (first
  | ((with_reducible refine gate_dst (N := 23) rfl ?_); refine wpList_load_row rfl 81 (.tmp 1) rfl w.heap.size rfl 81 ms (0, 0) _ HK2.out Try.underlying81 rfl HI.out ?_)
  | fail)
 refine (HDICT.out _ HB2.out).mono ?_
 rintro e_ w3 ⟨⟨Ad, cd, rfl, hcd, hCd⟩, hb3⟩
 have HK3 := am (blk_below HK2.out hb3)
 have HB3 := am (below_step HB2.out hb3)
 have HDC := am (And.intro hcd hCd)
 have HC3 := am (Kd.C_below HPC.out HB3.out)
 have HFR : Aside0 (w.heap.size < w3.heap.size) := ⟨blk_lt HK3.out⟩
 clear hb3 hcd hCd
 go_wp2_with fail
 go_loopg [6, 7] d.length (fun kq v6 v7 W => ∃ i : Nat, v6 = .int .i64 i ∧ Aside0 (kq + i = d.length) ∧ Aside0 (Below w3.heap.size w3 W))
 case atStart => exact ⟨0, rfl, ⟨rfl⟩, ⟨Below.refl _ _⟩⟩
 case round =>
  obtain ⟨i, rfl, HKI, HBR⟩ := hrel
  by_cases hi : i < d.length
  ·obtain ⟨e1, e2⟩ := ltY hi
   have e3 : (0 ≤ (i : Int)) = True := by simp
   have e4 := wr1 (i := i) (by have := H16.out; omega)
   obtain ⟨s, hs⟩ : ∃ s, d.getD i ⟨#[]⟩ = s := ⟨_, rfl⟩
   obtain ⟨add, hA, hcs⟩ := str_at HDC.out.2 hi s hs
   subst hA
   have HCS := am hcs
   have HS := am hs
   have HI2 := am hi
   clear hi hs hcs
   go_wp2_with fail
   go_loopg [7] i (fun kq v7 W => ∃ k : Nat, v7 = .int .i64 k ∧ Aside0 (kq + k = i) ∧ Aside0 (Below w3.heap.size w3 W))
   case atStart => exact ⟨0, rfl, ⟨rfl⟩, HBR⟩
   case round =>
    clear HBR
    obtain ⟨k, rfl, HKK, HBR⟩ := hrel
    by_cases hk : k < i
    ·obtain ⟨g1, g2⟩ := ltY hk
     have g3 : (0 ≤ (k : Int)) = True := by simp
     have g5 : ((k : Int) < (d.length : Int)) = True := eq_true (by have := HI2.out; omega)
     have g4 := wr1 (i := k) (by have := H16.out; have := HI2.out; omega)
     obtain ⟨t, ht⟩ : ∃ t, d.getD k ⟨#[]⟩ = t := ⟨_, rfl⟩
     have hne := nodup_ne HND.out HI2.out hk ⟨#[]⟩ s t HS.out ht
     obtain ⟨ad0, hA0, hck⟩ := str_at (Kd.C_below HDC.out.2 (below_drew1 HBR.out)) (by have := HI2.out; omega : k < d.length) t ht
     injection hA0 with hA0
     subst hA0
     have HCK := am hck
     have HCI := am (((below_drew1 HBR.out).cell (World.block_lt_of_cell? _ _ HCS.out)).trans HCS.out)
     have n1 : (s.toList == t.toList) = false := by simpa using (fun h => hne (bytes_inj h))
     have n3 : decide (s = t) = false := decide_eq_false hne
     have HKI2 := am hk
     clear hk ht hck hne
     go_upto_region 12 with (fail)
     refine wp_region_held_drew (S := (fun W => W.cell? (add.add i) = some (.string s) ∧ W.cell? (add.add k) = some (.string t))) (by kernel_rfl) (⟨HCI.out, HCK.out⟩) (fun hHeld => ?_)
     refine th (i := 0) ?_
     refine th (i := 1) ?_
     refine th (i := 2) ?_
     refine tu (i := 3) (fun W_ hW_ => hW_.1) ?_
     refine th (i := 4) ?_
     refine th (i := 5) ?_
     refine th (i := 6) ?_
     refine tu (i := 7) (fun W_ hW_ => hW_.2) ?_
     refine th (i := 8) ?_
     refine td ?_
     go_wp2_with fail
     go_roundg (i - (k + 1))
     case measure => have := HKK.out; have := HKI2.out; omega
     case rel => exact ⟨k + 1, by first | rfl | (simp [g4]; done), ⟨by have := HKI2.out; omega⟩, ⟨below_drew1 HBR.out⟩⟩
    ·obtain ⟨g1, g2⟩ := ltN hk
     clear hk
     go_wp2_with fail
     go_roundg (d.length - (i + 1))
     case measure => have := HKI.out; have := HI2.out; omega
     case rel => exact ⟨i + 1, by first | rfl | (simp [e4]; done), ⟨by have := HI2.out; omega⟩, HBR⟩
  ·obtain ⟨e1, e2⟩ := ltN hi
   clear hi HKI
   obtain ⟨w4, rfl⟩ : ∃ w4 : World, w4 = wr := ⟨_, rfl⟩
   go_wp2_with fail
   go_loopg [8, 9, 10] p.b.length (fun kq v8 v9 v10 W => ∃ i : Nat, v9 = .int .i64 i ∧ Aside0 (kq + i = p.b.length) ∧ Aside0 (Kd.R Kd.string 9 W w3.heap.size (fun _ => True) v8 (allV (p.b.take i).flatten) ∧ Below w3.heap.size w3 W))
   case atStart => exact ⟨0, rfl, ⟨rfl⟩, ⟨Kd.R_nil _ _ _ _ _, HBR.out⟩⟩
   case round =>
    clear HBR
    obtain ⟨i, rfl, HKI, HRB⟩ := hrel
    obtain ⟨wo, rfl⟩ : ∃ wo : World, wo = wr := ⟨_, rfl⟩
    have f32 := (blk_cell (blk_below HK3.out HRB.out.2) 32).trans HK32.out
    by_cases hi : i < p.b.length
    ·obtain ⟨e1, e2⟩ := ltY hi
     have e3 : (0 ≤ (i : Int)) = True := by simp
     have e4 := wr1 (i := i) (by have := HFF.out.1; omega)
     obtain ⟨x, hx⟩ : ∃ x, p.b.getD i [] = x := ⟨_, rfl⟩
     obtain ⟨ad, B, cb, hA, hbc, hCb, hcell⟩ := bat_at HC3.out hi x hx
     subst hA
     have HX := am hx
     have HXM : Aside0 (x ∈ p.b) := ⟨by rw [← hx, List.getD_eq_getElem?_getD, List.getElem?_eq_getElem hi]; exact List.getElem_mem hi⟩
     have HXC := am hcell
     have HXB := am hCb
     have HI2 := am hi
     have HXT := am (flat_take p.b i hi x hx)
     have HXL : Aside0 (x.length ≤ 24) := ⟨HFF.out.2.1 x HXM.out⟩
     clear hi hx hbc hCb hcell f32
     have f32 := (blk_cell (blk_below HK3.out HRB.out.2) 32).trans HK32.out
     go_wp2_with fail
     go_loopg [8, 10] x.length (fun kq v8 v10 W => ∃ k : Nat, v10 = .int .i64 k ∧ Aside0 (kq + k = x.length) ∧ Aside0 (Kd.R Kd.string 9 W w3.heap.size (fun _ => True) v8 (allV ((p.b.take i).flatten ++ x.take k)) ∧ Below w3.heap.size w3 W))
     case atStart => exact ⟨0, rfl, ⟨rfl⟩, ⟨by rw [List.take_zero, List.append_nil]; exact HRB.out.1, HRB.out.2⟩⟩
     case round =>
      clear HRB f32
      obtain ⟨k, rfl, HKK, HRB⟩ := hrel
      obtain ⟨wi, rfl⟩ : ∃ wi : World, wi = wr := ⟨_, rfl⟩
      have f32 := (blk_cell (blk_below HK3.out HRB.out.2) 32).trans HK32.out
      have fb := (HRB.out.2.cell (World.block_lt_of_cell? _ _ HXC.out)).trans HXC.out
      by_cases hk : k < x.length
      ·obtain ⟨g1, g2⟩ := ltY hk
       have g3 : (0 ≤ (k : Int)) = True := by simp
       have g4 := wr1 (i := k) (by have := HXL.out; omega)
       obtain ⟨y, hy⟩ : ∃ y, x.getD k zOp = y := ⟨_, rfl⟩
       obtain ⟨ad2, B2, c2, hA2, hlens, _, _, hat⟩ := op_at (Kd.C_below HXB.out HRB.out.2) hk y hy
       subst hA2
       obtain ⟨k0, _, _, _, k20, _, _⟩ := opC_at hlens B2 c2
       have f0 : wi.cell? (ad2.add (k * 71)) = some (.int .i64 y.kind) := hat 0 _ k0
       have f20 := hat 20 _ k20
       rw [add_lit _ (by decide)] at f20
       have HTK : Aside0 ((p.b.take i).flatten ++ x.take (k + 1) = ((p.b.take i).flatten ++ x.take k) ++ [y]) := ⟨by rw [take_one x k hk zOp y hy, List.append_assoc]⟩
       have HK2_ := am hk
       have HLN : Aside0 (((allV ((p.b.take i).flatten ++ x.take k)).length + 1) * 16 ≤ 140737488355328) := ⟨by
        have a := allV_len ((p.b.take i).flatten ++ x.take k)
        have b : ((p.b.take i).flatten ++ x.take k).length ≤ p.b.flatten.length := by
         have h1 : (p.b.take (i + 1)).flatten.length ≤ p.b.flatten.length := by
          conv => rhs; rw [← List.take_append_drop (i + 1) p.b, List.flatten_append, List.length_append]
          omega
         rw [HXT.out, List.length_append] at h1
         rw [List.length_append, List.length_take]
         omega
        have c := HFF.out.2.2.2
        omega⟩
       clear hk hy hlens hat k0 k20
       by_cases hkd : y.kind = 1
       ·have n1 : (y.kind == 1) = true := by simpa using hkd
        have n2 : decide (y.kind = 1) = true := decide_eq_true hkd
        have HAV := am (allV_one hkd)
        clear hkd
        go_wp2_with (first
         | ((with_reducible refine gate_builtin (b := .append) (xs := #[.tmp 72, .tmp 82]) rfl ?_); at_builtin; refine Kd.R_append Kd.string (w0 := w3) w3.heap.size rfl (.tmp 72) (.tmp 82) 90 9 (.string ⟨#[]⟩) 16 rfl Try.underlying90 zeroS3 rfl (by decide) (by decide) u8 (allV ((p.b.take i).flatten ++ x.take k)) y.v [.string y.v] (fun _ => True) (fun _ => False) rfl rfl rfl (fun _ h => h.elim) (fun _ _ => trivial) HRB.out.1 HRB.out.2 HRB.out.2.size HLN.out ?_; intro v7 w7 hR7 hB7 hg7 hat7; have HD7 := am (And.intro hR7 hB7); clear hR7 hB7 hg7 hat7)
         | fail)
        go_roundg (x.length - (k + 1))
        case measure => have := HKK.out; have := HK2_.out; omega
        case rel => exact ⟨k + 1, by first | rfl | (simp [g4]; done), ⟨by have := HK2_.out; omega⟩, ⟨by rw [HTK.out, allV_app, HAV.out]; exact HD7.out.1, HD7.out.2⟩⟩
       ·have n1 : (y.kind == 1) = false := by simpa using hkd
        have n2 : decide (y.kind = 1) = false := decide_eq_false hkd
        have HAV := am (allV_not hkd)
        clear hkd
        go_wp2_with fail
        go_roundg (x.length - (k + 1))
        case measure => have := HKK.out; have := HK2_.out; omega
        case rel => exact ⟨k + 1, by first | rfl | (simp [g4]; done), ⟨by have := HK2_.out; omega⟩, ⟨by rw [HTK.out, allV_app, HAV.out, List.append_nil]; exact HRB.out.1, HRB.out.2⟩⟩
      ·obtain ⟨g1, g2⟩ := ltN hk
       have hkx : k = x.length := by have := HKK.out; omega
       have HE : Aside0 ((p.b.take i).flatten ++ x.take k = (p.b.take (i + 1)).flatten) := ⟨by rw [hkx, List.take_length, HXT.out]⟩
       clear hk hkx
       go_wp2_with fail
       go_roundg (p.b.length - (i + 1))
       case measure => have := HKI.out; have := HI2.out; omega
       case rel => exact ⟨i + 1, by first | rfl | (simp [e4]; done), ⟨by have := HI2.out; omega⟩, ⟨by rw [← HE.out]; exact HRB.out.1, HRB.out.2⟩⟩
    ·obtain ⟨e1, e2⟩ := ltN hi
     have hil : i = p.b.length := by have := HKI.out; omega
     have hrb := HRB.out
     rw [hil, List.take_length] at hrb
     obtain ⟨al, hal⟩ : ∃ al, allV p.b.flatten = al := ⟨_, rfl⟩
     rw [hal] at HSUB hrb
     have HAL : Aside0 (al.length ≤ 480) := ⟨by rw [← hal]; have := allV_len p.b.flatten; have := HFF.out.2.2.2; omega⟩
     obtain ⟨A8, c8, rfl⟩ := Kd.R_slice hrb.1
     have HAC := am (Kd.R_reads' hrb.1).2
     have HB5 := am hrb.2
     have HD5 := am (And.intro HDC.out.1 (Kd.C_below HDC.out.2 hrb.2))
     clear hi hil hrb HRB hal
     go_wp2_with fail
     go_loopg [11, 12] d.length (fun kq v11 v12 W => ∃ i a : Nat, v12 = .int .i64 i ∧ v11 = .int .i64 a ∧ Aside0 (kq + i = d.length) ∧ Aside0 (a ≤ al.length) ∧ Aside0 ((d.drop i).Sublist (al.drop a)) ∧ Aside0 (Below wo.heap.size wo W))
     case atStart => exact ⟨0, 0, rfl, rfl, ⟨rfl⟩, ⟨Nat.zero_le _⟩, ⟨by rw [List.drop_zero, List.drop_zero]; exact HSUB.out⟩, ⟨Below.refl _ _⟩⟩
     case round =>
      obtain ⟨i, a0, rfl, rfl, HKI, HA0, HSB, HBR⟩ := hrel
      by_cases hi : i < d.length
      ·obtain ⟨e1, e2⟩ := ltY hi
       have e3 : (0 ≤ (i : Int)) = True := by simp
       have e4 := wr1 (i := i) (by have := H16.out; omega)
       obtain ⟨t, ht⟩ : ∃ t, d.getD i ⟨#[]⟩ = t := ⟨_, rfl⟩
       obtain ⟨add, hA, hcs⟩ := str_at HD5.out.2 hi t ht
       subst hA
       have HDR := am (drop_one d i hi ⟨#[]⟩ t ht)
       have HCS := am hcs
       have HI2 := am hi
       clear hi ht hcs
       go_wp2_with fail
       go_loopg [11] (al.length - a0) (fun kq v11 W => ∃ a : Nat, v11 = .int .i64 a ∧ Aside0 (kq + a = al.length) ∧ Aside0 ((d.drop i).Sublist (al.drop a)) ∧ Aside0 (Below wo.heap.size wo W))
       case atStart => exact ⟨a0, rfl, ⟨by have := HA0.out; omega⟩, HSB, HBR⟩
       case round =>
        clear HBR HSB
        obtain ⟨a, rfl, HKA, HSB, HBR⟩ := hrel
        have hal : a < al.length := by
         by_cases h : a < al.length
         ·exact h
         ·have h2 := HSB.out
          rw [List.drop_eq_nil_of_le (by omega : al.length ≤ a), HDR.out] at h2
          cases h2
        obtain ⟨g1, g2⟩ := ltY hal
        have g3 : (0 ≤ (a : Int)) = True := by simp
        have g4 := wr1 (i := a) (by have := HAL.out; omega)
        have g6 : decide ((a : Int) ≥ (al.length : Int)) = false := decide_eq_false (by omega)
        have g7 : decide (al.length ≤ a) = false := decide_eq_false (by omega)
        obtain ⟨s, hs⟩ : ∃ s, al.getD a ⟨#[]⟩ = s := ⟨_, rfl⟩
        obtain ⟨adl, hAl, hca⟩ := str_at (Kd.C_below HAC.out.2 (below_drew1 HBR.out)) hal s hs
        subst hAl
        have HCA := am hca
        have HCI := am (((below_drew1 HBR.out).cell (World.block_lt_of_cell? _ _ HCS.out)).trans HCS.out)
        have HLA := am hal
        have HSD := am (drop_one al a hal ⟨#[]⟩ s hs)
        clear hal hs hca
        by_cases hst : s = t
        ·have n1 : (s.toList != t.toList) = false := by rw [hst]; simp
         have n4 : (s.toList == t.toList) = true := by rw [hst]; simp
         have n3 : decide (s = t) = true := decide_eq_true hst
         clear hst
         go_upto_region 27 with (fail)
         refine wp_region_held_drew (S := (fun W => W.cell? (adl.add a) = some (.string s) ∧ W.cell? (add.add i) = some (.string t))) (by kernel_rfl) (⟨HCA.out, HCI.out⟩) (fun hHeld => ?_)
         refine th (i := 0) ?_
         refine th (i := 1) ?_
         refine th (i := 2) ?_
         refine th (i := 3) ?_
         refine th (i := 4) ?_
         refine th (i := 5) ?_
         refine th (i := 6) ?_
         refine th (i := 7) ?_
         refine tu (i := 8) (fun W_ hW_ => hW_.1) ?_
         refine th (i := 9) ?_
         refine th (i := 10) ?_
         refine th (i := 11) ?_
         refine tu (i := 12) (fun W_ hW_ => hW_.2) ?_
         refine th (i := 13) ?_
         refine th (i := 14) ?_
         refine td ?_
         go_wp2_with fail
         go_roundg (d.length - (i + 1))
         case measure => have := HKI.out; have := HI2.out; omega
         case rel => exact ⟨i + 1, a, by first | rfl | (simp [e4]; done), rfl, ⟨by have := HI2.out; omega⟩, ⟨by have := HLA.out; omega⟩, ⟨by have h := HSB.out; rw [HDR.out] at h; exact (List.sublist_cons_self _ _).trans h⟩, ⟨below_drew1 HBR.out⟩⟩
        ·have n1 : (s.toList != t.toList) = true := by simpa using (fun h => hst (bytes_inj h))
         have n4 : (s.toList == t.toList) = false := by simpa using (fun h => hst (bytes_inj h))
         have n3 : decide (s = t) = false := decide_eq_false hst
         have HST := am hst
         clear hst
         go_upto_region 27 with (fail)
         refine wp_region_held_drew (S := (fun W => W.cell? (adl.add a) = some (.string s) ∧ W.cell? (add.add i) = some (.string t))) (by kernel_rfl) (⟨HCA.out, HCI.out⟩) (fun hHeld => ?_)
         refine th (i := 0) ?_
         refine th (i := 1) ?_
         refine th (i := 2) ?_
         refine th (i := 3) ?_
         refine th (i := 4) ?_
         refine th (i := 5) ?_
         refine th (i := 6) ?_
         refine th (i := 7) ?_
         refine tu (i := 8) (fun W_ hW_ => hW_.1) ?_
         refine th (i := 9) ?_
         refine th (i := 10) ?_
         refine th (i := 11) ?_
         refine tu (i := 12) (fun W_ hW_ => hW_.2) ?_
         refine th (i := 13) ?_
         refine th (i := 14) ?_
         refine td ?_
         go_wp2_with fail
         go_roundg (al.length - (a + 1))
         case measure => have := HKA.out; have := HLA.out; omega
         case rel => exact ⟨a + 1, by first | rfl | (simp [g4]; done), ⟨by have := HLA.out; omega⟩, ⟨by have h := HSB.out; rw [HSD.out, HDR.out] at h; rw [HDR.out]; exact sub_step h HST.out⟩, ⟨below_drew1 HBR.out⟩⟩
      ·obtain ⟨e1, e2⟩ := ltN hi
       have m1 : decide ((d.length : Int) ≤ 16) = true := decide_eq_true (by have := H16.out; omega)
       have m2 : decide (d.length ≤ 16) = true := decide_eq_true H16.out
       obtain ⟨p2, hp2⟩ : ∃ p2, (planC zPl (some ⟨wr.heap.size, 0, none⟩) 0).toArray = p2 := ⟨_, rfl⟩
       have HB81 : Aside0 (Try.prog.built 81 [(1, .slice (some ⟨wr.heap.size, 0, none⟩) 0 0)] = some p2) := ⟨by rw [← hp2]; exact built81 _ _ _⟩
       have HZD := am (fun W : World => HZD.out (some ⟨wr.heap.size, 0, none⟩) W)
       rw [hp2] at HZD
       have HBF := am (below_step (below_step HB3.out HB5.out) HBR.out)
       clear hi hp2
       go_wp2_with (first
        | ((with_reducible refine gate_dst (N := 116) rfl ?_); refine gate_guard (by rfl) ?_; dsimp only; refine wpList_build_cells rfl 81 _ rfl p2 ?hb ?_; case hb => (simp only [List.map_toArray, List.map_cons, List.map_nil]; exact HB81.out))
        | fail)
       refine (HZD.out _).mono ?_
       rintro e_ wz ⟨⟨Az, cz, rfl, hcz, hCz⟩, hbz⟩
       have HBZ := am (below_step HBF.out (below_step (below_alloc (Below.refl _ _) _) hbz))
       clear hcz hCz hbz
       go_wp2_with fail
       go_ret
       exact ⟨rfl, HBZ.out⟩
theorem rolodexlaw18_CodeDict.walk (m : PlanT) (A : Option Addr) (c : Nat) (w : World) (ok : PlanOk m) (hc : m.b.length ≤ c) (hC : Kd.C batK w A m.b.length m.b) :
  Calls Try.prog 28 #[.agg (planC m A c).toArray] w fun e w' => e = .returned (.bool true) ∧ Below w.heap.size w w' := cdict_main m A c w ok hc hC
end
end Go.Proofs.Ytchaegfdcdlfaaa.X
namespace Go.Proofs.Ytchaegfdcdlfaaa.codeDict
section
open Go.ChangeShapes Go.WideShapes Go.ChangeAt Go.RowKit
open Go.ChangeMaps (open_string shut_string)
theorem own : ownKnob Try.prog.godebug = none := by kernel_rfl
theorem laidOut : laidOutB Try.prog = true := by kernel_rfl
theorem lifted (os : Os) (started : os.Started) (H : Type) (enc : TypeId × Value → H) :
  ReturnsInHanded {} Try.checked os 28 .any (Rows.codeDictSpec.pre6 enc Try.prog Try.f28 Rows.codeDictRow.domain false) (Rows.codeDictSpec.post enc Try.prog Try.f28 false true false false) := by
 refine returnsInHanded_of_change_sized (C := Try.checked) own started (by kernel_rfl) Try.func28
  (ChangeSpec.witness6 (enc := enc) (C := Try.checked) false ⟨#[], #[.agg #[.int .u8 0, .int .u8 0, .int .u8 0, .int .u8 0, .int .u8 0, .int .u8 0, .int .u8 0, .int .u8 0, .int .u8 0, .int .u8 0, .int .u8 0, .int .u8 0, .int .u8 0, .int .u8 0, .int .u8 0, .int .u8 0, .int .u8 0, .int .u8 0, .int .u8 0, .int .u8 0, .int .u8 0, .int .u8 0, .int .u8 0, .int .u8 0, .int .u8 0, .int .u8 0, .int .u8 0, .int .u8 0, .int .u8 0, .int .u8 0, .int .u8 0, .int .u8 0, .slice none 0 0]], []⟩ 8 (by kernel_rfl) (by kernel_rfl) (by kernel_rfl) (by kernel_rfl)) ?_
 intro W base args ds gs before hval0 hW hcnd hsz0 _
 have hsz : (DataW.weightsEach Try.prog (Try.f28.params.toList ++ Rows.codeDictSpec.plain.varTypes Try.prog) (ds ++ gs)).all (· ≤ reachBytes) = true := hsz0
 have hval : ∀ (j : Nat) t v, Try.f28.params[j]? = some t → args[j]? = some v → Value.okWide Try.prog W .any base t v := hval0
 have hW' := hW
 obtain ⟨p, q, hA0, hV, rfl, hfz, hnd⟩ := hW
 have hA : DataW.TrodAll enc Try.prog W 0 (fun _ => true) true Try.f28.params.toList args.toList ds p := hA0
 rw [Try.params28] at hA hval hsz
 obtain ⟨v0, vs0, d0, ds0, p0, q0, hargs, rfl, rfl, h0, r0⟩ := trodAll_cons hA
 obtain ⟨rfl, rfl, rfl⟩ := trodAll_nil r0
 obtain rfl : args = #[v0] := by cases args; simp_all
 obtain ⟨rfl, rfl⟩ := trodVars_none hV
 have k0 := h0
 have lt0 : ∀ x ∈ p0, x.block < W.heap.size := by obtain ⟨m, hm⟩ := k0; exact DataW.trod_lt m _ _ _ hm
 obtain ⟨l0, a0, c0, rfl, o0, n0, b0⟩ := X.open_plan (hval 0 81 v0 rfl rfl) h0
 clear hA0 hval0 hsz0 hsz
 refine (X.rolodexlaw18_CodeDict.walk l0 a0 c0 W o0 n0 b0).mono fun e W' ⟨he, bel⟩ => ?_
 subst he
 exact ⟨_, rfl, _, _, _, [], _, [], hW', trodAll_mk1 (shut_bool Try.underlying4 _), (trodAll_cons_mk (Below.trod laidOut (by kernel_rfl) (of_decide_eq_true (by kernel_rfl)) k0 bel lt0) trodAll_mk0), rfl, bel.frame _, fun h => by cases h⟩
theorem clos0 : (J.closT Try.prog 185 [28] []).isSome = true := by kernel_rfl
theorem clos1 : Try.prog.closure 28 = (J.closT Try.prog 185 [28] []).getD [] := J.clos_eq (of_decide_eq_true (by kernel_rfl)) clos0
theorem fact1 : Try.prog.inPlace 28 = [] := by unfold Program.inPlace; rw [clos1]; kernel_rfl
theorem fact2 : Try.prog.unfollowed 28 = true := by unfold Program.unfollowed; rw [clos1]; kernel_rfl
theorem fact3 : Try.prog.recurses 28 = true := by unfold Program.recurses; rw [fact2]; rfl
theorem fact4 : Try.prog.varsNamed 28 = [] := by unfold Program.varsNamed; rw [clos1]; kernel_rfl
theorem facts : joinedFacts Try.prog 28 Try.f28 Rows.codeDictSpec Rows.codeDictRow = true := by
 unfold joinedFacts
 simp only [Bool.and_eq_true]
 repeat' apply And.intro
 all_goals first | (with_reducible exact J.mayEnter) | (rw [J.liftsFinal]; kernel_rfl) | (rw [J.make]; kernel_rfl) | (rw [fact1]; kernel_rfl) | (rw [fact2]; kernel_rfl) | (rw [fact3]; kernel_rfl) | (rw [fact4]; kernel_rfl) | kernel_rfl
theorem over : Rows.codeDictRow.holds Try.pinned (OpenSpec.ofChange Rows.codeDictSpec) :=
 OpenClaim.holds_of_wide 28 Try.f28 rfl rfl rfl rfl rfl rfl rfl ⟨rfl, rfl, rfl, rfl, rfl⟩ rfl rfl rfl rfl rfl (by kernel_rfl) Try.func28 facts
  (of_decide_eq_true (by kernel_rfl)) (by unfold Func.isWrapper; first | (rw [if_pos (by decide +kernel)]; kernel_rfl) | (rw [if_neg (by decide +kernel)]; exact ⟨rfl, rfl⟩))
  (fun os started H enc _ => lifted os started H enc)
theorem proved : Rows.CodeDictSaid := over
end
end Go.Proofs.Ytchaegfdcdlfaaa.codeDict
namespace Go.Proofs.Ytchaegfdcdlfaaa
theorem codeDict_holds : Rows.CodeDictSaid := codeDict.proved
end Go.Proofs.Ytchaegfdcdlfaaa
