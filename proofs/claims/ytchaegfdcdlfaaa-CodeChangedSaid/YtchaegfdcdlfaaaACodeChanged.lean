/- CodeChanged: the walk, the row -/
import Derived.Test.YtchaegfdcdlfaaaA8
import Derived.Test.YtchaegfdcdlfaaaRows
import Derived.ShutString
import Derived.ChangeOld
set_option linter.unusedVariables false
set_option linter.unusedSimpArgs false
set_option maxRecDepth 100000
namespace Go.Proofs.Ytchaegfdcdlfaaa.X
section
open Go.RowKit Go.Proofs.YtchaegfdcdlfaaaW.PrintWords Go.Proofs.YtchaegfdcdlfaaaW.PrintLast Go.Proofs.YtchaegfdcdlfaaaW.PrintMore
open Go.Proofs.Ytchaegfdcdlfaaa.Y (Bytes RdB put put_range put_length put_length_pos word word_length word_bytes rdb_below rdb_drewN put_call row_slice conv0 bytes_of_wf rdb_cut rdb_take)
attribute [local go_sem] max2_int min2_int max_two min_two max_three min_three max_four min_four
theorem rdb_setCell {w : World} {g : Nat} {l : List Int} {cells : Array Value} (h : RdB w (some ⟨g, 0, none⟩) l.length l) {i : Nat} (hi : i < l.length) (v : Int) (hb : w.heap[g]? = some (.cells cells 5 (0, 0))) : RdB (w.setCell ⟨g, i, none⟩ (.int .u8 v)) (some ⟨g, 0, none⟩) (l.set i v).length (l.set i v) := by
 rw [List.length_set]
 refine Kd.C_of_reads (d := (0 : Int)) (h1 := fun _ => rfl) ?_
 have h2 := Kd.reads_of_C (d := (0 : Int)) (h1 := fun _ => rfl) h
 refine ⟨by rw [List.length_set], h2.2.1, fun hn => ⟨⟨g, 0, none⟩, rfl, fun j hj => ?_⟩⟩
 obtain ⟨ad, e, hc⟩ := h2.2.2 hn
 injection e with e
 subst e
 have hcj := hc j hj
 rw [add_at] at hcj ⊢
 rw [blk_cell hb] at hcj
 rw [blk_cell (blk_put hb i (.int .u8 v) rfl), Array.getElem?_setIfInBounds]
 by_cases hij : i = j
 ·subst hij
  have hlt : i < cells.size := (Array.getElem?_eq_some_iff.1 hcj).1
  rw [if_pos rfl, if_pos hlt, List.getD_eq_getElem?_getD, List.getElem?_set_self (by omega)]
  rfl
 ·rw [if_neg hij, hcj]
  simp only [List.getD_eq_getElem?_getD, List.getElem?_set_ne hij]
theorem rdb_one (W : World) (c : Int) : RdB (W.alloc (.cells #[.int .u8 c] 5)) (some ⟨W.heap.size, 0, none⟩) 1 [c] := by
 have h : At (W.alloc (.cells #[.int .u8 c] 5)) ⟨W.heap.size, 0, none⟩ (cells8 [c]) := At.blk (blk_new W (.cells #[.int .u8 c] 5))
 exact h.reads (by simp)
theorem bel_cell2 {w w1 : World} {a : Addr} {v : Value} (hb : Below w.heap.size w w1) (h : w.cell? a = some v) : w1.cell? a = some v := (hb.cell (World.block_lt_of_cell? w _ h)).trans h
theorem zpl_ok : zPl.base.length = 32 := rfl
set_option maxHeartbeats 2000000 in
theorem cchg_main (ms : Array Value) (w : World) (p : PlanT) (pk : List Int) (pn i : Nat) (c e1 e2 : Int) (hpn : pk.length = pn) (hby : Bytes pk) (hlen : pn ≤ 515827) (hi : i < pn) (c0 : 0 ≤ c) (c1 : c ≤ 255) (he1 : e1 ≠ 0) (he2 : e2 ≠ 0)
  (hI : (Try.prog.info? 81).map (·.size) = some ms.size)
  (hfew : ∀ W : World, Below w.heap.size w W → Calls Try.prog 69 #[.agg ms] W fun e w' => e = .returned (.bool true) ∧ Below W.heap.size W w')
  (hput : ∀ W : World, Below w.heap.size w W → Calls Try.prog 70 #[.agg ms] W fun e w' => (∃ A2 c2, e = .returned (.tuple #[.slice A2 pn c2, .int .i64 0]) ∧ pn ≤ c2 ∧ RdB w' A2 pn pk) ∧ Below W.heap.size W w')
  (hsame : ∀ (V : World) (A2 : Option Addr) (c2 : Nat) (q : PlanT), Below w.heap.size w V → q.base.length = 32 → q ≠ p → Kd.C batK V A2 q.b.length q.b → Calls Try.prog 73 #[.agg ms, .agg (planC q A2 c2).toArray] V fun e w' => e = .returned (.bool false) ∧ Below V.heap.size V w')
  (hmore : getPl (pk ++ [c]) = (zPl, e1)) (hless : getPl (pk.take i) = (zPl, e2)) (hset : pk.getD i 0 ≠ c → (getPl (pk.set i c)).2 ≠ 0 ∨ (getPl (pk.set i c)).1 ≠ p) :
  Calls Try.prog 27 #[.agg ms, .int .i64 i, .int .u8 c] w fun e w' => e = .returned (.bool true) ∧ Below w.heap.size w w' := by
 have HI := am hI
 have HBK := am (blk_new w (.cells ms 81))
 have HB0 := am (below_alloc (Below.refl w.heap.size w) (.cells ms 81))
 have HFEW := am hfew
 have HPUT := am hput
 have HSAME := am hsame
 have HPN := am hpn
 have HBY := am hby
 have HLEN := am hlen
 have HLT := am hi
 have HSET := am hset
 have HGMORE : Aside0 (∀ (A : Option Addr) (c' : Nat) (W : World), RdB W A (pk ++ [c]).length (pk ++ [c]) → (pk ++ [c]).length ≤ c' → Calls Try.prog 72 #[.slice A (pk.length + 1) c'] W (CgQ W (zPl, e1))) := ⟨fun A c' W hr hc => by
  have h := getp_call A c' (pk ++ [c]) W hr hc (fun x hx => by
   rcases List.mem_append.1 hx with h | h
   ·exact hby x h
   ·obtain rfl := List.mem_singleton.1 h
    exact ⟨c0, c1⟩) (by simp; omega)
  rw [hmore, List.length_append, List.length_singleton] at h
  exact h⟩
 have HGLESS : Aside0 (∀ (A : Option Addr) (c' : Nat) (W : World), RdB W A pn pk → i ≤ c' → Calls Try.prog 72 #[.slice A i c'] W (CgQ W (zPl, e2))) := ⟨fun A c' W hr hc => by
  have hl : (pk.take i).length = i := by rw [List.length_take]; omega
  have ht := rdb_take (A := A) (l := pk) (w := W) (by rw [hpn]; exact hr) i (by omega)
  have h := getp_call A c' (pk.take i) W (by rw [hl]; exact ht) (by rw [hl]; exact hc) (fun x hx => hby x (List.mem_of_mem_take hx)) (by rw [hl]; omega)
  rw [hless, hl] at h
  exact h⟩
 have hby2 : Bytes (pk.set i c) := fun x hx => by
  rcases List.mem_or_eq_of_mem_set hx with h | h
  ·exact hby x h
  ·rw [h]; exact ⟨c0, c1⟩
 have hgb := getPl_byt hby2 (by rw [List.length_set]; omega)
 obtain ⟨⟨gq, ge⟩, hgq⟩ : ∃ r, getPl (pk.set i c) = r := ⟨_, rfl⟩
 rw [hgq] at HSET hgb
 have HG32 := am hgb.base.1
 have HGSET : Aside0 (∀ (A : Option Addr) (c' : Nat) (W : World), RdB W A pn (pk.set i c) → pn ≤ c' → Calls Try.prog 72 #[.slice A pn c'] W (CgQ W (gq, ge))) := ⟨fun A c' W hr hc => by
  have h := getp_call A c' (pk.set i c) W (by rw [List.length_set, hpn]; exact hr) (by rw [List.length_set, hpn]; exact hc) hby2 (by rw [List.length_set]; omega)
  rw [List.length_set, hpn, hgq] at h
  exact h⟩
 have q1 : decide ((i : Int) < 0) = false := decide_eq_false (by omega)
 have q2 : decide ((i : Int) ≥ (pn : Int)) = false := decide_eq_false (by omega)
 have q2n : decide (pn ≤ i) = false := decide_eq_false (by omega)
 have q4 : (0 ≤ (i : Int)) = True := by simp
 have q5 : ((i : Int) < (pn : Int)) = True := eq_true (by omega)
 have q6 : ((i : Int) ≤ (pn : Int)) = True := eq_true (by omega)
 have q7 : decide (e1 = 0) = false := decide_eq_false he1
 have q8 : decide (e2 = 0) = false := decide_eq_false he2
 have q7b : (e1 == 0) = false := by simpa using he1
 have q8b : (e2 == 0) = false := by simpa using he2
 clear hI hfew hput hpn hby c0 c1 hlen hmore hless hset hsame hby2 hgb hgq he1 he2
 go_enter Try.func27, Try.ntmps27
 go_wp2_with fail
 refine (awake18_call _).mono ?_
 rintro e_ w1 ⟨rfl, hb1⟩
 have HK1 := am (blk_below HBK.out hb1)
 have HB1 := am (below_step HB0.out hb1)
 clear hb1
 go_wp2_with (first
  | ((with_reducible refine gate_dst (N := 19) rfl ?_); refine wpList_load_row rfl 81 (.tmp 3) rfl w.heap.size rfl 81 ms (0, 0) _ HK1.out Try.underlying81 rfl HI.out ?_)
  | fail)
 refine (HFEW.out _ HB1.out).mono ?_
 rintro e_ w2 ⟨rfl, hb2⟩
 have HK2 := am (blk_below HK1.out hb2)
 have HB2 := am (below_step HB1.out hb2)
 clear hb2
 go_wp2_with (first
  | ((with_reducible refine gate_dst (N := 22) rfl ?_); refine wpList_load_row rfl 81 (.tmp 3) rfl w.heap.size rfl 81 ms (0, 0) _ HK2.out Try.underlying81 rfl HI.out ?_)
  | fail)
 refine (HPUT.out _ HB2.out).mono ?_
 rintro e_ w3 ⟨⟨B1, cb, rfl, hcb, hrb⟩, hb3⟩
 have HK3 := am (blk_below HK2.out hb3)
 have HB3 := am (below_step HB2.out hb3)
 obtain ⟨ad, hB1, hx0⟩ := Kd.at_int hrb (i : Int) (by omega) (by omega)
 subst hB1
 rw [Int.toNat_natCast] at hx0
 have HR3 := am hrb
 have HCB := am hcb
 have HX3 := am hx0
 clear hb3 hcb hrb hx0
 go_wp2_with (first
  | ((with_reducible refine gate_builtin (b := .append) (xs := #[.const (.slice none 0 0), .tmp 48]) rfl ?_); at_builtin; refine Kd.R_append_row (Value.int .u8) 0 (w0 := w3) w3.heap.size rfl _ _ 40 5 (.int .u8 0) 1 rfl Try.underlying40 info5 rfl (by decide) (.slice none 0 0) ([] : List Int) pk (some ad) pn cb (fun _ => True) (by rfl) (by rfl) (fun _ _ => trivial) (Kd.R_nil _ _ _ _ (fun _ => True)) HR3.out (Below.refl w3.heap.size w3) (Nat.le_refl _) (by have := HPN.out; have := HLEN.out; simp only [List.length_nil]; omega) ?_; intro v7 w7 hR7 hB7 hg7 hat7; clear hg7 hat7; have HB7 := am hB7; obtain ⟨A7, c7, rfl⟩ := Kd.R_slice hR7; simp only [List.nil_append] at hR7 ⊢; have HR7 := am hR7; clear hR7 hB7)
  | ((with_reducible refine gate_builtin (b := .append) (xs := #[.tmp 49, .tmp 51]) rfl ?_); at_builtin; refine Kd.R_append_row (Value.int .u8) 0 (w0 := w3) w3.heap.size rfl _ _ 40 5 (.int .u8 0) 1 rfl Try.underlying40 info5 rfl (by decide) (.slice A7 pk.length c7) pk [c] (some ⟨w7.heap.size, 0, none⟩) 1 1 (fun _ => True) (by rfl) (by rfl) (fun _ _ => trivial) (Kd.R_alloc HR7.out _) (rdb_one w7 c) (below_alloc HB7.out _) (below_alloc HB7.out _).size (by have := HPN.out; have := HLEN.out; omega) ?_; intro v8 w8 hR8 hB8 hg8 hat8; clear hg8 hat8; have HB8 := am hB8; obtain ⟨A8, c8, rfl⟩ := Kd.R_slice hR8; simp only [List.nil_append] at hR8 ⊢; have HR8 := am hR8; clear hR8 hB8)
  | fail)
 have hrd8 := (Kd.R_reads' HR8.out)
 refine (HGMORE.out A8 c8 _ hrd8.2.2 hrd8.2.1).mono ?_
 rintro e_ w9 ⟨⟨A9, c9, rfl, hc9, hC9⟩, hb9⟩
 have HB9 := am (below_step HB8.out hb9)
 have hs9 := plan_store w9 zPl A9 c9 zpl_ok
 have hz9 := planC_size (p := zPl) zpl_ok A9 c9
 dsimp only
 obtain ⟨n9, hn9⟩ : ∃ n9, (planC zPl A9 c9).toArray = n9 := ⟨_, rfl⟩
 rw [hn9] at hs9 hz9 ⊢
 have HBA := am (below_alloc HB9.out (.cells n9 81))
 have hcut := rdb_cut (some ad) cb pk i (by have := HPN.out; have := HLT.out; omega) (by have := HPN.out; have := HCB.out; omega)
 rw [HPN.out] at hcut
 clear hc9 hC9 hb9 hrd8 hn9
 go_wp2_with fail
 refine (HGLESS.out (some ad) cb _ (rdb_below HR3.out HBA.out) (by have := HCB.out; have := HLT.out; omega)).mono ?_
 rintro e_ wa ⟨⟨Aa, ca, rfl, hca, hCa⟩, hba⟩
 have HBB := am (below_step HBA.out hba)
 have hsa := plan_store wa zPl Aa ca zpl_ok
 have hza := planC_size (p := zPl) zpl_ok Aa ca
 dsimp only
 obtain ⟨na, hna⟩ : ∃ na, (planC zPl Aa ca).toArray = na := ⟨_, rfl⟩
 rw [hna] at hsa hza ⊢
 have HBC := am (below_alloc HBB.out (.cells na 81))
 have HBCW := am (below_step HB3.out HBC.out)
 clear hca hCa hba hna hcut hs9 hz9
 go_upto_region 13 with (first
  | ((with_reducible refine gate_builtin (b := .append) (xs := #[.const (.slice none 0 0), .tmp 67]) rfl ?_); at_builtin; refine Kd.R_append_row (Value.int .u8) 0 (w0 := (wa.alloc (.cells na 81))) (wa.alloc (.cells na 81)).heap.size rfl _ _ 40 5 (.int .u8 0) 1 rfl Try.underlying40 info5 rfl (by decide) (.slice none 0 0) ([] : List Int) pk (some ad) pn cb (fun _ => True) (by rfl) (by rfl) (fun _ _ => trivial) (Kd.R_nil _ _ _ _ (fun _ => True)) (rdb_below HR3.out HBC.out) (Below.refl (wa.alloc (.cells na 81)).heap.size (wa.alloc (.cells na 81))) (Nat.le_refl _) (by have := HPN.out; have := HLEN.out; simp only [List.length_nil]; omega) ?_; intro v12 w12 hR12 hB12 hg12 hat12; clear hg12 hat12; have HB12 := am hB12; obtain ⟨A12, c12, rfl⟩ := Kd.R_slice hR12; simp only [List.nil_append] at hR12 ⊢; have HR12 := am hR12; clear hR12 hB12)
  | fail)
 obtain ⟨g, cg, hvg, hgb, hgl, cells, hcells⟩ := Kd.R_form HR12.out (by have := HPN.out; have := HLT.out; omega)
 injection hvg with hv1 hv2 hv3
 subst hv1
 subst hv3
 have hrd12 := Kd.R_reads' HR12.out
 rw [HPN.out] at hrd12
 have HCC := am hrd12.2.1
 have hrs := rdb_setCell (w := w12) (l := pk) (by rw [HPN.out]; exact hrd12.2.2) (i := i) (by have := HPN.out; have := HLT.out; omega) c hcells
 rw [List.length_set, HPN.out] at hrs
 have HRS := am hrs
 have hset12 := (below_step HBC.out HB12.out).setCell (p := ⟨g, i, none⟩) (by have := HBC.out.size; show w3.heap.size ≤ g; omega) (.int .u8 c)
 have HBS := am (below_step HB3.out hset12)
 have HBS3 := am hset12
 obtain ⟨ge_, hge, hx12⟩ := Kd.at_int hrd12.2.2 (i : Int) (by omega) (by have := HLT.out; omega)
 injection hge with hge
 subst hge
 rw [Int.toNat_natCast, add_at] at hx12
 have hfr := blk_frozen hcells i
 have hst := add_at g i
 rw [HPN.out]
 clear hrs hrd12 hset12 hgb hgl hv2
 go_wp2_with fail
 refine (HGSET.out _ _ _ HRS.out (by have := HCC.out; have := HPN.out; omega)).mono ?_
 rintro e_ wd ⟨⟨Ad, cd, rfl, hcd, hCd⟩, hbd⟩
 have HBD := am (below_step HBS.out hbd)
 have HBD3 := am (below_step HBS3.out hbd)
 have hsd := plan_store wd gq Ad cd HG32.out
 have hzd := planC_size (p := gq) HG32.out Ad cd
 have HId := am (planInfo (p := gq) HG32.out Ad cd)
 have HBE := am (below_alloc HBD.out (.cells (planC gq Ad cd).toArray 81))
 have HBE3 := am (below_alloc HBD3.out (.cells (planC gq Ad cd).toArray 81))
 have HSM := am (fun (hne : gq ≠ p) => HSAME.out (wd.alloc (.cells (planC gq Ad cd).toArray 81)) Ad cd gq HBE.out HG32.out hne (Kd.C_alloc hCd _))
 have HNX := am (blk_new wd (.cells (planC gq Ad cd).toArray 81))
 have HKX := am (blk_below HK3.out HBE3.out)
 have x0 := bel_cell2 HBE3.out HX3.out
 dsimp only
 obtain ⟨nd, hnd⟩ : ∃ nd, (planC gq Ad cd).toArray = nd := ⟨_, rfl⟩
 rw [hnd] at hsd hzd HId HBE HBE3 HSM HNX HKX x0 ⊢
 clear hcd hCd hbd hnd hst hfr hx12
 by_cases hbc : c = rd pk i
 ·have k1 : decide (c = rd pk i) = true := decide_eq_true hbc
  have k2 : (c == rd pk i) = true := by simpa using hbc
  clear hbc
  go_wp2_with fail
  go_ret
  exact ⟨rfl, HBE.out⟩
 have k1 : decide (c = rd pk i) = false := decide_eq_false hbc
 have k2 : (c == rd pk i) = false := by simpa using hbc
 have HS0 := HSET.out (by
  have : rd pk (i : Int) = pk.getD i 0 := by unfold rd; simp
  rw [← this]
  exact fun h => hbc h.symm)
 try dsimp only at HS0
 by_cases hge0 : ge = 0
 ·subst hge0
  have hSM := HSM.out (HS0.resolve_left (by simp))
  clear HS0 hbc
  go_wp2_with (first
   | ((with_reducible refine gate_dst (N := 89) rfl ?_); refine wpList_load_row_g (by rfl) 81 (.tmp 3) rfl w.heap.size rfl 81 ms (0, 0) _ HKX.out Try.underlying81 rfl HI.out ?_)
   | ((with_reducible refine gate_dst (N := 90) rfl ?_); refine wpList_load_row_g (by rfl) 81 (.tmp 16) rfl wd.heap.size rfl 81 nd (0, 0) _ HNX.out Try.underlying81 rfl HId.out ?_)
   | fail)
  refine hSM.mono ?_
  rintro e_ we ⟨rfl, hbe⟩
  have HBF := am (below_step HBE.out hbe)
  clear hbe hSM
  go_wp2_with fail
  go_ret
  exact ⟨rfl, HBF.out⟩
 ·have k3 : decide (ge = 0) = false := decide_eq_false hge0
  have k4 : (ge != 0) = true := by simpa using hge0
  clear HS0 hbc hge0
  go_wp2_with fail
  go_ret
  exact ⟨rfl, HBE.out⟩
set_option maxHeartbeats 2000000 in
theorem cchg_few (ms : Array Value) (w : World) (pn : Nat) (a1 c : Int) (pe : Int)
  (hI : (Try.prog.info? 81).map (·.size) = some ms.size)
  (hfew : ∀ W : World, Below w.heap.size w W → Calls Try.prog 69 #[.agg ms] W fun e w' => e = .returned (.bool false) ∧ Below W.heap.size W w')
  (hput : ∀ W : World, Below w.heap.size w W → Calls Try.prog 70 #[.agg ms] W fun e w' => (∃ A2 c2, e = .returned (.tuple #[.slice A2 pn c2, .int .i64 pe])) ∧ Below W.heap.size W w') :
  Calls Try.prog 27 #[.agg ms, .int .i64 a1, .int .u8 c] w fun e w' => e = .returned (.bool true) ∧ Below w.heap.size w w' := by
 have HI := am hI
 have HBK := am (blk_new w (.cells ms 81))
 have HB0 := am (below_alloc (Below.refl w.heap.size w) (.cells ms 81))
 have HFEW := am hfew
 have HPUT := am hput
 clear hI hfew hput
 go_enter Try.func27, Try.ntmps27
 go_wp2_with fail
 refine (awake18_call _).mono ?_
 rintro e_ w1 ⟨rfl, hb1⟩
 have HK1 := am (blk_below HBK.out hb1)
 have HB1 := am (below_step HB0.out hb1)
 clear hb1
 go_wp2_with (first
  | ((with_reducible refine gate_dst (N := 19) rfl ?_); refine wpList_load_row rfl 81 (.tmp 3) rfl w.heap.size rfl 81 ms (0, 0) _ HK1.out Try.underlying81 rfl HI.out ?_)
  | fail)
 refine (HFEW.out _ HB1.out).mono ?_
 rintro e_ w2 ⟨rfl, hb2⟩
 have HK2 := am (blk_below HK1.out hb2)
 have HB2 := am (below_step HB1.out hb2)
 clear hb2
 go_wp2_with (first
  | ((with_reducible refine gate_dst (N := 22) rfl ?_); refine wpList_load_row rfl 81 (.tmp 3) rfl w.heap.size rfl 81 ms (0, 0) _ HK2.out Try.underlying81 rfl HI.out ?_)
  | fail)
 refine (HPUT.out _ HB2.out).mono ?_
 rintro e_ w3 ⟨⟨B1, cb, rfl⟩, hb3⟩
 have HB3 := am (below_step HB2.out hb3)
 clear hb3
 go_wp2_with fail
 go_ret
 exact ⟨rfl, HB3.out⟩
set_option maxHeartbeats 2000000 in
theorem cchg_no (ms : Array Value) (w : World) (pn : Nat) (a1 c : Int)
  (hI : (Try.prog.info? 81).map (·.size) = some ms.size)
  (hfew : ∀ W : World, Below w.heap.size w W → Calls Try.prog 69 #[.agg ms] W fun e w' => e = .returned (.bool true) ∧ Below W.heap.size W w')
  (hput : ∀ W : World, Below w.heap.size w W → Calls Try.prog 70 #[.agg ms] W fun e w' => (∃ A2 c2, e = .returned (.tuple #[.slice A2 pn c2, .int .i64 1])) ∧ Below W.heap.size W w') :
  Calls Try.prog 27 #[.agg ms, .int .i64 a1, .int .u8 c] w fun e w' => e = .returned (.bool true) ∧ Below w.heap.size w w' := by
 have HI := am hI
 have HBK := am (blk_new w (.cells ms 81))
 have HB0 := am (below_alloc (Below.refl w.heap.size w) (.cells ms 81))
 have HFEW := am hfew
 have HPUT := am hput
 clear hI hfew hput
 go_enter Try.func27, Try.ntmps27
 go_wp2_with fail
 refine (awake18_call _).mono ?_
 rintro e_ w1 ⟨rfl, hb1⟩
 have HK1 := am (blk_below HBK.out hb1)
 have HB1 := am (below_step HB0.out hb1)
 clear hb1
 go_wp2_with (first
  | ((with_reducible refine gate_dst (N := 19) rfl ?_); refine wpList_load_row rfl 81 (.tmp 3) rfl w.heap.size rfl 81 ms (0, 0) _ HK1.out Try.underlying81 rfl HI.out ?_)
  | fail)
 refine (HFEW.out _ HB1.out).mono ?_
 rintro e_ w2 ⟨rfl, hb2⟩
 have HK2 := am (blk_below HK1.out hb2)
 have HB2 := am (below_step HB1.out hb2)
 clear hb2
 go_wp2_with (first
  | ((with_reducible refine gate_dst (N := 22) rfl ?_); refine wpList_load_row rfl 81 (.tmp 3) rfl w.heap.size rfl 81 ms (0, 0) _ HK2.out Try.underlying81 rfl HI.out ?_)
  | fail)
 refine (HPUT.out _ HB2.out).mono ?_
 rintro e_ w3 ⟨⟨B1, cb, rfl⟩, hb3⟩
 have HB3 := am (below_step HB2.out hb3)
 clear hb3
 go_wp2_with fail
 go_ret
 exact ⟨rfl, HB3.out⟩
set_option maxHeartbeats 2000000 in
theorem cchg_neg (ms : Array Value) (w : World) (pn : Nat) (a1 c : Int) (hn : a1 < 0)
  (hI : (Try.prog.info? 81).map (·.size) = some ms.size)
  (hfew : ∀ W : World, Below w.heap.size w W → Calls Try.prog 69 #[.agg ms] W fun e w' => e = .returned (.bool true) ∧ Below W.heap.size W w')
  (hput : ∀ W : World, Below w.heap.size w W → Calls Try.prog 70 #[.agg ms] W fun e w' => (∃ A2 c2, e = .returned (.tuple #[.slice A2 pn c2, .int .i64 0])) ∧ Below W.heap.size W w') :
  Calls Try.prog 27 #[.agg ms, .int .i64 a1, .int .u8 c] w fun e w' => e = .returned (.bool true) ∧ Below w.heap.size w w' := by
 have HI := am hI
 have HBK := am (blk_new w (.cells ms 81))
 have HB0 := am (below_alloc (Below.refl w.heap.size w) (.cells ms 81))
 have HFEW := am hfew
 have HPUT := am hput
 have q1 : decide (a1 < 0) = true := decide_eq_true hn
 clear hn
 clear hI hfew hput
 go_enter Try.func27, Try.ntmps27
 go_wp2_with fail
 refine (awake18_call _).mono ?_
 rintro e_ w1 ⟨rfl, hb1⟩
 have HK1 := am (blk_below HBK.out hb1)
 have HB1 := am (below_step HB0.out hb1)
 clear hb1
 go_wp2_with (first
  | ((with_reducible refine gate_dst (N := 19) rfl ?_); refine wpList_load_row rfl 81 (.tmp 3) rfl w.heap.size rfl 81 ms (0, 0) _ HK1.out Try.underlying81 rfl HI.out ?_)
  | fail)
 refine (HFEW.out _ HB1.out).mono ?_
 rintro e_ w2 ⟨rfl, hb2⟩
 have HK2 := am (blk_below HK1.out hb2)
 have HB2 := am (below_step HB1.out hb2)
 clear hb2
 go_wp2_with (first
  | ((with_reducible refine gate_dst (N := 22) rfl ?_); refine wpList_load_row rfl 81 (.tmp 3) rfl w.heap.size rfl 81 ms (0, 0) _ HK2.out Try.underlying81 rfl HI.out ?_)
  | fail)
 refine (HPUT.out _ HB2.out).mono ?_
 rintro e_ w3 ⟨⟨B1, cb, rfl⟩, hb3⟩
 have HB3 := am (below_step HB2.out hb3)
 clear hb3
 go_wp2_with fail
 go_ret
 exact ⟨rfl, HB3.out⟩
set_option maxHeartbeats 2000000 in
theorem cchg_far (ms : Array Value) (w : World) (pn : Nat) (a1 c : Int) (hn : ¬ a1 < 0) (hn2 : (pn : Int) ≤ a1)
  (hI : (Try.prog.info? 81).map (·.size) = some ms.size)
  (hfew : ∀ W : World, Below w.heap.size w W → Calls Try.prog 69 #[.agg ms] W fun e w' => e = .returned (.bool true) ∧ Below W.heap.size W w')
  (hput : ∀ W : World, Below w.heap.size w W → Calls Try.prog 70 #[.agg ms] W fun e w' => (∃ A2 c2, e = .returned (.tuple #[.slice A2 pn c2, .int .i64 0])) ∧ Below W.heap.size W w') :
  Calls Try.prog 27 #[.agg ms, .int .i64 a1, .int .u8 c] w fun e w' => e = .returned (.bool true) ∧ Below w.heap.size w w' := by
 have HI := am hI
 have HBK := am (blk_new w (.cells ms 81))
 have HB0 := am (below_alloc (Below.refl w.heap.size w) (.cells ms 81))
 have HFEW := am hfew
 have HPUT := am hput
 have q1 : decide (a1 < 0) = false := decide_eq_false hn
 have q2 : decide (a1 ≥ (pn : Int)) = true := decide_eq_true hn2
 clear hn hn2
 clear hI hfew hput
 go_enter Try.func27, Try.ntmps27
 go_wp2_with fail
 refine (awake18_call _).mono ?_
 rintro e_ w1 ⟨rfl, hb1⟩
 have HK1 := am (blk_below HBK.out hb1)
 have HB1 := am (below_step HB0.out hb1)
 clear hb1
 go_wp2_with (first
  | ((with_reducible refine gate_dst (N := 19) rfl ?_); refine wpList_load_row rfl 81 (.tmp 3) rfl w.heap.size rfl 81 ms (0, 0) _ HK1.out Try.underlying81 rfl HI.out ?_)
  | fail)
 refine (HFEW.out _ HB1.out).mono ?_
 rintro e_ w2 ⟨rfl, hb2⟩
 have HK2 := am (blk_below HK1.out hb2)
 have HB2 := am (below_step HB1.out hb2)
 clear hb2
 go_wp2_with (first
  | ((with_reducible refine gate_dst (N := 22) rfl ?_); refine wpList_load_row rfl 81 (.tmp 3) rfl w.heap.size rfl 81 ms (0, 0) _ HK2.out Try.underlying81 rfl HI.out ?_)
  | fail)
 refine (HPUT.out _ HB2.out).mono ?_
 rintro e_ w3 ⟨⟨B1, cb, rfl⟩, hb3⟩
 have HB3 := am (below_step HB2.out hb3)
 clear hb3
 go_wp2_with fail
 go_ret
 exact ⟨rfl, HB3.out⟩
theorem rolodexlaw18_CodeChanged.walk (m : PlanT) (A : Option Addr) (c : Nat) (a1 a2 : Int) (w : World) (ok : PlanOk m) (hc : m.b.length ≤ c) (hC : Kd.C batK w A m.b.length m.b) (w1 : (Lit.int .i64 a1).wf = true) (w2 : (Lit.int .u8 a2).wf = true) :
  Calls Try.prog 27 #[.agg (planC m A c).toArray, .int .i64 a1, .int .u8 a2] w fun e w' => e = .returned (.bool true) ∧ Below w.heap.size w w' := by
 have hby := ok.byt
 have hfit := plan_fit hC
 have hI := planInfo (p := m) ok.base.1 A c
 have hfew := fun (W : World) (hW : Below w.heap.size w W) => fewp_call m A c W ok.base.1 hc (Kd.C_below hC hW)
 have hput0 := fun (W : World) (hW : Below w.heap.size w W) => putp_call m A c W hby hc (Kd.C_below hC hW) hfit
 have hput : ∀ W : World, Below w.heap.size w W → Calls Try.prog 70 #[.agg (planC m A c).toArray] W fun e w' => (∃ A2 c2, e = .returned (.tuple #[.slice A2 (putPl m).1.length c2, .int .i64 (putPl m).2])) ∧ Below W.heap.size W w' := fun W hW => (hput0 W hW).mono fun e w' h => ⟨⟨h.1.choose, h.1.choose_spec.choose, h.1.choose_spec.choose_spec.1⟩, h.2⟩
 cases hf : fewP m
 ·rw [hf] at hfew
  exact cchg_few _ w _ a1 a2 _ hI hfew hput
 rw [hf] at hfew
 by_cases hm : mayPl m = true
 case neg =>
  have e : putPl m = ([], 1) := by unfold putPl; rw [if_neg hm]
  rw [e] at hput
  exact cchg_no _ w _ a1 a2 hI hfew hput
 have e : putPl m = (plB m, 0) := by unfold putPl; rw [if_pos hm]
 rw [e] at hput hput0
 by_cases hn : a1 < 0
 ·exact cchg_neg _ w _ a1 a2 hn hI hfew hput
 by_cases hn2 : ((plB m).length : Int) ≤ a1
 ·exact cchg_far _ w _ a1 a2 hn hn2 hI hfew hput
 obtain ⟨i, rfl⟩ : ∃ i : Nat, a1 = i := ⟨a1.toNat, by omega⟩
 have hc2 : 0 ≤ a2 ∧ a2 ≤ 255 := by
  simp only [Lit.wf, IntKind.min, IntKind.max, IntKind.bits, IntKind.signed, Bool.and_eq_true, decide_eq_true_eq] at w2
  refine ⟨by simpa using w2.1, by have := w2.2; simp at this; omega⟩
 have hi : i < (plB m).length := by omega
 have h1 := pl_more hm hby hc2.1 hc2.2
 have h2 := pl_less hm hby hi
 exact cchg_main _ w m _ _ i a2 (getPl (plB m ++ [a2])).2 (getPl ((plB m).take i)).2 rfl (plB_byt hm hby) (plB_len hm hby) hi hc2.1 hc2.2 h1 h2 hI hfew hput0 (fun V A2 c2 q hV hq hne hC2 => by
  have h := samepl_call m q A A2 c c2 V ok.base.1 hq (Kd.C_below hC hV) hC2 hfit (plan_fit hC2)
  have hs : samePl m q = false := by
   cases hs : samePl m q
   ·rfl
   ·exact absurd (samePl_eq.1 hs).symm hne
  rw [hs] at h
  exact h) (by rw [← getPl_zero h1]) (by rw [← getPl_zero h2]) (fun hne => pl_chg (fun h => hne (by
   have hs : ((plB m).set i a2).getD i 0 = a2 := by rw [List.getD_eq_getElem?_getD, List.getElem?_set_self hi]; rfl
   rw [← h] at hs
   exact hs)))
end
end Go.Proofs.Ytchaegfdcdlfaaa.X
namespace Go.Proofs.Ytchaegfdcdlfaaa.codeChanged
section
open Go.ChangeShapes Go.WideShapes Go.ChangeAt Go.RowKit
open Go.ChangeMaps (open_string shut_string)
theorem own : ownKnob Try.prog.godebug = none := by kernel_rfl
theorem laidOut : laidOutB Try.prog = true := by kernel_rfl
theorem lifted (os : Os) (started : os.Started) (H : Type) (enc : TypeId × Value → H) :
  ReturnsInHanded {} Try.checked os 27 .any (Rows.codeChangedSpec.pre6 enc Try.prog Try.f27 Rows.codeChangedRow.domain false) (Rows.codeChangedSpec.post enc Try.prog Try.f27 false true false false) := by
 refine returnsInHanded_of_change_sized (C := Try.checked) own started (by kernel_rfl) Try.func27
  (ChangeSpec.witness6 (enc := enc) (C := Try.checked) false ⟨#[], #[.agg #[.int .u8 0, .int .u8 0, .int .u8 0, .int .u8 0, .int .u8 0, .int .u8 0, .int .u8 0, .int .u8 0, .int .u8 0, .int .u8 0, .int .u8 0, .int .u8 0, .int .u8 0, .int .u8 0, .int .u8 0, .int .u8 0, .int .u8 0, .int .u8 0, .int .u8 0, .int .u8 0, .int .u8 0, .int .u8 0, .int .u8 0, .int .u8 0, .int .u8 0, .int .u8 0, .int .u8 0, .int .u8 0, .int .u8 0, .int .u8 0, .int .u8 0, .int .u8 0, .slice none 0 0], .int .i64 0, .int .u8 0], []⟩ 8 (by kernel_rfl) (by kernel_rfl) (by kernel_rfl) (by kernel_rfl)) ?_
 intro W base args ds gs before hval0 hW hcnd hsz0 _
 have hsz : (DataW.weightsEach Try.prog (Try.f27.params.toList ++ Rows.codeChangedSpec.plain.varTypes Try.prog) (ds ++ gs)).all (· ≤ reachBytes) = true := hsz0
 have hval : ∀ (j : Nat) t v, Try.f27.params[j]? = some t → args[j]? = some v → Value.okWide Try.prog W .any base t v := hval0
 have hW' := hW
 obtain ⟨p, q, hA0, hV, rfl, hfz, hnd⟩ := hW
 have hA : DataW.TrodAll enc Try.prog W 0 (fun _ => true) true Try.f27.params.toList args.toList ds p := hA0
 rw [Try.params27] at hA hval hsz
 obtain ⟨v0, vs0, d0, ds0, p0, q0, hargs, rfl, rfl, h0, r0⟩ := trodAll_cons hA
 obtain ⟨v1, vs1, d1, ds1, p1, q1, rfl, rfl, rfl, h1, r1⟩ := trodAll_cons r0
 obtain ⟨v2, vs2, d2, ds2, p2, q2, rfl, rfl, rfl, h2, r2⟩ := trodAll_cons r1
 obtain ⟨rfl, rfl, rfl⟩ := trodAll_nil r2
 obtain rfl : args = #[v0, v1, v2] := by cases args; simp_all
 obtain ⟨rfl, rfl⟩ := trodVars_none hV
 have k0 := h0
 have lt0 : ∀ x ∈ p0, x.block < W.heap.size := by obtain ⟨m, hm⟩ := k0; exact DataW.trod_lt m _ _ _ hm
 obtain ⟨l0, a0, c0, rfl, o0, n0, b0⟩ := X.open_plan (hval 0 81 v0 rfl rfl) h0
 obtain ⟨a1, rfl, rfl, rfl, w1⟩ := open_int Try.underlying3 (hval 1 3 v1 rfl rfl) h1
 obtain ⟨a2, rfl, rfl, rfl, w2⟩ := open_int Try.underlying5 (hval 2 5 v2 rfl rfl) h2
 clear hA0 hval0 hsz0 hsz
 refine (X.rolodexlaw18_CodeChanged.walk l0 a0 c0 a1 a2 W o0 n0 b0 w1 w2).mono fun e W' ⟨he, bel⟩ => ?_
 subst he
 exact ⟨_, rfl, _, _, _, [], _, [], hW', trodAll_mk1 (shut_bool Try.underlying4 _), (trodAll_cons_mk (Below.trod laidOut (by kernel_rfl) (of_decide_eq_true (by kernel_rfl)) k0 bel lt0) (trodAll_cons_mk (shut_int Try.underlying3 w1) (trodAll_cons_mk (shut_int Try.underlying5 w2) trodAll_mk0))), rfl, bel.frame _, fun h => by cases h⟩
theorem clos0 : (J.closT Try.prog 185 [27] []).isSome = true := by kernel_rfl
theorem clos1 : Try.prog.closure 27 = (J.closT Try.prog 185 [27] []).getD [] := J.clos_eq (of_decide_eq_true (by kernel_rfl)) clos0
theorem fact1 : Try.prog.inPlace 27 = [] := by unfold Program.inPlace; rw [clos1]; kernel_rfl
theorem fact2 : Try.prog.unfollowed 27 = true := by unfold Program.unfollowed; rw [clos1]; kernel_rfl
theorem fact3 : Try.prog.recurses 27 = true := by unfold Program.recurses; rw [fact2]; rfl
theorem fact4 : Try.prog.varsNamed 27 = [] := by unfold Program.varsNamed; rw [clos1]; kernel_rfl
theorem facts : joinedFacts Try.prog 27 Try.f27 Rows.codeChangedSpec Rows.codeChangedRow = true := by
 unfold joinedFacts
 simp only [Bool.and_eq_true]
 repeat' apply And.intro
 all_goals first | (with_reducible exact J.mayEnter) | (rw [J.liftsFinal]; kernel_rfl) | (rw [J.make]; kernel_rfl) | (rw [fact1]; kernel_rfl) | (rw [fact2]; kernel_rfl) | (rw [fact3]; kernel_rfl) | (rw [fact4]; kernel_rfl) | kernel_rfl
theorem over : Rows.codeChangedRow.holds Try.pinned (OpenSpec.ofChange Rows.codeChangedSpec) :=
 OpenClaim.holds_of_wide 27 Try.f27 rfl rfl rfl rfl rfl rfl rfl ⟨rfl, rfl, rfl, rfl, rfl⟩ rfl rfl rfl rfl rfl (by kernel_rfl) Try.func27 facts
  (of_decide_eq_true (by kernel_rfl)) (by unfold Func.isWrapper; first | (rw [if_pos (by decide +kernel)]; kernel_rfl) | (rw [if_neg (by decide +kernel)]; exact ⟨rfl, rfl⟩))
  (fun os started H enc _ => lifted os started H enc)
theorem proved : Rows.CodeChangedSaid := over
end
end Go.Proofs.Ytchaegfdcdlfaaa.codeChanged
namespace Go.Proofs.Ytchaegfdcdlfaaa
theorem codeChanged_holds : Rows.CodeChangedSaid := codeChanged.proved
end Go.Proofs.Ytchaegfdcdlfaaa
