/- ManicChanged: the walk, the plain law, the row. -/
import Derived.Test.YtchaegfdcdlfaaaM6v
import Derived.Test.YtchaegfdcdlfaaaRows
import Derived.WalkKit
import Derived.ProofKit
import Derived.OpenShut
import Derived.ShutString
import Derived.ChangeOld
import Derived.Below
import Derived.SizedLaws
import Derived.Test.YtchaegfdcdlfaaaVSized

/- ManicChanged, walked: function 24. -/
namespace Go.Proofs.Ytchaegfdcdlfaaa.X
set_option linter.unusedVariables false
set_option linter.unusedSimpArgs false
open Go.RowKit Go.Proofs.YtchaegfdcdlfaaaW.PrintWords Go.Proofs.YtchaegfdcdlfaaaW.PrintLast Go.Proofs.YtchaegfdcdlfaaaW.PrintMore
open Go.Proofs.Ytchaegfdcdlfaaa.Y (Bytes RdB put put_range put_length put_length_pos word word_length word_bytes rdb_below rdb_drewN put_call word_call row_slice conv0 strs_inj bytes_of_wf rdb_cut rdb_take)
attribute [local go_sem] max2_int min2_int max_two min_two max_three min_three max_four min_four
theorem rdb_setCell {w : World} {g : Nat} {l : List Int} {cells : Array Value} (h : RdB w (some ⟨g, 0, none⟩) l.length l) {i : Nat} (hi : i < l.length) (v : Int) (hb : w.heap[g]? = some (.cells cells 5 (0, 0))) : RdB (w.setCell ⟨g, i, none⟩ (.int .u8 v)) (some ⟨g, 0, none⟩) (l.set i v).length (l.set i v) := by
  rw [List.length_set]
  refine Kd.C_of_reads (d := (0 : Int)) (h1 := fun _ => rfl) ?_
  have h2 := Kd.reads_of_C (d := (0 : Int)) (h1 := fun _ => rfl) h
  refine ⟨by rw [List.length_set], h2.2.1, fun hn => ⟨⟨g, 0, none⟩, rfl, fun j hj => ?_⟩⟩
  obtain ⟨ad, e, hc⟩ := h2.2.2 hn
  injection e with e
  subst e
  have hcj := hc j hj
  rw [add_at] at hcj ⊢
  rw [blk_cell hb] at hcj
  rw [blk_cell (blk_put hb i (.int .u8 v) rfl), Array.getElem?_setIfInBounds]
  by_cases hij : i = j
  · subst hij
    have hlt : i < cells.size := (Array.getElem?_eq_some_iff.1 hcj).1
    rw [if_pos rfl, if_pos hlt, List.getD_eq_getElem?_getD, List.getElem?_set_self (by omega)]
    rfl
  · rw [if_neg hij, hcj]
    simp only [List.getD_eq_getElem?_getD, List.getElem?_set_ne hij]
theorem rdb_one (W : World) (c : Int) : RdB (W.alloc (.cells #[.int .u8 c] 5)) (some ⟨W.heap.size, 0, none⟩) 1 [c] := by
  have h : At (W.alloc (.cells #[.int .u8 c] 5)) ⟨W.heap.size, 0, none⟩ (cells8 [c]) := At.blk (blk_new W (.cells #[.int .u8 c] 5))
  exact h.reads (by simp)
theorem bel_cell2 {w w1 : World} {a : Addr} {v : Value} (hb : Below w.heap.size w w1) (h : w.cell? a = some v) : w1.cell? a = some v := (hb.cell (World.block_lt_of_cell? w _ h)).trans h
theorem zman_ok : zMan.base.length = 32 := rfl
set_option maxHeartbeats 2000000 in
set_option maxRecDepth 100000 in
theorem mchg_main (ms : Array Value) (w : World) (pk : List Int) (pn i : Nat) (c : Int) (hpn : pk.length = pn) (hby : Bytes pk) (h39 : 39 ≤ pn) (hlen : pn ≤ 100015) (hi : i < pn) (c0 : 0 ≤ c) (c1 : c ≤ 255)
    (hI : (Try.prog.info? 71).map (·.size) = some ms.size)
    (hfew : ∀ W : World, Below w.heap.size w W → Calls Try.prog 63 #[.agg ms] W fun e w' => e = .returned (.bool true) ∧ Below W.heap.size W w')
    (hput : ∀ W : World, Below w.heap.size w W → Calls Try.prog 64 #[.agg ms] W fun e w' => (∃ A2 c2, e = .returned (.tuple #[.slice A2 pn c2, .bool true]) ∧ pn ≤ c2 ∧ RdB w' A2 pn pk) ∧ Below W.heap.size W w')
    (hmore : getM (pk ++ [c]) = (zMan, 2)) (hless : getM (pk.take i) = (zMan, 2)) (hset : (i = 0 ∨ 4 ≤ i) → pk.getD i 0 ≠ c → getM (pk.set i c) = (zMan, 3) ∨ getM (pk.set i c) = (zMan, 2) ∧ i = 0) :
    Calls Try.prog 24 #[.agg ms, .int .i64 i, .int .u8 c] w fun e w' => e = .returned (.bool true) ∧ Below w.heap.size w w' := by
  have HI := Aside0.mk hI
  have HBK := Aside0.mk (blk_new w (.cells ms 71))
  have HB0 := Aside0.mk (below_alloc (Below.refl w.heap.size w) (.cells ms 71))
  have HFEW := Aside0.mk hfew
  have HPUT := Aside0.mk hput
  have HPN := Aside0.mk hpn
  have HBY := Aside0.mk hby
  have HC := Aside0.mk (And.intro c0 c1)
  have HLEN := Aside0.mk (And.intro h39 hlen)
  have HLT := Aside0.mk hi
  have HMORE := Aside0.mk hmore
  have HLESS := Aside0.mk hless
  have HSET := Aside0.mk hset
  have HGMORE : Aside0 (∀ (A : Option Addr) (c' : Nat) (W : World), RdB W A (pk ++ [c]).length (pk ++ [c]) → (pk ++ [c]).length ≤ c' → Calls Try.prog 66 #[.slice A (pk.length + 1) c'] W (GetQ W (zMan, 2))) := ⟨fun A c' W hr hc => by
    have h := getm_call A c' (pk ++ [c]) W hr hc (fun x hx => by
      rcases List.mem_append.1 hx with h | h
      · exact hby x h
      · obtain rfl := List.mem_singleton.1 h
        exact ⟨c0, c1⟩) (by simp; omega)
    rw [hmore, List.length_append, List.length_singleton] at h
    exact h⟩
  have HGLESS : Aside0 (∀ (A : Option Addr) (c' : Nat) (W : World), RdB W A pn pk → i ≤ c' → Calls Try.prog 66 #[.slice A i c'] W (GetQ W (zMan, 2))) := ⟨fun A c' W hr hc => by
    have hl : (pk.take i).length = i := by rw [List.length_take]; omega
    have ht := rdb_take (A := A) (l := pk) (w := W) (by rw [hpn]; exact hr) i (by omega)
    have h := getm_call A c' (pk.take i) W (by rw [hl]; exact ht) (by rw [hl]; exact hc) (fun x hx => hby x (List.mem_of_mem_take hx)) (by rw [hl]; omega)
    rw [hless, hl] at h
    exact h⟩
  have q1 : decide ((i : Int) < 0) = false := decide_eq_false (by omega)
  have q2 : decide ((i : Int) ≥ (pn : Int)) = false := decide_eq_false (by omega)
  have q3 : decide ((pn : Int) < 39) = false := decide_eq_false (by omega)
  have q2n : decide (pn ≤ i) = false := decide_eq_false (by omega)
  have q3n : decide (pn < 39) = false := decide_eq_false (by omega)
  have q4 : (0 ≤ (i : Int)) = True := by simp
  have q5 : ((i : Int) < (pn : Int)) = True := eq_true (by omega)
  have q6 : ((i : Int) ≤ (pn : Int)) = True := eq_true (by omega)
  clear hI hfew hput hpn hby c0 c1 h39 hlen hmore hless hset
  go_enter Try.func24, Try.ntmps24
  go_wp2_with fail
  refine (awake13_call _).mono ?_
  rintro e_ w1 ⟨rfl, hb1⟩
  have HK1 := Aside0.mk (blk_below HBK.out hb1)
  have HB1 := Aside0.mk (below_step HB0.out hb1)
  clear hb1
  go_wp2_with (first
    | ((with_reducible refine gate_dst (N := 19) rfl ?_); refine wpList_load_row rfl 71 (.tmp 3) rfl w.heap.size rfl 71 ms (0, 0) _ HK1.out Try.underlying71 rfl HI.out ?_)
    | fail)
  refine (HFEW.out _ HB1.out).mono ?_
  rintro e_ w2 ⟨rfl, hb2⟩
  have HK2 := Aside0.mk (blk_below HK1.out hb2)
  have HB2 := Aside0.mk (below_step HB1.out hb2)
  clear hb2
  go_wp2_with (first
    | ((with_reducible refine gate_dst (N := 22) rfl ?_); refine wpList_load_row rfl 71 (.tmp 3) rfl w.heap.size rfl 71 ms (0, 0) _ HK2.out Try.underlying71 rfl HI.out ?_)
    | fail)
  refine (HPUT.out _ HB2.out).mono ?_
  rintro e_ w3 ⟨⟨B1, cb, rfl, hcb, hrb⟩, hb3⟩
  have HB3 := Aside0.mk (below_step HB2.out hb3)
  obtain ⟨ad, hB1, hx0⟩ := Kd.at_int hrb (i : Int) (by omega) (by omega)
  subst hB1
  rw [Int.toNat_natCast] at hx0
  have HR3 := Aside0.mk hrb
  have HCB := Aside0.mk hcb
  have HX3 := Aside0.mk hx0
  clear hb3 hcb hrb hx0
  go_wp2_with (first
    | ((with_reducible refine gate_builtin (b := .append) (xs := #[.const (.slice none 0 0), .tmp 62]) rfl ?_); at_builtin; refine Kd.R_append_row (Value.int .u8) 0 (w0 := w3) w3.heap.size rfl _ _ 40 5 (.int .u8 0) 1 rfl Try.underlying40 info5 rfl (by decide) (.slice none 0 0) ([] : List Int) pk (some ad) pn cb (fun _ => True) (by rfl) (by rfl) (fun _ _ => trivial) (Kd.R_nil _ _ _ _ (fun _ => True)) HR3.out (Below.refl w3.heap.size w3) (Nat.le_refl _) (by have := HPN.out; have := HLEN.out; simp only [List.length_nil]; omega) ?_; intro v7 w7 hR7 hB7 hg7 hat7; clear hg7 hat7; have HB7 := Aside0.mk hB7; obtain ⟨A7, c7, rfl⟩ := Kd.R_slice hR7; simp only [List.nil_append] at hR7 ⊢; have HR7 := Aside0.mk hR7; clear hR7 hB7)
    | ((with_reducible refine gate_builtin (b := .append) (xs := #[.tmp 63, .tmp 65]) rfl ?_); at_builtin; refine Kd.R_append_row (Value.int .u8) 0 (w0 := w3) w3.heap.size rfl _ _ 40 5 (.int .u8 0) 1 rfl Try.underlying40 info5 rfl (by decide) (.slice A7 pk.length c7) pk [c] (some ⟨w7.heap.size, 0, none⟩) 1 1 (fun _ => True) (by rfl) (by rfl) (fun _ _ => trivial) (Kd.R_alloc HR7.out _) (rdb_one w7 c) (below_alloc HB7.out _) (below_alloc HB7.out _).size (by have := HPN.out; have := HLEN.out; omega) ?_; intro v8 w8 hR8 hB8 hg8 hat8; clear hg8 hat8; have HB8 := Aside0.mk hB8; obtain ⟨A8, c8, rfl⟩ := Kd.R_slice hR8; simp only [List.nil_append] at hR8 ⊢; have HR8 := Aside0.mk hR8; clear hR8 hB8)
    | fail)
  have hrd8 := (Kd.R_reads' HR8.out)
  refine (HGMORE.out A8 c8 _ hrd8.2.2 hrd8.2.1).mono ?_
  rintro e_ w9 ⟨A9, c9, rfl, hc9, hC9, hb9, h9z⟩
  have HB9 := Aside0.mk (below_step HB8.out hb9)
  have hs9 := man_store w9 zMan A9 c9 zman_ok
  have hz9 := manC_size (m := zMan) zman_ok A9 c9
  have HI9 := Aside0.mk (manInfo (m := zMan) zman_ok A9 c9)
  dsimp only
  obtain ⟨n9, hn9⟩ : ∃ n9, (manC zMan A9 c9).toArray = n9 := ⟨_, rfl⟩
  rw [hn9] at hs9 hz9 HI9 ⊢
  have HBA := Aside0.mk (below_alloc HB9.out (.cells n9 71))
  have hcut := rdb_cut (some ad) cb pk i (by have := HPN.out; have := HLT.out; omega) (by have := HPN.out; have := HCB.out; omega)
  rw [HPN.out] at hcut
  clear hc9 hC9 hb9 h9z hrd8 hn9
  go_wp2_with fail
  refine (HGLESS.out (some ad) cb _ (rdb_below HR3.out HBA.out) (by have := HCB.out; have := HLT.out; omega)).mono ?_
  rintro e_ wa ⟨Aa, ca, rfl, hca, hCa, hba, haz⟩
  have HBB := Aside0.mk (below_step HBA.out hba)
  have hsa := man_store wa zMan Aa ca zman_ok
  have hza := manC_size (m := zMan) zman_ok Aa ca
  have HIa := Aside0.mk (manInfo (m := zMan) zman_ok Aa ca)
  dsimp only
  obtain ⟨na, hna⟩ : ∃ na, (manC zMan Aa ca).toArray = na := ⟨_, rfl⟩
  rw [hna] at hsa hza HIa ⊢
  have HBC := Aside0.mk (below_alloc HBB.out (.cells na 71))
  have HBCW := Aside0.mk (below_step HB3.out HBC.out)
  have x0 := bel_cell2 HBC.out HX3.out
  clear hca hCa hba haz hna hcut hs9 hz9
  by_cases hbc : rd pk i = c
  · have k1 : decide (rd pk i = c) = true := decide_eq_true hbc
    have k2 : (rd pk i == c) = true := by simpa using hbc
    clear hbc
    go_wp2_with fail
    go_ret
    exact ⟨rfl, HBCW.out⟩
  have k1 : decide (rd pk i = c) = false := decide_eq_false hbc
  have k2 : (rd pk i == c) = false := by simpa using hbc
  by_cases hi3 : 1 ≤ i ∧ i ≤ 3
  · have k3 : decide ((i : Int) ≥ 1) = true := decide_eq_true (by omega)
    have k4 : decide ((i : Int) ≤ 3) = true := decide_eq_true (by omega)
    have k3n : decide (1 ≤ i) = true := decide_eq_true (by omega)
    have k4n : decide (i ≤ 3) = true := decide_eq_true (by omega)
    clear hbc
    go_wp2_with fail
    go_ret
    exact ⟨rfl, HBCW.out⟩
  have HS0 := HSET.out (by omega) (by
    have : rd pk (i : Int) = pk.getD i 0 := by unfold rd; simp
    rwa [← this])
  have HGSET : Aside0 (∃ v : Int, (v = 3 ∨ v = 2 ∧ i = 0) ∧ ∀ (A : Option Addr) (c' : Nat) (W : World), RdB W A pn (pk.set i c) → pn ≤ c' → Calls Try.prog 66 #[.slice A pn c'] W (GetQ W (zMan, v))) := ⟨by
    have hget : ∀ (A : Option Addr) (c' : Nat) (W : World), RdB W A pn (pk.set i c) → pn ≤ c' → Calls Try.prog 66 #[.slice A pn c'] W (GetQ W (getM (pk.set i c))) := fun A c' W hr hc => by
      have h := getm_call A c' (pk.set i c) W (by rw [List.length_set, HPN.out]; exact hr) (by rw [List.length_set, HPN.out]; exact hc) (fun x hx => by
        rcases List.mem_or_eq_of_mem_set hx with h | h
        · exact HBY.out x h
        · rw [h]; exact HC.out) (by rw [List.length_set, HPN.out]; have := HLEN.out; omega)
      rw [List.length_set, HPN.out] at h
      exact h
    rcases HS0 with h | ⟨h, hz⟩
    · exact ⟨3, .inl rfl, by rw [h] at hget; exact hget⟩
    · exact ⟨2, .inr ⟨rfl, hz⟩, by rw [h] at hget; exact hget⟩⟩
  have HNI : Aside0 (¬(1 ≤ i ∧ i ≤ 3)) := ⟨hi3⟩
  clear HS0 hbc
  by_cases k3c : 1 ≤ i
  · have k3 : decide ((i : Int) ≥ 1) = true := decide_eq_true (by omega)
    have k4 : decide ((i : Int) ≤ 3) = false := decide_eq_false (by omega)
    have k3n : decide (1 ≤ i) = true := decide_eq_true (by omega)
    have k4n : decide (i ≤ 3) = false := decide_eq_false (by omega)
    clear hi3 k3c
    obtain ⟨v, hv, hcall⟩ := HGSET.out
    obtain rfl : v = 3 := by
      rcases hv with h | ⟨_, h⟩
      · exact h
      · exfalso
        simp only [decide_eq_true_eq] at k3n
        omega
    clear hv
    go_upto_region 13 with (first
      | ((with_reducible refine gate_builtin (b := .append) (xs := #[.const (.slice none 0 0), .tmp 97]) rfl ?_); at_builtin; refine Kd.R_append_row (Value.int .u8) 0 (w0 := (wa.alloc (.cells na 71))) (wa.alloc (.cells na 71)).heap.size rfl _ _ 40 5 (.int .u8 0) 1 rfl Try.underlying40 info5 rfl (by decide) (.slice none 0 0) ([] : List Int) pk (some ad) pn cb (fun _ => True) (by rfl) (by rfl) (fun _ _ => trivial) (Kd.R_nil _ _ _ _ (fun _ => True)) (rdb_below HR3.out HBC.out) (Below.refl (wa.alloc (.cells na 71)).heap.size (wa.alloc (.cells na 71))) (Nat.le_refl _) (by have := HPN.out; have := HLEN.out; simp only [List.length_nil]; omega) ?_; intro v12 w12 hR12 hB12 hg12 hat12; clear hg12 hat12; have HB12 := Aside0.mk hB12; obtain ⟨A12, c12, rfl⟩ := Kd.R_slice hR12; simp only [List.nil_append] at hR12 ⊢; have HR12 := Aside0.mk hR12; clear hR12 hB12)
      | fail)
    obtain ⟨g, cg, hvg, hgb, hgl, cells, hcells⟩ := Kd.R_form HR12.out (by have := HPN.out; have := HLEN.out; omega)
    injection hvg with hv1 hv2 hv3
    subst hv1
    subst hv3
    have hrd12 := Kd.R_reads' HR12.out
    rw [HPN.out] at hrd12
    have HCC := Aside0.mk hrd12.2.1
    have hrs := rdb_setCell (w := w12) (l := pk) (by rw [HPN.out]; exact hrd12.2.2) (i := i) (by have := HPN.out; have := HLT.out; omega) c hcells
    rw [List.length_set, HPN.out] at hrs
    have HRS := Aside0.mk hrs
    have hbs := below_step HBCW.out HB12.out
    have HBS := Aside0.mk (hbs.setCell (p := ⟨g, i, none⟩) (by have := HBCW.out.size; show w.heap.size ≤ g; omega) (.int .u8 c))
    obtain ⟨ge, hge, hx12⟩ := Kd.at_int hrd12.2.2 (i : Int) (by omega) (by have := HLT.out; omega)
    injection hge with hge
    subst hge
    rw [Int.toNat_natCast, add_at] at hx12
    have hfr := blk_frozen hcells i
    have hst := add_at g i
    rw [HPN.out]
    clear hrs hrd12 hbs hgb hgl hv2
    go_wp2_with fail
    refine (hcall _ _ _ HRS.out (by have := HCC.out; have := HPN.out; omega)).mono ?_
    rintro e_ wd ⟨Ad, cd, rfl, hcd, hCd, hbd, hdz⟩
    have HBD := Aside0.mk (below_step HBS.out hbd)
    have hsd := man_store wd zMan Ad cd zman_ok
    have hzd := manC_size (m := zMan) zman_ok Ad cd
    have HId := Aside0.mk (manInfo (m := zMan) zman_ok Ad cd)
    dsimp only
    obtain ⟨nd, hnd⟩ : ∃ nd, (manC zMan Ad cd).toArray = nd := ⟨_, rfl⟩
    rw [hnd] at hsd hzd HId ⊢
    have HBE := Aside0.mk (below_alloc HBD.out (.cells nd 71))
    clear hcd hCd hbd hdz hnd hst hfr
    go_wp2_with fail
    go_ret
    exact ⟨rfl, HBE.out⟩
  · have k3 : decide ((i : Int) ≥ 1) = false := decide_eq_false (by omega)
    have k3n : decide (1 ≤ i) = false := decide_eq_false (by omega)
    clear hi3 k3c
    have k5 : decide ((i : Int) = 0) = true := decide_eq_true (by simp only [decide_eq_false_iff_not] at k3n; omega)
    have k6 : ((i : Int) == 0) = true := by simp only [decide_eq_false_iff_not] at k3n; simp only [beq_iff_eq]; omega
    have k7 : (i == 0) = true := by simp only [decide_eq_false_iff_not] at k3n; simp only [beq_iff_eq]; omega
    obtain ⟨v, hv, hcall⟩ := HGSET.out
    rcases hv with rfl | ⟨rfl, hz⟩
    · go_upto_region 13 with (first
        | ((with_reducible refine gate_builtin (b := .append) (xs := #[.const (.slice none 0 0), .tmp 97]) rfl ?_); at_builtin; refine Kd.R_append_row (Value.int .u8) 0 (w0 := (wa.alloc (.cells na 71))) (wa.alloc (.cells na 71)).heap.size rfl _ _ 40 5 (.int .u8 0) 1 rfl Try.underlying40 info5 rfl (by decide) (.slice none 0 0) ([] : List Int) pk (some ad) pn cb (fun _ => True) (by rfl) (by rfl) (fun _ _ => trivial) (Kd.R_nil _ _ _ _ (fun _ => True)) (rdb_below HR3.out HBC.out) (Below.refl (wa.alloc (.cells na 71)).heap.size (wa.alloc (.cells na 71))) (Nat.le_refl _) (by have := HPN.out; have := HLEN.out; simp only [List.length_nil]; omega) ?_; intro v12 w12 hR12 hB12 hg12 hat12; clear hg12 hat12; have HB12 := Aside0.mk hB12; obtain ⟨A12, c12, rfl⟩ := Kd.R_slice hR12; simp only [List.nil_append] at hR12 ⊢; have HR12 := Aside0.mk hR12; clear hR12 hB12)
        | fail)
      obtain ⟨g, cg, hvg, hgb, hgl, cells, hcells⟩ := Kd.R_form HR12.out (by have := HPN.out; have := HLEN.out; omega)
      injection hvg with hv1 hv2 hv3
      subst hv1
      subst hv3
      have hrd12 := Kd.R_reads' HR12.out
      rw [HPN.out] at hrd12
      have HCC := Aside0.mk hrd12.2.1
      have hrs := rdb_setCell (w := w12) (l := pk) (by rw [HPN.out]; exact hrd12.2.2) (i := i) (by have := HPN.out; have := HLT.out; omega) c hcells
      rw [List.length_set, HPN.out] at hrs
      have HRS := Aside0.mk hrs
      have hbs := below_step HBCW.out HB12.out
      have HBS := Aside0.mk (hbs.setCell (p := ⟨g, i, none⟩) (by have := HBCW.out.size; show w.heap.size ≤ g; omega) (.int .u8 c))
      obtain ⟨ge, hge, hx12⟩ := Kd.at_int hrd12.2.2 (i : Int) (by omega) (by have := HLT.out; omega)
      injection hge with hge
      subst hge
      rw [Int.toNat_natCast, add_at] at hx12
      have hfr := blk_frozen hcells i
      have hst := add_at g i
      rw [HPN.out]
      clear hrs hrd12 hbs hgb hgl hv2
      go_wp2_with fail
      refine (hcall _ _ _ HRS.out (by have := HCC.out; have := HPN.out; omega)).mono ?_
      rintro e_ wd ⟨Ad, cd, rfl, hcd, hCd, hbd, hdz⟩
      have HBD := Aside0.mk (below_step HBS.out hbd)
      have hsd := man_store wd zMan Ad cd zman_ok
      have hzd := manC_size (m := zMan) zman_ok Ad cd
      have HId := Aside0.mk (manInfo (m := zMan) zman_ok Ad cd)
      dsimp only
      obtain ⟨nd, hnd⟩ : ∃ nd, (manC zMan Ad cd).toArray = nd := ⟨_, rfl⟩
      rw [hnd] at hsd hzd HId ⊢
      have HBE := Aside0.mk (below_alloc HBD.out (.cells nd 71))
      clear hcd hCd hbd hdz hnd hst hfr
      go_wp2_with fail
      go_ret
      exact ⟨rfl, HBE.out⟩
    · clear hz
      go_upto_region 13 with (first
        | ((with_reducible refine gate_builtin (b := .append) (xs := #[.const (.slice none 0 0), .tmp 97]) rfl ?_); at_builtin; refine Kd.R_append_row (Value.int .u8) 0 (w0 := (wa.alloc (.cells na 71))) (wa.alloc (.cells na 71)).heap.size rfl _ _ 40 5 (.int .u8 0) 1 rfl Try.underlying40 info5 rfl (by decide) (.slice none 0 0) ([] : List Int) pk (some ad) pn cb (fun _ => True) (by rfl) (by rfl) (fun _ _ => trivial) (Kd.R_nil _ _ _ _ (fun _ => True)) (rdb_below HR3.out HBC.out) (Below.refl (wa.alloc (.cells na 71)).heap.size (wa.alloc (.cells na 71))) (Nat.le_refl _) (by have := HPN.out; have := HLEN.out; simp only [List.length_nil]; omega) ?_; intro v12 w12 hR12 hB12 hg12 hat12; clear hg12 hat12; have HB12 := Aside0.mk hB12; obtain ⟨A12, c12, rfl⟩ := Kd.R_slice hR12; simp only [List.nil_append] at hR12 ⊢; have HR12 := Aside0.mk hR12; clear hR12 hB12)
        | fail)
      obtain ⟨g, cg, hvg, hgb, hgl, cells, hcells⟩ := Kd.R_form HR12.out (by have := HPN.out; have := HLEN.out; omega)
      injection hvg with hv1 hv2 hv3
      subst hv1
      subst hv3
      have hrd12 := Kd.R_reads' HR12.out
      rw [HPN.out] at hrd12
      have HCC := Aside0.mk hrd12.2.1
      have hrs := rdb_setCell (w := w12) (l := pk) (by rw [HPN.out]; exact hrd12.2.2) (i := i) (by have := HPN.out; have := HLT.out; omega) c hcells
      rw [List.length_set, HPN.out] at hrs
      have HRS := Aside0.mk hrs
      have hbs := below_step HBCW.out HB12.out
      have HBS := Aside0.mk (hbs.setCell (p := ⟨g, i, none⟩) (by have := HBCW.out.size; show w.heap.size ≤ g; omega) (.int .u8 c))
      obtain ⟨ge, hge, hx12⟩ := Kd.at_int hrd12.2.2 (i : Int) (by omega) (by have := HLT.out; omega)
      injection hge with hge
      subst hge
      rw [Int.toNat_natCast, add_at] at hx12
      have hfr := blk_frozen hcells i
      have hst := add_at g i
      rw [HPN.out]
      clear hrs hrd12 hbs hgb hgl hv2
      go_wp2_with fail
      refine (hcall _ _ _ HRS.out (by have := HCC.out; have := HPN.out; omega)).mono ?_
      rintro e_ wd ⟨Ad, cd, rfl, hcd, hCd, hbd, hdz⟩
      have HBD := Aside0.mk (below_step HBS.out hbd)
      have hsd := man_store wd zMan Ad cd zman_ok
      have hzd := manC_size (m := zMan) zman_ok Ad cd
      have HId := Aside0.mk (manInfo (m := zMan) zman_ok Ad cd)
      dsimp only
      obtain ⟨nd, hnd⟩ : ∃ nd, (manC zMan Ad cd).toArray = nd := ⟨_, rfl⟩
      rw [hnd] at hsd hzd HId ⊢
      have HBE := Aside0.mk (below_alloc HBD.out (.cells nd 71))
      clear hcd hCd hbd hdz hnd hst hfr
      go_wp2_with fail
      go_ret
      exact ⟨rfl, HBE.out⟩
set_option maxHeartbeats 2000000 in
set_option maxRecDepth 100000 in
theorem mchg_no (ms : Array Value) (w : World) (pn : Nat) (a1 c : Int) (few : Bool) 
    (hI : (Try.prog.info? 71).map (·.size) = some ms.size)
    (hfew : ∀ W : World, Below w.heap.size w W → Calls Try.prog 63 #[.agg ms] W fun e w' => e = .returned (.bool few) ∧ Below W.heap.size W w')
    (hput : ∀ W : World, Below w.heap.size w W → Calls Try.prog 64 #[.agg ms] W fun e w' => (∃ A2 c2, e = .returned (.tuple #[.slice A2 pn c2, .bool false])) ∧ Below W.heap.size W w') :
    Calls Try.prog 24 #[.agg ms, .int .i64 a1, .int .u8 c] w fun e w' => e = .returned (.bool true) ∧ Below w.heap.size w w' := by
  have HI := Aside0.mk hI
  have HBK := Aside0.mk (blk_new w (.cells ms 71))
  have HB0 := Aside0.mk (below_alloc (Below.refl w.heap.size w) (.cells ms 71))
  have HFEW := Aside0.mk hfew
  have HPUT := Aside0.mk hput
  clear hI hfew hput
  go_enter Try.func24, Try.ntmps24
  go_wp2_with fail
  refine (awake13_call _).mono ?_
  rintro e_ w1 ⟨rfl, hb1⟩
  have HK1 := Aside0.mk (blk_below HBK.out hb1)
  have HB1 := Aside0.mk (below_step HB0.out hb1)
  clear hb1
  go_wp2_with (first
    | ((with_reducible refine gate_dst (N := 19) rfl ?_); refine wpList_load_row rfl 71 (.tmp 3) rfl w.heap.size rfl 71 ms (0, 0) _ HK1.out Try.underlying71 rfl HI.out ?_)
    | fail)
  refine (HFEW.out _ HB1.out).mono ?_
  rintro e_ w2 ⟨rfl, hb2⟩
  have HK2 := Aside0.mk (blk_below HK1.out hb2)
  have HB2 := Aside0.mk (below_step HB1.out hb2)
  clear hb2
  go_wp2_with (first
    | ((with_reducible refine gate_dst (N := 22) rfl ?_); refine wpList_load_row rfl 71 (.tmp 3) rfl w.heap.size rfl 71 ms (0, 0) _ HK2.out Try.underlying71 rfl HI.out ?_)
    | fail)
  refine (HPUT.out _ HB2.out).mono ?_
  rintro e_ w3 ⟨⟨B1, cb, rfl⟩, hb3⟩
  have HB3 := Aside0.mk (below_step HB2.out hb3)
  clear hb3
  cases few
  · go_wp2_with fail
    go_ret
    exact ⟨rfl, HB3.out⟩
  · go_wp2_with fail
    go_ret
    exact ⟨rfl, HB3.out⟩
set_option maxHeartbeats 2000000 in
set_option maxRecDepth 100000 in
theorem mchg_few (ms : Array Value) (w : World) (pn : Nat) (a1 c : Int) (few : Bool) (h39 : 39 ≤ pn) (hf : few = false)
    (hI : (Try.prog.info? 71).map (·.size) = some ms.size)
    (hfew : ∀ W : World, Below w.heap.size w W → Calls Try.prog 63 #[.agg ms] W fun e w' => e = .returned (.bool few) ∧ Below W.heap.size W w')
    (hput : ∀ W : World, Below w.heap.size w W → Calls Try.prog 64 #[.agg ms] W fun e w' => (∃ A2 c2, e = .returned (.tuple #[.slice A2 pn c2, .bool true])) ∧ Below W.heap.size W w') :
    Calls Try.prog 24 #[.agg ms, .int .i64 a1, .int .u8 c] w fun e w' => e = .returned (.bool true) ∧ Below w.heap.size w w' := by
  have HI := Aside0.mk hI
  have HBK := Aside0.mk (blk_new w (.cells ms 71))
  have HB0 := Aside0.mk (below_alloc (Below.refl w.heap.size w) (.cells ms 71))
  have HFEW := Aside0.mk hfew
  have HPUT := Aside0.mk hput
  have q3 : decide ((pn : Int) ≥ 39) = true := decide_eq_true (by omega)
  have q3n : decide (39 ≤ pn) = true := decide_eq_true h39
  subst hf
  clear h39
  clear hI hfew hput
  go_enter Try.func24, Try.ntmps24
  go_wp2_with fail
  refine (awake13_call _).mono ?_
  rintro e_ w1 ⟨rfl, hb1⟩
  have HK1 := Aside0.mk (blk_below HBK.out hb1)
  have HB1 := Aside0.mk (below_step HB0.out hb1)
  clear hb1
  go_wp2_with (first
    | ((with_reducible refine gate_dst (N := 19) rfl ?_); refine wpList_load_row rfl 71 (.tmp 3) rfl w.heap.size rfl 71 ms (0, 0) _ HK1.out Try.underlying71 rfl HI.out ?_)
    | fail)
  refine (HFEW.out _ HB1.out).mono ?_
  rintro e_ w2 ⟨rfl, hb2⟩
  have HK2 := Aside0.mk (blk_below HK1.out hb2)
  have HB2 := Aside0.mk (below_step HB1.out hb2)
  clear hb2
  go_wp2_with (first
    | ((with_reducible refine gate_dst (N := 22) rfl ?_); refine wpList_load_row rfl 71 (.tmp 3) rfl w.heap.size rfl 71 ms (0, 0) _ HK2.out Try.underlying71 rfl HI.out ?_)
    | fail)
  refine (HPUT.out _ HB2.out).mono ?_
  rintro e_ w3 ⟨⟨B1, cb, rfl⟩, hb3⟩
  have HB3 := Aside0.mk (below_step HB2.out hb3)
  clear hb3
  go_wp2_with fail
  go_ret
  exact ⟨rfl, HB3.out⟩
set_option maxHeartbeats 2000000 in
set_option maxRecDepth 100000 in
theorem mchg_neg (ms : Array Value) (w : World) (pn : Nat) (a1 c : Int) (few : Bool) (h39 : 39 ≤ pn) (hf : few = true) (hn : a1 < 0)
    (hI : (Try.prog.info? 71).map (·.size) = some ms.size)
    (hfew : ∀ W : World, Below w.heap.size w W → Calls Try.prog 63 #[.agg ms] W fun e w' => e = .returned (.bool few) ∧ Below W.heap.size W w')
    (hput : ∀ W : World, Below w.heap.size w W → Calls Try.prog 64 #[.agg ms] W fun e w' => (∃ A2 c2, e = .returned (.tuple #[.slice A2 pn c2, .bool true])) ∧ Below W.heap.size W w') :
    Calls Try.prog 24 #[.agg ms, .int .i64 a1, .int .u8 c] w fun e w' => e = .returned (.bool true) ∧ Below w.heap.size w w' := by
  have HI := Aside0.mk hI
  have HBK := Aside0.mk (blk_new w (.cells ms 71))
  have HB0 := Aside0.mk (below_alloc (Below.refl w.heap.size w) (.cells ms 71))
  have HFEW := Aside0.mk hfew
  have HPUT := Aside0.mk hput
  have q3 : decide ((pn : Int) ≥ 39) = true := decide_eq_true (by omega)
  have q3n : decide (39 ≤ pn) = true := decide_eq_true h39
  subst hf
  have q1 : decide (a1 < 0) = true := decide_eq_true hn
  clear h39 hn
  clear hI hfew hput
  go_enter Try.func24, Try.ntmps24
  go_wp2_with fail
  refine (awake13_call _).mono ?_
  rintro e_ w1 ⟨rfl, hb1⟩
  have HK1 := Aside0.mk (blk_below HBK.out hb1)
  have HB1 := Aside0.mk (below_step HB0.out hb1)
  clear hb1
  go_wp2_with (first
    | ((with_reducible refine gate_dst (N := 19) rfl ?_); refine wpList_load_row rfl 71 (.tmp 3) rfl w.heap.size rfl 71 ms (0, 0) _ HK1.out Try.underlying71 rfl HI.out ?_)
    | fail)
  refine (HFEW.out _ HB1.out).mono ?_
  rintro e_ w2 ⟨rfl, hb2⟩
  have HK2 := Aside0.mk (blk_below HK1.out hb2)
  have HB2 := Aside0.mk (below_step HB1.out hb2)
  clear hb2
  go_wp2_with (first
    | ((with_reducible refine gate_dst (N := 22) rfl ?_); refine wpList_load_row rfl 71 (.tmp 3) rfl w.heap.size rfl 71 ms (0, 0) _ HK2.out Try.underlying71 rfl HI.out ?_)
    | fail)
  refine (HPUT.out _ HB2.out).mono ?_
  rintro e_ w3 ⟨⟨B1, cb, rfl⟩, hb3⟩
  have HB3 := Aside0.mk (below_step HB2.out hb3)
  clear hb3
  go_wp2_with fail
  go_ret
  exact ⟨rfl, HB3.out⟩
set_option maxHeartbeats 2000000 in
set_option maxRecDepth 100000 in
theorem mchg_far (ms : Array Value) (w : World) (pn : Nat) (a1 c : Int) (few : Bool) (h39 : 39 ≤ pn) (hf : few = true) (hn : ¬ a1 < 0) (hn2 : (pn : Int) ≤ a1)
    (hI : (Try.prog.info? 71).map (·.size) = some ms.size)
    (hfew : ∀ W : World, Below w.heap.size w W → Calls Try.prog 63 #[.agg ms] W fun e w' => e = .returned (.bool few) ∧ Below W.heap.size W w')
    (hput : ∀ W : World, Below w.heap.size w W → Calls Try.prog 64 #[.agg ms] W fun e w' => (∃ A2 c2, e = .returned (.tuple #[.slice A2 pn c2, .bool true])) ∧ Below W.heap.size W w') :
    Calls Try.prog 24 #[.agg ms, .int .i64 a1, .int .u8 c] w fun e w' => e = .returned (.bool true) ∧ Below w.heap.size w w' := by
  have HI := Aside0.mk hI
  have HBK := Aside0.mk (blk_new w (.cells ms 71))
  have HB0 := Aside0.mk (below_alloc (Below.refl w.heap.size w) (.cells ms 71))
  have HFEW := Aside0.mk hfew
  have HPUT := Aside0.mk hput
  have q3 : decide ((pn : Int) ≥ 39) = true := decide_eq_true (by omega)
  have q3n : decide (39 ≤ pn) = true := decide_eq_true h39
  subst hf
  have q1 : decide (a1 < 0) = false := decide_eq_false hn
  have q2 : decide (a1 ≥ (pn : Int)) = true := decide_eq_true hn2
  clear h39 hn hn2
  clear hI hfew hput
  go_enter Try.func24, Try.ntmps24
  go_wp2_with fail
  refine (awake13_call _).mono ?_
  rintro e_ w1 ⟨rfl, hb1⟩
  have HK1 := Aside0.mk (blk_below HBK.out hb1)
  have HB1 := Aside0.mk (below_step HB0.out hb1)
  clear hb1
  go_wp2_with (first
    | ((with_reducible refine gate_dst (N := 19) rfl ?_); refine wpList_load_row rfl 71 (.tmp 3) rfl w.heap.size rfl 71 ms (0, 0) _ HK1.out Try.underlying71 rfl HI.out ?_)
    | fail)
  refine (HFEW.out _ HB1.out).mono ?_
  rintro e_ w2 ⟨rfl, hb2⟩
  have HK2 := Aside0.mk (blk_below HK1.out hb2)
  have HB2 := Aside0.mk (below_step HB1.out hb2)
  clear hb2
  go_wp2_with (first
    | ((with_reducible refine gate_dst (N := 22) rfl ?_); refine wpList_load_row rfl 71 (.tmp 3) rfl w.heap.size rfl 71 ms (0, 0) _ HK2.out Try.underlying71 rfl HI.out ?_)
    | fail)
  refine (HPUT.out _ HB2.out).mono ?_
  rintro e_ w3 ⟨⟨B1, cb, rfl⟩, hb3⟩
  have HB3 := Aside0.mk (below_step HB2.out hb3)
  clear hb3
  go_wp2_with fail
  go_ret
  exact ⟨rfl, HB3.out⟩
theorem rolodexlaw13_ManicChanged.walk (m : Man) (A : Option Addr) (c : Nat) (a1 a2 : Int) (w : World) (ok : ManOk m) (hc : m.l.length ≤ c) (hC : Kd.C linK w A m.l.length m.l) (w1 : (Lit.int .i64 a1).wf = true) (w2 : (Lit.int .u8 a2).wf = true) :
    Calls Try.prog 24 #[.agg (manC m A c).toArray, .int .i64 a1, .int .u8 a2] w fun e w' => e = .returned (.bool true) ∧ Below w.heap.size w w' := by
  have hby := ok.byt
  have hI := manInfo (m := m) ok.base.1 A c
  have hfew := fun (W : World) (hW : Below w.heap.size w W) => few_call m A c W ok.base.1 hc (Kd.C_below hC hW)
  cases hm : mayM m
  · exact mchg_no _ w 0 a1 a2 (fewM m) hI hfew (fun W hW => (putm_no m A c W ok.base.1 hc (Kd.C_below hC hW) hm).mono fun e w' h => ⟨⟨none, 0, h.1⟩, h.2⟩)
  have hput := fun (W : World) (hW : Below w.heap.size w W) => putm_yes m A c W hby hc (Kd.C_below hC hW) hm
  have hput2 := fun (W : World) (hW : Below w.heap.size w W) => (hput W hW).mono (R' := fun e w' => (∃ A2 c2, e = .returned (.tuple #[.slice A2 (packL 1 (manB m)).length c2, .bool true])) ∧ Below W.heap.size W w') fun e w' h => ⟨⟨h.1.choose, h.1.choose_spec.choose, h.1.choose_spec.choose_spec.1⟩, h.2⟩
  obtain ⟨h39, hlen⟩ := packM_len hm hby
  cases hf : fewM m
  · rw [hf] at hfew
    exact mchg_few _ w _ a1 a2 false h39 rfl hI hfew hput2
  rw [hf] at hfew
  by_cases hn : a1 < 0
  · exact mchg_neg _ w _ a1 a2 true h39 rfl hn hI hfew hput2
  by_cases hn2 : ((packL 1 (manB m)).length : Int) ≤ a1
  · exact mchg_far _ w _ a1 a2 true h39 rfl hn hn2 hI hfew hput2
  obtain ⟨i, rfl⟩ : ∃ i : Nat, a1 = i := ⟨a1.toNat, by omega⟩
  have hc2 : 0 ≤ a2 ∧ a2 ≤ 255 := by
    simp only [Lit.wf, IntKind.min, IntKind.max, IntKind.bits, IntKind.signed, Bool.and_eq_true, decide_eq_true_eq] at w2
    refine ⟨by simpa using w2.1, by have := w2.2; simp at this; omega⟩
  have hi : i < (packL 1 (manB m)).length := by omega
  exact mchg_main _ w _ _ i a2 rfl (packL_byt (by decide) (by decide) (manR_good.byt m (mayM_sh hm hby))) h39 hlen hi hc2.1 hc2.2 hI hfew hput (chg_more hm hby hc2.1 hc2.2) (chg_less hm hby hi) (fun hp hne => chg_set hm hby hi hp hc2.1 hc2.2 hne)
end Go.Proofs.Ytchaegfdcdlfaaa.X

/- The row of ManicChanged, over the walk that is proved by hand. -/
namespace Go.Proofs.Ytchaegfdcdlfaaa.manicChanged
open Go.ChangeShapes Go.WideShapes Go.ChangeAt Go.RowKit
open Go.ChangeMaps (open_string shut_string)
set_option linter.unusedVariables false
theorem own : ownKnob Try.prog.godebug = none := by kernel_rfl
theorem laidOut : laidOutB Try.prog = true := by kernel_rfl
def IsRow (k : IntKind) (w : World) (a : Option Addr) (len cap : Nat) (zs : List Int) : Prop :=
  (a = none ∧ len = 0 ∧ cap = 0 ∧ zs = []) ∨
  ∃ x, a = some x ∧ len ≤ cap ∧ cap ≤ maxLen ∧ zs.length = cap ∧ (∀ i, i < zs.length → w.cell? (x.add i) = some (.int k (zs.getD i 0))) ∧ ∀ n ∈ zs, (Lit.int k n).wf = true
set_option maxRecDepth 100000 in
theorem lifted (os : Os) (started : os.Started) (H : Type) (enc : TypeId × Value → H) :
    ReturnsInHanded {} Try.checked os 24 .any (Rows.manicChangedSpec.pre6 enc Try.prog Try.f24 Rows.manicChangedRow.domain false) (Rows.manicChangedSpec.post enc Try.prog Try.f24 false true false false) := by
  refine returnsInHanded_of_change_sized (C := Try.checked) own started (by kernel_rfl) Try.func24
    (ChangeSpec.witness6 (enc := enc) (C := Try.checked) false ⟨#[], #[.agg #[.int .u8 0, .int .u8 0, .int .u8 0, .int .u8 0, .int .u8 0, .int .u8 0, .int .u8 0, .int .u8 0, .int .u8 0, .int .u8 0, .int .u8 0, .int .u8 0, .int .u8 0, .int .u8 0, .int .u8 0, .int .u8 0, .int .u8 0, .int .u8 0, .int .u8 0, .int .u8 0, .int .u8 0, .int .u8 0, .int .u8 0, .int .u8 0, .int .u8 0, .int .u8 0, .int .u8 0, .int .u8 0, .int .u8 0, .int .u8 0, .int .u8 0, .int .u8 0, .slice none 0 0], .int .i64 0, .int .u8 0], []⟩ 8 (by kernel_rfl) (by kernel_rfl) (by kernel_rfl) (by kernel_rfl)) ?_
  intro W base args ds gs before hval0 hW hcnd hsz0 _
  have hsz : (DataW.weightsEach Try.prog (Try.f24.params.toList ++ Rows.manicChangedSpec.plain.varTypes Try.prog) (ds ++ gs)).all (· ≤ reachBytes) = true := hsz0
  have hval : ∀ (j : Nat) t v, Try.f24.params[j]? = some t → args[j]? = some v → Value.okWide Try.prog W .any base t v := hval0
  have hW' := hW
  obtain ⟨p, q, hA0, hV, rfl, hfz, hnd⟩ := hW
  have hA : DataW.TrodAll enc Try.prog W 0 (fun _ => true) true Try.f24.params.toList args.toList ds p := hA0
  rw [Try.params24] at hA hval hsz
  obtain ⟨v0, vs0, d0, ds0, p0, q0, hargs, rfl, rfl, h0, r0⟩ := trodAll_cons hA
  obtain ⟨v1, vs1, d1, ds1, p1, q1, rfl, rfl, rfl, h1, r1⟩ := trodAll_cons r0
  obtain ⟨v2, vs2, d2, ds2, p2, q2, rfl, rfl, rfl, h2, r2⟩ := trodAll_cons r1
  obtain ⟨rfl, rfl, rfl⟩ := trodAll_nil r2
  obtain rfl : args = #[v0, v1, v2] := by cases args; simp_all
  obtain ⟨rfl, rfl⟩ := trodVars_none hV
  have k0 := h0
  have lt0 : ∀ x ∈ p0, x.block < W.heap.size := by obtain ⟨m, hm⟩ := k0; exact DataW.trod_lt m _ _ _ hm
  obtain ⟨l0, a0, c0, rfl, o0, n0, b0⟩ := X.open_man (hval 0 71 v0 rfl rfl) h0
  obtain ⟨a1, rfl, rfl, rfl, w1⟩ := open_int Try.underlying3 (hval 1 3 v1 rfl rfl) h1
  obtain ⟨a2, rfl, rfl, rfl, w2⟩ := open_int Try.underlying5 (hval 2 5 v2 rfl rfl) h2
  clear hA0 hval0 hsz0 hsz
  refine (X.rolodexlaw13_ManicChanged.walk l0 a0 c0 a1 a2 W o0 n0 b0 w1 w2).mono fun e W' ⟨he, bel⟩ => ?_
  subst he
  exact ⟨_, rfl, _, _, _, [], _, [], hW', trodAll_mk1 (shut_bool Try.underlying4 _), (trodAll_cons_mk (Below.trod laidOut (by kernel_rfl) (of_decide_eq_true (by kernel_rfl)) k0 bel lt0) (trodAll_cons_mk (shut_int Try.underlying3 w1) (trodAll_cons_mk (shut_int Try.underlying5 w2) trodAll_mk0))), rfl, bel.frame _, fun h => by cases h⟩
theorem clos0 : (J.closT Try.prog 185 [24] []).isSome = true := by kernel_rfl
theorem clos1 : Try.prog.closure 24 = (J.closT Try.prog 185 [24] []).getD [] := J.clos_eq (of_decide_eq_true (by kernel_rfl)) clos0
theorem fact1 : Try.prog.inPlace 24 = ["internal/bytealg.Compare"] := by unfold Program.inPlace; rw [clos1]; kernel_rfl
theorem fact2 : Try.prog.unfollowed 24 = true := by unfold Program.unfollowed; rw [clos1]; kernel_rfl
theorem fact3 : Try.prog.recurses 24 = true := by unfold Program.recurses; rw [fact2]; rfl
theorem fact4 : Try.prog.varsNamed 24 = [] := by unfold Program.varsNamed; rw [clos1]; kernel_rfl
set_option maxRecDepth 100000 in
theorem facts : joinedFacts Try.prog 24 Try.f24 Rows.manicChangedSpec Rows.manicChangedRow = true := by
  unfold joinedFacts
  simp only [Bool.and_eq_true]
  repeat' apply And.intro
  all_goals first | (with_reducible exact J.mayEnter) | (rw [J.liftsFinal]; kernel_rfl) | (rw [J.make]; kernel_rfl) | (rw [fact1]; kernel_rfl) | (rw [fact2]; kernel_rfl) | (rw [fact3]; kernel_rfl) | (rw [fact4]; kernel_rfl) | kernel_rfl
theorem over : Rows.manicChangedRow.holds Try.pinned (OpenSpec.ofChange Rows.manicChangedSpec) :=
  OpenClaim.holds_of_wide 24 Try.f24 rfl rfl rfl rfl rfl rfl rfl ⟨rfl, rfl, rfl, rfl, rfl⟩ rfl rfl rfl rfl rfl (by kernel_rfl) Try.func24 facts
    (of_decide_eq_true (by kernel_rfl)) (by unfold Func.isWrapper; first | (rw [if_pos (by decide +kernel)]; kernel_rfl) | (rw [if_neg (by decide +kernel)]; exact ⟨rfl, rfl⟩))
    (fun os started H enc _ => lifted os started H enc)
theorem proved : Rows.ManicChangedSaid := over
#print axioms proved
end Go.Proofs.Ytchaegfdcdlfaaa.manicChanged
namespace Go.Proofs.Ytchaegfdcdlfaaa
/-- The row, under a short name, for the claim. -/
theorem manicChanged_holds : Rows.ManicChangedSaid := manicChanged.proved
end Go.Proofs.Ytchaegfdcdlfaaa
