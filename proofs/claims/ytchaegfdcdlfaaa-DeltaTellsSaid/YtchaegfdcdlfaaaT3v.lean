/- Texts of this claim, one behind the other: DRMake. -/
import Derived.Test.YtchaegfdcdlfaaaU1
import Derived.WalkLawsBesides
import Derived.StillTailTactics
import Derived.Test.YtchaegfdcdlfaaaE2v
import Derived.Test.YtchaegfdcdlfaaaT2v

/- The document's Make of pieces, walked. -/
namespace Go.Proofs.Ytchaegfdcdlfaaa.X
set_option linter.unusedVariables false
set_option linter.unusedSimpArgs false
open Go.RowKit Go.Maps Go.Proofs.YtchaegfdcdlfaaaW.PrintWords Go.Proofs.YtchaegfdcdlfaaaW.PrintLast Go.Proofs.YtchaegfdcdlfaaaW.PrintMore

theorem reffind_callM {l : List Sg} {n : Nat} (hn : l.length = n) (A : Option Addr) (c : Nat) (p : ByteArray) (w : World) (hr : sgK.C w A n l) (hok : ∀ s ∈ l, SgOk s) (hl : n ≤ 100000) (hp : p.size ≤ 1000) (i : Int) (hi : findOf l p = i) :
    Calls Try.prog 38 #[.slice A n c, .string p] w fun e w' => e = .returned (.int .i64 i) ∧ Below w.heap.size w w' := by
  subst hn
  subst hi
  exact reffind_call A c l p w hr hok hl hp
/-- The last piece's cells. -/
theorem row_last {W : World} {base : Nat} {ok : Nat → Prop} {v : Value} {l : List S67} (h : k67.R 67 W base ok v l) (h0 : 0 < l.length) (p : S67) (hp : l.getD (l.length - 1) z67 = p) :
    ∃ g c, v = .slice (some ⟨g, 0, none⟩) l.length c ∧ W.cell? ⟨g, (l.length - 1) * 4, none⟩ = some (.bool p.f0) ∧ W.cell? ⟨g, (l.length - 1) * 4 + 1, none⟩ = some (.int .i64 p.f1) ∧ W.cell? ⟨g, (l.length - 1) * 4 + 2, none⟩ = some (.int .i64 p.f2) ∧ W.cell? ⟨g, (l.length - 1) * 4 + 3, none⟩ = some (.string p.f3) := by
  obtain ⟨g, c, rfl, hb, hg, cells, hc⟩ := Kd.R_form h h0
  obtain ⟨_, _, hC⟩ := Kd.R_reads' h
  obtain ⟨ad, cs, hA, hcl, hk, hcell⟩ := Kd.C_get hC z67 ((l.length - 1 : Nat) : Int) (by omega) (by omega)
  injection hA with hA
  subst hA
  rw [Int.toNat_natCast, hp] at hk
  rw [Int.toNat_natCast] at hcell
  have hcs := k67_open hk
  subst hcs
  have ea : ∀ j, (⟨g, 0, none⟩ : Addr).add ((l.length - 1) * k67.sz + j) = ⟨g, (l.length - 1) * 4 + j, none⟩ := fun j => by
    show (⟨g, 0, none⟩ : Addr).add ((l.length - 1) * 4 + j) = _
    unfold Addr.add
    split <;> simp_all
  have hcell2 : ∀ j u, _ → W.cell? ⟨g, (l.length - 1) * 4 + j, none⟩ = some u := fun j u hj => (ea j) ▸ hcell j u hj
  exact ⟨g, c, rfl, hcell2 0 _ rfl, hcell2 1 _ rfl, hcell2 2 _ rfl, hcell2 3 _ rfl⟩
theorem row_cells {W : World} {base : Nat} {ok : Nat → Prop} {l : List S67} {n g c m : Nat} (h : k67.R 67 W base ok (.slice (some ⟨g, 0, none⟩) n c) l) (hn : l.length = n) (h0 : 0 < n) (hm : m = n - 1) (p : S67) (hp : l.getD m z67 = p) :
    W.cell? ⟨g, m * 4, none⟩ = some (.bool p.f0) ∧ W.cell? ⟨g, m * 4 + 1, none⟩ = some (.int .i64 p.f1) ∧ W.cell? ⟨g, m * 4 + 2, none⟩ = some (.int .i64 p.f2) ∧ W.cell? ⟨g, m * 4 + 3, none⟩ = some (.string p.f3) := by
  subst hn
  subst hm
  obtain ⟨g', c', hv, hx⟩ := row_last h h0 p hp
  injection hv with hv1 _ _
  injection hv1 with hv1
  injection hv1 with hv1
  subst hv1
  exact hx
theorem cells4M {W : World} {g o : Nat} {a b c d : Value} (x0 : W.cell? ⟨g, o * 4, none⟩ = some a) (x1 : W.cell? ⟨g, o * 4 + 1, none⟩ = some b) (x2 : W.cell? ⟨g, o * 4 + 2, none⟩ = some c) (x3 : W.cell? ⟨g, o * 4 + 3, none⟩ = some d) :
    ∀ j u, [a, b, c, d][j]? = some u → W.cell? ⟨g, o * 4 + j, none⟩ = some u
  | 0, u, h => by simp at h; subst h; exact x0
  | 1, u, h => by simp at h; subst h; exact x1
  | 2, u, h => by simp at h; subst h; exact x2
  | 3, u, h => by simp at h; subst h; exact x3
  | j + 4, u, h => by simp at h
theorem find_short (sig : List Sg) (t : ByteArray) (h : t.size < 8) : findOf sig (headB t) = -1 := by
  have e : headB t = t := by unfold headB; rw [if_neg (by omega)]
  rw [e]
  unfold findOf
  rw [if_neg (by omega)]
theorem blockL_empty {l : List S67} (h : l.length = 0) (fr : Int) : blockL l fr = l ++ [⟨true, fr, 8, ⟨#[]⟩⟩] := by unfold blockL; rw [if_neg (by omega)]
theorem blockL_off {l : List S67} (fr : Int) (h : ¬ ((l.getD (l.length - 1) z67).f0 = true ∧ IntKind.i64.wrap ((l.getD (l.length - 1) z67).f1 + (l.getD (l.length - 1) z67).f2) = fr)) : blockL l fr = l ++ [⟨true, fr, 8, ⟨#[]⟩⟩] := by unfold blockL; rw [if_neg (fun q => h q.2)]
theorem blockL_on {l : List S67} (fr : Int) (h0 : 0 < l.length) (p : S67) (hp : l.getD (l.length - 1) z67 = p) (h : p.f0 = true ∧ IntKind.i64.wrap (p.f1 + p.f2) = fr) : blockL l fr = l.set (l.length - 1) ⟨p.f0, p.f1, IntKind.i64.wrap (p.f2 + 8), p.f3⟩ := by unfold blockL; rw [hp, if_pos ⟨h0, h⟩]
theorem litL_empty {l : List S67} (h : l.length = 0) (s : ByteArray) : litL l s = l ++ [⟨false, 0, 0, s⟩] := by unfold litL; rw [if_neg (by omega)]
theorem litL_off {l : List S67} (s : ByteArray) (h : ¬ (l.getD (l.length - 1) z67).f0 = false) : litL l s = l ++ [⟨false, 0, 0, s⟩] := by unfold litL; rw [if_neg (fun q => h q.2)]
theorem litL_on {l : List S67} (s : ByteArray) (h0 : 0 < l.length) (p : S67) (hp : l.getD (l.length - 1) z67 = p) (h : p.f0 = false) : litL l s = l.set (l.length - 1) ⟨p.f0, p.f1, p.f2, p.f3 ++ s⟩ := by unfold litL; rw [hp, if_pos ⟨h0, h⟩]
/-- What a round leaves. -/
theorem made_blk {sig : List Sg} {kk : Nat} {l : List S67} {s : ByteArray} {a a8 : Nat} {i : Nat} {R : List S67} (h : makeF sig (kk + 1) l (s.extract a s.size) = R) (ha : a8 = a + 8) (h8 : a8 ≤ s.size) (hf : findOf sig (s.extract a a8) = (i : Int)) (fr : Int) (hfr : fr = (i : Int) * 8) : makeF sig kk (blockL l fr) (s.extract a8 s.size) = R := by
  subst ha
  subst hfr
  rw [← h, makeF_blk sig kk l (s.extract a s.size) (s.extract (a + 8) s.size) i (by simp only [ByteArray.size_extract]; omega) (by rw [head_cut s a h8]; exact hf) (cut_tail s a 8 (by omega))]
theorem made_lit {sig : List Sg} {kk : Nat} {l : List S67} {s : ByteArray} {a a1 : Nat} {R : List S67} (h : makeF sig (kk + 1) l (s.extract a s.size) = R) (ha : a1 = a + 1) (h1 : a1 ≤ s.size) (hf : findOf sig (headB (s.extract a s.size)) = -1) : makeF sig kk (litL l (s.extract a a1)) (s.extract a1 s.size) = R := by
  subst ha
  rw [← h, makeF_lit sig kk l (s.extract a s.size) (s.extract a (a + 1)) (s.extract (a + 1) s.size) (by simp only [ByteArray.size_extract]; omega) hf (by rw [cut_cut _ _ _ _ _ (by omega), Nat.add_zero]) (cut_tail s a 1 (by omega))]

set_option maxHeartbeats 40000000 in
set_option maxRecDepth 100000 in
theorem rmake_call (A : Option Addr) (n c : Nat) (sig : List Sg) (s : ByteArray) (w : World) (hsl : sig.length = n) (hr : sgK.C w A n sig) (hok : ∀ x ∈ sig, SgOk x) (hn : n ≤ 1000) (hs : s.size ≤ 1000) :
    Calls Try.prog 59 #[.slice A n c, .string s] w fun e w' => ∃ v, e = .returned v ∧ k67.R 67 w' w.heap.size (fun _ => True) v (makeF sig s.size [] s) ∧ Below w.heap.size w w' := by
  obtain ⟨R, hR⟩ : ∃ R, makeF sig s.size [] s = R := ⟨_, rfl⟩
  rw [hR]
  have HSG := Aside0.mk hr
  have HOKS := Aside0.mk hok
  have HN := Aside0.mk hn
  have HSL := Aside0.mk hsl
  have HSZ := Aside0.mk hs
  have HR0 := Aside0.mk hR
  clear hr hok hn hs hR hsl
  go_enter Try.func59, Try.ntmps59
  go_wp2_with fail
  go_loopg [5, 6] s.size (fun k v5 v6 W => ∃ (V : Value) (a : Nat) (l : List S67) (kk : Nat), V = v5 ∧ v6 = .int .i64 a ∧ Aside0 (k = s.size - a ∧ a ≤ s.size ∧ l.length ≤ a) ∧ Aside0 (makeF sig kk l (s.extract a s.size) = R ∧ s.size - a ≤ kk) ∧ Aside0 (∀ p ∈ l, p.f3.size ≤ a) ∧ Aside0 (k67.R 67 W w.heap.size (fun _ => True) V l) ∧ Aside0 (Below w.heap.size w W))
  case atStart => exact ⟨_, 0, [], s.size, rfl, rfl, ⟨by omega, by omega, by simp⟩, ⟨by rw [cut_all]; exact HR0.out, by omega⟩, ⟨by simp⟩, ⟨Kd.R_nil _ _ _ _ _⟩, ⟨Below.refl _ _⟩⟩
  case round =>
    clear HR0
    obtain ⟨V, a, l, kk, rfl, rfl, HK0, HMK, HF3, HO, HB⟩ := hrel
    by_cases ha : a < s.size
    · have HA := Aside0.mk ha
      obtain ⟨kk, rfl⟩ : ∃ k', kk = k' + 1 := ⟨kk - 1, by have := HMK.out.2; omega⟩
      have HRR := Aside0.mk HMK.out.1
      have HKK := Aside0.mk HMK.out.2
      have HK := Aside0.mk HK0.out.1
      have HLA := Aside0.mk HK0.out.2.2
      have e1 : decide ((a : Int) < (s.size : Int)) = true := decide_eq_true (by omega)
      have e2 : ((a : Int) < (s.size : Int)) = True := eq_true (by omega)
      have e2n : decide (a < s.size) = true := decide_eq_true ha
      obtain ⟨a8, ha8⟩ : ∃ a8, a8 = a + 8 := ⟨_, rfl⟩
      obtain ⟨a1, ha1⟩ : ∃ a1, a1 = a + 1 := ⟨_, rfl⟩
      have wa8 : IntKind.i64.wrap ((a : Int) + 8) = (a8 : Int) := by have := HSZ.out; rw [wrap_ok _ (by omega) (by omega)]; omega
      have wa1 : IntKind.i64.wrap ((a : Int) + 1) = (a1 : Int) := by have := HSZ.out; rw [wrap_ok _ (by omega) (by omega)]; omega
      have HA1 : Aside0 (a1 = a + 1 ∧ a1 ≤ s.size) := ⟨by omega⟩
      have hcut1 := cut_text s a a1 (by omega) (by omega)
      obtain ⟨q1, hq1⟩ : ∃ q1, q1 = s.extract a a1 := ⟨_, rfl⟩
      rw [← hq1] at hcut1
      have HQ1 := Aside0.mk hq1
      have HQS : Aside0 (q1.size = 1) := ⟨by rw [hq1]; simp only [ByteArray.size_extract]; omega⟩
      by_cases h8 : a8 ≤ s.size
      · have f1 : decide ((a8 : Int) ≤ (s.size : Int)) = true := decide_eq_true (by omega)
        have f2 : decide (a8 ≤ s.size) = true := decide_eq_true h8
        have HA8 : Aside0 (a8 = a + 8 ∧ a8 ≤ s.size) := ⟨⟨ha8, h8⟩⟩
        have hcut8 := cut_text s a a8 (by omega) h8
        obtain ⟨q8, hq8⟩ : ∃ q8, q8 = s.extract a a8 := ⟨_, rfl⟩
        rw [← hq8] at hcut8
        have HQ8 : Aside0 (q8.size ≤ 1000) := ⟨by rw [hq8]; simp only [ByteArray.size_extract]; omega⟩
        have hhd : headB (s.extract a s.size) = q8 := by rw [hq8, ha8]; exact head_cut s a (by omega)
        rcases find_cases sig q8 with hf | ⟨i, hf, _, hi, _⟩
        · have HF8 := Aside0.mk hf
          have HFD : Aside0 (findOf sig (headB (s.extract a s.size)) = -1) := ⟨by rw [hhd]; exact hf⟩
          clear ha ha8 ha1 hq1 h8 hq8 hhd hf
          go_wp2_with fail
          refine (reffind_callM HSL.out A c q8 _ (Kd.C_below HSG.out HB.out) HOKS.out (by have := HN.out; omega) HQ8.out (-1) HF8.out).mono ?_
          rintro e w2 ⟨rfl, hb2⟩
          have HO1 := Aside0.mk (Kd.R_below HO.out hb2)
          have HB1 := Aside0.mk (below_step HB.out hb2)
          clear hb2
          rcases Nat.eq_zero_or_pos l.length with hl0 | hl0
          · have HRS : Aside0 (l ++ [⟨false, 0, 0, q1⟩] = litL l q1) := ⟨(litL_empty hl0 q1).symm⟩
            have HF3N : Aside0 (∀ x_ ∈ l ++ [⟨false, 0, 0, q1⟩], x_.f3.size ≤ a1) := ⟨by rw [HRS.out]; intro x_ hp; have := litL_f3 (N := a) HF3.out x_ hp; have := HA1.out; have := HQS.out; omega⟩
            have hv0 := Kd.R_slice HO1.out
            obtain ⟨A9, c9, hv⟩ := hv0
            have w9 : IntKind.i64.wrap (((l.length : Nat) : Int) - 1) = -1 := by rw [hl0]; rfl
            clear hl0
            subst hv
            go_wp2_with (first
              | ((with_reducible refine gate_builtin (b := .append) (xs := #[.tmp 98, .tmp 105]) rfl ?_); at_builtin; refine Kd.R_append k67 (w0 := w) w.heap.size rfl _ _ 55 67 (.agg #[(.bool false), (.int .i64 0), (.int .i64 0), (.string ⟨#[]⟩)]) 40 rfl Try.underlying55 info67 rfl (by decide) (by omega) (.slice A9 l.length c9) l (⟨false, 0, 0, q1⟩ : S67) [.bool false, .int .i64 0, .int .i64 0, .string q1] (fun _ => True) (fun _ => False) rfl (by first | (go_simp; done) | (go_simp; rfl)) (k67_mkM _ _ _ (⟨false, 0, 0, q1⟩ : S67)) (fun _ hk => hk.elim) (fun _ _ => trivial) HO1.out HB1.out (below_size HB1.out) (by have := HLA.out; have := HSZ.out; have := HA.out; omega) ?_; intro v2 w4 hR2 hB2 hg2 hat2; have HP := Aside0.mk hR2; have HB9 := Aside0.mk hB2; clear hR2 hB2 hg2 hat2)
              | fail)
            go_roundg (s.size - a1)
            case measure => have := HK.out; have := HA.out; have := HA1.out; omega
            case rel => exact ⟨v2, a1, l ++ [⟨false, 0, 0, q1⟩], kk, rfl, by simp, ⟨by have := HA.out; have := HLA.out; have := HA1.out; refine ⟨rfl, by omega, ?_⟩; rw [List.length_append]; simp; omega⟩, ⟨by rw [HRS.out]; exact (by have h_ := made_lit HRR.out HA1.out.1 HA1.out.2 HFD.out; rw [← HQ1.out] at h_; exact h_), by have := HKK.out; have := HA.out; have := HA1.out; omega⟩, HF3N, HP, HB9⟩
          · obtain ⟨p, hpd⟩ : ∃ p, l.getD (l.length - 1) z67 = p := ⟨_, rfl⟩
            obtain ⟨g, c9, hv, _⟩ := row_last HO1.out hl0 p hpd
            obtain ⟨n9, hn9⟩ : ∃ n9, l.length = n9 := ⟨_, rfl⟩
            obtain ⟨m9, hm9⟩ : ∃ m9, m9 = n9 - 1 := ⟨_, rfl⟩
            rw [hn9] at hv hpd hl0
            rw [← hm9] at hpd
            have HLEN := Aside0.mk hn9
            have HPOS := Aside0.mk hl0
            have HMM := Aside0.mk hm9
            have HPD := Aside0.mk hpd
            have HV := Aside0.mk hv
            have w9 : IntKind.i64.wrap ((n9 : Int) - 1) = (m9 : Int) := by have := HLA.out; have := HA.out; have := HSZ.out; rw [wrap_ok _ (by omega) (by omega)]; omega
            have e9 : decide ((m9 : Int) ≥ 0) = true := decide_eq_true (by omega)
            have e9b : (0 ≤ (m9 : Int)) = True := by simp
            have e9c : ((m9 : Int) < (n9 : Int)) = True := eq_true (by omega)
            clear hl0 hm9
            obtain ⟨fb, hpf⟩ : ∃ b, p.f0 = b := ⟨_, rfl⟩
            have HPF := Aside0.mk hpf
            have HO2 := HO1
            rw [hv] at HO2
            subst hv
            clear HV hpd hn9
            obtain ⟨x0, x1, x2, x3⟩ := row_cells HO2.out HLEN.out HPOS.out HMM.out p HPD.out
            rw [HPF.out] at x0
            cases fb
            · have HRS : Aside0 (l.set m9 ⟨p.f0, p.f1, p.f2, p.f3 ++ q1⟩ = litL l q1) := ⟨by rw [litL_on q1 (by rw [HLEN.out]; exact HPOS.out) p (by rw [HLEN.out, ← HMM.out, HPD.out]) HPF.out, HLEN.out, ← HMM.out]⟩
              have HF3N : Aside0 (∀ x_ ∈ l.set m9 ⟨p.f0, p.f1, p.f2, p.f3 ++ q1⟩, x_.f3.size ≤ a1) := ⟨by rw [HRS.out]; intro x_ hp; have := litL_f3 (N := a) HF3.out x_ hp; have := HA1.out; have := HQS.out; omega⟩
              have hps : p.f3.size ≤ 1000000000 := by have := HF3.out p (by rw [← HPD.out, List.getD_eq_getElem?_getD, List.getElem?_eq_getElem (by have := HMM.out; have := HPOS.out; have := HLEN.out; omega)]; exact List.getElem_mem _); have := HA.out; have := HSZ.out; omega
              have hqs : q1.size ≤ 1000000000 := by have := HQS.out; omega
              have hz : p.f3.size + q1.size ≤ 9223372036854775807 := by omega
              have hz0 := eq_true hz
              have hz1 : decide (p.f3.size + q1.size ≤ 9223372036854775807) = true := decide_eq_true hz
              have hz2 : (9223372036854775807 < p.f3.size + q1.size) = False := eq_false (Nat.not_lt.2 hz)
              obtain ⟨x0d, x1d, x2d, x3d⟩ := row_cells (Kd.R_drew HO2.out) HLEN.out HPOS.out HMM.out p HPD.out
              go_wp2_with fail
              go_still_tail 15, (by kernel_rfl)
              rw [← HPF.out] at x0
              go_wp2_with (first
                | ((with_reducible refine gate_store (t := 9) (p := 97) rfl ?_); refine Kd.R_store k67 (w0 := w) w.heap.size rfl rfl 9 (.tmp 97) (.tmp 95) rfl 67 (g := g) (n := n9) (cap := c9) (m9 : Int) 3 l ⟨p.f0, p.f1, p.f2, p.f3 ++ q1⟩ (.string (p.f3 ++ q1)) [.string (p.f3 ++ q1)] [.bool p.f0, .int .i64 p.f1, .int .i64 p.f2, .string p.f3] (fun _ => True) (fun _ => False) rfl ?hoff rfl rfl ?ht ?h1 (by first | exact Kd.R_drew HO2.out | exact HO2.out) ?hz ?hi rfl ?hcc ?hj (k67_mkM _ _ _ _) (fun _ hk => hk.elim) (by first | exact below_drew HB1.out | exact HB1.out) ?_; (case hoff => rfl); (case ht => kernel_rfl); (case h1 => intro q hq; rw [List.mem_singleton.1 hq]; rfl); (case hz => omega); (case hi => have := HMM.out; have := HPOS.out; omega); (case hcc => intro j u hj; exact (cells4M x0 x1 x2 x3) j u hj); (case hj => (show 3 + 1 ≤ 4; omega)); intro w4 hR2 hB2 hg2; have HP := Aside0.mk hR2; have HB9 := Aside0.mk hB2; clear hR2 hB2 hg2)
                | fail)
              go_roundg (s.size - a1)
              case measure => have := HK.out; have := HA.out; have := HA1.out; omega
              case rel => exact ⟨.slice (some ⟨g, 0, none⟩) n9 c9, a1, l.set m9 ⟨p.f0, p.f1, p.f2, p.f3 ++ q1⟩, kk, rfl, by simp, ⟨by have := HA.out; have := HLA.out; have := HA1.out; refine ⟨rfl, by omega, ?_⟩; rw [List.length_set]; omega⟩, ⟨by rw [HRS.out]; exact (by have h_ := made_lit HRR.out HA1.out.1 HA1.out.2 HFD.out; rw [← HQ1.out] at h_; exact h_), by have := HKK.out; have := HA.out; have := HA1.out; omega⟩, HF3N, HP, HB9⟩
            · have HRS : Aside0 (l ++ [⟨false, 0, 0, q1⟩] = litL l q1) := ⟨(litL_off q1 (by rw [HLEN.out, ← HMM.out, HPD.out, HPF.out]; simp)).symm⟩
              have HF3N : Aside0 (∀ x_ ∈ l ++ [⟨false, 0, 0, q1⟩], x_.f3.size ≤ a1) := ⟨by rw [HRS.out]; intro x_ hp; have := litL_f3 (N := a) HF3.out x_ hp; have := HA1.out; have := HQS.out; omega⟩
              go_wp2_with (first
                | ((with_reducible refine gate_builtin (b := .append) (xs := #[.tmp 98, .tmp 105]) rfl ?_); at_builtin; refine Kd.R_append k67 (w0 := w) w.heap.size rfl _ _ 55 67 (.agg #[(.bool false), (.int .i64 0), (.int .i64 0), (.string ⟨#[]⟩)]) 40 rfl Try.underlying55 info67 rfl (by decide) (by omega) (.slice (some ⟨g, 0, none⟩) n9 c9) l (⟨false, 0, 0, q1⟩ : S67) [.bool false, .int .i64 0, .int .i64 0, .string q1] (fun _ => True) (fun _ => False) rfl (by first | (go_simp; done) | (go_simp; rfl)) (k67_mkM _ _ _ (⟨false, 0, 0, q1⟩ : S67)) (fun _ hk => hk.elim) (fun _ _ => trivial) HO2.out HB1.out (below_size HB1.out) (by have := HLA.out; have := HSZ.out; have := HA.out; omega) ?_; intro v2 w4 hR2 hB2 hg2 hat2; have HP := Aside0.mk hR2; have HB9 := Aside0.mk hB2; clear hR2 hB2 hg2 hat2)
                | fail)
              go_roundg (s.size - a1)
              case measure => have := HK.out; have := HA.out; have := HA1.out; omega
              case rel => exact ⟨v2, a1, l ++ [⟨false, 0, 0, q1⟩], kk, rfl, by simp, ⟨by have := HA.out; have := HLA.out; have := HA1.out; refine ⟨rfl, by omega, ?_⟩; rw [List.length_append]; simp; omega⟩, ⟨by rw [HRS.out]; exact (by have h_ := made_lit HRR.out HA1.out.1 HA1.out.2 HFD.out; rw [← HQ1.out] at h_; exact h_), by have := HKK.out; have := HA.out; have := HA1.out; omega⟩, HF3N, HP, HB9⟩
        · have HF8 := Aside0.mk hf
          have HFD : Aside0 (findOf sig (s.extract a a8) = (i : Int)) := ⟨by rw [← hq8]; exact hf⟩
          obtain ⟨fr, hfr⟩ : ∃ fr : Int, fr = (i : Int) * 8 := ⟨_, rfl⟩
          have HFR := Aside0.mk hfr
          have wfr : IntKind.i64.wrap (8 * (i : Int)) = fr := by have := HN.out; have := HSL.out; rw [wrap_ok _ (by omega) (by omega)]; omega
          have g1 : decide ((i : Int) ≥ 0) = true := by simp
          have g2 : (0 ≤ (i : Int)) = True := by simp
          clear ha ha8 ha1 hq1 h8 hq8 hhd hf hi hfr
          go_wp2_with fail
          refine (reffind_callM HSL.out A c q8 _ (Kd.C_below HSG.out HB.out) HOKS.out (by have := HN.out; omega) HQ8.out (i : Int) HF8.out).mono ?_
          rintro e w2 ⟨rfl, hb2⟩
          have HO1 := Aside0.mk (Kd.R_below HO.out hb2)
          have HB1 := Aside0.mk (below_step HB.out hb2)
          clear hb2
          rcases Nat.eq_zero_or_pos l.length with hl0 | hl0
          · have HRS : Aside0 (l ++ [⟨true, fr, 8, ⟨#[]⟩⟩] = blockL l fr) := ⟨(blockL_empty hl0 fr).symm⟩
            have HF3N : Aside0 (∀ x_ ∈ l ++ [⟨true, fr, 8, ⟨#[]⟩⟩], x_.f3.size ≤ a8) := ⟨by rw [HRS.out]; intro x_ hp; have := blockL_f3 (N := a) HF3.out x_ hp; have := HA8.out; omega⟩
            have hv0 := Kd.R_slice HO1.out
            obtain ⟨A9, c9, hv⟩ := hv0
            have w9 : IntKind.i64.wrap (((l.length : Nat) : Int) - 1) = -1 := by rw [hl0]; rfl
            clear hl0
            subst hv
            go_wp2_with fail
            refine wp_region_held_drew (S := (fun W => k67.R 67 W w.heap.size (fun _ => True) (.slice A9 l.length c9) l ∧ Below w.heap.size w W)) (by kernel_rfl) ((And.intro (by first | exact Kd.R_drew HO1.out | exact HO1.out) (below_drew HB1.out))) (fun hHeld => ?_)
            refine wpAnyH_take (i := 0) (v := ?_) (by simp only [List.getElem?_toArray, List.getElem?_cons_succ, List.getElem?_cons_zero]; rfl) (by kernel_rfl) (by kernel_rfl) (by kernel_rfl) (by intro _ _ _ h; exact h) (Or.inl ⟨by rfl, ?hy⟩) (by assumption) ?_
            case hy => (intro W_ hW_; go_simp; first | done | with_reducible rfl)
            try simp only [Act.put, List.setIfInBounds_toArray, List.set_cons_zero, List.set_cons_succ]
            refine wpAnyH_take (i := 1) (v := ?_) (by simp only [List.getElem?_toArray, List.getElem?_cons_succ, List.getElem?_cons_zero]; rfl) (by kernel_rfl) (by kernel_rfl) (by kernel_rfl) (by intro _ _ _ h; exact h) (Or.inl ⟨by rfl, ?hy⟩) (by assumption) ?_
            case hy => (intro W_ hW_; go_simp; first | done | with_reducible rfl)
            try simp only [Act.put, List.setIfInBounds_toArray, List.set_cons_zero, List.set_cons_succ]
            refine wpAnyH_take (i := 2) (v := ?_) (by simp only [List.getElem?_toArray, List.getElem?_cons_succ, List.getElem?_cons_zero]; rfl) (by kernel_rfl) (by kernel_rfl) (by kernel_rfl) (by intro _ _ _ h; exact h) (Or.inl ⟨by rfl, ?hy⟩) (by assumption) ?_
            case hy => (intro W_ hW_; go_simp; first | done | with_reducible rfl)
            try simp only [Act.put, List.setIfInBounds_toArray, List.set_cons_zero, List.set_cons_succ]
            refine wpAnyH_take (i := 3) (v := undef) (by simp only [List.getElem?_toArray, List.getElem?_cons_succ, List.getElem?_cons_zero]; rfl) (by kernel_rfl) (by kernel_rfl) (by kernel_rfl) (by intro _ _ _ h; exact h) (Or.inr ⟨by rfl, rfl⟩) (by assumption) ?_
            try simp only [Act.put, List.setIfInBounds_toArray, List.set_cons_zero, List.set_cons_succ]
            refine wpAnyH_take (i := 4) (v := undef) (by simp only [List.getElem?_toArray, List.getElem?_cons_succ, List.getElem?_cons_zero]; rfl) (by kernel_rfl) (by kernel_rfl) (by kernel_rfl) (by intro _ _ _ h; exact h) (Or.inr ⟨by rfl, rfl⟩) (by assumption) ?_
            try simp only [Act.put, List.setIfInBounds_toArray, List.set_cons_zero, List.set_cons_succ]
            refine wpAnyH_take (i := 5) (v := undef) (by simp only [List.getElem?_toArray, List.getElem?_cons_succ, List.getElem?_cons_zero]; rfl) (by kernel_rfl) (by kernel_rfl) (by kernel_rfl) (by intro _ _ _ h; exact h) (Or.inr ⟨by rfl, rfl⟩) (by assumption) ?_
            try simp only [Act.put, List.setIfInBounds_toArray, List.set_cons_zero, List.set_cons_succ]
            refine wpAnyH_take (i := 6) (v := undef) (by simp only [List.getElem?_toArray, List.getElem?_cons_succ, List.getElem?_cons_zero]; rfl) (by kernel_rfl) (by kernel_rfl) (by kernel_rfl) (by intro _ _ _ h; exact h) (Or.inr ⟨by rfl, rfl⟩) (by assumption) ?_
            try simp only [Act.put, List.setIfInBounds_toArray, List.set_cons_zero, List.set_cons_succ]
            refine wpAnyH_take (i := 7) (v := undef) (by simp only [List.getElem?_toArray, List.getElem?_cons_succ, List.getElem?_cons_zero]; rfl) (by kernel_rfl) (by kernel_rfl) (by kernel_rfl) (by intro _ _ _ h; exact h) (Or.inr ⟨by rfl, rfl⟩) (by assumption) ?_
            try simp only [Act.put, List.setIfInBounds_toArray, List.set_cons_zero, List.set_cons_succ]
            refine wpAnyH_take (i := 8) (v := ?_) (by simp only [List.getElem?_toArray, List.getElem?_cons_succ, List.getElem?_cons_zero]; rfl) (by kernel_rfl) (by kernel_rfl) (by kernel_rfl) (by intro _ _ _ h; exact h) (Or.inl ⟨by rfl, ?hy⟩) (by assumption) ?_
            case hy => (intro W_ hW_; go_simp; first | done | with_reducible rfl)
            try simp only [Act.put, List.setIfInBounds_toArray, List.set_cons_zero, List.set_cons_succ]
            refine wpAnyH_take (i := 9) (v := ?_) (by simp only [List.getElem?_toArray, List.getElem?_cons_succ, List.getElem?_cons_zero]; rfl) (by kernel_rfl) (by kernel_rfl) (by kernel_rfl) (by intro _ _ _ h; exact h) (Or.inl ⟨by rfl, ?hy⟩) (by assumption) ?_
            case hy => (intro W_ hW_; go_simp; first | done | with_reducible rfl)
            try simp only [Act.put, List.setIfInBounds_toArray, List.set_cons_zero, List.set_cons_succ]
            refine wpAnyH_take (i := 10) (v := undef) (by simp only [List.getElem?_toArray, List.getElem?_cons_succ, List.getElem?_cons_zero]; rfl) (by kernel_rfl) (by kernel_rfl) (by kernel_rfl) (by intro _ _ _ h; exact h) (Or.inr ⟨by rfl, rfl⟩) (by assumption) ?_
            try simp only [Act.put, List.setIfInBounds_toArray, List.set_cons_zero, List.set_cons_succ]
            refine wpAnyH_take (i := 11) (v := undef) (by simp only [List.getElem?_toArray, List.getElem?_cons_succ, List.getElem?_cons_zero]; rfl) (by kernel_rfl) (by kernel_rfl) (by kernel_rfl) (by intro _ _ _ h; exact h) (Or.inr ⟨by rfl, rfl⟩) (by assumption) ?_
            try simp only [Act.put, List.setIfInBounds_toArray, List.set_cons_zero, List.set_cons_succ]
            refine wpAnyH_take (i := 12) (v := undef) (by simp only [List.getElem?_toArray, List.getElem?_cons_succ, List.getElem?_cons_zero]; rfl) (by kernel_rfl) (by kernel_rfl) (by kernel_rfl) (by intro _ _ _ h; exact h) (Or.inr ⟨by rfl, rfl⟩) (by assumption) ?_
            try simp only [Act.put, List.setIfInBounds_toArray, List.set_cons_zero, List.set_cons_succ]
            refine wpAnyH_take (i := 13) (v := undef) (by simp only [List.getElem?_toArray, List.getElem?_cons_succ, List.getElem?_cons_zero]; rfl) (by kernel_rfl) (by kernel_rfl) (by kernel_rfl) (by intro _ _ _ h; exact h) (Or.inr ⟨by rfl, rfl⟩) (by assumption) ?_
            try simp only [Act.put, List.setIfInBounds_toArray, List.set_cons_zero, List.set_cons_succ]
            refine wpAnyH_take (i := 14) (v := undef) (by simp only [List.getElem?_toArray, List.getElem?_cons_succ, List.getElem?_cons_zero]; rfl) (by kernel_rfl) (by kernel_rfl) (by kernel_rfl) (by intro _ _ _ h; exact h) (Or.inr ⟨by rfl, rfl⟩) (by assumption) ?_
            try simp only [Act.put, List.setIfInBounds_toArray, List.set_cons_zero, List.set_cons_succ]
            refine wpAnyH_take (i := 15) (v := undef) (by simp only [List.getElem?_toArray, List.getElem?_cons_succ, List.getElem?_cons_zero]; rfl) (by kernel_rfl) (by kernel_rfl) (by kernel_rfl) (by intro _ _ _ h; exact h) (Or.inr ⟨by rfl, rfl⟩) (by assumption) ?_
            try simp only [Act.put, List.setIfInBounds_toArray, List.set_cons_zero, List.set_cons_succ]
            refine wpAnyH_take (i := 16) (v := undef) (by simp only [List.getElem?_toArray, List.getElem?_cons_succ, List.getElem?_cons_zero]; rfl) (by kernel_rfl) (by kernel_rfl) (by kernel_rfl) (by intro _ _ _ h; exact h) (Or.inr ⟨by rfl, rfl⟩) (by assumption) ?_
            try simp only [Act.put, List.setIfInBounds_toArray, List.set_cons_zero, List.set_cons_succ]
            refine wpAnyH_take (i := 17) (v := undef) (by simp only [List.getElem?_toArray, List.getElem?_cons_succ, List.getElem?_cons_zero]; rfl) (by kernel_rfl) (by kernel_rfl) (by kernel_rfl) (by intro _ _ _ h; exact h) (Or.inr ⟨by rfl, rfl⟩) (by assumption) ?_
            try simp only [Act.put, List.setIfInBounds_toArray, List.set_cons_zero, List.set_cons_succ]
            refine wpAnyH_take (i := 18) (v := undef) (by simp only [List.getElem?_toArray, List.getElem?_cons_succ, List.getElem?_cons_zero]; rfl) (by kernel_rfl) (by kernel_rfl) (by kernel_rfl) (by intro _ _ _ h; exact h) (Or.inr ⟨by rfl, rfl⟩) (by assumption) ?_
            try simp only [Act.put, List.setIfInBounds_toArray, List.set_cons_zero, List.set_cons_succ]
            refine wpAnyH_take (i := 19) (v := undef) (by simp only [List.getElem?_toArray, List.getElem?_cons_succ, List.getElem?_cons_zero]; rfl) (by kernel_rfl) (by kernel_rfl) (by kernel_rfl) (by intro _ _ _ h; exact h) (Or.inr ⟨by rfl, rfl⟩) (by assumption) ?_
            try simp only [Act.put, List.setIfInBounds_toArray, List.set_cons_zero, List.set_cons_succ]
            refine wpAnyH_take (i := 20) (v := undef) (by simp only [List.getElem?_toArray, List.getElem?_cons_succ, List.getElem?_cons_zero]; rfl) (by kernel_rfl) (by kernel_rfl) (by kernel_rfl) (by intro _ _ _ h; exact h) (Or.inr ⟨by rfl, rfl⟩) (by assumption) ?_
            try simp only [Act.put, List.setIfInBounds_toArray, List.set_cons_zero, List.set_cons_succ]
            refine wpAnyH_take (i := 21) (v := undef) (by simp only [List.getElem?_toArray, List.getElem?_cons_succ, List.getElem?_cons_zero]; rfl) (by kernel_rfl) (by kernel_rfl) (by kernel_rfl) (by intro _ _ _ h; exact h) (Or.inr ⟨by rfl, rfl⟩) (by assumption) ?_
            try simp only [Act.put, List.setIfInBounds_toArray, List.set_cons_zero, List.set_cons_succ]
            refine wpAnyH_take (i := 22) (v := undef) (by simp only [List.getElem?_toArray, List.getElem?_cons_succ, List.getElem?_cons_zero]; rfl) (by kernel_rfl) (by kernel_rfl) (by kernel_rfl) (by intro _ _ _ h; exact h) (Or.inr ⟨by rfl, rfl⟩) (by assumption) ?_
            try simp only [Act.put, List.setIfInBounds_toArray, List.set_cons_zero, List.set_cons_succ]
            refine wpAnyH_take (i := 23) (v := undef) (by simp only [List.getElem?_toArray, List.getElem?_cons_succ, List.getElem?_cons_zero]; rfl) (by kernel_rfl) (by kernel_rfl) (by kernel_rfl) (by intro _ _ _ h; exact h) (Or.inr ⟨by rfl, rfl⟩) (by assumption) ?_
            try simp only [Act.put, List.setIfInBounds_toArray, List.set_cons_zero, List.set_cons_succ]
            refine wpAnyH_take (i := 24) (v := ?_) (by simp only [List.getElem?_toArray, List.getElem?_cons_succ, List.getElem?_cons_zero]; rfl) (by kernel_rfl) (by kernel_rfl) (by kernel_rfl) (by intro _ _ _ h; exact h) (Or.inl ⟨by rfl, ?hy⟩) (by assumption) ?_
            case hy => (intro W_ hW_; go_simp; first | done | with_reducible rfl)
            try simp only [Act.put, List.setIfInBounds_toArray, List.set_cons_zero, List.set_cons_succ]
            refine wpAnyH_done (by kernel_rfl) ?_ _
            go_wp2_with (first
              | ((with_reducible refine gate_builtin (b := .append) (xs := #[.tmp 65, .tmp 69]) rfl ?_); at_builtin; refine Kd.R_append k67 (w0 := w) w.heap.size rfl _ _ 55 67 (.agg #[(.bool false), (.int .i64 0), (.int .i64 0), (.string ⟨#[]⟩)]) 40 rfl Try.underlying55 info67 rfl (by decide) (by omega) (.slice A9 l.length c9) l (⟨true, fr, 8, ⟨#[]⟩⟩ : S67) [.bool true, .int .i64 fr, .int .i64 8, .string ⟨#[]⟩] (fun _ => True) (fun _ => False) rfl (by first | (go_simp; done) | (go_simp; rfl)) (k67_mkM _ _ _ (⟨true, fr, 8, ⟨#[]⟩⟩ : S67)) (fun _ hk => hk.elim) (fun _ _ => trivial) hHeld.1 hHeld.2 (below_size hHeld.2) (by have := HLA.out; have := HSZ.out; have := HA.out; omega) ?_; intro v2 w4 hR2 hB2 hg2 hat2; have HP := Aside0.mk hR2; have HB9 := Aside0.mk hB2; clear hR2 hB2 hg2 hat2)
              | fail)
            go_roundg (s.size - a8)
            case measure => have := HK.out; have := HA.out; have := HA8.out; omega
            case rel => exact ⟨v2, a8, l ++ [⟨true, fr, 8, ⟨#[]⟩⟩], kk, rfl, by simp, ⟨by have := HA.out; have := HLA.out; have := HA8.out; refine ⟨rfl, by omega, ?_⟩; rw [List.length_append]; simp; omega⟩, ⟨by rw [HRS.out]; exact made_blk HRR.out HA8.out.1 HA8.out.2 HFD.out fr HFR.out, by have := HKK.out; have := HA.out; have := HA8.out; omega⟩, HF3N, HP, HB9⟩
          · obtain ⟨p, hpd⟩ : ∃ p, l.getD (l.length - 1) z67 = p := ⟨_, rfl⟩
            obtain ⟨g, c9, hv, _⟩ := row_last HO1.out hl0 p hpd
            obtain ⟨n9, hn9⟩ : ∃ n9, l.length = n9 := ⟨_, rfl⟩
            obtain ⟨m9, hm9⟩ : ∃ m9, m9 = n9 - 1 := ⟨_, rfl⟩
            rw [hn9] at hv hpd hl0
            rw [← hm9] at hpd
            have HLEN := Aside0.mk hn9
            have HPOS := Aside0.mk hl0
            have HMM := Aside0.mk hm9
            have HPD := Aside0.mk hpd
            have HV := Aside0.mk hv
            have w9 : IntKind.i64.wrap ((n9 : Int) - 1) = (m9 : Int) := by have := HLA.out; have := HA.out; have := HSZ.out; rw [wrap_ok _ (by omega) (by omega)]; omega
            have e9 : decide ((m9 : Int) ≥ 0) = true := decide_eq_true (by omega)
            have e9b : (0 ≤ (m9 : Int)) = True := by simp
            have e9c : ((m9 : Int) < (n9 : Int)) = True := eq_true (by omega)
            clear hl0 hm9
            obtain ⟨fb, hpf⟩ : ∃ b, p.f0 = b := ⟨_, rfl⟩
            have HPF := Aside0.mk hpf
            have HO2 := HO1
            rw [hv] at HO2
            subst hv
            clear HV hpd hn9
            cases fb
            · have HRS : Aside0 (l ++ [⟨true, fr, 8, ⟨#[]⟩⟩] = blockL l fr) := ⟨(blockL_off fr (by rw [HLEN.out, ← HMM.out, HPD.out, HPF.out]; simp)).symm⟩
              have HF3N : Aside0 (∀ x_ ∈ l ++ [⟨true, fr, 8, ⟨#[]⟩⟩], x_.f3.size ≤ a8) := ⟨by rw [HRS.out]; intro x_ hp; have := blockL_f3 (N := a) HF3.out x_ hp; have := HA8.out; omega⟩
              go_wp2_with fail
              refine wp_region_held_drew (S := (fun W => k67.R 67 W w.heap.size (fun _ => True) (.slice (some ⟨g, 0, none⟩) n9 c9) l ∧ Below w.heap.size w W)) (by kernel_rfl) ((And.intro (by first | exact Kd.R_drew HO1.out | exact HO1.out) (below_drew HB1.out))) (fun hHeld => ?_)
              refine wpAnyH_take (i := 0) (v := ?_) (by simp only [List.getElem?_toArray, List.getElem?_cons_succ, List.getElem?_cons_zero]; rfl) (by kernel_rfl) (by kernel_rfl) (by kernel_rfl) (by intro _ _ _ h; exact h) (Or.inl ⟨by rfl, ?hy⟩) (by assumption) ?_
              case hy => (intro W_ hW_; go_simp; first | done | with_reducible rfl)
              try simp only [Act.put, List.setIfInBounds_toArray, List.set_cons_zero, List.set_cons_succ]
              refine wpAnyH_take (i := 1) (v := ?_) (by simp only [List.getElem?_toArray, List.getElem?_cons_succ, List.getElem?_cons_zero]; rfl) (by kernel_rfl) (by kernel_rfl) (by kernel_rfl) (by intro _ _ _ h; exact h) (Or.inl ⟨by rfl, ?hy⟩) (by assumption) ?_
              case hy => (intro W_ hW_; go_simp; first | done | with_reducible rfl)
              try simp only [Act.put, List.setIfInBounds_toArray, List.set_cons_zero, List.set_cons_succ]
              refine wpAnyH_take (i := 2) (v := ?_) (by simp only [List.getElem?_toArray, List.getElem?_cons_succ, List.getElem?_cons_zero]; rfl) (by kernel_rfl) (by kernel_rfl) (by kernel_rfl) (by intro _ _ _ h; exact h) (Or.inl ⟨by rfl, ?hy⟩) (by assumption) ?_
              case hy => (intro W_ hW_; go_simp; first | done | with_reducible rfl)
              try simp only [Act.put, List.setIfInBounds_toArray, List.set_cons_zero, List.set_cons_succ]
              refine wpAnyH_take (i := 3) (v := ?_) (by simp only [List.getElem?_toArray, List.getElem?_cons_succ, List.getElem?_cons_zero]; rfl) (by kernel_rfl) (by kernel_rfl) (by kernel_rfl) (by intro _ _ _ h; exact h) (Or.inl ⟨by rfl, ?hy⟩) (by assumption) ?_
              case hy => (intro W_ hW_; go_simp; first | done | with_reducible rfl)
              try simp only [Act.put, List.setIfInBounds_toArray, List.set_cons_zero, List.set_cons_succ]
              refine wpAnyH_take (i := 4) (v := ?_) (by simp only [List.getElem?_toArray, List.getElem?_cons_succ, List.getElem?_cons_zero]; rfl) (by kernel_rfl) (by kernel_rfl) (by kernel_rfl) (by intro _ _ _ h; exact h) (Or.inl ⟨by rfl, ?hy⟩) (by assumption) ?_
              case hy => (intro W_ hW_; go_simp; first | done | with_reducible rfl)
              try simp only [Act.put, List.setIfInBounds_toArray, List.set_cons_zero, List.set_cons_succ]
              refine wpAnyH_take (i := 5) (v := ?_) (by simp only [List.getElem?_toArray, List.getElem?_cons_succ, List.getElem?_cons_zero]; rfl) (by kernel_rfl) (by kernel_rfl) (by kernel_rfl) (by intro _ _ _ h; exact h) (Or.inl ⟨by rfl, ?hy⟩) (by assumption) ?_
              case hy => (intro W_ hW_; go_simp; first | done | with_reducible rfl)
              try simp only [Act.put, List.setIfInBounds_toArray, List.set_cons_zero, List.set_cons_succ]
              refine wpAnyH_take (i := 6) (v := ?_) (by simp only [List.getElem?_toArray, List.getElem?_cons_succ, List.getElem?_cons_zero]; rfl) (by kernel_rfl) (by kernel_rfl) (by kernel_rfl) (by intro _ _ _ h; exact h) (Or.inl ⟨by rfl, ?hy⟩) (by assumption) ?_
              case hy => (intro W_ hW_; go_simp; first | done | with_reducible rfl)
              try simp only [Act.put, List.setIfInBounds_toArray, List.set_cons_zero, List.set_cons_succ]
              refine wpAnyH_take (i := 7) (v := ?_) (by simp only [List.getElem?_toArray, List.getElem?_cons_succ, List.getElem?_cons_zero]; rfl) (by kernel_rfl) (by kernel_rfl) (by kernel_rfl) (by intro _ _ _ h; exact h) (Or.inl ⟨by rfl, ?hy⟩) (by assumption) ?_
              case hy => (intro W_ hW_; have f_ := (row_cells hW_.1 HLEN.out HPOS.out HMM.out p HPD.out).1; go_simp; first | done | with_reducible rfl)
              try simp only [Act.put, List.setIfInBounds_toArray, List.set_cons_zero, List.set_cons_succ]
              refine wpAnyH_take (i := 8) (v := ?_) (by simp only [List.getElem?_toArray, List.getElem?_cons_succ, List.getElem?_cons_zero]; rfl) (by kernel_rfl) (by kernel_rfl) (by kernel_rfl) (by intro _ _ _ h; exact h) (Or.inl ⟨by rfl, ?hy⟩) (by assumption) ?_
              case hy => (intro W_ hW_; go_simp; first | done | with_reducible rfl)
              try simp only [Act.put, List.setIfInBounds_toArray, List.set_cons_zero, List.set_cons_succ]
              refine wpAnyH_take (i := 9) (v := ?_) (by simp only [List.getElem?_toArray, List.getElem?_cons_succ, List.getElem?_cons_zero]; rfl) (by kernel_rfl) (by kernel_rfl) (by kernel_rfl) (by intro _ _ _ h; exact h) (Or.inl ⟨by rfl, ?hy⟩) (by assumption) ?_
              case hy => (intro W_ hW_; go_simp; first | done | with_reducible rfl)
              try simp only [Act.put, List.setIfInBounds_toArray, List.set_cons_zero, List.set_cons_succ]
              refine wpAnyH_take (i := 10) (v := undef) (by simp only [List.getElem?_toArray, List.getElem?_cons_succ, List.getElem?_cons_zero]; rfl) (by kernel_rfl) (by kernel_rfl) (by kernel_rfl) (by intro _ _ _ h; exact h) (Or.inr ⟨by rfl, rfl⟩) (by assumption) ?_
              try simp only [Act.put, List.setIfInBounds_toArray, List.set_cons_zero, List.set_cons_succ]
              refine wpAnyH_take (i := 11) (v := undef) (by simp only [List.getElem?_toArray, List.getElem?_cons_succ, List.getElem?_cons_zero]; rfl) (by kernel_rfl) (by kernel_rfl) (by kernel_rfl) (by intro _ _ _ h; exact h) (Or.inr ⟨by rfl, rfl⟩) (by assumption) ?_
              try simp only [Act.put, List.setIfInBounds_toArray, List.set_cons_zero, List.set_cons_succ]
              refine wpAnyH_take (i := 12) (v := undef) (by simp only [List.getElem?_toArray, List.getElem?_cons_succ, List.getElem?_cons_zero]; rfl) (by kernel_rfl) (by kernel_rfl) (by kernel_rfl) (by intro _ _ _ h; exact h) (Or.inr ⟨by rfl, rfl⟩) (by assumption) ?_
              try simp only [Act.put, List.setIfInBounds_toArray, List.set_cons_zero, List.set_cons_succ]
              refine wpAnyH_take (i := 13) (v := undef) (by simp only [List.getElem?_toArray, List.getElem?_cons_succ, List.getElem?_cons_zero]; rfl) (by kernel_rfl) (by kernel_rfl) (by kernel_rfl) (by intro _ _ _ h; exact h) (Or.inr ⟨by rfl, rfl⟩) (by assumption) ?_
              try simp only [Act.put, List.setIfInBounds_toArray, List.set_cons_zero, List.set_cons_succ]
              refine wpAnyH_take (i := 14) (v := undef) (by simp only [List.getElem?_toArray, List.getElem?_cons_succ, List.getElem?_cons_zero]; rfl) (by kernel_rfl) (by kernel_rfl) (by kernel_rfl) (by intro _ _ _ h; exact h) (Or.inr ⟨by rfl, rfl⟩) (by assumption) ?_
              try simp only [Act.put, List.setIfInBounds_toArray, List.set_cons_zero, List.set_cons_succ]
              refine wpAnyH_take (i := 15) (v := undef) (by simp only [List.getElem?_toArray, List.getElem?_cons_succ, List.getElem?_cons_zero]; rfl) (by kernel_rfl) (by kernel_rfl) (by kernel_rfl) (by intro _ _ _ h; exact h) (Or.inr ⟨by rfl, rfl⟩) (by assumption) ?_
              try simp only [Act.put, List.setIfInBounds_toArray, List.set_cons_zero, List.set_cons_succ]
              refine wpAnyH_take (i := 16) (v := undef) (by simp only [List.getElem?_toArray, List.getElem?_cons_succ, List.getElem?_cons_zero]; rfl) (by kernel_rfl) (by kernel_rfl) (by kernel_rfl) (by intro _ _ _ h; exact h) (Or.inr ⟨by rfl, rfl⟩) (by assumption) ?_
              try simp only [Act.put, List.setIfInBounds_toArray, List.set_cons_zero, List.set_cons_succ]
              refine wpAnyH_take (i := 17) (v := undef) (by simp only [List.getElem?_toArray, List.getElem?_cons_succ, List.getElem?_cons_zero]; rfl) (by kernel_rfl) (by kernel_rfl) (by kernel_rfl) (by intro _ _ _ h; exact h) (Or.inr ⟨by rfl, rfl⟩) (by assumption) ?_
              try simp only [Act.put, List.setIfInBounds_toArray, List.set_cons_zero, List.set_cons_succ]
              refine wpAnyH_take (i := 18) (v := undef) (by simp only [List.getElem?_toArray, List.getElem?_cons_succ, List.getElem?_cons_zero]; rfl) (by kernel_rfl) (by kernel_rfl) (by kernel_rfl) (by intro _ _ _ h; exact h) (Or.inr ⟨by rfl, rfl⟩) (by assumption) ?_
              try simp only [Act.put, List.setIfInBounds_toArray, List.set_cons_zero, List.set_cons_succ]
              refine wpAnyH_take (i := 19) (v := undef) (by simp only [List.getElem?_toArray, List.getElem?_cons_succ, List.getElem?_cons_zero]; rfl) (by kernel_rfl) (by kernel_rfl) (by kernel_rfl) (by intro _ _ _ h; exact h) (Or.inr ⟨by rfl, rfl⟩) (by assumption) ?_
              try simp only [Act.put, List.setIfInBounds_toArray, List.set_cons_zero, List.set_cons_succ]
              refine wpAnyH_take (i := 20) (v := undef) (by simp only [List.getElem?_toArray, List.getElem?_cons_succ, List.getElem?_cons_zero]; rfl) (by kernel_rfl) (by kernel_rfl) (by kernel_rfl) (by intro _ _ _ h; exact h) (Or.inr ⟨by rfl, rfl⟩) (by assumption) ?_
              try simp only [Act.put, List.setIfInBounds_toArray, List.set_cons_zero, List.set_cons_succ]
              refine wpAnyH_take (i := 21) (v := undef) (by simp only [List.getElem?_toArray, List.getElem?_cons_succ, List.getElem?_cons_zero]; rfl) (by kernel_rfl) (by kernel_rfl) (by kernel_rfl) (by intro _ _ _ h; exact h) (Or.inr ⟨by rfl, rfl⟩) (by assumption) ?_
              try simp only [Act.put, List.setIfInBounds_toArray, List.set_cons_zero, List.set_cons_succ]
              refine wpAnyH_take (i := 22) (v := undef) (by simp only [List.getElem?_toArray, List.getElem?_cons_succ, List.getElem?_cons_zero]; rfl) (by kernel_rfl) (by kernel_rfl) (by kernel_rfl) (by intro _ _ _ h; exact h) (Or.inr ⟨by rfl, rfl⟩) (by assumption) ?_
              try simp only [Act.put, List.setIfInBounds_toArray, List.set_cons_zero, List.set_cons_succ]
              refine wpAnyH_take (i := 23) (v := undef) (by simp only [List.getElem?_toArray, List.getElem?_cons_succ, List.getElem?_cons_zero]; rfl) (by kernel_rfl) (by kernel_rfl) (by kernel_rfl) (by intro _ _ _ h; exact h) (Or.inr ⟨by rfl, rfl⟩) (by assumption) ?_
              try simp only [Act.put, List.setIfInBounds_toArray, List.set_cons_zero, List.set_cons_succ]
              refine wpAnyH_take (i := 24) (v := ?_) (by simp only [List.getElem?_toArray, List.getElem?_cons_succ, List.getElem?_cons_zero]; rfl) (by kernel_rfl) (by kernel_rfl) (by kernel_rfl) (by intro _ _ _ h; exact h) (Or.inl ⟨by rfl, ?hy⟩) (by assumption) ?_
              case hy => (intro W_ hW_; go_simp; first | done | with_reducible rfl)
              try simp only [Act.put, List.setIfInBounds_toArray, List.set_cons_zero, List.set_cons_succ]
              refine wpAnyH_done (by kernel_rfl) ?_ _
              go_wp2_with (first
                | ((with_reducible refine gate_builtin (b := .append) (xs := #[.tmp 65, .tmp 69]) rfl ?_); at_builtin; refine Kd.R_append k67 (w0 := w) w.heap.size rfl _ _ 55 67 (.agg #[(.bool false), (.int .i64 0), (.int .i64 0), (.string ⟨#[]⟩)]) 40 rfl Try.underlying55 info67 rfl (by decide) (by omega) (.slice (some ⟨g, 0, none⟩) n9 c9) l (⟨true, fr, 8, ⟨#[]⟩⟩ : S67) [.bool true, .int .i64 fr, .int .i64 8, .string ⟨#[]⟩] (fun _ => True) (fun _ => False) rfl (by first | (go_simp; done) | (go_simp; rfl)) (k67_mkM _ _ _ (⟨true, fr, 8, ⟨#[]⟩⟩ : S67)) (fun _ hk => hk.elim) (fun _ _ => trivial) hHeld.1 hHeld.2 (below_size hHeld.2) (by have := HLA.out; have := HSZ.out; have := HA.out; omega) ?_; intro v2 w4 hR2 hB2 hg2 hat2; have HP := Aside0.mk hR2; have HB9 := Aside0.mk hB2; clear hR2 hB2 hg2 hat2)
                | fail)
              go_roundg (s.size - a8)
              case measure => have := HK.out; have := HA.out; have := HA8.out; omega
              case rel => exact ⟨v2, a8, l ++ [⟨true, fr, 8, ⟨#[]⟩⟩], kk, rfl, by simp, ⟨by have := HA.out; have := HLA.out; have := HA8.out; refine ⟨rfl, by omega, ?_⟩; rw [List.length_append]; simp; omega⟩, ⟨by rw [HRS.out]; exact made_blk HRR.out HA8.out.1 HA8.out.2 HFD.out fr HFR.out, by have := HKK.out; have := HA.out; have := HA8.out; omega⟩, HF3N, HP, HB9⟩
            · obtain ⟨x, hx⟩ : ∃ x, IntKind.i64.wrap (p.f1 + p.f2) = x := ⟨_, rfl⟩
              have HX := Aside0.mk hx
              by_cases hne : x = fr
              · have e10 : (x == fr) = true := by simpa using hne
                have e10b : (x = fr) = True := eq_true hne
                obtain ⟨y, hy⟩ : ∃ y, IntKind.i64.wrap (p.f2 + 8) = y := ⟨_, rfl⟩
                have HRS : Aside0 (l.set m9 ⟨p.f0, p.f1, y, p.f3⟩ = blockL l fr) := ⟨by rw [blockL_on fr (by rw [HLEN.out]; exact HPOS.out) p (by rw [HLEN.out, ← HMM.out, HPD.out]) ⟨HPF.out, by rw [HX.out]; exact hne⟩, HLEN.out, ← HMM.out, hy]⟩
                have HF3N : Aside0 (∀ x_ ∈ l.set m9 ⟨p.f0, p.f1, y, p.f3⟩, x_.f3.size ≤ a8) := ⟨by rw [HRS.out]; intro x_ hp; have := blockL_f3 (N := a) HF3.out x_ hp; have := HA8.out; omega⟩
                clear hne
                go_wp2_with fail
                refine wp_region_held_drew (S := (fun W => k67.R 67 W w.heap.size (fun _ => True) (.slice (some ⟨g, 0, none⟩) n9 c9) l ∧ Below w.heap.size w W)) (by kernel_rfl) ((And.intro (by first | exact Kd.R_drew HO1.out | exact HO1.out) (below_drew HB1.out))) (fun hHeld => ?_)
                refine wpAnyH_take (i := 0) (v := ?_) (by simp only [List.getElem?_toArray, List.getElem?_cons_succ, List.getElem?_cons_zero]; rfl) (by kernel_rfl) (by kernel_rfl) (by kernel_rfl) (by intro _ _ _ h; exact h) (Or.inl ⟨by rfl, ?hy⟩) (by assumption) ?_
                case hy => (intro W_ hW_; go_simp; first | done | with_reducible rfl)
                try simp only [Act.put, List.setIfInBounds_toArray, List.set_cons_zero, List.set_cons_succ]
                refine wpAnyH_take (i := 1) (v := ?_) (by simp only [List.getElem?_toArray, List.getElem?_cons_succ, List.getElem?_cons_zero]; rfl) (by kernel_rfl) (by kernel_rfl) (by kernel_rfl) (by intro _ _ _ h; exact h) (Or.inl ⟨by rfl, ?hy⟩) (by assumption) ?_
                case hy => (intro W_ hW_; go_simp; first | done | with_reducible rfl)
                try simp only [Act.put, List.setIfInBounds_toArray, List.set_cons_zero, List.set_cons_succ]
                refine wpAnyH_take (i := 2) (v := ?_) (by simp only [List.getElem?_toArray, List.getElem?_cons_succ, List.getElem?_cons_zero]; rfl) (by kernel_rfl) (by kernel_rfl) (by kernel_rfl) (by intro _ _ _ h; exact h) (Or.inl ⟨by rfl, ?hy⟩) (by assumption) ?_
                case hy => (intro W_ hW_; go_simp; first | done | with_reducible rfl)
                try simp only [Act.put, List.setIfInBounds_toArray, List.set_cons_zero, List.set_cons_succ]
                refine wpAnyH_take (i := 3) (v := ?_) (by simp only [List.getElem?_toArray, List.getElem?_cons_succ, List.getElem?_cons_zero]; rfl) (by kernel_rfl) (by kernel_rfl) (by kernel_rfl) (by intro _ _ _ h; exact h) (Or.inl ⟨by rfl, ?hy⟩) (by assumption) ?_
                case hy => (intro W_ hW_; go_simp; first | done | with_reducible rfl)
                try simp only [Act.put, List.setIfInBounds_toArray, List.set_cons_zero, List.set_cons_succ]
                refine wpAnyH_take (i := 4) (v := ?_) (by simp only [List.getElem?_toArray, List.getElem?_cons_succ, List.getElem?_cons_zero]; rfl) (by kernel_rfl) (by kernel_rfl) (by kernel_rfl) (by intro _ _ _ h; exact h) (Or.inl ⟨by rfl, ?hy⟩) (by assumption) ?_
                case hy => (intro W_ hW_; go_simp; first | done | with_reducible rfl)
                try simp only [Act.put, List.setIfInBounds_toArray, List.set_cons_zero, List.set_cons_succ]
                refine wpAnyH_take (i := 5) (v := ?_) (by simp only [List.getElem?_toArray, List.getElem?_cons_succ, List.getElem?_cons_zero]; rfl) (by kernel_rfl) (by kernel_rfl) (by kernel_rfl) (by intro _ _ _ h; exact h) (Or.inl ⟨by rfl, ?hy⟩) (by assumption) ?_
                case hy => (intro W_ hW_; go_simp; first | done | with_reducible rfl)
                try simp only [Act.put, List.setIfInBounds_toArray, List.set_cons_zero, List.set_cons_succ]
                refine wpAnyH_take (i := 6) (v := ?_) (by simp only [List.getElem?_toArray, List.getElem?_cons_succ, List.getElem?_cons_zero]; rfl) (by kernel_rfl) (by kernel_rfl) (by kernel_rfl) (by intro _ _ _ h; exact h) (Or.inl ⟨by rfl, ?hy⟩) (by assumption) ?_
                case hy => (intro W_ hW_; go_simp; first | done | with_reducible rfl)
                try simp only [Act.put, List.setIfInBounds_toArray, List.set_cons_zero, List.set_cons_succ]
                refine wpAnyH_take (i := 7) (v := ?_) (by simp only [List.getElem?_toArray, List.getElem?_cons_succ, List.getElem?_cons_zero]; rfl) (by kernel_rfl) (by kernel_rfl) (by kernel_rfl) (by intro _ _ _ h; exact h) (Or.inl ⟨by rfl, ?hy⟩) (by assumption) ?_
                case hy => (intro W_ hW_; have f_ := (row_cells hW_.1 HLEN.out HPOS.out HMM.out p HPD.out).1; go_simp; first | done | with_reducible rfl)
                try simp only [Act.put, List.setIfInBounds_toArray, List.set_cons_zero, List.set_cons_succ]
                refine wpAnyH_take (i := 8) (v := ?_) (by simp only [List.getElem?_toArray, List.getElem?_cons_succ, List.getElem?_cons_zero]; rfl) (by kernel_rfl) (by kernel_rfl) (by kernel_rfl) (by intro _ _ _ h; exact h) (Or.inl ⟨by rfl, ?hy⟩) (by assumption) ?_
                case hy => (intro W_ hW_; go_simp; first | done | with_reducible rfl)
                try simp only [Act.put, List.setIfInBounds_toArray, List.set_cons_zero, List.set_cons_succ]
                refine wpAnyH_take (i := 9) (v := ?_) (by simp only [List.getElem?_toArray, List.getElem?_cons_succ, List.getElem?_cons_zero]; rfl) (by kernel_rfl) (by kernel_rfl) (by kernel_rfl) (by intro _ _ _ h; exact h) (Or.inl ⟨by rfl, ?hy⟩) (by assumption) ?_
                case hy => (intro W_ hW_; go_simp; first | done | with_reducible rfl)
                try simp only [Act.put, List.setIfInBounds_toArray, List.set_cons_zero, List.set_cons_succ]
                refine wpAnyH_take (i := 10) (v := ?_) (by simp only [List.getElem?_toArray, List.getElem?_cons_succ, List.getElem?_cons_zero]; rfl) (by kernel_rfl) (by kernel_rfl) (by kernel_rfl) (by intro _ _ _ h; exact h) (Or.inl ⟨by rfl, ?hy⟩) (by assumption) ?_
                case hy => (intro W_ hW_; go_simp; first | done | with_reducible rfl)
                try simp only [Act.put, List.setIfInBounds_toArray, List.set_cons_zero, List.set_cons_succ]
                refine wpAnyH_take (i := 11) (v := ?_) (by simp only [List.getElem?_toArray, List.getElem?_cons_succ, List.getElem?_cons_zero]; rfl) (by kernel_rfl) (by kernel_rfl) (by kernel_rfl) (by intro _ _ _ h; exact h) (Or.inl ⟨by rfl, ?hy⟩) (by assumption) ?_
                case hy => (intro W_ hW_; go_simp; first | done | with_reducible rfl)
                try simp only [Act.put, List.setIfInBounds_toArray, List.set_cons_zero, List.set_cons_succ]
                refine wpAnyH_take (i := 12) (v := ?_) (by simp only [List.getElem?_toArray, List.getElem?_cons_succ, List.getElem?_cons_zero]; rfl) (by kernel_rfl) (by kernel_rfl) (by kernel_rfl) (by intro _ _ _ h; exact h) (Or.inl ⟨by rfl, ?hy⟩) (by assumption) ?_
                case hy => (intro W_ hW_; go_simp; first | done | with_reducible rfl)
                try simp only [Act.put, List.setIfInBounds_toArray, List.set_cons_zero, List.set_cons_succ]
                refine wpAnyH_take (i := 13) (v := ?_) (by simp only [List.getElem?_toArray, List.getElem?_cons_succ, List.getElem?_cons_zero]; rfl) (by kernel_rfl) (by kernel_rfl) (by kernel_rfl) (by intro _ _ _ h; exact h) (Or.inl ⟨by rfl, ?hy⟩) (by assumption) ?_
                case hy => (intro W_ hW_; go_simp; first | done | with_reducible rfl)
                try simp only [Act.put, List.setIfInBounds_toArray, List.set_cons_zero, List.set_cons_succ]
                refine wpAnyH_take (i := 14) (v := ?_) (by simp only [List.getElem?_toArray, List.getElem?_cons_succ, List.getElem?_cons_zero]; rfl) (by kernel_rfl) (by kernel_rfl) (by kernel_rfl) (by intro _ _ _ h; exact h) (Or.inl ⟨by rfl, ?hy⟩) (by assumption) ?_
                case hy => (intro W_ hW_; have f_ := (row_cells hW_.1 HLEN.out HPOS.out HMM.out p HPD.out).2.1; go_simp; first | done | with_reducible rfl)
                try simp only [Act.put, List.setIfInBounds_toArray, List.set_cons_zero, List.set_cons_succ]
                refine wpAnyH_take (i := 15) (v := ?_) (by simp only [List.getElem?_toArray, List.getElem?_cons_succ, List.getElem?_cons_zero]; rfl) (by kernel_rfl) (by kernel_rfl) (by kernel_rfl) (by intro _ _ _ h; exact h) (Or.inl ⟨by rfl, ?hy⟩) (by assumption) ?_
                case hy => (intro W_ hW_; go_simp; first | done | with_reducible rfl)
                try simp only [Act.put, List.setIfInBounds_toArray, List.set_cons_zero, List.set_cons_succ]
                refine wpAnyH_take (i := 16) (v := ?_) (by simp only [List.getElem?_toArray, List.getElem?_cons_succ, List.getElem?_cons_zero]; rfl) (by kernel_rfl) (by kernel_rfl) (by kernel_rfl) (by intro _ _ _ h; exact h) (Or.inl ⟨by rfl, ?hy⟩) (by assumption) ?_
                case hy => (intro W_ hW_; go_simp; first | done | with_reducible rfl)
                try simp only [Act.put, List.setIfInBounds_toArray, List.set_cons_zero, List.set_cons_succ]
                refine wpAnyH_take (i := 17) (v := ?_) (by simp only [List.getElem?_toArray, List.getElem?_cons_succ, List.getElem?_cons_zero]; rfl) (by kernel_rfl) (by kernel_rfl) (by kernel_rfl) (by intro _ _ _ h; exact h) (Or.inl ⟨by rfl, ?hy⟩) (by assumption) ?_
                case hy => (intro W_ hW_; go_simp; first | done | with_reducible rfl)
                try simp only [Act.put, List.setIfInBounds_toArray, List.set_cons_zero, List.set_cons_succ]
                refine wpAnyH_take (i := 18) (v := ?_) (by simp only [List.getElem?_toArray, List.getElem?_cons_succ, List.getElem?_cons_zero]; rfl) (by kernel_rfl) (by kernel_rfl) (by kernel_rfl) (by intro _ _ _ h; exact h) (Or.inl ⟨by rfl, ?hy⟩) (by assumption) ?_
                case hy => (intro W_ hW_; go_simp; first | done | with_reducible rfl)
                try simp only [Act.put, List.setIfInBounds_toArray, List.set_cons_zero, List.set_cons_succ]
                refine wpAnyH_take (i := 19) (v := ?_) (by simp only [List.getElem?_toArray, List.getElem?_cons_succ, List.getElem?_cons_zero]; rfl) (by kernel_rfl) (by kernel_rfl) (by kernel_rfl) (by intro _ _ _ h; exact h) (Or.inl ⟨by rfl, ?hy⟩) (by assumption) ?_
                case hy => (intro W_ hW_; have f_ := (row_cells hW_.1 HLEN.out HPOS.out HMM.out p HPD.out).2.2.1; go_simp; first | done | with_reducible rfl)
                try simp only [Act.put, List.setIfInBounds_toArray, List.set_cons_zero, List.set_cons_succ]
                refine wpAnyH_take (i := 20) (v := ?_) (by simp only [List.getElem?_toArray, List.getElem?_cons_succ, List.getElem?_cons_zero]; rfl) (by kernel_rfl) (by kernel_rfl) (by kernel_rfl) (by intro _ _ _ h; exact h) (Or.inl ⟨by rfl, ?hy⟩) (by assumption) ?_
                case hy => (intro W_ hW_; go_simp; first | done | with_reducible rfl)
                try simp only [Act.put, List.setIfInBounds_toArray, List.set_cons_zero, List.set_cons_succ]
                refine wpAnyH_take (i := 21) (v := ?_) (by simp only [List.getElem?_toArray, List.getElem?_cons_succ, List.getElem?_cons_zero]; rfl) (by kernel_rfl) (by kernel_rfl) (by kernel_rfl) (by intro _ _ _ h; exact h) (Or.inl ⟨by rfl, ?hy⟩) (by assumption) ?_
                case hy => (intro W_ hW_; go_simp; first | done | with_reducible rfl)
                try simp only [Act.put, List.setIfInBounds_toArray, List.set_cons_zero, List.set_cons_succ]
                refine wpAnyH_take (i := 22) (v := ?_) (by simp only [List.getElem?_toArray, List.getElem?_cons_succ, List.getElem?_cons_zero]; rfl) (by kernel_rfl) (by kernel_rfl) (by kernel_rfl) (by intro _ _ _ h; exact h) (Or.inl ⟨by rfl, ?hy⟩) (by assumption) ?_
                case hy => (intro W_ hW_; go_simp; first | done | with_reducible rfl)
                try simp only [Act.put, List.setIfInBounds_toArray, List.set_cons_zero, List.set_cons_succ]
                refine wpAnyH_take (i := 23) (v := ?_) (by simp only [List.getElem?_toArray, List.getElem?_cons_succ, List.getElem?_cons_zero]; rfl) (by kernel_rfl) (by kernel_rfl) (by kernel_rfl) (by intro _ _ _ h; exact h) (Or.inl ⟨by rfl, ?hy⟩) (by assumption) ?_
                case hy => (intro W_ hW_; go_simp; first | done | with_reducible rfl)
                try simp only [Act.put, List.setIfInBounds_toArray, List.set_cons_zero, List.set_cons_succ]
                refine wpAnyH_take (i := 24) (v := ?_) (by simp only [List.getElem?_toArray, List.getElem?_cons_succ, List.getElem?_cons_zero]; rfl) (by kernel_rfl) (by kernel_rfl) (by kernel_rfl) (by intro _ _ _ h; exact h) (Or.inl ⟨by rfl, ?hy⟩) (by assumption) ?_
                case hy => (intro W_ hW_; go_simp; first | done | with_reducible rfl)
                try simp only [Act.put, List.setIfInBounds_toArray, List.set_cons_zero, List.set_cons_succ]
                refine wpAnyH_done (by kernel_rfl) ?_ _
                obtain ⟨x0, x1, x2, x3⟩ := row_cells hHeld.1 HLEN.out HPOS.out HMM.out p HPD.out
                go_wp2_with (first
                  | ((with_reducible refine gate_store (t := 3) (p := 64) rfl ?_); refine Kd.R_store k67 (w0 := w) w.heap.size rfl rfl 3 (.tmp 64) (.tmp 62) rfl 67 (g := g) (n := n9) (cap := c9) (m9 : Int) 2 l ⟨p.f0, p.f1, y, p.f3⟩ (.int .i64 y) [.int .i64 y] [.bool p.f0, .int .i64 p.f1, .int .i64 p.f2, .string p.f3] (fun _ => True) (fun _ => False) rfl ?hoff rfl rfl ?ht ?h1 hHeld.1 ?hz ?hi rfl ?hcc ?hj (k67_mkM _ _ _ _) (fun _ hk => hk.elim) hHeld.2 ?_; (case hoff => rfl); (case ht => kernel_rfl); (case h1 => intro q hq; rw [List.mem_singleton.1 hq]; rfl); (case hz => omega); (case hi => have := HMM.out; have := HPOS.out; omega); (case hcc => intro j u hj; exact (cells4M x0 x1 x2 x3) j u hj); (case hj => (show 2 + 1 ≤ 4; omega)); intro w4 hR2 hB2 hg2; have HP := Aside0.mk hR2; have HB9 := Aside0.mk hB2; clear hR2 hB2 hg2)
                  | fail)
                go_roundg (s.size - a8)
                case measure => have := HK.out; have := HA.out; have := HA8.out; omega
                case rel => exact ⟨.slice (some ⟨g, 0, none⟩) n9 c9, a8, l.set m9 ⟨p.f0, p.f1, y, p.f3⟩, kk, rfl, by simp, ⟨by have := HA.out; have := HLA.out; have := HA8.out; refine ⟨rfl, by omega, ?_⟩; rw [List.length_set]; omega⟩, ⟨by rw [HRS.out]; exact made_blk HRR.out HA8.out.1 HA8.out.2 HFD.out fr HFR.out, by have := HKK.out; have := HA.out; have := HA8.out; omega⟩, HF3N, HP, HB9⟩
              · have e10 : (x == fr) = false := by simpa using hne
                have e10b : (x = fr) = False := eq_false hne
                have HRS : Aside0 (l ++ [⟨true, fr, 8, ⟨#[]⟩⟩] = blockL l fr) := ⟨(blockL_off fr (by rw [HLEN.out, ← HMM.out, HPD.out, HX.out]; exact fun q => hne q.2)).symm⟩
                have HF3N : Aside0 (∀ x_ ∈ l ++ [⟨true, fr, 8, ⟨#[]⟩⟩], x_.f3.size ≤ a8) := ⟨by rw [HRS.out]; intro x_ hp; have := blockL_f3 (N := a) HF3.out x_ hp; have := HA8.out; omega⟩
                clear hne
                go_wp2_with fail
                refine wp_region_held_drew (S := (fun W => k67.R 67 W w.heap.size (fun _ => True) (.slice (some ⟨g, 0, none⟩) n9 c9) l ∧ Below w.heap.size w W)) (by kernel_rfl) ((And.intro (by first | exact Kd.R_drew HO1.out | exact HO1.out) (below_drew HB1.out))) (fun hHeld => ?_)
                refine wpAnyH_take (i := 0) (v := ?_) (by simp only [List.getElem?_toArray, List.getElem?_cons_succ, List.getElem?_cons_zero]; rfl) (by kernel_rfl) (by kernel_rfl) (by kernel_rfl) (by intro _ _ _ h; exact h) (Or.inl ⟨by rfl, ?hy⟩) (by assumption) ?_
                case hy => (intro W_ hW_; go_simp; first | done | with_reducible rfl)
                try simp only [Act.put, List.setIfInBounds_toArray, List.set_cons_zero, List.set_cons_succ]
                refine wpAnyH_take (i := 1) (v := ?_) (by simp only [List.getElem?_toArray, List.getElem?_cons_succ, List.getElem?_cons_zero]; rfl) (by kernel_rfl) (by kernel_rfl) (by kernel_rfl) (by intro _ _ _ h; exact h) (Or.inl ⟨by rfl, ?hy⟩) (by assumption) ?_
                case hy => (intro W_ hW_; go_simp; first | done | with_reducible rfl)
                try simp only [Act.put, List.setIfInBounds_toArray, List.set_cons_zero, List.set_cons_succ]
                refine wpAnyH_take (i := 2) (v := ?_) (by simp only [List.getElem?_toArray, List.getElem?_cons_succ, List.getElem?_cons_zero]; rfl) (by kernel_rfl) (by kernel_rfl) (by kernel_rfl) (by intro _ _ _ h; exact h) (Or.inl ⟨by rfl, ?hy⟩) (by assumption) ?_
                case hy => (intro W_ hW_; go_simp; first | done | with_reducible rfl)
                try simp only [Act.put, List.setIfInBounds_toArray, List.set_cons_zero, List.set_cons_succ]
                refine wpAnyH_take (i := 3) (v := ?_) (by simp only [List.getElem?_toArray, List.getElem?_cons_succ, List.getElem?_cons_zero]; rfl) (by kernel_rfl) (by kernel_rfl) (by kernel_rfl) (by intro _ _ _ h; exact h) (Or.inl ⟨by rfl, ?hy⟩) (by assumption) ?_
                case hy => (intro W_ hW_; go_simp; first | done | with_reducible rfl)
                try simp only [Act.put, List.setIfInBounds_toArray, List.set_cons_zero, List.set_cons_succ]
                refine wpAnyH_take (i := 4) (v := ?_) (by simp only [List.getElem?_toArray, List.getElem?_cons_succ, List.getElem?_cons_zero]; rfl) (by kernel_rfl) (by kernel_rfl) (by kernel_rfl) (by intro _ _ _ h; exact h) (Or.inl ⟨by rfl, ?hy⟩) (by assumption) ?_
                case hy => (intro W_ hW_; go_simp; first | done | with_reducible rfl)
                try simp only [Act.put, List.setIfInBounds_toArray, List.set_cons_zero, List.set_cons_succ]
                refine wpAnyH_take (i := 5) (v := ?_) (by simp only [List.getElem?_toArray, List.getElem?_cons_succ, List.getElem?_cons_zero]; rfl) (by kernel_rfl) (by kernel_rfl) (by kernel_rfl) (by intro _ _ _ h; exact h) (Or.inl ⟨by rfl, ?hy⟩) (by assumption) ?_
                case hy => (intro W_ hW_; go_simp; first | done | with_reducible rfl)
                try simp only [Act.put, List.setIfInBounds_toArray, List.set_cons_zero, List.set_cons_succ]
                refine wpAnyH_take (i := 6) (v := ?_) (by simp only [List.getElem?_toArray, List.getElem?_cons_succ, List.getElem?_cons_zero]; rfl) (by kernel_rfl) (by kernel_rfl) (by kernel_rfl) (by intro _ _ _ h; exact h) (Or.inl ⟨by rfl, ?hy⟩) (by assumption) ?_
                case hy => (intro W_ hW_; go_simp; first | done | with_reducible rfl)
                try simp only [Act.put, List.setIfInBounds_toArray, List.set_cons_zero, List.set_cons_succ]
                refine wpAnyH_take (i := 7) (v := ?_) (by simp only [List.getElem?_toArray, List.getElem?_cons_succ, List.getElem?_cons_zero]; rfl) (by kernel_rfl) (by kernel_rfl) (by kernel_rfl) (by intro _ _ _ h; exact h) (Or.inl ⟨by rfl, ?hy⟩) (by assumption) ?_
                case hy => (intro W_ hW_; have f_ := (row_cells hW_.1 HLEN.out HPOS.out HMM.out p HPD.out).1; go_simp; first | done | with_reducible rfl)
                try simp only [Act.put, List.setIfInBounds_toArray, List.set_cons_zero, List.set_cons_succ]
                refine wpAnyH_take (i := 8) (v := ?_) (by simp only [List.getElem?_toArray, List.getElem?_cons_succ, List.getElem?_cons_zero]; rfl) (by kernel_rfl) (by kernel_rfl) (by kernel_rfl) (by intro _ _ _ h; exact h) (Or.inl ⟨by rfl, ?hy⟩) (by assumption) ?_
                case hy => (intro W_ hW_; go_simp; first | done | with_reducible rfl)
                try simp only [Act.put, List.setIfInBounds_toArray, List.set_cons_zero, List.set_cons_succ]
                refine wpAnyH_take (i := 9) (v := ?_) (by simp only [List.getElem?_toArray, List.getElem?_cons_succ, List.getElem?_cons_zero]; rfl) (by kernel_rfl) (by kernel_rfl) (by kernel_rfl) (by intro _ _ _ h; exact h) (Or.inl ⟨by rfl, ?hy⟩) (by assumption) ?_
                case hy => (intro W_ hW_; go_simp; first | done | with_reducible rfl)
                try simp only [Act.put, List.setIfInBounds_toArray, List.set_cons_zero, List.set_cons_succ]
                refine wpAnyH_take (i := 10) (v := ?_) (by simp only [List.getElem?_toArray, List.getElem?_cons_succ, List.getElem?_cons_zero]; rfl) (by kernel_rfl) (by kernel_rfl) (by kernel_rfl) (by intro _ _ _ h; exact h) (Or.inl ⟨by rfl, ?hy⟩) (by assumption) ?_
                case hy => (intro W_ hW_; go_simp; first | done | with_reducible rfl)
                try simp only [Act.put, List.setIfInBounds_toArray, List.set_cons_zero, List.set_cons_succ]
                refine wpAnyH_take (i := 11) (v := ?_) (by simp only [List.getElem?_toArray, List.getElem?_cons_succ, List.getElem?_cons_zero]; rfl) (by kernel_rfl) (by kernel_rfl) (by kernel_rfl) (by intro _ _ _ h; exact h) (Or.inl ⟨by rfl, ?hy⟩) (by assumption) ?_
                case hy => (intro W_ hW_; go_simp; first | done | with_reducible rfl)
                try simp only [Act.put, List.setIfInBounds_toArray, List.set_cons_zero, List.set_cons_succ]
                refine wpAnyH_take (i := 12) (v := ?_) (by simp only [List.getElem?_toArray, List.getElem?_cons_succ, List.getElem?_cons_zero]; rfl) (by kernel_rfl) (by kernel_rfl) (by kernel_rfl) (by intro _ _ _ h; exact h) (Or.inl ⟨by rfl, ?hy⟩) (by assumption) ?_
                case hy => (intro W_ hW_; go_simp; first | done | with_reducible rfl)
                try simp only [Act.put, List.setIfInBounds_toArray, List.set_cons_zero, List.set_cons_succ]
                refine wpAnyH_take (i := 13) (v := ?_) (by simp only [List.getElem?_toArray, List.getElem?_cons_succ, List.getElem?_cons_zero]; rfl) (by kernel_rfl) (by kernel_rfl) (by kernel_rfl) (by intro _ _ _ h; exact h) (Or.inl ⟨by rfl, ?hy⟩) (by assumption) ?_
                case hy => (intro W_ hW_; go_simp; first | done | with_reducible rfl)
                try simp only [Act.put, List.setIfInBounds_toArray, List.set_cons_zero, List.set_cons_succ]
                refine wpAnyH_take (i := 14) (v := ?_) (by simp only [List.getElem?_toArray, List.getElem?_cons_succ, List.getElem?_cons_zero]; rfl) (by kernel_rfl) (by kernel_rfl) (by kernel_rfl) (by intro _ _ _ h; exact h) (Or.inl ⟨by rfl, ?hy⟩) (by assumption) ?_
                case hy => (intro W_ hW_; have f_ := (row_cells hW_.1 HLEN.out HPOS.out HMM.out p HPD.out).2.1; go_simp; first | done | with_reducible rfl)
                try simp only [Act.put, List.setIfInBounds_toArray, List.set_cons_zero, List.set_cons_succ]
                refine wpAnyH_take (i := 15) (v := ?_) (by simp only [List.getElem?_toArray, List.getElem?_cons_succ, List.getElem?_cons_zero]; rfl) (by kernel_rfl) (by kernel_rfl) (by kernel_rfl) (by intro _ _ _ h; exact h) (Or.inl ⟨by rfl, ?hy⟩) (by assumption) ?_
                case hy => (intro W_ hW_; go_simp; first | done | with_reducible rfl)
                try simp only [Act.put, List.setIfInBounds_toArray, List.set_cons_zero, List.set_cons_succ]
                refine wpAnyH_take (i := 16) (v := ?_) (by simp only [List.getElem?_toArray, List.getElem?_cons_succ, List.getElem?_cons_zero]; rfl) (by kernel_rfl) (by kernel_rfl) (by kernel_rfl) (by intro _ _ _ h; exact h) (Or.inl ⟨by rfl, ?hy⟩) (by assumption) ?_
                case hy => (intro W_ hW_; go_simp; first | done | with_reducible rfl)
                try simp only [Act.put, List.setIfInBounds_toArray, List.set_cons_zero, List.set_cons_succ]
                refine wpAnyH_take (i := 17) (v := ?_) (by simp only [List.getElem?_toArray, List.getElem?_cons_succ, List.getElem?_cons_zero]; rfl) (by kernel_rfl) (by kernel_rfl) (by kernel_rfl) (by intro _ _ _ h; exact h) (Or.inl ⟨by rfl, ?hy⟩) (by assumption) ?_
                case hy => (intro W_ hW_; go_simp; first | done | with_reducible rfl)
                try simp only [Act.put, List.setIfInBounds_toArray, List.set_cons_zero, List.set_cons_succ]
                refine wpAnyH_take (i := 18) (v := ?_) (by simp only [List.getElem?_toArray, List.getElem?_cons_succ, List.getElem?_cons_zero]; rfl) (by kernel_rfl) (by kernel_rfl) (by kernel_rfl) (by intro _ _ _ h; exact h) (Or.inl ⟨by rfl, ?hy⟩) (by assumption) ?_
                case hy => (intro W_ hW_; go_simp; first | done | with_reducible rfl)
                try simp only [Act.put, List.setIfInBounds_toArray, List.set_cons_zero, List.set_cons_succ]
                refine wpAnyH_take (i := 19) (v := ?_) (by simp only [List.getElem?_toArray, List.getElem?_cons_succ, List.getElem?_cons_zero]; rfl) (by kernel_rfl) (by kernel_rfl) (by kernel_rfl) (by intro _ _ _ h; exact h) (Or.inl ⟨by rfl, ?hy⟩) (by assumption) ?_
                case hy => (intro W_ hW_; have f_ := (row_cells hW_.1 HLEN.out HPOS.out HMM.out p HPD.out).2.2.1; go_simp; first | done | with_reducible rfl)
                try simp only [Act.put, List.setIfInBounds_toArray, List.set_cons_zero, List.set_cons_succ]
                refine wpAnyH_take (i := 20) (v := ?_) (by simp only [List.getElem?_toArray, List.getElem?_cons_succ, List.getElem?_cons_zero]; rfl) (by kernel_rfl) (by kernel_rfl) (by kernel_rfl) (by intro _ _ _ h; exact h) (Or.inl ⟨by rfl, ?hy⟩) (by assumption) ?_
                case hy => (intro W_ hW_; go_simp; first | done | with_reducible rfl)
                try simp only [Act.put, List.setIfInBounds_toArray, List.set_cons_zero, List.set_cons_succ]
                refine wpAnyH_take (i := 21) (v := ?_) (by simp only [List.getElem?_toArray, List.getElem?_cons_succ, List.getElem?_cons_zero]; rfl) (by kernel_rfl) (by kernel_rfl) (by kernel_rfl) (by intro _ _ _ h; exact h) (Or.inl ⟨by rfl, ?hy⟩) (by assumption) ?_
                case hy => (intro W_ hW_; go_simp; first | done | with_reducible rfl)
                try simp only [Act.put, List.setIfInBounds_toArray, List.set_cons_zero, List.set_cons_succ]
                refine wpAnyH_take (i := 22) (v := ?_) (by simp only [List.getElem?_toArray, List.getElem?_cons_succ, List.getElem?_cons_zero]; rfl) (by kernel_rfl) (by kernel_rfl) (by kernel_rfl) (by intro _ _ _ h; exact h) (Or.inl ⟨by rfl, ?hy⟩) (by assumption) ?_
                case hy => (intro W_ hW_; go_simp; first | done | with_reducible rfl)
                try simp only [Act.put, List.setIfInBounds_toArray, List.set_cons_zero, List.set_cons_succ]
                refine wpAnyH_take (i := 23) (v := ?_) (by simp only [List.getElem?_toArray, List.getElem?_cons_succ, List.getElem?_cons_zero]; rfl) (by kernel_rfl) (by kernel_rfl) (by kernel_rfl) (by intro _ _ _ h; exact h) (Or.inl ⟨by rfl, ?hy⟩) (by assumption) ?_
                case hy => (intro W_ hW_; go_simp; first | done | with_reducible rfl)
                try simp only [Act.put, List.setIfInBounds_toArray, List.set_cons_zero, List.set_cons_succ]
                refine wpAnyH_take (i := 24) (v := ?_) (by simp only [List.getElem?_toArray, List.getElem?_cons_succ, List.getElem?_cons_zero]; rfl) (by kernel_rfl) (by kernel_rfl) (by kernel_rfl) (by intro _ _ _ h; exact h) (Or.inl ⟨by rfl, ?hy⟩) (by assumption) ?_
                case hy => (intro W_ hW_; go_simp; first | done | with_reducible rfl)
                try simp only [Act.put, List.setIfInBounds_toArray, List.set_cons_zero, List.set_cons_succ]
                refine wpAnyH_done (by kernel_rfl) ?_ _
                go_wp2_with (first
                  | ((with_reducible refine gate_builtin (b := .append) (xs := #[.tmp 65, .tmp 69]) rfl ?_); at_builtin; refine Kd.R_append k67 (w0 := w) w.heap.size rfl _ _ 55 67 (.agg #[(.bool false), (.int .i64 0), (.int .i64 0), (.string ⟨#[]⟩)]) 40 rfl Try.underlying55 info67 rfl (by decide) (by omega) (.slice (some ⟨g, 0, none⟩) n9 c9) l (⟨true, fr, 8, ⟨#[]⟩⟩ : S67) [.bool true, .int .i64 fr, .int .i64 8, .string ⟨#[]⟩] (fun _ => True) (fun _ => False) rfl (by first | (go_simp; done) | (go_simp; rfl)) (k67_mkM _ _ _ (⟨true, fr, 8, ⟨#[]⟩⟩ : S67)) (fun _ hk => hk.elim) (fun _ _ => trivial) hHeld.1 hHeld.2 (below_size hHeld.2) (by have := HLA.out; have := HSZ.out; have := HA.out; omega) ?_; intro v2 w4 hR2 hB2 hg2 hat2; have HP := Aside0.mk hR2; have HB9 := Aside0.mk hB2; clear hR2 hB2 hg2 hat2)
                  | fail)
                go_roundg (s.size - a8)
                case measure => have := HK.out; have := HA.out; have := HA8.out; omega
                case rel => exact ⟨v2, a8, l ++ [⟨true, fr, 8, ⟨#[]⟩⟩], kk, rfl, by simp, ⟨by have := HA.out; have := HLA.out; have := HA8.out; refine ⟨rfl, by omega, ?_⟩; rw [List.length_append]; simp; omega⟩, ⟨by rw [HRS.out]; exact made_blk HRR.out HA8.out.1 HA8.out.2 HFD.out fr HFR.out, by have := HKK.out; have := HA.out; have := HA8.out; omega⟩, HF3N, HP, HB9⟩
      · have f1 : decide ((a8 : Int) ≤ (s.size : Int)) = false := decide_eq_false (by omega)
        have f2 : decide (a8 ≤ s.size) = false := decide_eq_false h8
        have HFD : Aside0 (findOf sig (headB (s.extract a s.size)) = -1) := ⟨find_short sig _ (by simp only [ByteArray.size_extract]; omega)⟩
        have HO1 := HO
        have HB1 := HB
        clear ha ha8 ha1 hq1 h8
        rcases Nat.eq_zero_or_pos l.length with hl0 | hl0
        · have HRS : Aside0 (l ++ [⟨false, 0, 0, q1⟩] = litL l q1) := ⟨(litL_empty hl0 q1).symm⟩
          have HF3N : Aside0 (∀ x_ ∈ l ++ [⟨false, 0, 0, q1⟩], x_.f3.size ≤ a1) := ⟨by rw [HRS.out]; intro x_ hp; have := litL_f3 (N := a) HF3.out x_ hp; have := HA1.out; have := HQS.out; omega⟩
          have hv0 := Kd.R_slice HO1.out
          obtain ⟨A9, c9, hv⟩ := hv0
          have w9 : IntKind.i64.wrap (((l.length : Nat) : Int) - 1) = -1 := by rw [hl0]; rfl
          clear hl0
          subst hv
          go_wp2_with (first
            | ((with_reducible refine gate_builtin (b := .append) (xs := #[.tmp 98, .tmp 105]) rfl ?_); at_builtin; refine Kd.R_append k67 (w0 := w) w.heap.size rfl _ _ 55 67 (.agg #[(.bool false), (.int .i64 0), (.int .i64 0), (.string ⟨#[]⟩)]) 40 rfl Try.underlying55 info67 rfl (by decide) (by omega) (.slice A9 l.length c9) l (⟨false, 0, 0, q1⟩ : S67) [.bool false, .int .i64 0, .int .i64 0, .string q1] (fun _ => True) (fun _ => False) rfl (by first | (go_simp; done) | (go_simp; rfl)) (k67_mkM _ _ _ (⟨false, 0, 0, q1⟩ : S67)) (fun _ hk => hk.elim) (fun _ _ => trivial) HO1.out HB1.out (below_size HB1.out) (by have := HLA.out; have := HSZ.out; have := HA.out; omega) ?_; intro v2 w4 hR2 hB2 hg2 hat2; have HP := Aside0.mk hR2; have HB9 := Aside0.mk hB2; clear hR2 hB2 hg2 hat2)
            | fail)
          go_roundg (s.size - a1)
          case measure => have := HK.out; have := HA.out; have := HA1.out; omega
          case rel => exact ⟨v2, a1, l ++ [⟨false, 0, 0, q1⟩], kk, rfl, by simp, ⟨by have := HA.out; have := HLA.out; have := HA1.out; refine ⟨rfl, by omega, ?_⟩; rw [List.length_append]; simp; omega⟩, ⟨by rw [HRS.out]; exact (by have h_ := made_lit HRR.out HA1.out.1 HA1.out.2 HFD.out; rw [← HQ1.out] at h_; exact h_), by have := HKK.out; have := HA.out; have := HA1.out; omega⟩, HF3N, HP, HB9⟩
        · obtain ⟨p, hpd⟩ : ∃ p, l.getD (l.length - 1) z67 = p := ⟨_, rfl⟩
          obtain ⟨g, c9, hv, _⟩ := row_last HO1.out hl0 p hpd
          obtain ⟨n9, hn9⟩ : ∃ n9, l.length = n9 := ⟨_, rfl⟩
          obtain ⟨m9, hm9⟩ : ∃ m9, m9 = n9 - 1 := ⟨_, rfl⟩
          rw [hn9] at hv hpd hl0
          rw [← hm9] at hpd
          have HLEN := Aside0.mk hn9
          have HPOS := Aside0.mk hl0
          have HMM := Aside0.mk hm9
          have HPD := Aside0.mk hpd
          have HV := Aside0.mk hv
          have w9 : IntKind.i64.wrap ((n9 : Int) - 1) = (m9 : Int) := by have := HLA.out; have := HA.out; have := HSZ.out; rw [wrap_ok _ (by omega) (by omega)]; omega
          have e9 : decide ((m9 : Int) ≥ 0) = true := decide_eq_true (by omega)
          have e9b : (0 ≤ (m9 : Int)) = True := by simp
          have e9c : ((m9 : Int) < (n9 : Int)) = True := eq_true (by omega)
          clear hl0 hm9
          obtain ⟨fb, hpf⟩ : ∃ b, p.f0 = b := ⟨_, rfl⟩
          have HPF := Aside0.mk hpf
          have HO2 := HO1
          rw [hv] at HO2
          subst hv
          clear HV hpd hn9
          obtain ⟨x0, x1, x2, x3⟩ := row_cells HO2.out HLEN.out HPOS.out HMM.out p HPD.out
          rw [HPF.out] at x0
          cases fb
          · have HRS : Aside0 (l.set m9 ⟨p.f0, p.f1, p.f2, p.f3 ++ q1⟩ = litL l q1) := ⟨by rw [litL_on q1 (by rw [HLEN.out]; exact HPOS.out) p (by rw [HLEN.out, ← HMM.out, HPD.out]) HPF.out, HLEN.out, ← HMM.out]⟩
            have HF3N : Aside0 (∀ x_ ∈ l.set m9 ⟨p.f0, p.f1, p.f2, p.f3 ++ q1⟩, x_.f3.size ≤ a1) := ⟨by rw [HRS.out]; intro x_ hp; have := litL_f3 (N := a) HF3.out x_ hp; have := HA1.out; have := HQS.out; omega⟩
            have hps : p.f3.size ≤ 1000000000 := by have := HF3.out p (by rw [← HPD.out, List.getD_eq_getElem?_getD, List.getElem?_eq_getElem (by have := HMM.out; have := HPOS.out; have := HLEN.out; omega)]; exact List.getElem_mem _); have := HA.out; have := HSZ.out; omega
            have hqs : q1.size ≤ 1000000000 := by have := HQS.out; omega
            have hz : p.f3.size + q1.size ≤ 9223372036854775807 := by omega
            have hz0 := eq_true hz
            have hz1 : decide (p.f3.size + q1.size ≤ 9223372036854775807) = true := decide_eq_true hz
            have hz2 : (9223372036854775807 < p.f3.size + q1.size) = False := eq_false (Nat.not_lt.2 hz)
            obtain ⟨x0d, x1d, x2d, x3d⟩ := row_cells (Kd.R_drew HO2.out) HLEN.out HPOS.out HMM.out p HPD.out
            go_wp2_with fail
            go_still_tail 15, (by kernel_rfl)
            rw [← HPF.out] at x0
            go_wp2_with (first
              | ((with_reducible refine gate_store (t := 9) (p := 97) rfl ?_); refine Kd.R_store k67 (w0 := w) w.heap.size rfl rfl 9 (.tmp 97) (.tmp 95) rfl 67 (g := g) (n := n9) (cap := c9) (m9 : Int) 3 l ⟨p.f0, p.f1, p.f2, p.f3 ++ q1⟩ (.string (p.f3 ++ q1)) [.string (p.f3 ++ q1)] [.bool p.f0, .int .i64 p.f1, .int .i64 p.f2, .string p.f3] (fun _ => True) (fun _ => False) rfl ?hoff rfl rfl ?ht ?h1 (by first | exact Kd.R_drew HO2.out | exact HO2.out) ?hz ?hi rfl ?hcc ?hj (k67_mkM _ _ _ _) (fun _ hk => hk.elim) (by first | exact below_drew HB1.out | exact HB1.out) ?_; (case hoff => rfl); (case ht => kernel_rfl); (case h1 => intro q hq; rw [List.mem_singleton.1 hq]; rfl); (case hz => omega); (case hi => have := HMM.out; have := HPOS.out; omega); (case hcc => intro j u hj; exact (cells4M x0 x1 x2 x3) j u hj); (case hj => (show 3 + 1 ≤ 4; omega)); intro w4 hR2 hB2 hg2; have HP := Aside0.mk hR2; have HB9 := Aside0.mk hB2; clear hR2 hB2 hg2)
              | fail)
            go_roundg (s.size - a1)
            case measure => have := HK.out; have := HA.out; have := HA1.out; omega
            case rel => exact ⟨.slice (some ⟨g, 0, none⟩) n9 c9, a1, l.set m9 ⟨p.f0, p.f1, p.f2, p.f3 ++ q1⟩, kk, rfl, by simp, ⟨by have := HA.out; have := HLA.out; have := HA1.out; refine ⟨rfl, by omega, ?_⟩; rw [List.length_set]; omega⟩, ⟨by rw [HRS.out]; exact (by have h_ := made_lit HRR.out HA1.out.1 HA1.out.2 HFD.out; rw [← HQ1.out] at h_; exact h_), by have := HKK.out; have := HA.out; have := HA1.out; omega⟩, HF3N, HP, HB9⟩
          · have HRS : Aside0 (l ++ [⟨false, 0, 0, q1⟩] = litL l q1) := ⟨(litL_off q1 (by rw [HLEN.out, ← HMM.out, HPD.out, HPF.out]; simp)).symm⟩
            have HF3N : Aside0 (∀ x_ ∈ l ++ [⟨false, 0, 0, q1⟩], x_.f3.size ≤ a1) := ⟨by rw [HRS.out]; intro x_ hp; have := litL_f3 (N := a) HF3.out x_ hp; have := HA1.out; have := HQS.out; omega⟩
            go_wp2_with (first
              | ((with_reducible refine gate_builtin (b := .append) (xs := #[.tmp 98, .tmp 105]) rfl ?_); at_builtin; refine Kd.R_append k67 (w0 := w) w.heap.size rfl _ _ 55 67 (.agg #[(.bool false), (.int .i64 0), (.int .i64 0), (.string ⟨#[]⟩)]) 40 rfl Try.underlying55 info67 rfl (by decide) (by omega) (.slice (some ⟨g, 0, none⟩) n9 c9) l (⟨false, 0, 0, q1⟩ : S67) [.bool false, .int .i64 0, .int .i64 0, .string q1] (fun _ => True) (fun _ => False) rfl (by first | (go_simp; done) | (go_simp; rfl)) (k67_mkM _ _ _ (⟨false, 0, 0, q1⟩ : S67)) (fun _ hk => hk.elim) (fun _ _ => trivial) HO2.out HB1.out (below_size HB1.out) (by have := HLA.out; have := HSZ.out; have := HA.out; omega) ?_; intro v2 w4 hR2 hB2 hg2 hat2; have HP := Aside0.mk hR2; have HB9 := Aside0.mk hB2; clear hR2 hB2 hg2 hat2)
              | fail)
            go_roundg (s.size - a1)
            case measure => have := HK.out; have := HA.out; have := HA1.out; omega
            case rel => exact ⟨v2, a1, l ++ [⟨false, 0, 0, q1⟩], kk, rfl, by simp, ⟨by have := HA.out; have := HLA.out; have := HA1.out; refine ⟨rfl, by omega, ?_⟩; rw [List.length_append]; simp; omega⟩, ⟨by rw [HRS.out]; exact (by have h_ := made_lit HRR.out HA1.out.1 HA1.out.2 HFD.out; rw [← HQ1.out] at h_; exact h_), by have := HKK.out; have := HA.out; have := HA1.out; omega⟩, HF3N, HP, HB9⟩
    · have e1 : decide ((a : Int) < (s.size : Int)) = false := decide_eq_false (by omega)
      have e2 : ((a : Int) < (s.size : Int)) = False := eq_false (by omega)
      have e2n : decide (a < s.size) = false := decide_eq_false ha
      have HE : Aside0 (l = R) := ⟨by rw [← HMK.out.1, makeF_end _ _ _ _ (by simp only [ByteArray.size_extract]; omega)]⟩
      clear ha
      go_wp2_with fail
      go_ret
      exact ⟨_, rfl, by rw [← HE.out]; exact HO.out, HB.out⟩
end Go.Proofs.Ytchaegfdcdlfaaa.X
