/- Texts of this claim, what it reaches -/
import Derived.Test.YtchaegfdcdlfaaaA6
set_option linter.unusedVariables false
set_option linter.unusedSimpArgs false
set_option maxRecDepth 100000
namespace Go.Proofs.Ytchaegfdcdlfaaa.X
section
open Go.RowKit Go.Proofs.YtchaegfdcdlfaaaW.PrintWords Go.Proofs.YtchaegfdcdlfaaaW.PrintLast Go.Proofs.YtchaegfdcdlfaaaW.PrintMore
attribute [local go_sem] max2_int min2_int max_two min_two max_three min_three max_four min_four
mutual
def code_sections.l0 : Nat → List Int → List (List Int) → Int → Option ((List (List Int)) × Int)
 | 0, _, _, _ => none
 | k + 1, x0, x4, x5 => if (x4.length : Int) = 0 then (code_sections.j1 k x0 x4 x5 true) else (code_sections.j1 k x0 x4 x5 (decide ((x0.length : Int) > 0)))
def code_sections.j1 : Nat → List Int → List (List Int) → Int → Bool → Option ((List (List Int)) × Int)
 | 0, _, _, _, _ => none
 | k + 1, x0, x4, x5, x17 => if x17 = true then ((section_Open.f k x0).bind fun bt642 => (if bt642.2.2.2 = 0 then (if bt642.1 = x5 then (if x4.length < 5864062014805 then (if 0 ≤ bt642.2.2.1 then (if bt642.2.2.1 ≤ (x0.length : Int) then (code_sections.l0 k (x0.drop (bt642.2.2.1 : Int).toNat) (x4 ++ [bt642.2.1]) 3) else (none)) else (none)) else (none)) else (some (([] : List (List Int)), 2))) else (some (([] : List (List Int)), bt642.2.2.2)))) else (some (x4, 0))
end
def code_sections.f (k : Nat) (l0 : List Int) : Option ((List (List Int)) × Int) := code_sections.l0 k l0 ([] : List (List Int)) 2
set_option maxHeartbeats 8000000 in
theorem code_sections.calls (k : Nat) (P0_ : Nat → Prop) (A0 : Option Addr) (c0 : Nat) (l0 : List Int) (r1 : List (List Int)) (r2 : Int) (w : World) (hs0 : Kd.V (Kd.int .u8) 5 w w.heap.size (fun k_ => P0_ k_) (.slice A0 l0.length c0) l0) (h : code_sections.f k l0 = some (r1, r2)) :
  Calls Try.prog 122 #[.slice A0 l0.length c0] w fun e w' => ∃ v0_ : Value, e = .returned (.tuple #[v0_, .int .i64 r2]) ∧ Kd.S (Kd.slice 5 (Kd.int .u8)) 40 w' w.heap.size (fun k_ => (w.heap.size ≤ k_)) v0_ r1 ∧ Below w.heap.size w w' := by
 have HO0 := am (show Kd.V (Kd.int .u8) 5 w w.heap.size (fun k_ => (P0_ k_ ∨ w.heap.size ≤ k_)) (.slice A0 l0.length c0) l0 from Kd.V_mono hs0 (fun k_ hk => .inl hk))
 have HB := am (Below.refl w.heap.size w)
 have H : (code_sections.l0 k l0 ([] : List (List Int)) 2) = some (r1, r2) := h
 clear h
 have H' := am H
 clear H
 go_enter Try.func122, Try.ntmps122
 go_wp2
 go_loopg [0, 4, 5] k (fun kq v0 v4 v5 w' => ∃ (x0_1 : List Int) (x4_1 : List (List Int)) (x5_1 : Int), v5 = .int .i64 x5_1 ∧ Aside0 (code_sections.l0 kq x0_1 x4_1 x5_1 = some (r1, r2)) ∧ Aside0 (kq ≤ k) ∧ Aside0 (Kd.V (Kd.int .u8) 5 w' w.heap.size (fun k_ => (P0_ k_ ∨ w.heap.size ≤ k_) ∧ some k_ ≠ (v4 : Value).ownBlock) v0 x0_1) ∧ Aside0 (Kd.S (Kd.slice 5 (Kd.int .u8)) 40 w' w.heap.size (fun k_ => (w.heap.size ≤ k_)) v4 x4_1) ∧ Aside0 (Below w.heap.size w w'))
 case atStart => exact ⟨(l0), (([] : List (List Int))), (2), (by first | rfl | (simp; done) | (simp [*]; done)), H', ⟨Nat.le_refl _⟩, ⟨by (with_reducible repeat (first | apply Kd.V_alloc | apply Kd.V_drewN | apply Kd.V_drew)); exact Kd.V_mono HO0.out (fun _ hk => ⟨hk, (by simp [Value.ownBlock])⟩)⟩, ⟨by first | exact Kd.S_nil _ _ _ _ _ | exact Kd.N_nil _ _ _ _ _ | exact Kd.V_nil _ _ _ _ _ | exact Kd.Q_nil _ _ _ _ _ | exact Kd.R_nil _ _ _ _ _⟩, ⟨bw HB.out⟩⟩
 case round =>
  clear H'
  try clear c1
  obtain ⟨x0_1, x4_1, x5_1, rfl, HA, HK1, HO_0, HO_4, HB⟩ := hrel
  cases gk with
  | zero => exact absurd HA.out (by simp [code_sections.l0])
  | succ k1 =>
   have H := HA.out
   clear HA
   simp only [code_sections.l0] at H
   have HC2 := am H
   clear H
   go_upto_region 3 with (fail)
   go_cut [17] (fun v17 wc => ∃ (kq : Nat) (x17_1 : Bool), v17 = .bool x17_1 ∧ Aside0 (code_sections.j1 kq x0_1 x4_1 x5_1 x17_1 = some (r1, r2)) ∧ Aside0 (kq ≤ k1) ∧ Aside0 (Kd.V (Kd.int .u8) 5 wc w.heap.size (fun k_ => (P0_ k_ ∨ w.heap.size ≤ k_) ∧ some k_ ≠ (u4 : Value).ownBlock) u0 x0_1) ∧ Aside0 (Kd.S (Kd.slice 5 (Kd.int .u8)) 40 wc w.heap.size (fun k_ => (w.heap.size ≤ k_)) u4 x4_1) ∧ Aside0 (Below w.heap.size w wc))
   case first =>
    have H := HC2.out
    clear HC2
    by_cases c3 : (x4_1.length : Int) = 0
    ·rw [if_pos c3] at H
     have c3b0 : ((x4_1.length : Int) == 0) = true := beq_iff_eq.mpr c3
     have c3b1 : ((x4_1.length : Int) != 0) = false := bne_eq_false_iff_eq.mpr c3
     clear c3
     (first | rw [c3b0] | (simp only [i64_w, i32_w]; rw [c3b0]) | skip)
     have H' := am H
     clear H
     obtain ⟨Ao4, co4, eo4⟩ := Kd.S_slice HO_4.out
     subst eo4
     go_wp2
     go_meet
     case rel => exact ⟨_, (true), (by first | rfl | (simp; done) | (simp [*]; done)), H', ⟨by have := HK1.out; first | omega | exact Nat.le_refl _⟩, ⟨by (with_reducible repeat (first | apply Kd.V_alloc | apply Kd.V_drewN | apply Kd.V_drew)); exact HO_0.out⟩, ⟨by (with_reducible repeat (first | apply Kd.S_alloc | apply Kd.S_drewN | apply Kd.S_drew)); exact HO_4.out⟩, ⟨bw HB.out⟩⟩
    ·rw [if_neg c3] at H
     have c3b0 : ((x4_1.length : Int) == 0) = false := beq_eq_false_iff_ne.mpr c3
     have c3b1 : ((x4_1.length : Int) != 0) = true := bne_iff_ne.mpr c3
     have c3b2 : ¬ (x4_1 = []) := fun h_ => c3 (by rw [h_]; rfl)
     (first | rw [c3b0] | (simp only [i64_w, i32_w]; rw [c3b0]) | skip)
     have H' := am H
     clear H
     obtain ⟨Ao5, co5, eo5⟩ := Kd.S_slice HO_4.out
     subst eo5
     obtain ⟨Ao6, co6, eo6⟩ := Kd.V_slice HO_0.out
     subst eo6
     go_wp2
     go_meet
     case rel => exact ⟨_, (decide ((x0_1.length : Int) > 0)), (by first | rfl | (simp; done) | (simp [*]; done)), H', ⟨by have := HK1.out; first | omega | exact Nat.le_refl _⟩, ⟨by (with_reducible repeat (first | apply Kd.V_alloc | apply Kd.V_drewN | apply Kd.V_drew)); exact HO_0.out⟩, ⟨by (with_reducible repeat (first | apply Kd.S_alloc | apply Kd.S_drewN | apply Kd.S_drew)); exact HO_4.out⟩, ⟨bw HB.out⟩⟩
   case rest =>
    clear HC2
    try clear c1
    try clear p2
    try clear c3
    try clear c3b0
    try clear c3b1
    try clear c3b2
    obtain ⟨kq, x17_1, rfl, HA, HJ1, HO_0, HO_4, HB⟩ := hcut
    cases kq with
    | zero => exact absurd HA.out (by simp [code_sections.j1])
    | succ kj1 =>
     have H := HA.out
     clear HA
     simp only [code_sections.j1] at H
     by_cases c7 : x17_1 = true
     ·subst c7
      have H1 : ((section_Open.f kj1 x0_1).bind fun bt642 => (if bt642.2.2.2 = 0 then (if bt642.1 = x5_1 then (if x4_1.length < 5864062014805 then (if 0 ≤ bt642.2.2.1 then (if bt642.2.2.1 ≤ (x0_1.length : Int) then (code_sections.l0 kj1 (x0_1.drop (bt642.2.2.1 : Int).toNat) (x4_1 ++ [bt642.2.1]) 3) else (none)) else (none)) else (none)) else (some (([] : List (List Int)), 2))) else (some (([] : List (List Int)), bt642.2.2.2)))) = some (r1, r2) := by rw [if_pos rfl] at H; exact H
      clear H
      have H := H1
      clear H1
      replace H := Option.bind_eq_some_iff.mp H
      obtain ⟨⟨t642, t643, t644, t645⟩, A80, H⟩ := H
      replace H : (if t645 = 0 then (if t642 = x5_1 then (if x4_1.length < 5864062014805 then (if 0 ≤ t644 then (if t644 ≤ (x0_1.length : Int) then (code_sections.l0 kj1 (x0_1.drop (t644 : Int).toNat) (x4_1 ++ [t643]) 3) else (none)) else (none)) else (none)) else (some (([] : List (List Int)), 2))) else (some (([] : List (List Int)), t645))) = some (r1, r2) := H
      have A8 := am A80
      clear A80
      by_cases c9 : t645 = 0
      ·rw [if_pos c9] at H
       have c9b0 : (t645 == 0) = true := beq_iff_eq.mpr c9
       have c9b1 : (t645 != 0) = false := bne_eq_false_iff_eq.mpr c9
       clear c9
       by_cases c10 : t642 = x5_1
       ·rw [if_pos c10] at H
        have c10b0 : (t642 == x5_1) = true := beq_iff_eq.mpr c10
        have c10b1 : (t642 != x5_1) = false := bne_eq_false_iff_eq.mpr c10
        clear c10
        by_cases c11 : x4_1.length < 5864062014805
        ·rw [if_pos c11] at H
         have LMc11 := am c11
         clear c11
         obtain ⟨y648, hy648⟩ : ∃ y_ : List (List Int), y_ = (x4_1 ++ [t643]) := ⟨_, rfl⟩
         replace H : (if 0 ≤ t644 then (if t644 ≤ (x0_1.length : Int) then (code_sections.l0 kj1 (x0_1.drop (t644 : Int).toNat) y648 3) else (none)) else (none)) = some (r1, r2) := by first | (rw [hy648]; with_reducible exact H) | (have H2_ := (Option.bind_some _ _).symm.trans H; rw [hy648]; with_reducible exact H2_) | (have H2_ := (Option.bind_some _ _).symm.trans H; with_reducible exact H2_) | with_reducible exact H | (rw [hy648]; exact H) | exact H
         have Ny648 := am hy648
         clear hy648
         by_cases c12 : 0 ≤ t644
         ·rw [if_pos c12] at H
          have c12b0 := eq_true c12
          have c12b1 : decide (0 ≤ t644) = true := decide_eq_true c12
          clear c12
          by_cases c13 : t644 ≤ (x0_1.length : Int)
          ·rw [if_pos c13] at H
           have c13b0 := eq_true c13
           have c13b1 : decide (t644 ≤ (x0_1.length : Int)) = true := decide_eq_true c13
           clear c13
           obtain ⟨y651, hy651⟩ : ∃ y_ : List Int, y_ = (x0_1.drop (t644 : Int).toNat) := ⟨_, rfl⟩
           replace H : (code_sections.l0 kj1 y651 y648 3) = some (r1, r2) := by first | (rw [hy651]; with_reducible exact H) | (have H2_ := (Option.bind_some _ _).symm.trans H; rw [hy651]; with_reducible exact H2_) | (have H2_ := (Option.bind_some _ _).symm.trans H; with_reducible exact H2_) | with_reducible exact H | (rw [hy651]; exact H) | exact H
           have Ny651 := am hy651
           clear hy651
           have H' := am H
           clear H
           obtain ⟨Ao14, co14, eo14⟩ := Kd.V_slice HO_0.out
           subst eo14
           go_wp2_with (first | ((with_reducible refine gate_callee (f := 44) rfl ?_); refine goesL_ (some 20) rfl rfl Try.func44 (by kernel_rfl) rfl #[.slice Ao14 x0_1.length co14] rfl (by (try simp only [List.map_toArray, List.map_cons, List.map_nil]); first | done | rfl | (simp only [List.length_drop, List.length_take]; rfl)) ?_; (with_reducible refine (section_Open.calls kj1 _ _ x0_1 t642 t643 t644 t645 _ ?side1 ?side2 A8.out).mono ?_); (case side1 => repeat (first | exact (Kd.V_reads' HO_0.out).2.2 | (with_reducible refine Kd.C_alloc ?_ _) | (with_reducible refine Kd.C_drewN ?_ _) | (with_reducible refine Kd.C_drew ?_))); (case side2 => exact (Kd.V_reads' HO_0.out).2.1); rintro e w15 ⟨v646, rfl, ho0, hb⟩; refine ⟨_, rfl, ?_⟩; have n0_ := am (Kd.V_elder' (by (with_reducible repeat (first | apply Kd.V_alloc | apply Kd.V_drewN | apply Kd.V_drew)); exact HO_0.out) (Kd.R_base ho0) hb); have n1_ := am (Kd.S_elder' (by (with_reducible repeat (first | apply Kd.S_alloc | apply Kd.S_drewN | apply Kd.S_drew)); exact HO_4.out) (Kd.R_base ho0) hb); have n2_ := am (Kd.R_lower (Kd.R_newM (M := fun k_ => (w.heap.size ≤ k_)) ho0 (below_size (bw HB.out)) (fun k_ h_ => h_)) (below_size (bw HB.out))); have n3_ := am (below_step (bw HB.out) hb); clear HO_0; clear HO_4; clear HB; have HO_0 := n0_; have HO_4 := n1_; have HO647 := n2_; have HB := n3_; clear n0_ n1_ n2_ n3_; (try clear hb); (try clear hb2); (try clear hk); (try clear hi); (try clear ho0); obtain ⟨Ao17, co17, eo17⟩ := Kd.R_slice HO647.out; subst eo17) | ((with_reducible refine gate_builtin (b := .append) (xs := #[.tmp 33, .tmp 35]) rfl ?_); (try (refine gate_guard (by rfl) ?_; dsimp only)); at_builtin; refine Kd.S_append (Kd.slice 5 (Kd.int .u8)) (w0 := w) w.heap.size rfl (.tmp 33) (.tmp 35) 53 40 (.slice none 0 0) 24 rfl Try.underlying53 info40 rfl (by decide) (by omega) u4 x4_1 t643 [.slice Ao17 t643.length co17] (fun k_ => (w.heap.size ≤ k_)) (fun k_ => some k_ = (.slice Ao17 t643.length co17 : Value).ownBlock) rfl rfl ?aP (fun k_ hk_ => ((Kd.R_mono (ok' := fun k_ => ((fun k_ => (w.heap.size ≤ k_))) k_ ∧ some k_ ≠ (u4 : Value).ownBlock) (Kd.R_apart' (HO647.out) (Kd.S_typed HO_4.out) (by decide)) (fun k_ hk => ⟨hk.1.1, hk.2⟩))).1 k_ hk_.symm) ?aF ?aO ?aB ?aS ?aL ?_; (case aP => exact Kd.M_row (Kd.R_mono (Kd.R_tight rfl (Kd.R_mono (ok' := fun k_ => ((fun k_ => (w.heap.size ≤ k_))) k_ ∧ some k_ ≠ (u4 : Value).ownBlock) (Kd.R_apart' (HO647.out) (Kd.S_typed HO_4.out) (by decide)) (fun k_ hk => ⟨hk.1.1, hk.2⟩))) (fun _ h_ => h_))); (case aB => exact (bw HB.out)); (case aF => exact (fun k_ hk => (Nat.le_trans (below_size (bw HB.out)) hk))); (case aO => exact (by (with_reducible repeat (first | apply Kd.S_alloc | apply Kd.S_drewN | apply Kd.S_drew)); exact Kd.S_mono HO_4.out (fun k_ hk => ⟨hk.1, fun e_ => hk.2 e_⟩))); (case aS => exact (below_size (bw HB.out))); (case aL => have := LMc11.out; omega); intro v649 w16 ho hb hg hat; rw [← Ny648.out] at ho; have n0_ := am (Kd.V_afterv (ok := (fun k_ => (P0_ k_ ∨ w.heap.size ≤ k_) ∧ some k_ ≠ (.slice Ao17 t643.length co17 : Value).ownBlock)) (by (with_reducible repeat (first | apply Kd.V_alloc | apply Kd.V_drewN | apply Kd.V_drew)); exact Kd.V_mono HO_0.out (fun _ hk => ⟨⟨hk.1.1, hk.2⟩, hk.1.2⟩)) hg hat); have n1_ := am (hb); have n2_ := am (ho); clear HO_0; clear HB; clear HO_4; clear HO647; have HO_0 := n0_; have HB := n1_; have HO650 := n2_; clear n0_ n1_ n2_; clear ho hb hg hat; have q18 : (t644 : Int) ≤ ((x0_1.length : Int) : Int) := of_decide_eq_true (by first | (with_reducible assumption) | assumption); obtain ⟨i018, hi018, _, hsz18, _⟩ := info_parts info5; have hroom18 : x0_1.length ≤ co14 := (Kd.V_reads' HO_0.out).2.1; have hC18 : Kd.F (Kd.int .u8) _ _ Ao14 x0_1.length x0_1 := (Kd.V_at (base := w.heap.size) HO_0.out).2.2; have q018 : (0 : Int) ≤ (t644 : Int) := of_decide_eq_true (by first | (with_reducible assumption) | assumption); have hcut18 := cut_from (P := Try.prog) 40 5 .i64 Try.underlying40 hi018 1 hsz18 Ao14 x0_1.length co14 t644 q018 q18; have hr18 := Kd.F_cut (m := (t644 : Int).toNat) (c := co14) hC18 (by omega) hroom18; obtain ⟨A18, hA18⟩ : ∃ A1, A1 = (if co14 = (t644 : Int).toNat then Ao14 else (Ao14 : Option Addr).map (·.add ((t644 : Int).toNat * 1))) := ⟨_, rfl⟩; obtain ⟨c18, hc18⟩ : ∃ c1, c1 = co14 - (t644 : Int).toNat := ⟨_, rfl⟩; have hy18 : y651.length = x0_1.length - (t644 : Int).toNat := (by rw [Ny651.out, List.length_drop] <;> omega); rw [show (x0_1).drop (t644 : Int).toNat = y651 from Ny651.out.symm] at hr18; replace hr18 : Kd.F (Kd.int .u8) _ _ A18 y651.length y651 := (by rw [hA18]; exact hr18); rw [← hy18, ← hA18, ← hc18] at hcut18; have HO655 := am (show Kd.V (Kd.int .u8) 5 _ w.heap.size _ (.slice A18 y651.length c18) y651 from Kd.V_mk (by rw [hy18, hc18]; exact Nat.sub_le_sub_right hroom18 _) hr18); have HC655 := am (show y651.length ≤ c18 from by rw [hy18, hc18]; exact Nat.sub_le_sub_right hroom18 _); clear hr18 hC18 hroom18 hi018 hsz18 hc18; have KY18 := am hy18; have KA18 := am hA18; clear hy18 hA18; replace q18 := eq_true q18))
           go_roundg kj1
           case measure => have := HK1.out; have := HJ1.out; omega
           case rel => exact ⟨(y651), (y648), (3), (by first | rfl | (simp; done) | (simp [*]; done)), H', ⟨by have := HK1.out; have := HJ1.out; omega⟩, ⟨by (with_reducible repeat (first | apply Kd.V_alloc | apply Kd.V_drewN | apply Kd.V_drew)); exact Kd.V_mono HO655.out (fun _ hk => ⟨hk.1.1, hk.2⟩)⟩, ⟨by (with_reducible repeat (first | apply Kd.S_alloc | apply Kd.S_drewN | apply Kd.S_drew)); exact HO650.out⟩, ⟨bw HB.out⟩⟩
          ·rw [if_neg c13] at H
           exact absurd H (by simp)
         ·rw [if_neg c12] at H
          exact absurd H (by simp)
        ·rw [if_neg c11] at H
         exact absurd H (by simp)
       ·rw [if_neg c10] at H
        have c10b0 : (t642 == x5_1) = false := beq_eq_false_iff_ne.mpr c10
        have c10b1 : (t642 != x5_1) = true := bne_iff_ne.mpr c10
        simp only [Option.some.injEq, Prod.mk.injEq] at H
        obtain ⟨rfl, rfl⟩ := H
        obtain ⟨Ao19, co19, eo19⟩ := Kd.V_slice HO_0.out
        subst eo19
        go_wp2_with (first | ((with_reducible refine gate_callee (f := 44) rfl ?_); refine goesL_ (some 20) rfl rfl Try.func44 (by kernel_rfl) rfl #[.slice Ao19 x0_1.length co19] rfl (by (try simp only [List.map_toArray, List.map_cons, List.map_nil]); first | done | rfl | (simp only [List.length_drop, List.length_take]; rfl)) ?_; (with_reducible refine (section_Open.calls kj1 _ _ x0_1 t642 t643 t644 t645 _ ?side1 ?side2 A8.out).mono ?_); (case side1 => repeat (first | exact (Kd.V_reads' HO_0.out).2.2 | (with_reducible refine Kd.C_alloc ?_ _) | (with_reducible refine Kd.C_drewN ?_ _) | (with_reducible refine Kd.C_drew ?_))); (case side2 => exact (Kd.V_reads' HO_0.out).2.1); rintro e w20 ⟨v646, rfl, ho0, hb⟩; refine ⟨_, rfl, ?_⟩; have n0_ := am (Kd.V_elder' (by (with_reducible repeat (first | apply Kd.V_alloc | apply Kd.V_drewN | apply Kd.V_drew)); exact HO_0.out) (Kd.R_base ho0) hb); have n1_ := am (Kd.S_elder' (by (with_reducible repeat (first | apply Kd.S_alloc | apply Kd.S_drewN | apply Kd.S_drew)); exact HO_4.out) (Kd.R_base ho0) hb); have n2_ := am (Kd.R_lower (Kd.R_newM (M := fun k_ => (w.heap.size ≤ k_)) ho0 (below_size (bw HB.out)) (fun k_ h_ => h_)) (below_size (bw HB.out))); have n3_ := am (below_step (bw HB.out) hb); clear HO_0; clear HO_4; clear HB; have HO_0 := n0_; have HO_4 := n1_; have HO647 := n2_; have HB := n3_; clear n0_ n1_ n2_ n3_; (try clear hb); (try clear hb2); (try clear hk); (try clear hi); (try clear ho0)))
        go_ret2
        exact ⟨_, by first | rfl | (simp [errW_none, errW_some] <;> rfl) | (simp [*, errW_none, errW_some] <;> rfl), by first | exact Kd.S_nil _ _ _ _ _ | exact Kd.N_nil _ _ _ _ _ | exact Kd.V_nil _ _ _ _ _ | exact Kd.Q_nil _ _ _ _ _ | exact Kd.R_nil _ _ _ _ _, bw HB.out⟩
      ·rw [if_neg c9] at H
       have c9b0 : (t645 == 0) = false := beq_eq_false_iff_ne.mpr c9
       have c9b1 : (t645 != 0) = true := bne_iff_ne.mpr c9
       simp only [Option.some.injEq, Prod.mk.injEq] at H
       obtain ⟨rfl, rfl⟩ := H
       obtain ⟨Ao21, co21, eo21⟩ := Kd.V_slice HO_0.out
       subst eo21
       go_wp2_with (first | ((with_reducible refine gate_callee (f := 44) rfl ?_); refine goesL_ (some 20) rfl rfl Try.func44 (by kernel_rfl) rfl #[.slice Ao21 x0_1.length co21] rfl (by (try simp only [List.map_toArray, List.map_cons, List.map_nil]); first | done | rfl | (simp only [List.length_drop, List.length_take]; rfl)) ?_; (with_reducible refine (section_Open.calls kj1 _ _ x0_1 t642 t643 t644 t645 _ ?side1 ?side2 A8.out).mono ?_); (case side1 => repeat (first | exact (Kd.V_reads' HO_0.out).2.2 | (with_reducible refine Kd.C_alloc ?_ _) | (with_reducible refine Kd.C_drewN ?_ _) | (with_reducible refine Kd.C_drew ?_))); (case side2 => exact (Kd.V_reads' HO_0.out).2.1); rintro e w22 ⟨v646, rfl, ho0, hb⟩; refine ⟨_, rfl, ?_⟩; have n0_ := am (Kd.V_elder' (by (with_reducible repeat (first | apply Kd.V_alloc | apply Kd.V_drewN | apply Kd.V_drew)); exact HO_0.out) (Kd.R_base ho0) hb); have n1_ := am (Kd.S_elder' (by (with_reducible repeat (first | apply Kd.S_alloc | apply Kd.S_drewN | apply Kd.S_drew)); exact HO_4.out) (Kd.R_base ho0) hb); have n2_ := am (Kd.R_lower (Kd.R_newM (M := fun k_ => (w.heap.size ≤ k_)) ho0 (below_size (bw HB.out)) (fun k_ h_ => h_)) (below_size (bw HB.out))); have n3_ := am (below_step (bw HB.out) hb); clear HO_0; clear HO_4; clear HB; have HO_0 := n0_; have HO_4 := n1_; have HO647 := n2_; have HB := n3_; clear n0_ n1_ n2_ n3_; (try clear hb); (try clear hb2); (try clear hk); (try clear hi); (try clear ho0)))
       go_ret2
       exact ⟨_, by first | rfl | (simp [errW_none, errW_some] <;> rfl) | (simp [*, errW_none, errW_some] <;> rfl), by first | exact Kd.S_nil _ _ _ _ _ | exact Kd.N_nil _ _ _ _ _ | exact Kd.V_nil _ _ _ _ _ | exact Kd.Q_nil _ _ _ _ _ | exact Kd.R_nil _ _ _ _ _, bw HB.out⟩
     ·replace c7 := Bool.eq_false_iff.mpr c7
      subst c7
      have H1 : (some (x4_1, 0)) = some (r1, r2) := by rw [if_neg (show ¬ (false = true) by decide)] at H; exact H
      clear H
      have H := H1
      clear H1
      simp only [Option.some.injEq, Prod.mk.injEq] at H
      obtain ⟨rfl, rfl⟩ := H
      go_wp2
      go_ret2
      exact ⟨_, by first | rfl | (simp [errW_none, errW_some] <;> rfl) | (simp [*, errW_none, errW_some] <;> rfl), by (with_reducible repeat (first | apply Kd.S_alloc | apply Kd.S_drewN | apply Kd.S_drew)); exact HO_4.out, bw HB.out⟩
end
section
open Go.RowKit Go.Proofs.YtchaegfdcdlfaaaW.PrintWords Go.Proofs.YtchaegfdcdlfaaaW.PrintLast Go.Proofs.YtchaegfdcdlfaaaW.PrintMore
open Go.Proofs.Ytchaegfdcdlfaaa.Y (Bytes RdB put put_length)
def wantOf (acc : List (List Int)) : Int := if acc.length = 0 then 2 else 3
theorem open_used {b : List Int} (hb : Bytes b) (hl : b.length ≤ 1000000) (h : (openL b).2.2.2 = 0) : ∃ u : Nat, (openL b).2.2.1 = (u : Int) ∧ u ≤ b.length ∧ 6 ≤ u := by
 rcases open_back hb (by omega) with ⟨k, hk, ho⟩ | ⟨a, body, rest, _, _, _, _, he, ho⟩
 ·rw [ho] at h
  exact absurd h hk
 ·have hpl := packL_length a body
  have hpp := Y.put_length_pos body.length
  refine ⟨(packL a body).length, by rw [ho], ?_, by omega⟩
  have := congrArg List.length he
  rw [List.length_append] at this
  omega
theorem secs_l0 : ∀ (d : Nat) (b : List Int) (acc : List (List Int)) (k : Nat), Bytes b → b.length ≤ 1000000 → b.length < d → acc.length + b.length ≤ 1000000 → 2 * d + 2 < k →
  code_sections.l0 k b acc (wantOf acc) = some (sectL d acc b)
 | 0, b, acc, k, _, _, hd, _, _ => absurd hd (Nat.not_lt_zero _)
 | d + 1, b, acc, k, hb, hl, hd, ha, hk => by
  obtain ⟨k, rfl⟩ : ∃ j, k = j + 2 := ⟨k - 2, by omega⟩
  have hj : ∀ c : Bool, c = decide (acc.length = 0 ∨ 0 < b.length) → code_sections.j1 (k + 1) b acc (wantOf acc) c = some (sectL (d + 1) acc b) := fun c hc => by
   rw [code_sections.j1]
   unfold sectL
   by_cases h0 : acc.length = 0 ∨ 0 < b.length
   ·rw [hc, decide_eq_true h0, if_pos rfl, if_pos h0, Open_eq k hb (by omega)]
    show (if (openL b).2.2.2 = 0 then _ else _) = _
    by_cases h1 : (openL b).2.2.2 = 0
    ·rw [if_pos h1, if_neg (show ¬ ((openL b).2.2.2 ≠ 0) from fun h => h h1)]
     by_cases h2 : (openL b).1 = wantOf acc
     ·obtain ⟨u, hu, hul, hu6⟩ := open_used hb hl h1
      rw [if_pos h2, if_neg (show ¬ ((openL b).1 ≠ (if acc.length = 0 then 2 else 3)) from fun h => h h2), if_pos (by omega), hu, if_pos (by omega), if_pos (by omega), Int.toNat_natCast]
      have e : wantOf (acc ++ [(openL b).2.1]) = 3 := by unfold wantOf; rw [if_neg (by simp)]
      have := secs_l0 d (b.drop u) (acc ++ [(openL b).2.1]) k (by_drop hb u) (by rw [List.length_drop]; omega) (by rw [List.length_drop]; omega) (by rw [List.length_append, List.length_drop]; simp only [List.length_cons, List.length_nil]; omega) (by omega)
      rw [e] at this
      exact this
     ·rw [if_neg h2, if_pos (show (openL b).1 ≠ (if acc.length = 0 then 2 else 3) from h2)]
    ·rw [if_neg h1, if_pos (show (openL b).2.2.2 ≠ 0 from h1)]
   ·rw [hc, decide_eq_false h0, if_neg (by simp), if_neg h0]
  rw [code_sections.l0]
  by_cases h0 : (acc.length : Int) = 0
  ·rw [if_pos h0]
   exact hj true (by rw [decide_eq_true (.inl (by omega))])
  ·rw [if_neg h0]
   refine hj _ ?_
   by_cases h1 : 0 < b.length
   ·rw [decide_eq_true (show (b.length : Int) > 0 by omega), decide_eq_true (.inr h1)]
   ·rw [decide_eq_false (show ¬ (b.length : Int) > 0 by omega), decide_eq_false (by omega)]
theorem Secs_eq {b : List Int} (hb : Bytes b) (hl : b.length ≤ 1000000) (k : Nat) (hk : 2 * b.length + 6 < k) : code_sections.f k b = some (secs b) := by
 unfold code_sections.f secs
 exact secs_l0 (b.length + 1) b [] k hb hl (by omega) (by simp; omega) (by omega)
theorem secs_call (A : Option Addr) (c : Nat) (b : List Int) (w : World) (hr : RdB w A b.length b) (hc : b.length ≤ c) (hb : Bytes b) (hl : b.length ≤ 1000000) :
  Calls Try.prog 122 #[.slice A b.length c] w fun e w' => (∃ A2 c2, e = .returned (.tuple #[.slice A2 (secs b).1.length c2, .int .i64 (secs b).2]) ∧ (secs b).1.length ≤ c2 ∧ Kd.C (Kd.slice 5 (Kd.int .u8)) w' A2 (secs b).1.length (secs b).1) ∧ Below w.heap.size w w' := by
 refine (code_sections.calls (2 * b.length + 7) (fun _ => True) A c b (secs b).1 (secs b).2 w (V_of_C hr hc) (Secs_eq hb hl _ (by omega))).mono ?_
 rintro e w' ⟨v, rfl, hS, hB⟩
 obtain ⟨A2, c2, rfl, hc2, hC⟩ := Kd.S_reads hS
 exact ⟨⟨A2, c2, rfl, hc2, hC⟩, hB⟩
end
section
open Go.RowKit Go.Proofs.YtchaegfdcdlfaaaW.PrintWords Go.Proofs.YtchaegfdcdlfaaaW.PrintLast Go.Proofs.YtchaegfdcdlfaaaW.PrintMore
attribute [local go_sem] max2_int min2_int max_two min_two max_three min_three max_four min_four
def bytes_Equal.f (l0 : List Int) (l1 : List Int) : Option (Bool) := some ((strOfNums l0).toList == (strOfNums l1).toList)
set_option maxHeartbeats 8000000 in
theorem bytes_Equal.calls (A0 : Option Addr) (c0 : Nat) (l0 : List Int) (A1 : Option Addr) (c1 : Nat) (l1 : List Int) (r : Bool) (w : World) (hr0 : Kd.C (Kd.int .u8) w A0 l0.length l0) (hc0 : l0.length ≤ c0) (hr1 : Kd.C (Kd.int .u8) w A1 l1.length l1) (hc1 : l1.length ≤ c1) (h : bytes_Equal.f l0 l1 = some r) :
  Calls Try.prog 127 #[.slice A0 l0.length c0, .slice A1 l1.length c1] w fun e w' => e = .returned (.bool r) ∧ Drawn0 w w' := by
 have HR0 := am hr0
 have HC0 := am hc0
 clear hr0 hc0
 have HR1 := am hr1
 have HC1 := am hc1
 clear hr1 hc1
 have H : (some ((strOfNums l0).toList == (strOfNums l1).toList)) = some r := h
 clear h
 obtain rfl := Option.some.inj H
 have hcv3 := Kd.C_string (P := Try.prog) (A := A0) (c := c0) Try.underlying40 Try.underlying5 Try.underlying9 HR0.out
 have hcv4 := Kd.C_string (P := Try.prog) (A := A1) (c := c1) Try.underlying40 Try.underlying5 Try.underlying9 HR1.out
 go_enter Try.func127, Try.ntmps127
 go_wp2
 go_ret
 exact ⟨by first | rfl | (simp; done) | (simp [*]; done), by repeat (first | exact Drawn0.refl _ | apply Drawn0.step)⟩
end
section
open Go.ChangeShapes Go.WideShapes Go.ChangeAt Go.RowKit Go.Deep Go.Proofs.YtchaegfdcdlfaaaW.PrintWords Go.Proofs.YtchaegfdcdlfaaaW.PrintLast Go.Proofs.YtchaegfdcdlfaaaW.PrintMore
variable {H : Type} {enc : TypeId × Value → H} {w : World} {base : Nat} {spare : Nat → Bool} {held : Bool}
def PcOk (p : S67) : Prop := (Lit.int .i64 p.f1).wf = true ∧ (Lit.int .i64 p.f2).wf = true ∧ p.f3.size ≤ maxLen
theorem trod_pc {fuel : Nat} {cs : List Value} {x : DataW H × List MemPlace} (h : DataW.trod enc Try.prog w base spare held fuel 67 cs = some x) : ∃ p : S67, cs = [.bool p.f0, .int .i64 p.f1, .int .i64 p.f2, .string p.f3] ∧ PcOk p := by
 obtain ⟨y0, y1, y2, y3, n, rfl, hl, h0, h1, h2, h3⟩ := Go.Joins.trod_struct4 Try.underlying67 h
 obtain ⟨a, ha, _⟩ := DataW.trod_bool (by kernel_rfl) h0
 obtain ⟨b, hb, _, hwb⟩ := DataW.trod_int (k := .i64) (by kernel_rfl) h1
 obtain ⟨c, hc, _, hwc⟩ := DataW.trod_int (k := .i64) (by kernel_rfl) h2
 obtain ⟨d, hd, _, hwd⟩ := DataW.trod_string (by kernel_rfl) h3
 have h4 : cs.length = 4 := by rw [hl]; kernel_rfl
 refine ⟨⟨a, b, c, d⟩, ?_, hwb, hwc, hwd⟩
 match cs, h4 with
 | [v0, v1, v2, v3], _ =>
  have ha2 : [v0] = [.bool a] := ha
  have hb2 : [v1] = [.int .i64 b] := hb
  have hc2 : [v2] = [.int .i64 c] := hc
  have hd2 : [v3] = [.string d] := hd
  simp only [List.cons.injEq, and_true] at ha2 hb2 hc2 hd2
  rw [ha2, hb2, hc2, hd2]
theorem open_pieces {A : Option Addr} {len cap : Nat} {d : DataW H} {p : List MemPlace} (h : DataW.Trod enc Try.prog w base spare held 55 (.slice A len cap) d p) :
  ∃ l : List S67, l.length = len ∧ len ≤ cap ∧ Kd.C k67 w A len l ∧ ∀ s ∈ l, PcOk s := by
 obtain ⟨fuel, hf⟩ := h
 rcases open_slice Try.underlying55 hf with ⟨hcs, _⟩ | ⟨a, l, c, m, n, D, Pl, hcs, hb, hl, hm, hmm, _, hx⟩
 ·simp [Value.cells] at hcs
  obtain ⟨rfl, rfl, rfl⟩ := hcs
  exact ⟨[], rfl, Nat.le_refl _, ⟨rfl, by omega, fun h => absurd h (by omega)⟩, fun s hs => absurd hs (by simp)⟩
 ·simp [Value.cells] at hcs
  obtain ⟨rfl, rfl, rfl⟩ := hcs
  have hlm : len ≤ m := by rw [hmm]; split <;> omega
  have h4 : Try.prog.cellsOf 67 = 4 := by kernel_rfl
  rw [h4] at hx
  haveI : Inhabited S67 := ⟨z67⟩
  obtain ⟨S, hS⟩ := choose_lt (α := S67) (n := len) (p := fun i s => PcOk s ∧ w.cells? base (a.add (i * 4)) 4 = some [.bool s.f0, .int .i64 s.f1, .int .i64 s.f2, .string s.f3]) (fun i hi => by
   obtain ⟨cs', h1, h2⟩ := hx i (by omega)
   obtain ⟨s, rfl, hs⟩ := trod_pc h2
   exact ⟨s, hs, h1⟩)
  refine ⟨(List.range len).map S, by simp, hl, ⟨by simp, by unfold maxLen at hm; omega, fun _ => ⟨a, rfl, fun j s hj => ?_⟩⟩, ?_⟩
  ·have hjl : j < len := by
    have := (List.getElem?_eq_some_iff.1 hj).1
    simpa using this
   have hs : S j = s := by simpa [hjl] using hj
   subst hs
   refine ⟨[.bool (S j).f0, .int .i64 (S j).f1, .int .i64 (S j).f2, .string (S j).f3], rfl, k67_mk w (S j), fun i u hi => ?_⟩
   obtain ⟨_, hlen, hcell⟩ := World.cells?_some (hS j hjl).2
   have hi2 : i < 4 := by
    have := (List.getElem?_eq_some_iff.1 hi).1
    simpa using this
   have := hcell i hi2
   rw [Go.Deep.add_add] at this
   have e : j * k67.sz + i = j * 4 + i := rfl
   rw [e, this, hi]
  ·intro s hs
   obtain ⟨i, hi, rfl⟩ := List.mem_map.1 hs
   exact (hS i (List.mem_range.1 hi)).1
theorem trod_struct9 {P : Program} {t : TypeId} {f0 f1 f2 f3 f4 f5 f6 f7 f8 : Field} {fuel : Nat} {cs : List Value} {x : DataW H × List MemPlace} (ht : P.underlying t = some (.struct #[f0, f1, f2, f3, f4, f5, f6, f7, f8])) (h : DataW.trod enc P w base spare held fuel t cs = some x) :
  ∃ y0 y1 y2 y3 y4 y5 y6 y7 y8 n, cs.length = P.cellsOf t ∧ DataW.trod enc P w base spare held n f0.type ((cs.drop f0.offset).take (P.cellsOf f0.type)) = some y0 ∧ DataW.trod enc P w base spare held n f1.type ((cs.drop f1.offset).take (P.cellsOf f1.type)) = some y1 ∧ DataW.trod enc P w base spare held n f2.type ((cs.drop f2.offset).take (P.cellsOf f2.type)) = some y2 ∧ DataW.trod enc P w base spare held n f3.type ((cs.drop f3.offset).take (P.cellsOf f3.type)) = some y3 ∧ DataW.trod enc P w base spare held n f4.type ((cs.drop f4.offset).take (P.cellsOf f4.type)) = some y4 ∧ DataW.trod enc P w base spare held n f5.type ((cs.drop f5.offset).take (P.cellsOf f5.type)) = some y5 ∧ DataW.trod enc P w base spare held n f6.type ((cs.drop f6.offset).take (P.cellsOf f6.type)) = some y6 ∧ DataW.trod enc P w base spare held n f7.type ((cs.drop f7.offset).take (P.cellsOf f7.type)) = some y7 ∧ DataW.trod enc P w base spare held n f8.type ((cs.drop f8.offset).take (P.cellsOf f8.type)) = some y8 := by
 obtain ⟨xs, n, _, rfl, hl, hlen, hf⟩ := DataW.trod_struct ht h
 match xs, hlen with
 | [y0, y1, y2, y3, y4, y5, y6, y7, y8], _ => exact ⟨y0, y1, y2, y3, y4, y5, y6, y7, y8, n, hl, by simpa using hf 0 f0 rfl, by simpa using hf 1 f1 rfl, by simpa using hf 2 f2 rfl, by simpa using hf 3 f3 rfl, by simpa using hf 4 f4 rfl, by simpa using hf 5 f5 rfl, by simpa using hf 6 f6 rfl, by simpa using hf 7 f7 rfl, by simpa using hf 8 f8 rfl⟩
structure OpOk (x : OpT) : Prop where
 kind : (Lit.int .i64 x.kind).wf = true
 id : x.id.length = 16 ∧ ∀ q ∈ x.id, (Lit.int .u8 q).wf = true
 n : (Lit.int .i64 x.n).wf = true
 rep : (Lit.int .i64 x.rep).wf = true
 no : (Lit.int .i64 x.no).wf = true
 v : x.v.size ≤ maxLen
 p : ∀ s ∈ x.p, PcOk s
 fro : x.fro.length = 16 ∧ ∀ q ∈ x.fro, (Lit.int .u8 q).wf = true
 fno : (Lit.int .i64 x.fno).wf = true
 d : x.d.length = 32 ∧ ∀ q ∈ x.d, (Lit.int .u8 q).wf = true
theorem OpOk.lens {x : OpT} (h : OpOk x) : x.id.length = 16 ∧ x.fro.length = 16 ∧ x.d.length = 32 := ⟨h.id.1, h.fro.1, h.d.1⟩
theorem trod_pieces {fuel : Nat} {cs : List Value} {x : DataW H × List MemPlace} (h : DataW.trod enc Try.prog w base spare held fuel 55 cs = some x) :
  ∃ (A : Option Addr) (c : Nat) (l : List S67), cs = [.slice A l.length c] ∧ l.length ≤ c ∧ Kd.C k67 w A l.length l ∧ ∀ s ∈ l, PcOk s := by
 have hs : ∃ A len cap, cs = [.slice A len cap] := by
  rcases open_slice Try.underlying55 h with ⟨hcs, _⟩ | ⟨a, l, c, m, n, D, Pl, hcs, _⟩
  ·exact ⟨_, _, _, hcs⟩
  ·exact ⟨_, _, _, hcs⟩
 obtain ⟨A, len, cap, rfl⟩ := hs
 obtain ⟨l, rfl, hc, hC, hok⟩ := open_pieces (A := A) (len := len) (cap := cap) (d := x.1) (p := x.2) ⟨fuel, h⟩
 exact ⟨A, cap, l, rfl, hc, hC, hok⟩
theorem trod_op {fuel : Nat} {cs : List Value} {x : DataW H × List MemPlace} (h : DataW.trod enc Try.prog w base spare held fuel 98 cs = some x) : ∃ (e : OpT) (A : Option Addr) (c : Nat), cs = opC e A c ∧ OpOk e ∧ e.p.length ≤ c ∧ Kd.C k67 w A e.p.length e.p := by
 obtain ⟨y0, y1, y2, y3, y4, y5, y6, y7, y8, n, hl, h0, h1, h2, h3, h4, h5, h6, h7, h8⟩ := trod_struct9 Try.underlying98 h
 rw [cellsOp] at hl
 obtain ⟨kd, e0, _, w0⟩ := DataW.trod_int (k := .i64) (by kernel_rfl) h0
 obtain ⟨id, e1, h16, w1⟩ := trod_arr8 (n := 16) (e := 5) (by kernel_rfl) Try.underlying5 cells5 (by kernel_rfl) h1
 obtain ⟨sn, sr, e2, w2, w2'⟩ := trod_stamp h2
 obtain ⟨no, e3, _, w3⟩ := DataW.trod_int (k := .i64) (by kernel_rfl) h3
 obtain ⟨v, e4, _, w4⟩ := DataW.trod_string (by kernel_rfl) h4
 obtain ⟨A, c, l, e5, hc, hC, hok⟩ := trod_pieces h5
 obtain ⟨fr, e6, f16, w6⟩ := trod_arr8 (n := 16) (e := 5) (by kernel_rfl) Try.underlying5 cells5 (by kernel_rfl) h6
 obtain ⟨fn, e7, _, w7⟩ := DataW.trod_int (k := .i64) (by kernel_rfl) h7
 obtain ⟨d, e8, d32, w8⟩ := trod_arr8 (n := 32) (e := 5) (by kernel_rfl) Try.underlying5 cells5 (by kernel_rfl) h8
 have f0 : cs.take 1 = [.int .i64 kd] := e0
 have f1 : (cs.drop 1).take 16 = nums .u8 id := e1
 have f2 : (cs.drop 17).take 2 = [.int .i64 sn, .int .i64 sr] := e2
 have f3 : (cs.drop 19).take 1 = [.int .i64 no] := e3
 have f4 : (cs.drop 20).take 1 = [.string v] := e4
 have f5 : (cs.drop 21).take 1 = [.slice A l.length c] := e5
 have f6 : (cs.drop 22).take 16 = nums .u8 fr := e6
 have f7 : (cs.drop 38).take 1 = [.int .i64 fn] := e7
 have f8 : (cs.drop 39).take 32 = nums .u8 d := e8
 refine ⟨⟨kd, id, sn, sr, no, v, l, fr, fn, d⟩, A, c, ?_, ⟨w0, ⟨h16, w1⟩, w2, w2', w3, w4, hok, ⟨f16, w6⟩, w7, ⟨d32, w8⟩⟩, hc, hC⟩
 show cs = [.int .i64 kd] ++ (nums .u8 id ++ ([.int .i64 sn, .int .i64 sr] ++ ([.int .i64 no] ++ ([.string v] ++ ([.slice A l.length c] ++ (nums .u8 fr ++ ([.int .i64 fn] ++ nums .u8 d)))))))
 have g8 : cs.drop 39 = nums .u8 d := by rw [← f8, List.take_of_length_le (by rw [List.length_drop]; omega)]
 rw [← g8, ← f7, ← f6, ← f5, ← f4, ← f3, ← f2, ← f1, ← f0]
 rw [show cs.drop 39 = (cs.drop 38).drop 1 by rw [List.drop_drop], List.take_append_drop, show cs.drop 38 = (cs.drop 22).drop 16 by rw [List.drop_drop], List.take_append_drop, show cs.drop 22 = (cs.drop 21).drop 1 by rw [List.drop_drop], List.take_append_drop,
  show cs.drop 21 = (cs.drop 20).drop 1 by rw [List.drop_drop], List.take_append_drop, show cs.drop 20 = (cs.drop 19).drop 1 by rw [List.drop_drop], List.take_append_drop, show cs.drop 19 = (cs.drop 17).drop 2 by rw [List.drop_drop], List.take_append_drop,
  show cs.drop 17 = (cs.drop 1).drop 16 by rw [List.drop_drop], List.take_append_drop, List.take_append_drop]
theorem trod_ops {fuel : Nat} {cs : List Value} {x : DataW H × List MemPlace} (h : DataW.trod enc Try.prog w base spare held fuel 92 cs = some x) :
  ∃ (A : Option Addr) (c : Nat) (l : List OpT), cs = [.slice A l.length c] ∧ l.length ≤ c ∧ Kd.C opK w A l.length l ∧ ∀ s ∈ l, OpOk s := by
 rcases open_slice Try.underlying92 h with ⟨hcs, _⟩ | ⟨a, len, c, m, n, D, Pl, hcs, hb, hl, hm, hmm, _, hx⟩
 ·exact ⟨none, 0, [], hcs, Nat.le_refl _, ⟨rfl, by simp, fun h => absurd h (by simp)⟩, fun s hs => absurd hs (by simp)⟩
 ·have hlm : len ≤ m := by rw [hmm]; split <;> omega
  rw [cellsOp] at hx
  haveI : Inhabited OpT := ⟨zOp⟩
  obtain ⟨S, hS⟩ := choose_lt (α := OpT) (n := len) (p := fun i s => (OpOk s) ∧ ∃ (B : Option Addr) (d : Nat), (s.p.length ≤ d ∧ Kd.C k67 w B s.p.length s.p) ∧ w.cells? base (a.add (i * 71)) 71 = some (opC s B d)) (fun i hi => by
   obtain ⟨cs', h1, h2⟩ := hx i (by omega)
   obtain ⟨s, B, d, rfl, hs, hd, hC⟩ := trod_op h2
   exact ⟨s, hs, B, d, ⟨hd, hC⟩, h1⟩)
  refine ⟨some a, c, (List.range len).map S, by rw [hcs]; simp, by simpa using hl, ⟨by simp, by simp only [List.length_map, List.length_range]; unfold maxLen at hm; omega, fun _ => ⟨a, rfl, fun j s hj => ?_⟩⟩, ?_⟩
  ·have hjl : j < len := by
    have := (List.getElem?_eq_some_iff.1 hj).1
    simpa using this
   have hs : S j = s := by simpa [hjl] using hj
   subst hs
   obtain ⟨hok, B, d, ⟨hd, hC⟩, hcells⟩ := hS j hjl
   have hlen : (opC (S j) B d).length = 71 := by exact opC_len hok.lens B d
   refine ⟨opC (S j) B d, hlen, opK_K.2 ⟨B, d, rfl, hok.id.1, hok.fro.1, hok.d.1, hd, hC⟩, fun i u hi => ?_⟩
   obtain ⟨_, _, hcell⟩ := World.cells?_some hcells
   have hi2 : i < 71 := by
    have := (List.getElem?_eq_some_iff.1 hi).1
    omega
   have := hcell i hi2
   rw [Go.Deep.add_add] at this
   have e : j * opK.sz + i = j * 71 + i := rfl
   rw [e, this, hi]
  ·intro s hs
   obtain ⟨i, hi, rfl⟩ := List.mem_map.1 hs
   exact (hS i (List.mem_range.1 hi)).1
theorem cellsBat : Try.prog.cellsOf 92 = 1 := by kernel_rfl
theorem trod_bats {fuel : Nat} {cs : List Value} {x : DataW H × List MemPlace} (h : DataW.trod enc Try.prog w base spare held fuel 79 cs = some x) :
  ∃ (A : Option Addr) (c : Nat) (l : List (List OpT)), cs = [.slice A l.length c] ∧ l.length ≤ c ∧ Kd.C batK w A l.length l ∧ ∀ s ∈ l, ∀ o ∈ s, OpOk o := by
 rcases open_slice Try.underlying79 h with ⟨hcs, _⟩ | ⟨a, len, c, m, n, D, Pl, hcs, hb, hl, hm, hmm, _, hx⟩
 ·exact ⟨none, 0, [], hcs, Nat.le_refl _, ⟨rfl, by simp, fun h => absurd h (by simp)⟩, fun s hs => absurd hs (by simp)⟩
 ·have hlm : len ≤ m := by rw [hmm]; split <;> omega
  rw [cellsBat] at hx
  haveI : Inhabited (List OpT) := ⟨[]⟩
  obtain ⟨S, hS⟩ := choose_lt (α := (List OpT)) (n := len) (p := fun i s => (∀ o ∈ s, OpOk o) ∧ ∃ (B : Option Addr) (d : Nat), (s.length ≤ d ∧ Kd.C opK w B s.length s) ∧ w.cells? base (a.add (i * 1)) 1 = some ([Value.slice B s.length d])) (fun i hi => by
   obtain ⟨cs', h1, h2⟩ := hx i (by omega)
   obtain ⟨B, d, s, rfl, hd, hC, hs⟩ := trod_ops h2
   exact ⟨s, hs, B, d, ⟨hd, hC⟩, h1⟩)
  refine ⟨some a, c, (List.range len).map S, by rw [hcs]; simp, by simpa using hl, ⟨by simp, by simp only [List.length_map, List.length_range]; unfold maxLen at hm; omega, fun _ => ⟨a, rfl, fun j s hj => ?_⟩⟩, ?_⟩
  ·have hjl : j < len := by
    have := (List.getElem?_eq_some_iff.1 hj).1
    simpa using this
   have hs : S j = s := by simpa [hjl] using hj
   subst hs
   obtain ⟨hok, B, d, ⟨hd, hC⟩, hcells⟩ := hS j hjl
   have hlen : ([Value.slice B (S j).length d]).length = 1 := by rfl
   refine ⟨[Value.slice B (S j).length d], hlen, batK_K.2 ⟨B, d, rfl, hd, hC⟩, fun i u hi => ?_⟩
   obtain ⟨_, _, hcell⟩ := World.cells?_some hcells
   have hi2 : i < 1 := by
    have := (List.getElem?_eq_some_iff.1 hi).1
    omega
   have := hcell i hi2
   rw [Go.Deep.add_add] at this
   have e : j * batK.sz + i = j * 1 + i := rfl
   rw [e, this, hi]
  ·intro s hs
   obtain ⟨i, hi, rfl⟩ := List.mem_map.1 hs
   exact (hS i (List.mem_range.1 hi)).1
structure PlanOk (x : PlanT) : Prop where
 base : x.base.length = 32 ∧ ∀ q ∈ x.base, (Lit.int .u8 q).wf = true
 b : ∀ s ∈ x.b, ∀ o ∈ s, OpOk o
theorem open_plan {W0 : World} {b0 : Nat} {r : Reach} {v : Value} {d : DataW H} {p : List MemPlace} (hv : Value.okWide Try.prog W0 r b0 81 v) (h : DataW.Trod enc Try.prog w base spare held 81 v d p) :
  ∃ (x : PlanT) (A : Option Addr) (c : Nat), v = .agg (planC x A c).toArray ∧ PlanOk x ∧ x.b.length ≤ c ∧ Kd.C batK w A x.b.length x.b := by
 unfold Value.okWide at hv
 rw [Try.underlying81] at hv
 obtain ⟨cs, rfl, hsz, _⟩ := hv
 obtain ⟨fuel, hf⟩ := h
 have hf2 : DataW.trod enc Try.prog w base spare held fuel 81 cs.toList = some (d, p) := hf
 obtain ⟨y0, y1, n, _, hl, h0, h1⟩ := trod_struct2 Try.underlying81 hf2
 rw [cellsPlan] at hl
 obtain ⟨q, e0, h32, w0⟩ := trod_arr8 (n := 32) (e := 5) (by kernel_rfl) Try.underlying5 cells5 (by kernel_rfl) h0
 obtain ⟨A, c, l, e1, hc, hC, hok⟩ := trod_bats h1
 have f0 : cs.toList.take 32 = nums .u8 q := e0
 have f1 : (cs.toList.drop 32).take 1 = [.slice A l.length c] := e1
 have g1 : cs.toList.drop 32 = [.slice A l.length c] := by rw [← f1, List.take_of_length_le (by rw [List.length_drop]; omega)]
 refine ⟨⟨q, l⟩, A, c, ?_, ⟨⟨h32, w0⟩, hok⟩, hc, hC⟩
 have e : cs.toList = planC ⟨q, l⟩ A c := by
  show cs.toList = nums .u8 q ++ [.slice A l.length c]
  rw [← g1, ← f0, List.take_append_drop]
 rw [← e]
theorem open_ops {A : Option Addr} {len cap : Nat} {d : DataW H} {p : List MemPlace} (h : DataW.Trod enc Try.prog w base spare held 92 (.slice A len cap) d p) :
  ∃ l : List OpT, l.length = len ∧ len ≤ cap ∧ Kd.C opK w A len l ∧ ∀ s ∈ l, OpOk s := by
 obtain ⟨fuel, hf⟩ := h
 obtain ⟨B, c, l, hcs, hc, hC, hok⟩ := trod_ops hf
 simp [Value.cells] at hcs
 obtain ⟨rfl, rfl, rfl⟩ := hcs
 exact ⟨l, rfl, hc, hC, hok⟩
end
section
open Go.RowKit Go.Proofs.YtchaegfdcdlfaaaW.PrintWords Go.Proofs.YtchaegfdcdlfaaaW.PrintLast Go.Proofs.YtchaegfdcdlfaaaW.PrintMore
open Go.Proofs.Ytchaegfdcdlfaaa.Y (Bytes put put_length put_length_pos)
def ssum {α : Type} (f : α → Nat) : List α → Nat
 | [] => 0
 | x :: l => f x + ssum f l
theorem ssum_app {α : Type} (f : α → Nat) : ∀ l m : List α, ssum f (l ++ m) = ssum f l + ssum f m
 | [], m => by show ssum f m = 0 + ssum f m; omega
 | x :: l, m => by show f x + ssum f (l ++ m) = f x + ssum f l + ssum f m; rw [ssum_app f l m]; omega
theorem ssum_one {α : Type} (f : α → Nat) (l : List α) (i : Nat) (h : i < l.length) (z x : α) (hx : l.getD i z = x) : ssum f (l.take (i + 1)) = ssum f (l.take i) + f x := by
 rw [List.getD_eq_getElem?_getD, List.getElem?_eq_getElem h] at hx
 rw [List.take_succ_eq_append_getElem h, ssum_app, show l[i] = x from hx]
 rfl
theorem ssum_take {α : Type} (f : α → Nat) (l : List α) (i : Nat) : ssum f (l.take i) ≤ ssum f l := by
 have := ssum_app f (l.take i) (l.drop i)
 rw [List.take_append_drop] at this
 omega
theorem ssum_le {α : Type} {f : α → Nat} {c : Nat} : ∀ {l : List α}, (∀ x ∈ l, f x ≤ c) → ssum f l ≤ c * l.length
 | [], _ => Nat.zero_le _
 | x :: l, h => by
  show f x + ssum f l ≤ c * (l.length + 1)
  have h1 := h x (by simp)
  have h2 := ssum_le (f := f) (l := l) (fun y hy => h y (by simp [hy]))
  rw [Nat.mul_add, Nat.mul_one]
  omega
theorem ssum_mono {α : Type} {f g : α → Nat} : ∀ {l : List α}, (∀ x ∈ l, f x ≤ g x) → ssum f l ≤ ssum g l
 | [], _ => Nat.le_refl _
 | x :: l, h => Nat.add_le_add (h x (by simp)) (ssum_mono (fun y hy => h y (by simp [hy])))
theorem allB_sum {α : Type} (B : α → List Int) : ∀ l : List α, (allB B l).length = ssum (fun x => (B x).length) l
 | [] => rfl
 | x :: l => by
  show (B x ++ allB B l).length = (B x).length + ssum _ l
  rw [List.length_append, allB_sum B l]
theorem put_one {n : Nat} (h : n < 128) : (put n).length = 1 := by
 unfold put
 rw [if_pos h]
 rfl
theorem put_two {n : Nat} (h : n < 16384) : (put n).length ≤ 2 := by
 by_cases h1 : n < 128
 ·rw [put_one h1]; decide
 ·unfold put
  rw [if_neg h1]
  unfold Y.more
  rw [if_pos (by omega)]
  simp
def dsz (v : ByteArray) : Nat := v.size + 2
def batZ (l : List OpT) : Nat := 10 + ssum (fun x => (opB x).length) l
theorem oneB_le {d : List ByteArray} (hd : d.length ≤ 16) {x : OpT} (h : OkO x) : (oneB d x).length ≤ (opB x).length := by
 unfold oneB
 split
 ·rename_i hc
  have p2 : (put (atL x.v d).toNat).length = 1 := put_one (by
   rcases atL_is x.v d with ⟨e, _⟩ | ⟨n, e, e2, _⟩ <;> rw [e] <;> omega)
  have p3 := put_length_pos x.v.size
  unfold opB tailB
  dsimp only
  rw [if_neg (by rw [hc.1]; decide), if_pos hc.1]
  unfold textB
  simp only [List.length_append, List.length_cons, List.length_nil]
  omega
 ·exact Nat.le_refl _
theorem plB_most {p : PlanT} (h : mayPl p = true) (hb : PlByt p) : (plB p).length ≤ 60 + ssum dsz (dictP p) + ssum batZ p.b := by
 have hf := mayPl_facts h
 have hd : (dictP p).length ≤ 16 := dictL_len p.b.flatten
 have hs := dictP_small h
 have t1 : (allB textB (dictP p)).length ≤ ssum dsz (dictP p) := by
  rw [allB_sum]
  refine ssum_mono fun v hv => ?_
  have := put_two (n := v.size) (by have := hs v hv; omega)
  unfold textB dsz
  rw [List.length_append, bytesOf_len]
  omega
 have t2 : ssum dsz (dictP p) ≤ 202 * (dictP p).length := ssum_le fun v hv => by have := hs v hv; unfold dsz; omega
 have h1 : (hdB p (dictP p)).length ≤ 34 + ssum dsz (dictP p) := by
  have p1 := put_one (n := (dictP p).length) (by omega)
  have p2 := put_one (n := p.b.length) (by omega)
  have := hb.base.1
  unfold hdB
  simp only [List.length_append]
  omega
 have h2 := put_two (n := (hdB p (dictP p)).length) (by omega)
 have h3 : (allB (secB (dictP p)) p.b).length ≤ ssum batZ p.b := by
  rw [allB_sum]
  refine ssum_mono fun l hl => ?_
  have q1 := put_one (n := l.length) (by have := (hf.2 l hl).2.1; omega)
  have q2 : (allB (oneB (dictP p)) l).length ≤ ssum (fun x => (opB x).length) l := by
   rw [allB_sum]
   exact ssum_mono fun x hx => oneB_le hd (mayPl_ok h hb l hl x hx)
  have q3 : (bodyB (dictP p) l).length ≤ 1 + ssum (fun x => (opB x).length) l := by
   unfold bodyB
   rw [List.length_append]
   omega
  have q4 := bodyB_len hd (hf.2 l hl).2.1 (mayPl_ok h hb l hl)
  have q5 := put_len3 (n := (bodyB (dictP p) l).length) (by omega)
  unfold secB batZ
  rw [packL_length]
  omega
 unfold plB
 rw [List.length_append, packL_length]
 omega
def cntV (t : ByteArray) (l : List OpT) : Nat := l.countP (fun y => decide (y.kind = 1) && decide (y.v = t))
theorem cntV_app (t : ByteArray) (l m : List OpT) : cntV t (l ++ m) = cntV t l + cntV t m := List.countP_append
theorem cntV_yes {t : ByteArray} {y : OpT} (h : y.kind = 1) (hv : y.v = t) : cntV t [y] = 1 := by simp [cntV, h, hv]
theorem cntV_not {t : ByteArray} {y : OpT} (h : ¬ (y.kind = 1 ∧ y.v = t)) : cntV t [y] = 0 := by
 unfold cntV
 rw [List.countP_cons, List.countP_nil, if_neg (by rw [Bool.and_eq_true, decide_eq_true_eq, decide_eq_true_eq]; exact h)]
theorem cntV_le (t : ByteArray) (l : List OpT) : cntV t l ≤ l.length := List.countP_le_length
theorem cnt_two {p : PlanT} {t : ByteArray} (h : t ∈ dictP p) : 2 ≤ cntV t p.b.flatten ∧ 4 ≤ t.size := by
 obtain ⟨h1, h2⟩ := dictL_mem h
 refine ⟨Nat.le_trans h2 ?_, ?_⟩
 ·unfold cntL svals cntV
  rw [List.countP_map, List.countP_filter]
  refine List.countP_mono_left fun y _ hy => ?_
  simp only [Function.comp, Bool.and_eq_true, decide_eq_true_eq] at hy ⊢
  exact ⟨hy.2.1, hy.1⟩
 ·obtain ⟨x, _, _, h4, rfl⟩ := svals_mem h1
  exact h4
theorem less_bound {p : PlanT} (h : mayPl p = true) (hb : PlByt p) : ssum dsz (dictP p) ≤ 3232 ∧ (∀ l ∈ p.b, batZ l ≤ 32010) ∧ ssum batZ p.b ≤ 512160 := by
 have hf := mayPl_facts h
 have hd : (dictP p).length ≤ 16 := dictL_len p.b.flatten
 have hs := dictP_small h
 have t2 : ssum dsz (dictP p) ≤ 202 * (dictP p).length := ssum_le fun v hv => by have := hs v hv; unfold dsz; omega
 have t3 : ∀ l ∈ p.b, batZ l ≤ 32010 := fun l hl => by
  have : ssum (fun x => (opB x).length) l ≤ 1600 * l.length := ssum_le fun x hx => opB_len (mayPl_ok h hb l hl x hx)
  have := (hf.2 l hl).2.1
  unfold batZ
  omega
 have t4 : ssum batZ p.b ≤ 32010 * p.b.length := ssum_le t3
 exact ⟨by omega, t3, by have := hf.1; omega⟩
end
end Go.Proofs.Ytchaegfdcdlfaaa.X
