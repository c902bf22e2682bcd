-- Printed for this session by a program of its own over an edited copy of the translation's print.
import Derived.Test.YtghafocfbamcdaaXx0
import Derived.Test.YtghafocfbamcdaaXx2
import Derived.Test.YtghafocfbamcdaaXx6
namespace Go.Proofs.Ytghafocfbamcdaa.X
open Go.RowKit Go.Proofs.YtghafocfbamcdaaW.PrintWords Go.Proofs.YtghafocfbamcdaaW.PrintLast Go.Proofs.YtghafocfbamcdaaW.PrintMore
attribute [local go_sem] max2_int min2_int max_two min_two max_three min_three max_four min_four   -- for this text's walks alone
set_option linter.unusedVariables false
set_option linter.unusedSimpArgs false

/-! ### rolodexlaw01_WireSmall: function 8 -/
mutual
def rolodexlaw01_WireSmall.l0 : Nat → Bool → List Int → Int → Int → Option (Bool)
  | 0, _, _, _, _ => none
  | k + 1, x3, x4, x5, x6 => if x6 ≥ 128 then (rolodexlaw01_WireSmall.l0 k x3 x4 (wrap64 (x5 + 1)) (IntKind.u64.wrap (Int.tdiv x6 128))) else (if x3 = true then (rolodexlaw01_WireSmall.j1 k x4 ((x4.length : Int) != x5)) else (rolodexlaw01_WireSmall.j1 k x4 true))
def rolodexlaw01_WireSmall.j1 : Nat → List Int → Bool → Option (Bool)
  | 0, _, _ => none
  | k + 1, x4, x25 => if x25 = true then (some false) else (rolodexlaw01_WireSmall.l1 k x4 0)
def rolodexlaw01_WireSmall.l1 : Nat → List Int → Int → Option (Bool)
  | 0, _, _ => none
  | k + 1, x4, x7 => if x7 < (wrap64 ((x4.length : Int) - 1)) then (if 0 ≤ x7 then (if x7 < (x4.length : Int) then (if (rd x4 x7) < 128 then (some false) else (rolodexlaw01_WireSmall.l1 k x4 (wrap64 (x7 + 1)))) else (none)) else (none)) else (if 0 ≤ (wrap64 ((x4.length : Int) - 1)) then (if (wrap64 ((x4.length : Int) - 1)) < (x4.length : Int) then (if (rd x4 (wrap64 ((x4.length : Int) - 1))) < 128 then (if (x4.length : Int) = 1 then (some true) else (if 0 < (x4.length : Int) then (some (decide ((rd x4 0) > 128))) else (none))) else (some false)) else (none)) else (none))
end
def rolodexlaw01_WireSmall.f (k : Nat) (a0 : Int) : Option (Bool) := (rolodexlaw01_awake.f k).bind fun t208 => ((wire_Put.f k a0).bind fun t209 => (rolodexlaw01_WireSmall.l0 k t208 t209 1 a0))
theorem rolodexlaw01_WireSmall.mono_l : ∀ k, (∀ y0 y1 y2 y3, LeO (rolodexlaw01_WireSmall.l0 k y0 y1 y2 y3) (rolodexlaw01_WireSmall.l0 (k + 1) y0 y1 y2 y3)) ∧ (∀ y0 y1, LeO (rolodexlaw01_WireSmall.j1 k y0 y1) (rolodexlaw01_WireSmall.j1 (k + 1) y0 y1)) ∧ (∀ y0 y1, LeO (rolodexlaw01_WireSmall.l1 k y0 y1) (rolodexlaw01_WireSmall.l1 (k + 1) y0 y1))
  | 0 => ⟨fun _ _ _ _ r h => by simp [rolodexlaw01_WireSmall.l0] at h, fun _ _ r h => by simp [rolodexlaw01_WireSmall.j1] at h, fun _ _ r h => by simp [rolodexlaw01_WireSmall.l1] at h⟩
  | k + 1 => by
    obtain ⟨ih0, ih1, ih2⟩ := rolodexlaw01_WireSmall.mono_l k
    refine ⟨?_, ?_, ?_⟩
    · intro y0 y1 y2 y3
      unfold rolodexlaw01_WireSmall.l0
      repeat' first
      | (with_reducible exact ih0 _ _ _ _)
      | (with_reducible exact ih1 _ _)
      | (with_reducible exact ih2 _ _)
      | (with_reducible exact rolodexlaw01_awake.mono _)
      | (with_reducible exact wire_Put.mono _ _)
      | (with_reducible exact LeO.refl _)
      | (with_reducible exact LeO.none _)
      | (with_reducible refine LeO.ite ?_ ?_)
      | (with_reducible refine LeO.bind ?_ (fun _ => ?_))
      | exact ih0 _ _ _ _
      | exact ih1 _ _
      | exact ih2 _ _
      | exact rolodexlaw01_awake.mono _
      | exact wire_Put.mono _ _
      | exact LeO.none _
      | refine LeO.ite ?_ ?_
      | refine LeO.bind ?_ (fun _ => ?_)
    · intro y0 y1
      unfold rolodexlaw01_WireSmall.j1
      repeat' first
      | (with_reducible exact ih0 _ _ _ _)
      | (with_reducible exact ih1 _ _)
      | (with_reducible exact ih2 _ _)
      | (with_reducible exact rolodexlaw01_awake.mono _)
      | (with_reducible exact wire_Put.mono _ _)
      | (with_reducible exact LeO.refl _)
      | (with_reducible exact LeO.none _)
      | (with_reducible refine LeO.ite ?_ ?_)
      | (with_reducible refine LeO.bind ?_ (fun _ => ?_))
      | exact ih0 _ _ _ _
      | exact ih1 _ _
      | exact ih2 _ _
      | exact rolodexlaw01_awake.mono _
      | exact wire_Put.mono _ _
      | exact LeO.none _
      | refine LeO.ite ?_ ?_
      | refine LeO.bind ?_ (fun _ => ?_)
    · intro y0 y1
      unfold rolodexlaw01_WireSmall.l1
      repeat' first
      | (with_reducible exact ih0 _ _ _ _)
      | (with_reducible exact ih1 _ _)
      | (with_reducible exact ih2 _ _)
      | (with_reducible exact rolodexlaw01_awake.mono _)
      | (with_reducible exact wire_Put.mono _ _)
      | (with_reducible exact LeO.refl _)
      | (with_reducible exact LeO.none _)
      | (with_reducible refine LeO.ite ?_ ?_)
      | (with_reducible refine LeO.bind ?_ (fun _ => ?_))
      | exact ih0 _ _ _ _
      | exact ih1 _ _
      | exact ih2 _ _
      | exact rolodexlaw01_awake.mono _
      | exact wire_Put.mono _ _
      | exact LeO.none _
      | refine LeO.ite ?_ ?_
      | refine LeO.bind ?_ (fun _ => ?_)
theorem rolodexlaw01_WireSmall.mono : ∀ a0 k, LeO (rolodexlaw01_WireSmall.f k a0) (rolodexlaw01_WireSmall.f (k + 1) a0) := by
  intro a0 k
  obtain ⟨ih0, ih1, ih2⟩ := rolodexlaw01_WireSmall.mono_l k
  unfold rolodexlaw01_WireSmall.f
  repeat' first
      | (with_reducible exact ih0 _ _ _ _)
      | (with_reducible exact ih1 _ _)
      | (with_reducible exact ih2 _ _)
      | (with_reducible exact rolodexlaw01_awake.mono _)
      | (with_reducible exact wire_Put.mono _ _)
      | (with_reducible exact LeO.refl _)
      | (with_reducible exact LeO.none _)
      | (with_reducible refine LeO.ite ?_ ?_)
      | (with_reducible refine LeO.bind ?_ (fun _ => ?_))
      | exact ih0 _ _ _ _
      | exact ih1 _ _
      | exact ih2 _ _
      | exact rolodexlaw01_awake.mono _
      | exact wire_Put.mono _ _
      | exact LeO.none _
      | refine LeO.ite ?_ ?_
      | refine LeO.bind ?_ (fun _ => ?_)
set_option maxHeartbeats 8000000 in
set_option maxRecDepth 100000 in
theorem rolodexlaw01_WireSmall.calls (k : Nat) (a0 : Int) (r : Bool) (w : World) (h : rolodexlaw01_WireSmall.f k a0 = some r) :
    Calls Try.prog 8 #[.int .u64 a0] w fun e w' => e = .returned (.bool r) ∧ Below w.heap.size w w' := by
  have HB := Aside0.mk (Below.refl w.heap.size w)
  have H : ((rolodexlaw01_awake.f k).bind fun t208 => ((wire_Put.f k a0).bind fun t209 => (rolodexlaw01_WireSmall.l0 k t208 t209 1 a0))) = some r := h
  clear h
  replace H := Option.bind_eq_some_iff.mp H
  obtain ⟨t208, A20, H⟩ := H
  replace H : ((wire_Put.f k a0).bind fun t209 => (rolodexlaw01_WireSmall.l0 k t208 t209 1 a0)) = some r := H
  have A2 := Aside0.mk A20
  clear A20
  replace H := Option.bind_eq_some_iff.mp H
  obtain ⟨t209, A30, H⟩ := H
  replace H : (rolodexlaw01_WireSmall.l0 k t208 t209 1 a0) = some r := H
  have A3 := Aside0.mk A30
  clear A30
  have H' := Aside0.mk H
  clear H
  go_enter Try.func8, Try.ntmps8
  go_wp2_with (first | ((with_reducible refine gate_callee (f := 12) rfl ?_); refine goesL_ (some 8) rfl rfl Try.func12 (by kernel_rfl) rfl #[] rfl (by (try simp only [List.map_toArray, List.map_cons, List.map_nil]); first | done | rfl | (simp only [List.length_drop, List.length_take]; rfl)) ?_; (with_reducible refine (rolodexlaw01_awake.calls k  t208 _ A2.out).mono ?_); rintro e w4 ⟨rfl, hb⟩; refine ⟨_, rfl, ?_⟩; have n0_ := Aside0.mk (below_step (by repeat (first | (with_reducible first | exact HB.out | apply below_alloc | apply pw_below_drewN | apply below_drew1) | exact HB.out)) hb); clear HB; have HB := n0_; clear n0_; (try clear hb); (try clear hb2); (try clear hk); (try clear hi)) | ((with_reducible refine gate_callee (f := 13) rfl ?_); refine goesL_ (some 10) rfl rfl Try.func13 (by kernel_rfl) rfl #[.int .u64 a0] rfl (by (try simp only [List.map_toArray, List.map_cons, List.map_nil]); first | done | rfl | (simp only [List.length_drop, List.length_take]; rfl)) ?_; (with_reducible refine (wire_Put.calls k a0 t209 _ A3.out).mono ?_); rintro e w5 ⟨v210, rfl, ho0, hb⟩; refine ⟨_, rfl, ?_⟩; have n0_ := Aside0.mk (Kd.R_lower ho0 (below_size (by repeat (first | (with_reducible first | exact HB.out | apply below_alloc | apply pw_below_drewN | apply below_drew1) | exact HB.out)))); have n1_ := Aside0.mk (below_step (by repeat (first | (with_reducible first | exact HB.out | apply below_alloc | apply pw_below_drewN | apply below_drew1) | exact HB.out)) hb); clear HB; have HO211 := n0_; have HB := n1_; clear n0_ n1_; (try clear hb); (try clear hb2); (try clear hk); (try clear hi); (try clear ho0)))
  go_loopg [5, 6] k (fun kq v5 v6 w' => ∃ (x5_1 : Int) (x6_1 : Int), v5 = .int .i64 x5_1 ∧ v6 = .int .u64 x6_1 ∧ Aside0 (rolodexlaw01_WireSmall.l0 kq t208 t209 x5_1 x6_1 = some r) ∧ Aside0 (kq ≤ k) ∧ Aside0 (Kd.R (Kd.int .u8) 5 w' w.heap.size (fun _ => True) v210 t209) ∧ Aside0 (Below w.heap.size w w'))
  case atStart => exact ⟨(1), (a0), (by first | rfl | (simp; done) | (simp [*]; done)), (by first | rfl | (simp; done) | (simp [*]; done)), H', ⟨Nat.le_refl _⟩, ⟨by (with_reducible repeat (first | apply Kd.R_alloc | apply Kd.R_drewN | apply Kd.R_drew)); exact HO211.out⟩, ⟨by repeat (first | (with_reducible first | exact HB.out | apply below_alloc | apply pw_below_drewN | apply below_drew1) | exact HB.out)⟩⟩
  case round =>
    clear H'
    try clear c1
    try clear p2
    obtain ⟨x5_1, x6_1, rfl, rfl, HA, HK1, HO_4, HB⟩ := hrel
    cases gk with
    | zero => exact absurd HA.out (by simp [rolodexlaw01_WireSmall.l0])
    | succ k1 =>
      have H := HA.out
      clear HA
      simp only [rolodexlaw01_WireSmall.l0] at H
      by_cases c6 : x6_1 ≥ 128
      · rw [if_pos c6] at H
        have c6b0 : decide (128 ≤ x6_1) = true := decide_eq_true c6
        clear c6
        have H' := Aside0.mk H
        clear H
        go_wp2
        go_roundg k1
        case measure => have := HK1.out; omega
        case rel => exact ⟨(wrap64 (x5_1 + 1)), (IntKind.u64.wrap (Int.tdiv x6_1 128)), (by first | rfl | (simp; done) | (simp [*]; done)), (by first | rfl | (simp; done) | (simp [*]; done)), H', ⟨by have := HK1.out; omega⟩, ⟨by (with_reducible repeat (first | apply Kd.R_alloc | apply Kd.R_drewN | apply Kd.R_drew)); exact HO_4.out⟩, ⟨by repeat (first | (with_reducible first | exact HB.out | apply below_alloc | apply pw_below_drewN | apply below_drew1) | exact HB.out)⟩⟩
      · rw [if_neg c6] at H
        have c6b0 : decide (128 ≤ x6_1) = false := decide_eq_false c6
        clear c6
        have HC7 := Aside0.mk H
        clear H
        go_upto_region 8 with (fail)
        go_cut [25] (fun v25 wc => ∃ (kq : Nat) (x25_6 : Bool), v25 = .bool x25_6 ∧ Aside0 (rolodexlaw01_WireSmall.j1 kq t209 x25_6 = some r) ∧ Aside0 (kq ≤ k1) ∧ Aside0 (Kd.R (Kd.int .u8) 5 wc w.heap.size (fun _ => True) v210 t209) ∧ Aside0 (Below w.heap.size w wc))
        case first =>
          have H := HC7.out
          clear HC7
          by_cases c8 : t208 = true
          · subst c8
            have H1 : (rolodexlaw01_WireSmall.j1 k1 t209 ((t209.length : Int) != x5_1)) = some r := by rw [if_pos rfl] at H; exact H
            clear H
            have H := H1
            clear H1
            have H' := Aside0.mk H
            clear H
            obtain ⟨Ao9, co9, eo9⟩ := Kd.R_slice HO_4.out
            subst eo9
            go_wp2
            go_meet
            case rel => exact ⟨_, (((t209.length : Int) != x5_1)), (by first | rfl | (simp; done) | (simp [*]; done)), H', ⟨by have := HK1.out; first | omega | exact Nat.le_refl _⟩, ⟨by (with_reducible repeat (first | apply Kd.R_alloc | apply Kd.R_drewN | apply Kd.R_drew)); exact HO_4.out⟩, ⟨by repeat (first | (with_reducible first | exact HB.out | apply below_alloc | apply pw_below_drewN | apply below_drew1) | exact HB.out)⟩⟩
          · replace c8 := Bool.eq_false_iff.mpr c8
            subst c8
            have H1 : (rolodexlaw01_WireSmall.j1 k1 t209 true) = some r := by rw [if_neg (show ¬ (false = true) by decide)] at H; exact H
            clear H
            have H := H1
            clear H1
            have H' := Aside0.mk H
            clear H
            go_wp2
            go_meet
            case rel => exact ⟨_, (true), (by first | rfl | (simp; done) | (simp [*]; done)), H', ⟨by have := HK1.out; first | omega | exact Nat.le_refl _⟩, ⟨by (with_reducible repeat (first | apply Kd.R_alloc | apply Kd.R_drewN | apply Kd.R_drew)); exact HO_4.out⟩, ⟨by repeat (first | (with_reducible first | exact HB.out | apply below_alloc | apply pw_below_drewN | apply below_drew1) | exact HB.out)⟩⟩
        case rest =>
          clear HC7
          try clear c1
          try clear p2
          try clear c6
          try clear c6b0
          try clear p6
          try clear c8
          try clear p2
          obtain ⟨kq, x25_6, rfl, HA, HJ6, HO_4, HB⟩ := hcut
          cases kq with
          | zero => exact absurd HA.out (by simp [rolodexlaw01_WireSmall.j1])
          | succ kj6 =>
            have H := HA.out
            clear HA
            simp only [rolodexlaw01_WireSmall.j1] at H
            by_cases c10 : x25_6 = true
            · subst c10
              have H1 : (some false) = some r := by rw [if_pos rfl] at H; exact H
              clear H
              have H := H1
              clear H1
              obtain rfl := Option.some.inj H
              go_wp2
              go_ret
              exact ⟨by first | rfl | (simp [errW_none, errW_some] <;> rfl) | (simp [*, errW_none, errW_some] <;> rfl), by repeat (first | (with_reducible first | exact HB.out | apply below_alloc | apply pw_below_drewN | apply below_drew1) | exact HB.out)⟩
            · replace c10 := Bool.eq_false_iff.mpr c10
              subst c10
              have H1 : (rolodexlaw01_WireSmall.l1 kj6 t209 0) = some r := by rw [if_neg (show ¬ (false = true) by decide)] at H; exact H
              clear H
              have H := H1
              clear H1
              have H' := Aside0.mk H
              clear H
              go_wp2
              go_loopg [7] kj6 (fun kq v7 w' => ∃ (x7_3 : Int), v7 = .int .i64 x7_3 ∧ Aside0 (rolodexlaw01_WireSmall.l1 kq t209 x7_3 = some r) ∧ Aside0 (kq ≤ kj6) ∧ Aside0 (Kd.R (Kd.int .u8) 5 w' w.heap.size (fun _ => True) v210 t209) ∧ Aside0 (Below w.heap.size w w'))
              case atStart => exact ⟨(0), (by first | rfl | (simp; done) | (simp [*]; done)), H', ⟨Nat.le_refl _⟩, ⟨by (with_reducible repeat (first | apply Kd.R_alloc | apply Kd.R_drewN | apply Kd.R_drew)); exact HO_4.out⟩, ⟨by repeat (first | (with_reducible first | exact HB.out | apply below_alloc | apply pw_below_drewN | apply below_drew1) | exact HB.out)⟩⟩
              case round =>
                clear H'
                try clear c1
                try clear p2
                try clear c6
                try clear c6b0
                try clear p6
                try clear c8
                try clear c10
                try clear p2
                try clear p6
                obtain ⟨x7_3, rfl, HA, HK3, HO_4, HB⟩ := hrel
                cases gk with
                | zero => exact absurd HA.out (by simp [rolodexlaw01_WireSmall.l1])
                | succ k3 =>
                  have H := HA.out
                  clear HA
                  simp only [rolodexlaw01_WireSmall.l1] at H
                  by_cases c11 : x7_3 < (wrap64 ((t209.length : Int) - 1))
                  · rw [if_pos c11] at H
                    have c11b0 : decide (x7_3 < (wrap64 ((t209.length : Int) - 1))) = true := decide_eq_true c11
                    clear c11
                    by_cases c12 : 0 ≤ x7_3
                    · rw [if_pos c12] at H
                      have c12b0 : decide (0 ≤ x7_3) = true := decide_eq_true c12
                      clear c12
                      by_cases c13 : x7_3 < (t209.length : Int)
                      · rw [if_pos c13] at H
                        have c13b0 : decide (x7_3 < (t209.length : Int)) = true := decide_eq_true c13
                        clear c13
                        by_cases c14 : (rd t209 x7_3) < 128
                        · rw [if_pos c14] at H
                          have c14b0 : decide ((rd t209 x7_3) < 128) = true := decide_eq_true c14
                          clear c14
                          obtain rfl := Option.some.inj H
                          obtain ⟨Ao15, co15, eo15⟩ := Kd.R_slice HO_4.out
                          subst eo15
                          have p212 : 0 ≤ (x7_3 : Int) := of_decide_eq_true (by first | (with_reducible assumption) | assumption)
                          have q212 : x7_3 < (t209.length : Int) := of_decide_eq_true (by first | (with_reducible assumption) | assumption)
                          obtain ⟨ad212, e212, hx212_0⟩ := Kd.at_int (Kd.R_reads' HO_4.out).2.2 x7_3 p212 q212
                          cases e212
                          replace p212 := eq_true p212
                          replace q212 := eq_true q212
                          go_wp2
                          go_ret
                          exact ⟨by first | rfl | (simp [errW_none, errW_some] <;> rfl) | (simp [*, errW_none, errW_some] <;> rfl), by repeat (first | (with_reducible first | exact HB.out | apply below_alloc | apply pw_below_drewN | apply below_drew1) | exact HB.out)⟩
                        · rw [if_neg c14] at H
                          have c14b0 : decide ((rd t209 x7_3) < 128) = false := decide_eq_false c14
                          clear c14
                          have H' := Aside0.mk H
                          clear H
                          obtain ⟨Ao16, co16, eo16⟩ := Kd.R_slice HO_4.out
                          subst eo16
                          have p212 : 0 ≤ (x7_3 : Int) := of_decide_eq_true (by first | (with_reducible assumption) | assumption)
                          have q212 : x7_3 < (t209.length : Int) := of_decide_eq_true (by first | (with_reducible assumption) | assumption)
                          obtain ⟨ad212, e212, hx212_0⟩ := Kd.at_int (Kd.R_reads' HO_4.out).2.2 x7_3 p212 q212
                          cases e212
                          replace p212 := eq_true p212
                          replace q212 := eq_true q212
                          go_wp2
                          go_roundg k3
                          case measure => have := HK1.out; have := HJ6.out; have := HK3.out; omega
                          case rel => exact ⟨(wrap64 (x7_3 + 1)), (by first | rfl | (simp; done) | (simp [*]; done)), H', ⟨by have := HK1.out; have := HJ6.out; have := HK3.out; omega⟩, ⟨by (with_reducible repeat (first | apply Kd.R_alloc | apply Kd.R_drewN | apply Kd.R_drew)); exact HO_4.out⟩, ⟨by repeat (first | (with_reducible first | exact HB.out | apply below_alloc | apply pw_below_drewN | apply below_drew1) | exact HB.out)⟩⟩
                      · rw [if_neg c13] at H
                        exact absurd H (by simp)
                    · rw [if_neg c12] at H
                      exact absurd H (by simp)
                  · rw [if_neg c11] at H
                    have c11b0 : decide (x7_3 < (wrap64 ((t209.length : Int) - 1))) = false := decide_eq_false c11
                    clear c11
                    obtain ⟨ji17, hji17⟩ : ∃ j_ : Int, (wrap64 ((t209.length : Int) - 1)) = j_ := ⟨_, rfl⟩
                    replace H : (if 0 ≤ (ji17) then (if (ji17) < (t209.length : Int) then (if (rd t209 (ji17)) < 128 then (if (t209.length : Int) = 1 then (some true) else (if 0 < (t209.length : Int) then (some (decide ((rd t209 0) > 128))) else (none))) else (some false)) else (none)) else (none)) = some r := by first | (rw [hji17] at H; exact H) | (simp only [hji17] at H ⊢; exact H)
                    (try rw [hji17] at c11b0)
                    have hji17w : (IntKind.i64.wrap ((t209.length : Int) - 1)) = ji17 := (i64_w _).trans hji17
                    by_cases c18 : 0 ≤ (ji17)
                    · rw [if_pos c18] at H
                      have c18b0 : decide (0 ≤ (ji17)) = true := decide_eq_true c18
                      clear c18
                      by_cases c19 : (ji17) < (t209.length : Int)
                      · rw [if_pos c19] at H
                        have c19b0 : decide ((ji17) < (t209.length : Int)) = true := decide_eq_true c19
                        clear c19
                        by_cases c20 : (rd t209 (ji17)) < 128
                        · rw [if_pos c20] at H
                          have c20b0 : decide ((rd t209 (ji17)) < 128) = true := decide_eq_true c20
                          clear c20
                          by_cases c21 : (t209.length : Int) = 1
                          · rw [if_pos c21] at H
                            have c21b0 : ((t209.length : Int) == 1) = true := beq_iff_eq.mpr c21
                            have c21b1 : ((t209.length : Int) != 1) = false := bne_eq_false_iff_eq.mpr c21
                            clear c21
                            obtain rfl := Option.some.inj H
                            obtain ⟨Ao22, co22, eo22⟩ := Kd.R_slice HO_4.out
                            subst eo22
                            have p213 : 0 ≤ ((ji17) : Int) := of_decide_eq_true (by first | (with_reducible assumption) | assumption)
                            have q213 : (ji17) < (t209.length : Int) := of_decide_eq_true (by first | (with_reducible assumption) | assumption)
                            obtain ⟨ad213, e213, hx213_0⟩ := Kd.at_int (Kd.R_reads' HO_4.out).2.2 (ji17) p213 q213
                            cases e213
                            replace p213 := eq_true p213
                            replace q213 := eq_true q213
                            go_wp2
                            go_ret
                            exact ⟨by first | rfl | (simp [errW_none, errW_some] <;> rfl) | (simp only [← hji17]; first | rfl | (simp [errW_none, errW_some] <;> rfl)) | (simp [*, errW_none, errW_some] <;> rfl), by repeat (first | (with_reducible first | exact HB.out | apply below_alloc | apply pw_below_drewN | apply below_drew1) | exact HB.out)⟩
                          · rw [if_neg c21] at H
                            have c21b0 : ((t209.length : Int) == 1) = false := beq_eq_false_iff_ne.mpr c21
                            have c21b1 : ((t209.length : Int) != 1) = true := bne_iff_ne.mpr c21
                            by_cases c23 : 0 < (t209.length : Int)
                            · rw [if_pos c23] at H
                              have c23b0 : decide (0 < (t209.length : Int)) = true := decide_eq_true c23
                              have c23b1 : decide (0 < t209.length) = true := decide_eq_true (by omega)
                              clear c23
                              obtain rfl := Option.some.inj H
                              obtain ⟨Ao24, co24, eo24⟩ := Kd.R_slice HO_4.out
                              subst eo24
                              have p213 : 0 ≤ ((ji17) : Int) := of_decide_eq_true (by first | (with_reducible assumption) | assumption)
                              have q213 : (ji17) < (t209.length : Int) := of_decide_eq_true (by first | (with_reducible assumption) | assumption)
                              obtain ⟨ad213, e213, hx213_0⟩ := Kd.at_int (Kd.R_reads' HO_4.out).2.2 (ji17) p213 q213
                              cases e213
                              replace p213 := eq_true p213
                              replace q213 := eq_true q213
                              have p214 : 0 ≤ (0 : Int) := (by omega)
                              have q214 : 0 < (t209.length : Int) := of_decide_eq_true (by first | (with_reducible assumption) | assumption)
                              obtain ⟨ad214, e214, hx214_0⟩ := Kd.at_int (Kd.R_reads' HO_4.out).2.2 0 p214 q214
                              obtain rfl : ad213 = ad214 := (by injection e214)
                              have qi214 : (0 < t209.length) = True := eq_true (by omega)
                              (try rw [show ((0 : Int)).toNat = 0 from rfl] at hx214_0)
                              (try rw [Addr.add_zero'] at hx214_0)
                              replace p214 := eq_true p214
                              replace q214 := eq_true q214
                              go_wp2
                              go_ret
                              exact ⟨by first | rfl | (simp [errW_none, errW_some] <;> rfl) | (simp only [← hji17]; first | rfl | (simp [errW_none, errW_some] <;> rfl)) | (simp [*, errW_none, errW_some] <;> rfl), by repeat (first | (with_reducible first | exact HB.out | apply below_alloc | apply pw_below_drewN | apply below_drew1) | exact HB.out)⟩
                            · rw [if_neg c23] at H
                              exact absurd H (by simp)
                        · rw [if_neg c20] at H
                          have c20b0 : decide ((rd t209 (ji17)) < 128) = false := decide_eq_false c20
                          clear c20
                          obtain rfl := Option.some.inj H
                          obtain ⟨Ao25, co25, eo25⟩ := Kd.R_slice HO_4.out
                          subst eo25
                          have p213 : 0 ≤ ((ji17) : Int) := of_decide_eq_true (by first | (with_reducible assumption) | assumption)
                          have q213 : (ji17) < (t209.length : Int) := of_decide_eq_true (by first | (with_reducible assumption) | assumption)
                          obtain ⟨ad213, e213, hx213_0⟩ := Kd.at_int (Kd.R_reads' HO_4.out).2.2 (ji17) p213 q213
                          cases e213
                          replace p213 := eq_true p213
                          replace q213 := eq_true q213
                          go_wp2
                          go_ret
                          exact ⟨by first | rfl | (simp [errW_none, errW_some] <;> rfl) | (simp only [← hji17]; first | rfl | (simp [errW_none, errW_some] <;> rfl)) | (simp [*, errW_none, errW_some] <;> rfl), by repeat (first | (with_reducible first | exact HB.out | apply below_alloc | apply pw_below_drewN | apply below_drew1) | exact HB.out)⟩
                      · rw [if_neg c19] at H
                        exact absurd H (by simp)
                    · rw [if_neg c18] at H
                      exact absurd H (by simp)

/-- THE ONE PURE STATEMENT of rolodexlaw01_WireSmall: yours. -/
def rolodexlaw01_WireSmall.Pure : Prop := ∀ (a0 : Int), (Lit.int .u64 a0).wf = true → ∃ k, rolodexlaw01_WireSmall.f k a0 = some true
theorem rolodexlaw01_WireSmall.walk (P : rolodexlaw01_WireSmall.Pure) (a0 : Int) (w : World) (w0 : (Lit.int .u64 a0).wf = true) :
    Calls Try.prog 8 #[.int .u64 a0] w fun e w' => e = .returned (.bool true) ∧ Below w.heap.size w w' := by
  obtain ⟨k, h⟩ := P a0 w0
  refine (rolodexlaw01_WireSmall.calls k a0 true w h).mono ?_
  rintro e w' ⟨rfl, hd⟩
  exact ⟨rfl, hd⟩

end Go.Proofs.Ytghafocfbamcdaa.X
