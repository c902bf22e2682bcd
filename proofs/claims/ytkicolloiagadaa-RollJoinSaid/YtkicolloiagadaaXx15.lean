-- Printed for this session by a program of its own over an edited copy of the translation's print.
import Derived.Test.YtkicolloiagadaaXx0
import Derived.Test.YtkicolloiagadaaXx2
import Derived.Test.YtkicolloiagadaaXx6
namespace Go.Proofs.Ytkicolloiagadaa.X
open Go.RowKit Go.Proofs.YtkicolloiagadaaW.PrintWords Go.Proofs.YtkicolloiagadaaW.PrintLast Go.Proofs.YtkicolloiagadaaW.PrintMore
attribute [local go_sem] max2_int min2_int max_two min_two max_three min_three max_four min_four   -- for this text's walks alone
set_option linter.unusedVariables false
set_option linter.unusedSimpArgs false

/-! ### rolodexlaw09_RollJoin: function 6 -/
def rolodexlaw09_RollJoin.j0 : Nat → ByteArray → ByteArray → Bool → Bool → Option (Bool)
  | 0, _, _, _, _ => none
  | k + 1, x0, x1, x5, x22 => if x22 = true then (some x5) else ((roll_Sum.f k x0).bind fun t146 => ((roll_Sum.f k x1).bind fun t147 => (if x0.size + x1.size ≤ 9223372036854775807 then ((roll_Sum.f k (x0 ++ x1)).bind fun t148 => (some (t148 == ((65536 * (((((((Int.tdiv t146 65536) % 4294967296) + ((Int.tdiv t147 65536) % 4294967296)) % 4294967296) + (((((x1.size : Int)) % 4294967296) * (Int.tmod t146 65536)) % 4294967296)) % 4294967296) % 65536)) + ((((Int.tmod t146 65536) + (Int.tmod t147 65536)) % 4294967296) % 65536))))) else (none))))
def rolodexlaw09_RollJoin.f (k : Nat) (a0 : ByteArray) (a1 : ByteArray) : Option (Bool) := (rolodexlaw09_awake.f k).bind fun t145 => (if t145 = true then (if (a0.size : Int) > 300 then (rolodexlaw09_RollJoin.j0 k a0 a1 t145 true) else (rolodexlaw09_RollJoin.j0 k a0 a1 t145 (decide ((a1.size : Int) > 300)))) else (rolodexlaw09_RollJoin.j0 k a0 a1 t145 true))
theorem rolodexlaw09_RollJoin.mono_l : ∀ k, (∀ y0 y1 y2 y3, LeO (rolodexlaw09_RollJoin.j0 k y0 y1 y2 y3) (rolodexlaw09_RollJoin.j0 (k + 1) y0 y1 y2 y3))
  | 0 => fun _ _ _ _ r h => by simp [rolodexlaw09_RollJoin.j0] at h
  | k + 1 => by
    have ih0 := rolodexlaw09_RollJoin.mono_l k
    · intro y0 y1 y2 y3
      unfold rolodexlaw09_RollJoin.j0
      repeat' first
      | (with_reducible exact ih0 _ _ _ _)
      | (with_reducible exact roll_Sum.mono _ _)
      | (with_reducible exact rolodexlaw09_awake.mono _)
      | (with_reducible exact LeO.refl _)
      | (with_reducible exact LeO.none _)
      | (with_reducible refine LeO.ite ?_ ?_)
      | (with_reducible refine LeO.bind ?_ (fun _ => ?_))
      | exact ih0 _ _ _ _
      | exact roll_Sum.mono _ _
      | exact rolodexlaw09_awake.mono _
      | exact LeO.none _
      | refine LeO.ite ?_ ?_
      | refine LeO.bind ?_ (fun _ => ?_)
theorem rolodexlaw09_RollJoin.mono : ∀ a0 a1 k, LeO (rolodexlaw09_RollJoin.f k a0 a1) (rolodexlaw09_RollJoin.f (k + 1) a0 a1) := by
  intro a0 a1 k
  have ih0 := rolodexlaw09_RollJoin.mono_l k
  unfold rolodexlaw09_RollJoin.f
  repeat' first
      | (with_reducible exact ih0 _ _ _ _)
      | (with_reducible exact roll_Sum.mono _ _)
      | (with_reducible exact rolodexlaw09_awake.mono _)
      | (with_reducible exact LeO.refl _)
      | (with_reducible exact LeO.none _)
      | (with_reducible refine LeO.ite ?_ ?_)
      | (with_reducible refine LeO.bind ?_ (fun _ => ?_))
      | exact ih0 _ _ _ _
      | exact roll_Sum.mono _ _
      | exact rolodexlaw09_awake.mono _
      | exact LeO.none _
      | refine LeO.ite ?_ ?_
      | refine LeO.bind ?_ (fun _ => ?_)
set_option maxHeartbeats 8000000 in
set_option maxRecDepth 100000 in
theorem rolodexlaw09_RollJoin.calls (k : Nat) (a0 : ByteArray) (a1 : ByteArray) (r : Bool) (w : World) (h : rolodexlaw09_RollJoin.f k a0 a1 = some r) :
    Calls Try.prog 6 #[.string a0, .string a1] w fun e w' => e = .returned (.bool r) ∧ Below w.heap.size w w' := by
  have HB := Aside0.mk (Below.refl w.heap.size w)
  have H : ((rolodexlaw09_awake.f k).bind fun t145 => (if t145 = true then (if (a0.size : Int) > 300 then (rolodexlaw09_RollJoin.j0 k a0 a1 t145 true) else (rolodexlaw09_RollJoin.j0 k a0 a1 t145 (decide ((a1.size : Int) > 300)))) else (rolodexlaw09_RollJoin.j0 k a0 a1 t145 true))) = some r := h
  clear h
  replace H := Option.bind_eq_some_iff.mp H
  obtain ⟨t145, A30, H⟩ := H
  replace H : (if t145 = true then (if (a0.size : Int) > 300 then (rolodexlaw09_RollJoin.j0 k a0 a1 t145 true) else (rolodexlaw09_RollJoin.j0 k a0 a1 t145 (decide ((a1.size : Int) > 300)))) else (rolodexlaw09_RollJoin.j0 k a0 a1 t145 true)) = some r := H
  have A3 := Aside0.mk A30
  clear A30
  have HC4 := Aside0.mk H
  clear H
  go_enter Try.func6, Try.ntmps6
  go_upto_region 2 with (first | ((with_reducible refine gate_callee (f := 9) rfl ?_); refine goesL_ (some 10) rfl rfl Try.func9 (by kernel_rfl) rfl #[] rfl (by (try simp only [List.map_toArray, List.map_cons, List.map_nil]); first | done | rfl | (simp only [List.length_drop, List.length_take]; rfl)) ?_; (with_reducible refine (rolodexlaw09_awake.calls k  t145 _ A3.out).mono ?_); rintro e w5 ⟨rfl, hb⟩; refine ⟨_, rfl, ?_⟩; have n0_ := Aside0.mk (below_step (by repeat (first | (with_reducible first | exact HB.out | apply below_alloc | apply pw_below_drewN | apply below_drew1) | exact HB.out)) hb); clear HB; have HB := n0_; clear n0_; (try clear hb); (try clear hb2); (try clear hk); (try clear hi)))
  (try simp only [Act.put, List.setIfInBounds_toArray, List.set_cons_zero, List.set_cons_succ])
  go_cut [22] (fun v22 wc => ∃ (kq : Nat) (x22_3 : Bool), v22 = .bool x22_3 ∧ Aside0 (rolodexlaw09_RollJoin.j0 kq a0 a1 t145 x22_3 = some r) ∧ Aside0 (kq ≤ k) ∧ Aside0 (Below w.heap.size w wc))
  case first =>
    have H := HC4.out
    clear HC4
    by_cases c6 : t145 = true
    · subst c6
      have H1 : (if (a0.size : Int) > 300 then (rolodexlaw09_RollJoin.j0 k a0 a1 true true) else (rolodexlaw09_RollJoin.j0 k a0 a1 true (decide ((a1.size : Int) > 300)))) = some r := by rw [if_pos rfl] at H; exact H
      clear H
      have H := H1
      clear H1
      by_cases c7 : (a0.size : Int) > 300
      · rw [if_pos c7] at H
        have c7b0 : decide (300 < (a0.size : Int)) = true := decide_eq_true c7
        have c7b1 : decide (300 < a0.size) = true := decide_eq_true (by omega)
        clear c7
        (first | rw [c7b0] | (simp only [i64_w, i32_w]; rw [c7b0]) | skip)
        have H' := Aside0.mk H
        clear H
        go_wp2
        go_meet
        case rel => exact ⟨_, (true), (by first | rfl | (simp; done) | (simp [*]; done)), H', ⟨by first | omega | exact Nat.le_refl _⟩, ⟨by repeat (first | (with_reducible first | exact HB.out | apply below_alloc | apply pw_below_drewN | apply below_drew1) | exact HB.out)⟩⟩
      · rw [if_neg c7] at H
        have c7b0 : decide (300 < (a0.size : Int)) = false := decide_eq_false c7
        have c7b1 : decide (300 < a0.size) = false := decide_eq_false (by omega)
        clear c7
        (first | rw [c7b0] | (simp only [i64_w, i32_w]; rw [c7b0]) | skip)
        have H' := Aside0.mk H
        clear H
        go_wp2
        go_meet
        case rel => exact ⟨_, (decide ((a1.size : Int) > 300)), (by first | rfl | (simp; done) | (simp [*]; done)), H', ⟨by first | omega | exact Nat.le_refl _⟩, ⟨by repeat (first | (with_reducible first | exact HB.out | apply below_alloc | apply pw_below_drewN | apply below_drew1) | exact HB.out)⟩⟩
    · replace c6 := Bool.eq_false_iff.mpr c6
      subst c6
      have H1 : (rolodexlaw09_RollJoin.j0 k a0 a1 false true) = some r := by rw [if_neg (show ¬ (false = true) by decide)] at H; exact H
      clear H
      have H := H1
      clear H1
      have H' := Aside0.mk H
      clear H
      go_wp2
      go_meet
      case rel => exact ⟨_, (true), (by first | rfl | (simp; done) | (simp [*]; done)), H', ⟨by first | omega | exact Nat.le_refl _⟩, ⟨by repeat (first | (with_reducible first | exact HB.out | apply below_alloc | apply pw_below_drewN | apply below_drew1) | exact HB.out)⟩⟩
  case rest =>
    clear HC4
    try clear p2
    try clear c6
    try clear c7
    try clear c7b0
    try clear c7b1
    obtain ⟨kq, x22_3, rfl, HA, HJ3, HB⟩ := hcut
    cases kq with
    | zero => exact absurd HA.out (by simp [rolodexlaw09_RollJoin.j0])
    | succ kj3 =>
      have H := HA.out
      clear HA
      simp only [rolodexlaw09_RollJoin.j0] at H
      by_cases c8 : x22_3 = true
      · subst c8
        have H1 : (some t145) = some r := by rw [if_pos rfl] at H; exact H
        clear H
        have H := H1
        clear H1
        obtain rfl := Option.some.inj H
        go_wp2
        go_ret
        exact ⟨by first | rfl | (simp [errW_none, errW_some] <;> rfl) | (simp [*, errW_none, errW_some] <;> rfl), by repeat (first | (with_reducible first | exact HB.out | apply below_alloc | apply pw_below_drewN | apply below_drew1) | exact HB.out)⟩
      · replace c8 := Bool.eq_false_iff.mpr c8
        subst c8
        have H1 : ((roll_Sum.f kj3 a0).bind fun t146 => ((roll_Sum.f kj3 a1).bind fun t147 => (if a0.size + a1.size ≤ 9223372036854775807 then ((roll_Sum.f kj3 (a0 ++ a1)).bind fun t148 => (some (t148 == ((65536 * (((((((Int.tdiv t146 65536) % 4294967296) + ((Int.tdiv t147 65536) % 4294967296)) % 4294967296) + (((((a1.size : Int)) % 4294967296) * (Int.tmod t146 65536)) % 4294967296)) % 4294967296) % 65536)) + ((((Int.tmod t146 65536) + (Int.tmod t147 65536)) % 4294967296) % 65536))))) else (none)))) = some r := by rw [if_neg (show ¬ (false = true) by decide)] at H; exact H
        clear H
        have H := H1
        clear H1
        replace H := Option.bind_eq_some_iff.mp H
        obtain ⟨t146, A90, H⟩ := H
        replace H : ((roll_Sum.f kj3 a1).bind fun t147 => (if a0.size + a1.size ≤ 9223372036854775807 then ((roll_Sum.f kj3 (a0 ++ a1)).bind fun t148 => (some (t148 == ((65536 * (((((((Int.tdiv t146 65536) % 4294967296) + ((Int.tdiv t147 65536) % 4294967296)) % 4294967296) + (((((a1.size : Int)) % 4294967296) * (Int.tmod t146 65536)) % 4294967296)) % 4294967296) % 65536)) + ((((Int.tmod t146 65536) + (Int.tmod t147 65536)) % 4294967296) % 65536))))) else (none))) = some r := H
        have A9 := Aside0.mk A90
        clear A90
        replace H := Option.bind_eq_some_iff.mp H
        obtain ⟨t147, A100, H⟩ := H
        replace H : (if a0.size + a1.size ≤ 9223372036854775807 then ((roll_Sum.f kj3 (a0 ++ a1)).bind fun t148 => (some (t148 == ((65536 * (((((((Int.tdiv t146 65536) % 4294967296) + ((Int.tdiv t147 65536) % 4294967296)) % 4294967296) + (((((a1.size : Int)) % 4294967296) * (Int.tmod t146 65536)) % 4294967296)) % 4294967296) % 65536)) + ((((Int.tmod t146 65536) + (Int.tmod t147 65536)) % 4294967296) % 65536))))) else (none)) = some r := H
        have A10 := Aside0.mk A100
        clear A100
        by_cases c11 : a0.size + a1.size ≤ 9223372036854775807
        · rw [if_pos c11] at H
          have c11b0 := eq_true c11
          have c11b1 : decide (a0.size + a1.size ≤ 9223372036854775807) = true := decide_eq_true c11
          try have c11b2 : (9223372036854775807 < a0.size + a1.size) = False := eq_false (Nat.not_lt.2 c11)
          replace H := Option.bind_eq_some_iff.mp H
          obtain ⟨t148, A120, H⟩ := H
          replace H : (some (t148 == ((65536 * (((((((Int.tdiv t146 65536) % 4294967296) + ((Int.tdiv t147 65536) % 4294967296)) % 4294967296) + (((((a1.size : Int)) % 4294967296) * (Int.tmod t146 65536)) % 4294967296)) % 4294967296) % 65536)) + ((((Int.tmod t146 65536) + (Int.tmod t147 65536)) % 4294967296) % 65536)))) = some r := H
          have A12 := Aside0.mk A120
          clear A120
          obtain rfl := Option.some.inj H
          go_wp2_with (first | ((with_reducible refine gate_callee (f := 13) rfl ?_); refine goesL_ (some 25) rfl rfl Try.func13 (by kernel_rfl) rfl #[.string a0] rfl (by (try simp only [List.map_toArray, List.map_cons, List.map_nil]); first | done | rfl | (simp only [List.length_drop, List.length_take]; rfl)) ?_; (with_reducible refine (roll_Sum.calls kj3 a0 t146 _ A9.out).mono ?_); rintro e w' ⟨rfl, ⟨nd, rfl⟩⟩; refine ⟨_, rfl, ?_⟩) | ((with_reducible refine gate_callee (f := 13) rfl ?_); refine goesL_ (some 27) rfl rfl Try.func13 (by kernel_rfl) rfl #[.string a1] rfl (by (try simp only [List.map_toArray, List.map_cons, List.map_nil]); first | done | rfl | (simp only [List.length_drop, List.length_take]; rfl)) ?_; (with_reducible refine (roll_Sum.calls kj3 a1 t147 _ A10.out).mono ?_); rintro e w' ⟨rfl, ⟨nd, rfl⟩⟩; refine ⟨_, rfl, ?_⟩) | ((with_reducible refine gate_callee (f := 13) rfl ?_); refine goesL_ (some 50) rfl rfl Try.func13 (by kernel_rfl) rfl #[.string (a0 ++ a1)] rfl (by (try simp only [List.map_toArray, List.map_cons, List.map_nil]); first | done | rfl | (simp only [List.length_drop, List.length_take]; rfl)) ?_; (with_reducible refine (roll_Sum.calls kj3 (a0 ++ a1) t148 _ A12.out).mono ?_); rintro e w' ⟨rfl, ⟨nd, rfl⟩⟩; refine ⟨_, rfl, ?_⟩))
          go_ret
          exact ⟨by first | rfl | (simp [errW_none, errW_some] <;> rfl) | (simp [*, errW_none, errW_some] <;> rfl), by repeat (first | (with_reducible first | exact HB.out | apply below_alloc | apply pw_below_drewN | apply below_drew1) | exact HB.out)⟩
        · rw [if_neg c11] at H
          exact absurd H (by simp)

/-- THE ONE PURE STATEMENT of rolodexlaw09_RollJoin: yours. -/
def rolodexlaw09_RollJoin.Pure : Prop := ∀ (a0 : ByteArray) (a1 : ByteArray), a0.size ≤ 140737488351232 → a1.size ≤ 140737488351232 → ∃ k, rolodexlaw09_RollJoin.f k a0 a1 = some true
theorem rolodexlaw09_RollJoin.walk (P : rolodexlaw09_RollJoin.Pure) (a0 : ByteArray) (a1 : ByteArray) (w : World) (w0 : a0.size ≤ 140737488351232) (w1 : a1.size ≤ 140737488351232) :
    Calls Try.prog 6 #[.string a0, .string a1] w fun e w' => e = .returned (.bool true) ∧ Below w.heap.size w w' := by
  obtain ⟨k, h⟩ := P a0 a1 w0 w1
  refine (rolodexlaw09_RollJoin.calls k a0 a1 true w h).mono ?_
  rintro e w' ⟨rfl, hd⟩
  exact ⟨rfl, hd⟩

end Go.Proofs.Ytkicolloiagadaa.X
