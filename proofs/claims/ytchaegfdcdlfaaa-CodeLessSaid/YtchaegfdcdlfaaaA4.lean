/- Texts of this claim, what it reaches -/
import Derived.Test.YtchaegfdcdlfaaaA3
set_option linter.unusedVariables false
set_option linter.unusedSimpArgs false
set_option maxRecDepth 100000
namespace Go.Proofs.Ytchaegfdcdlfaaa.X
section
open Go.RowKit Go.Proofs.YtchaegfdcdlfaaaW.PrintWords Go.Proofs.YtchaegfdcdlfaaaW.PrintLast Go.Proofs.YtchaegfdcdlfaaaW.PrintMore
attribute [local go_sem] max2_int min2_int max_two min_two max_three min_three max_four min_four
attribute [local go_sem high] eqA67
def api_Piece.l0 : Nat → List (S67) → List (S67) → Int → Int → Option (Bool)
 | 0, _, _, _, _ => none
 | k + 1, x0, x1, x12, x13 => if x13 < x12 then (if 0 ≤ x13 then (if x13 < (x0.length : Int) then (if x13 < (x1.length : Int) then (if (!(((rd_T67 x0 x13).f0) == ((rd_T67 x1 x13).f0)) || (!(((rd_T67 x0 x13).f1) == ((rd_T67 x1 x13).f1)) || (!(((rd_T67 x0 x13).f2) == ((rd_T67 x1 x13).f2)) || (!((((rd_T67 x0 x13).f3).toList) == (((rd_T67 x1 x13).f3).toList)))))) = true then (some false) else (api_Piece.l0 k x0 x1 x12 (wrap64 (x13 + 1)))) else (none)) else (none)) else (none)) else (some true)
def api_Piece.f (k : Nat) (l0 : List (S67)) (l1 : List (S67)) : Option (Bool) := if (l0.length : Int) = (l1.length : Int) then (api_Piece.l0 k l0 l1 (l0.length : Int) 0) else (some false)
set_option maxHeartbeats 8000000 in
theorem api_Piece.calls (k : Nat) (A0 : Option Addr) (c0 : Nat) (l0 : List (S67)) (A1 : Option Addr) (c1 : Nat) (l1 : List (S67)) (r : Bool) (w : World) (hr0 : Kd.C k67 w A0 l0.length l0) (hc0 : l0.length ≤ c0) (hr1 : Kd.C k67 w A1 l1.length l1) (hc1 : l1.length ≤ c1) (h : api_Piece.f k l0 l1 = some r) :
  Calls Try.prog 102 #[.slice A0 l0.length c0, .slice A1 l1.length c1] w fun e w' => e = .returned (.bool r) ∧ Drawn0 w w' := by
 have hu67 := Try.underlying67
 have HR0 := am hr0
 have HC0 := am hc0
 clear hr0 hc0
 have HR1 := am hr1
 have HC1 := am hc1
 clear hr1 hc1
 have H : (if (l0.length : Int) = (l1.length : Int) then (api_Piece.l0 k l0 l1 (l0.length : Int) 0) else (some false)) = some r := h
 clear h
 by_cases c3 : (l0.length : Int) = (l1.length : Int)
 ·rw [if_pos c3] at H
  have c3b0 : ((l0.length : Int) == (l1.length : Int)) = true := beq_iff_eq.mpr c3
  have c3b1 : ((l0.length : Int) != (l1.length : Int)) = false := bne_eq_false_iff_eq.mpr c3
  have c3b2 : (l0.length == l1.length) = true := by first | simpa using c3 | (simp at c3 ⊢; omega)
  clear c3
  have H' := am H
  clear H
  go_enter Try.func102, Try.ntmps102
  go_wp2
  repeat (go_quiet (fail); try go_wp2)
  go_loopg [13] k (fun kq v13 w' => ∃ (x13_1 : Int), v13 = .int .i64 x13_1 ∧ Aside0 (api_Piece.l0 kq l0 l1 (l0.length : Int) x13_1 = some r) ∧ Aside0 (kq ≤ k) ∧ Drawn0 w w')
  case atStart => exact ⟨(0), (by first | rfl | (simp; done) | (simp [*]; done)), H', ⟨Nat.le_refl _⟩, by repeat (first | exact Drawn0.refl _ | apply Drawn0.step)⟩
  case round =>
   clear H'
   try clear c1
   try clear p2
   try clear c3
   try clear c3b0
   try clear c3b1
   try clear c3b2
   obtain ⟨x13_1, rfl, HA, HK1, ⟨m1, rfl⟩⟩ := hrel
   cases gk with
   | zero => exact absurd HA.out (by simp [api_Piece.l0])
   | succ k1 =>
    have H := HA.out
    clear HA
    simp only [api_Piece.l0] at H
    by_cases c4 : x13_1 < (l0.length : Int)
    ·rw [if_pos c4] at H
     have c4b0 : decide (x13_1 < (l0.length : Int)) = true := decide_eq_true c4
     clear c4
     by_cases c5 : 0 ≤ x13_1
     ·rw [if_pos c5] at H
      have c5b0 : decide (0 ≤ x13_1) = true := decide_eq_true c5
      clear c5
      by_cases c6 : x13_1 < (l0.length : Int)
      ·rw [if_pos c6] at H
       have c6b0 : decide (x13_1 < (l0.length : Int)) = true := decide_eq_true c6
       clear c6
       by_cases c7 : x13_1 < (l1.length : Int)
       ·rw [if_pos c7] at H
        have c7b0 : decide (x13_1 < (l1.length : Int)) = true := decide_eq_true c7
        clear c7
        by_cases c8 : (!(((rd_T67 l0 x13_1).f0) == ((rd_T67 l1 x13_1).f0)) || (!(((rd_T67 l0 x13_1).f1) == ((rd_T67 l1 x13_1).f1)) || (!(((rd_T67 l0 x13_1).f2) == ((rd_T67 l1 x13_1).f2)) || (!((((rd_T67 l0 x13_1).f3).toList) == (((rd_T67 l1 x13_1).f3).toList)))))) = true
        ·rw [if_pos c8] at H
         have c8b0 : (!(((rd_T67 l0 x13_1).f0) == ((rd_T67 l1 x13_1).f0)) || (!(((rd_T67 l0 x13_1).f1) == ((rd_T67 l1 x13_1).f1)) || (!(((rd_T67 l0 x13_1).f2) == ((rd_T67 l1 x13_1).f2)) || (!((((rd_T67 l0 x13_1).f3).toList) == (((rd_T67 l1 x13_1).f3).toList)))))) = true := c8
         clear c8
         obtain rfl := Option.some.inj H
         have p578 : 0 ≤ (x13_1 : Int) := of_decide_eq_true (by first | (with_reducible assumption) | assumption)
         have q578 : x13_1 < (l0.length : Int) := of_decide_eq_true (by first | (with_reducible assumption) | assumption)
         obtain ⟨ad578, e578, hx578_0, hx578_1, hx578_2, hx578_3⟩ := at_T67 HR0.out x13_1 p578 q578
         cases e578
         replace p578 := eq_true p578
         replace q578 := eq_true q578
         have p579 : 0 ≤ (x13_1 : Int) := of_decide_eq_true (by first | (with_reducible assumption) | assumption)
         have q579 : x13_1 < (l1.length : Int) := of_decide_eq_true (by first | (with_reducible assumption) | assumption)
         obtain ⟨ad579, e579, hx579_0, hx579_1, hx579_2, hx579_3⟩ := at_T67 HR1.out x13_1 p579 q579
         cases e579
         replace p579 := eq_true p579
         replace q579 := eq_true q579
         go_wp2
         repeat (go_quiet (fail); try go_wp2)
         go_ret
         exact ⟨by first | rfl | (simp; done) | (simp [*]; done), by repeat (first | exact Drawn0.refl _ | apply Drawn0.step)⟩
        ·rw [if_neg c8] at H
         have c8b0 : (!(((rd_T67 l0 x13_1).f0) == ((rd_T67 l1 x13_1).f0)) || (!(((rd_T67 l0 x13_1).f1) == ((rd_T67 l1 x13_1).f1)) || (!(((rd_T67 l0 x13_1).f2) == ((rd_T67 l1 x13_1).f2)) || (!((((rd_T67 l0 x13_1).f3).toList) == (((rd_T67 l1 x13_1).f3).toList)))))) = false := by simpa using c8
         clear c8
         have H' := am H
         clear H
         have p578 : 0 ≤ (x13_1 : Int) := of_decide_eq_true (by first | (with_reducible assumption) | assumption)
         have q578 : x13_1 < (l0.length : Int) := of_decide_eq_true (by first | (with_reducible assumption) | assumption)
         obtain ⟨ad578, e578, hx578_0, hx578_1, hx578_2, hx578_3⟩ := at_T67 HR0.out x13_1 p578 q578
         cases e578
         replace p578 := eq_true p578
         replace q578 := eq_true q578
         have p579 : 0 ≤ (x13_1 : Int) := of_decide_eq_true (by first | (with_reducible assumption) | assumption)
         have q579 : x13_1 < (l1.length : Int) := of_decide_eq_true (by first | (with_reducible assumption) | assumption)
         obtain ⟨ad579, e579, hx579_0, hx579_1, hx579_2, hx579_3⟩ := at_T67 HR1.out x13_1 p579 q579
         cases e579
         replace p579 := eq_true p579
         replace q579 := eq_true q579
         go_wp2
         repeat (go_quiet (fail); try go_wp2)
         go_roundg k1
         case measure => have := HK1.out; omega
         case rel => exact ⟨(wrap64 (x13_1 + 1)), (by first | rfl | (simp; done) | (simp [*]; done)), H', ⟨by have := HK1.out; omega⟩, by repeat (first | exact Drawn0.refl _ | apply Drawn0.step)⟩
       ·rw [if_neg c7] at H
        exact absurd H (by simp)
      ·rw [if_neg c6] at H
       exact absurd H (by simp)
     ·rw [if_neg c5] at H
      exact absurd H (by simp)
    ·rw [if_neg c4] at H
     have c4b0 : decide (x13_1 < (l0.length : Int)) = false := decide_eq_false c4
     clear c4
     obtain rfl := Option.some.inj H
     go_wp2
     repeat (go_quiet (fail); try go_wp2)
     go_ret
     exact ⟨by first | rfl | (simp; done) | (simp [*]; done), by repeat (first | exact Drawn0.refl _ | apply Drawn0.step)⟩
 ·rw [if_neg c3] at H
  have c3b0 : ((l0.length : Int) == (l1.length : Int)) = false := beq_eq_false_iff_ne.mpr c3
  have c3b1 : ((l0.length : Int) != (l1.length : Int)) = true := bne_iff_ne.mpr c3
  have c3b2 : (l0.length == l1.length) = false := by first | simpa using c3 | (simp at c3 ⊢; omega)
  obtain rfl := Option.some.inj H
  go_enter Try.func102, Try.ntmps102
  go_wp2
  repeat (go_quiet (fail); try go_wp2)
  go_ret
  exact ⟨by first | rfl | (simp; done) | (simp [*]; done), by repeat (first | exact Drawn0.refl _ | apply Drawn0.step)⟩
end
section
open Go.RowKit Go.Proofs.YtchaegfdcdlfaaaW.PrintWords Go.Proofs.YtchaegfdcdlfaaaW.PrintLast Go.Proofs.YtchaegfdcdlfaaaW.PrintMore
attribute [local go_sem] max2_int min2_int max_two min_two max_three min_three max_four min_four
def delta_Same.f (k : Nat) (l0 : List (S67)) (l1 : List (S67)) : Option (Bool) := (api_Piece.f k l0 l1).bind fun t580 => (some t580)
set_option maxHeartbeats 8000000 in
theorem delta_Same.calls (k : Nat) (A0 : Option Addr) (c0 : Nat) (l0 : List (S67)) (A1 : Option Addr) (c1 : Nat) (l1 : List (S67)) (r : Bool) (w : World) (hr0 : Kd.C k67 w A0 l0.length l0) (hc0 : l0.length ≤ c0) (hr1 : Kd.C k67 w A1 l1.length l1) (hc1 : l1.length ≤ c1) (h : delta_Same.f k l0 l1 = some r) :
  Calls Try.prog 61 #[.slice A0 l0.length c0, .slice A1 l1.length c1] w fun e w' => e = .returned (.bool r) ∧ Drawn0 w w' := by
 have HR0 := am hr0
 have HC0 := am hc0
 clear hr0 hc0
 have HR1 := am hr1
 have HC1 := am hc1
 clear hr1 hc1
 have H : ((api_Piece.f k l0 l1).bind fun t580 => (some t580)) = some r := h
 clear h
 replace H := Option.bind_eq_some_iff.mp H
 obtain ⟨t580, A30, H⟩ := H
 replace H : (some t580) = some r := H
 have A3 := am A30
 clear A30
 obtain rfl := Option.some.inj H
 go_enter Try.func61, Try.ntmps61
 go_wp2_with (first | ((with_reducible refine gate_callee (f := 102) rfl ?_); refine goesL_ (some 7) rfl rfl Try.func102 (by kernel_rfl) rfl #[.slice A0 l0.length c0, .slice A1 l1.length c1] rfl (by (try simp only [List.map_toArray, List.map_cons, List.map_nil]); first | done | rfl | (simp only [List.length_drop, List.length_take]; rfl)) ?_; (with_reducible refine (api_Piece.calls k _ _ l0 _ _ l1 t580 _ ?side1 ?side2 ?side3 ?side4 A3.out).mono ?_); (case side1 => repeat (first | exact HR0.out | (with_reducible refine Kd.C_alloc ?_ _) | (with_reducible refine Kd.C_drewN ?_ _) | (with_reducible refine Kd.C_drew ?_))); (case side2 => exact HC0.out); (case side3 => repeat (first | exact HR1.out | (with_reducible refine Kd.C_alloc ?_ _) | (with_reducible refine Kd.C_drewN ?_ _) | (with_reducible refine Kd.C_drew ?_))); (case side4 => exact HC1.out); rintro e w' ⟨rfl, ⟨nd, rfl⟩⟩; refine ⟨_, rfl, ?_⟩))
 go_ret
 exact ⟨by first | rfl | (simp; done) | (simp [*]; done), by repeat (first | exact Drawn0.refl _ | apply Drawn0.step)⟩
end
section
open Go.RowKit Go.Maps Go.Proofs.YtchaegfdcdlfaaaW.PrintWords Go.Proofs.YtchaegfdcdlfaaaW.PrintLast Go.Proofs.YtchaegfdcdlfaaaW.PrintMore
def sameP (p q : S67) : Bool := p.f0 == q.f0 && (p.f1 == q.f1 && (p.f2 == q.f2 && (p.f3.toList == q.f3.toList)))
def sameL : List S67 → List S67 → Bool
 | [], [] => true
 | p :: l, q :: m => sameP p q && sameL l m
 | _, _ => false
theorem sameP_not (p q : S67) : (!(p.f0 == q.f0) || (!(p.f1 == q.f1) || (!(p.f2 == q.f2) || (!(p.f3.toList == q.f3.toList))))) = !sameP p q := by
 unfold sameP
 rw [Bool.not_and, Bool.not_and, Bool.not_and]
theorem sameP_refl (p : S67) : sameP p p = true := by simp [sameP]
theorem sameL_refl : ∀ l : List S67, sameL l l = true
 | [] => rfl
 | p :: l => by
  show (sameP p p && sameL l l) = true
  rw [sameP_refl, sameL_refl l]
  rfl
theorem sameL_len : ∀ {l m : List S67}, l.length ≠ m.length → sameL l m = false
 | [], [], h => absurd rfl h
 | [], q :: m, _ => rfl
 | p :: l, [], _ => rfl
 | p :: l, q :: m, h => by
  show (sameP p q && sameL l m) = false
  rw [sameL_len (l := l) (m := m) (fun e => h (by simp [e])), Bool.and_false]
theorem psame_l0' (l m : List S67) (hl : l.length ≤ 9223372036854775807) (hm : l.length = m.length) : ∀ (d i k : Nat), l.length = i + d → d < k → api_Piece.l0 k l m (l.length : Int) (i : Int) = some (sameL (l.drop i) (m.drop i)) := by
 intro d
 induction d with
 | zero =>
  intro i k hi hk
  obtain ⟨k, rfl⟩ : ∃ k', k = k' + 1 := ⟨k - 1, by omega⟩
  rw [api_Piece.l0, if_neg (by omega), List.drop_eq_nil_of_le (by omega), List.drop_eq_nil_of_le (by omega)]
  rfl
 | succ d ih =>
  intro i k hi hk
  obtain ⟨k, rfl⟩ : ∃ k', k = k' + 1 := ⟨k - 1, by omega⟩
  have hil : i < l.length := by omega
  have him : i < m.length := by omega
  rw [api_Piece.l0, if_pos (by omega), if_pos (by omega), if_pos (by omega), if_pos (by omega), sameP_not, rd_next hil, rd_next him]
  show _ = some (sameP (rd_T67 l (i : Int)) (rd_T67 m (i : Int)) && sameL (l.drop (i + 1)) (m.drop (i + 1)))
  cases sameP (rd_T67 l (i : Int)) (rd_T67 m (i : Int))
  ·rfl
  ·rw [if_neg (by simp), show wrap64 ((i : Int) + 1) = ((i + 1 : Nat) : Int) by unfold wrap64; omega, ih (i + 1) k (by omega) (by omega), Bool.true_and]
theorem DSame_eq' (l m : List S67) (hl : l.length ≤ 9223372036854775807) (k : Nat) (hk : l.length < k) : delta_Same.f k l m = some (sameL l m) := by
 unfold delta_Same.f api_Piece.f
 by_cases h : l.length = m.length
 ·rw [if_pos (by omega), show (0 : Int) = ((0 : Nat) : Int) from rfl, psame_l0' l m hl h l.length 0 k (by omega) (by omega), List.drop_zero, List.drop_zero, Option.bind_some]
 ·rw [if_neg (by omega), sameL_len h, Option.bind_some]
theorem may_l0_many (l : List S67) (hl : l.length ≤ 9223372036854775807) (h60 : 60 < l.length) : ∀ (d i : Nat) (a : Int) (k : Nat), l.length = i + d → d < k → delta_May.l0 k l a l (l.length : Int) (i : Int) = some false := by
 intro d
 induction d with
 | zero =>
  intro i a k hi hk
  obtain ⟨k, rfl⟩ : ∃ k', k = k' + 1 := ⟨k - 1, by omega⟩
  rw [delta_May.l0, if_neg (by omega), if_neg (by omega)]
 | succ d ih =>
  intro i a k hi hk
  obtain ⟨k, rfl⟩ : ∃ k', k = k' + 1 := ⟨k - 1, by omega⟩
  have hil : i < l.length := by omega
  obtain ⟨p, hp⟩ : ∃ p, rd_T67 l (i : Int) = p := ⟨_, rfl⟩
  rw [delta_May.l0, if_pos (by omega), if_pos (by omega), if_pos (by omega), hp, may_eq, Option.bind_some]
  cases hm : mayP p
  ·rfl
  ·rw [if_pos rfl, show wrap64 ((i : Int) + 1) = ((i + 1 : Nat) : Int) by unfold wrap64; omega]
   exact ih (i + 1) _ k (by omega) (by omega)
theorem May_eq' (l : List S67) (hl : l.length ≤ 9223372036854775807) (k : Nat) (hk : l.length < k) : delta_May.f k l = some (mayL l) := by
 by_cases h : l.length ≤ 60
 ·exact May_eq l (by omega) k hk
 ·unfold delta_May.f
  rw [show (0 : Int) = ((0 : Nat) : Int) from rfl, may_l0_many l hl (by omega) l.length 0 _ k (by omega) hk]
  unfold mayL
  rw [decide_eq_false h]
  simp
theorem may_callC {l : List S67} (A : Option Addr) (c : Nat) (w : World) (hr : Kd.C k67 w A l.length l) (hc : l.length ≤ c) (hl : l.length ≤ 9223372036854775807) :
  Calls Try.prog 57 #[.slice A l.length c] w fun e w' => e = .returned (.bool (mayL l)) ∧ Below w.heap.size w w' :=
 delta_May.calls (l.length + 1) A c l (mayL l) w hr hc (May_eq' l hl (l.length + 1) (by omega))
theorem dsame_call (l m : List S67) (A B : Option Addr) (c d : Nat) (w : World) (hc : l.length ≤ c) (hd : m.length ≤ d) (hA : Kd.C k67 w A l.length l) (hB : Kd.C k67 w B m.length m) (hl : l.length ≤ 9223372036854775807) :
  Calls Try.prog 61 #[.slice A l.length c, .slice B m.length d] w fun e w' => e = .returned (.bool (sameL l m)) ∧ Below w.heap.size w w' :=
 (delta_Same.calls (l.length + 1) A c l B d m (sameL l m) w hA hc hB hd (DSame_eq' l m hl (l.length + 1) (by omega))).mono fun e w' h => ⟨h.1, by obtain ⟨_, q, rfl⟩ := h; exact pw_below_drewN (Below.refl _ _) _⟩
end
section
open Go.RowKit Go.Proofs.YtchaegfdcdlfaaaW.PrintWords Go.Proofs.YtchaegfdcdlfaaaW.PrintLast Go.Proofs.YtchaegfdcdlfaaaW.PrintMore
attribute [local go_sem] max2_int min2_int max_two min_two max_three min_three max_four min_four
def sameO (x y : OpT) : Bool := x.id == y.id && (x.fro == y.fro && (x.no == y.no && (x.fno == y.fno && (x.kind == y.kind && ((x.n == y.n && x.rep == y.rep) && (x.v.toList == y.v.toList && (x.d == y.d && sameL x.p y.p)))))))
set_option maxHeartbeats 4000000 in
theorem same_o (es fs : Array Value) (kind n rep no fno kind2 n2 rep2 no2 fno2 : Int) (v v2 : ByteArray) (d1 d2 d3 e1 e2 e3 : List Int) (p p2 : List S67) (A B : Option Addr) (c c' : Nat) (w : World)
  (h0 : es[0]? = some (.int .i64 kind)) (h17 : es[17]? = some (.int .i64 n)) (h18 : es[18]? = some (.int .i64 rep)) (h19 : es[19]? = some (.int .i64 no)) (h20 : es[20]? = some (.string v)) (h21 : es[21]? = some (.slice A p.length c)) (h38 : es[38]? = some (.int .i64 fno))
  (ha : ∀ W : World, W.heap[w.heap.size]? = some (.cells es 98 (0, 0)) → At W ⟨w.heap.size, 1, none⟩ (cells8 d1) ∧ At W ⟨w.heap.size, 22, none⟩ (cells8 d2) ∧ At W ⟨w.heap.size, 39, none⟩ (cells8 d3))
  (g0 : fs[0]? = some (.int .i64 kind2)) (g17 : fs[17]? = some (.int .i64 n2)) (g18 : fs[18]? = some (.int .i64 rep2)) (g19 : fs[19]? = some (.int .i64 no2)) (g20 : fs[20]? = some (.string v2)) (g21 : fs[21]? = some (.slice B p2.length c')) (g38 : fs[38]? = some (.int .i64 fno2))
  (ga : ∀ W : World, W.heap[w.heap.size + 1]? = some (.cells fs 98 (0, 0)) → At W ⟨w.heap.size + 1, 1, none⟩ (cells8 e1) ∧ At W ⟨w.heap.size + 1, 22, none⟩ (cells8 e2) ∧ At W ⟨w.heap.size + 1, 39, none⟩ (cells8 e3))
  (hd1 : d1.length = 16) (hd2 : d2.length = 16) (hd3 : d3.length = 32) (he1 : e1.length = 16) (he2 : e2.length = 16) (he3 : e3.length = 32)
  (hA : ∀ W : World, Below w.heap.size w W → Calls Try.prog 61 #[.slice A p.length c, .slice B p2.length c'] W fun e w' => e = .returned (.bool (sameL p p2)) ∧ Below W.heap.size W w') :
  Calls Try.prog 131 #[.agg es, .agg fs] w fun e w' => e = .returned (.bool ((d1 == e1) && ((d2 == e2) && ((no == no2) && ((fno == fno2) && ((kind == kind2) && ((n == n2 && rep == rep2) && ((v.toList == v2.toList) && ((d3 == e3) && sameL p p2))))))))) ∧ Below w.heap.size w w' := by
 have HT := am (TwoS.begin w 98 es fs)
 have p0 := (blk_cell HT.out.1 0).trans h0
 have q0 := (blk_cell HT.out.2.1 0).trans g0
 have p17 := (blk_cell HT.out.1 17).trans h17
 have q17 := (blk_cell HT.out.2.1 17).trans g17
 have p18 := (blk_cell HT.out.1 18).trans h18
 have q18 := (blk_cell HT.out.2.1 18).trans g18
 have p19 := (blk_cell HT.out.1 19).trans h19
 have q19 := (blk_cell HT.out.2.1 19).trans g19
 have p20 := (blk_cell HT.out.1 20).trans h20
 have q20 := (blk_cell HT.out.2.1 20).trans g20
 have p21 := (blk_cell HT.out.1 21).trans h21
 have q21 := (blk_cell HT.out.2.1 21).trans g21
 have p38 := (blk_cell HT.out.1 38).trans h38
 have q38 := (blk_cell HT.out.2.1 38).trans g38
 have HD := am (And.intro (ha _ HT.out.1) (ga _ HT.out.2.1))
 have L1 := am (And.intro hd1 he1)
 have L2 := am (And.intro hd2 he2)
 have L3 := am (And.intro hd3 he3)
 have HA := am hA
 have hst := eql_st n rep n2 rep2
 have hq1 : ∀ W : World, (binOp .eql 94 (.agg (cells8 d1)) (.agg (cells8 e1))).run Try.prog W = .ok (.bool (d1 == e1)) W := fun W => eql8 (P := Try.prog) (w := W) Try.underlying94 Try.info5i Try.underlying5 cells5 d1 e1 hd1 he1
 have hq2 : ∀ W : World, (binOp .eql 94 (.agg (cells8 d2)) (.agg (cells8 e2))).run Try.prog W = .ok (.bool (d2 == e2)) W := fun W => eql8 (P := Try.prog) (w := W) Try.underlying94 Try.info5i Try.underlying5 cells5 d2 e2 hd2 he2
 have hq3 : ∀ W : World, (binOp .eql 28 (.agg (cells8 d3)) (.agg (cells8 e3))).run Try.prog W = .ok (.bool (d3 == e3)) W := fun W => eql8 (P := Try.prog) (w := W) Try.underlying28 Try.info5i Try.underlying5 cells5 d3 e3 hd3 he3
 clear h0 g0 h17 g17 h18 g18 h19 g19 h20 g20 h21 g21 h38 g38 ha ga hd1 hd2 hd3 he1 he2 he3 hA
 cases c1 : (d1 == e1)
 ·simp only [c1] at hq1
  go_enter Try.func131, Try.ntmps131
  go_wp2_with (first
   | ((with_reducible refine gate_dst (N := 7) rfl ?_); refine wpList_load_cells rfl 94 (.tmp 6) rfl ⟨w.heap.size, 1, none⟩ rfl (cells8 d1) _ HD.out.1.1 Try.underlying94 rfl (by rw [cells8_size, L1.out.1]; kernel_rfl) ?_)
   | ((with_reducible refine gate_dst (N := 9) rfl ?_); refine wpList_load_cells rfl 94 (.tmp 8) rfl ⟨w.heap.size + 1, 1, none⟩ rfl (cells8 e1) _ HD.out.2.1 Try.underlying94 rfl (by rw [cells8_size, L1.out.2]; kernel_rfl) ?_)
   | fail)
  go_ret
  exact ⟨rfl, HT.out.2.2⟩
 simp only [c1] at hq1
 cases c2 : (d2 == e2)
 ·simp only [c2] at hq2
  go_enter Try.func131, Try.ntmps131
  go_wp2_with (first
   | ((with_reducible refine gate_dst (N := 7) rfl ?_); refine wpList_load_cells rfl 94 (.tmp 6) rfl ⟨w.heap.size, 1, none⟩ rfl (cells8 d1) _ HD.out.1.1 Try.underlying94 rfl (by rw [cells8_size, L1.out.1]; kernel_rfl) ?_)
   | ((with_reducible refine gate_dst (N := 9) rfl ?_); refine wpList_load_cells rfl 94 (.tmp 8) rfl ⟨w.heap.size + 1, 1, none⟩ rfl (cells8 e1) _ HD.out.2.1 Try.underlying94 rfl (by rw [cells8_size, L1.out.2]; kernel_rfl) ?_)
   | ((with_reducible refine gate_dst (N := 13) rfl ?_); refine wpList_load_cells_g (by rfl) 94 (.tmp 12) rfl ⟨w.heap.size, 22, none⟩ rfl (cells8 d2) _ HD.out.1.2.1 Try.underlying94 rfl (by rw [cells8_size, L2.out.1]; kernel_rfl) ?_)
   | ((with_reducible refine gate_dst (N := 15) rfl ?_); refine wpList_load_cells_g (by rfl) 94 (.tmp 14) rfl ⟨w.heap.size + 1, 22, none⟩ rfl (cells8 e2) _ HD.out.2.2.1 Try.underlying94 rfl (by rw [cells8_size, L2.out.2]; kernel_rfl) ?_)
   | fail)
  go_ret
  exact ⟨rfl, HT.out.2.2⟩
 simp only [c2] at hq2
 cases c3 : (no == no2)
 ·go_enter Try.func131, Try.ntmps131
  go_wp2_with (first
   | ((with_reducible refine gate_dst (N := 7) rfl ?_); refine wpList_load_cells rfl 94 (.tmp 6) rfl ⟨w.heap.size, 1, none⟩ rfl (cells8 d1) _ HD.out.1.1 Try.underlying94 rfl (by rw [cells8_size, L1.out.1]; kernel_rfl) ?_)
   | ((with_reducible refine gate_dst (N := 9) rfl ?_); refine wpList_load_cells rfl 94 (.tmp 8) rfl ⟨w.heap.size + 1, 1, none⟩ rfl (cells8 e1) _ HD.out.2.1 Try.underlying94 rfl (by rw [cells8_size, L1.out.2]; kernel_rfl) ?_)
   | ((with_reducible refine gate_dst (N := 13) rfl ?_); refine wpList_load_cells_g (by rfl) 94 (.tmp 12) rfl ⟨w.heap.size, 22, none⟩ rfl (cells8 d2) _ HD.out.1.2.1 Try.underlying94 rfl (by rw [cells8_size, L2.out.1]; kernel_rfl) ?_)
   | ((with_reducible refine gate_dst (N := 15) rfl ?_); refine wpList_load_cells_g (by rfl) 94 (.tmp 14) rfl ⟨w.heap.size + 1, 22, none⟩ rfl (cells8 e2) _ HD.out.2.2.1 Try.underlying94 rfl (by rw [cells8_size, L2.out.2]; kernel_rfl) ?_)
   | fail)
  go_ret
  exact ⟨rfl, HT.out.2.2⟩
 cases c4 : (fno == fno2)
 ·go_enter Try.func131, Try.ntmps131
  go_wp2_with (first
   | ((with_reducible refine gate_dst (N := 7) rfl ?_); refine wpList_load_cells rfl 94 (.tmp 6) rfl ⟨w.heap.size, 1, none⟩ rfl (cells8 d1) _ HD.out.1.1 Try.underlying94 rfl (by rw [cells8_size, L1.out.1]; kernel_rfl) ?_)
   | ((with_reducible refine gate_dst (N := 9) rfl ?_); refine wpList_load_cells rfl 94 (.tmp 8) rfl ⟨w.heap.size + 1, 1, none⟩ rfl (cells8 e1) _ HD.out.2.1 Try.underlying94 rfl (by rw [cells8_size, L1.out.2]; kernel_rfl) ?_)
   | ((with_reducible refine gate_dst (N := 13) rfl ?_); refine wpList_load_cells_g (by rfl) 94 (.tmp 12) rfl ⟨w.heap.size, 22, none⟩ rfl (cells8 d2) _ HD.out.1.2.1 Try.underlying94 rfl (by rw [cells8_size, L2.out.1]; kernel_rfl) ?_)
   | ((with_reducible refine gate_dst (N := 15) rfl ?_); refine wpList_load_cells_g (by rfl) 94 (.tmp 14) rfl ⟨w.heap.size + 1, 22, none⟩ rfl (cells8 e2) _ HD.out.2.2.1 Try.underlying94 rfl (by rw [cells8_size, L2.out.2]; kernel_rfl) ?_)
   | fail)
  go_ret
  exact ⟨rfl, HT.out.2.2⟩
 cases c5 : (kind == kind2)
 ·go_enter Try.func131, Try.ntmps131
  go_wp2_with (first
   | ((with_reducible refine gate_dst (N := 7) rfl ?_); refine wpList_load_cells rfl 94 (.tmp 6) rfl ⟨w.heap.size, 1, none⟩ rfl (cells8 d1) _ HD.out.1.1 Try.underlying94 rfl (by rw [cells8_size, L1.out.1]; kernel_rfl) ?_)
   | ((with_reducible refine gate_dst (N := 9) rfl ?_); refine wpList_load_cells rfl 94 (.tmp 8) rfl ⟨w.heap.size + 1, 1, none⟩ rfl (cells8 e1) _ HD.out.2.1 Try.underlying94 rfl (by rw [cells8_size, L1.out.2]; kernel_rfl) ?_)
   | ((with_reducible refine gate_dst (N := 13) rfl ?_); refine wpList_load_cells_g (by rfl) 94 (.tmp 12) rfl ⟨w.heap.size, 22, none⟩ rfl (cells8 d2) _ HD.out.1.2.1 Try.underlying94 rfl (by rw [cells8_size, L2.out.1]; kernel_rfl) ?_)
   | ((with_reducible refine gate_dst (N := 15) rfl ?_); refine wpList_load_cells_g (by rfl) 94 (.tmp 14) rfl ⟨w.heap.size + 1, 22, none⟩ rfl (cells8 e2) _ HD.out.2.2.1 Try.underlying94 rfl (by rw [cells8_size, L2.out.2]; kernel_rfl) ?_)
   | fail)
  go_ret
  exact ⟨rfl, HT.out.2.2⟩
 cases c6 : (n == n2 && rep == rep2)
 ·simp only [c6] at hst
  go_enter Try.func131, Try.ntmps131
  go_wp2_with (first
   | ((with_reducible refine gate_dst (N := 7) rfl ?_); refine wpList_load_cells rfl 94 (.tmp 6) rfl ⟨w.heap.size, 1, none⟩ rfl (cells8 d1) _ HD.out.1.1 Try.underlying94 rfl (by rw [cells8_size, L1.out.1]; kernel_rfl) ?_)
   | ((with_reducible refine gate_dst (N := 9) rfl ?_); refine wpList_load_cells rfl 94 (.tmp 8) rfl ⟨w.heap.size + 1, 1, none⟩ rfl (cells8 e1) _ HD.out.2.1 Try.underlying94 rfl (by rw [cells8_size, L1.out.2]; kernel_rfl) ?_)
   | ((with_reducible refine gate_dst (N := 13) rfl ?_); refine wpList_load_cells_g (by rfl) 94 (.tmp 12) rfl ⟨w.heap.size, 22, none⟩ rfl (cells8 d2) _ HD.out.1.2.1 Try.underlying94 rfl (by rw [cells8_size, L2.out.1]; kernel_rfl) ?_)
   | ((with_reducible refine gate_dst (N := 15) rfl ?_); refine wpList_load_cells_g (by rfl) 94 (.tmp 14) rfl ⟨w.heap.size + 1, 22, none⟩ rfl (cells8 e2) _ HD.out.2.2.1 Try.underlying94 rfl (by rw [cells8_size, L2.out.2]; kernel_rfl) ?_)
   | fail)
  go_ret
  exact ⟨rfl, HT.out.2.2⟩
 simp only [c6] at hst
 cases c7 : (v.toList == v2.toList)
 ·go_enter Try.func131, Try.ntmps131
  go_wp2_with (first
   | ((with_reducible refine gate_dst (N := 7) rfl ?_); refine wpList_load_cells rfl 94 (.tmp 6) rfl ⟨w.heap.size, 1, none⟩ rfl (cells8 d1) _ HD.out.1.1 Try.underlying94 rfl (by rw [cells8_size, L1.out.1]; kernel_rfl) ?_)
   | ((with_reducible refine gate_dst (N := 9) rfl ?_); refine wpList_load_cells rfl 94 (.tmp 8) rfl ⟨w.heap.size + 1, 1, none⟩ rfl (cells8 e1) _ HD.out.2.1 Try.underlying94 rfl (by rw [cells8_size, L1.out.2]; kernel_rfl) ?_)
   | ((with_reducible refine gate_dst (N := 13) rfl ?_); refine wpList_load_cells_g (by rfl) 94 (.tmp 12) rfl ⟨w.heap.size, 22, none⟩ rfl (cells8 d2) _ HD.out.1.2.1 Try.underlying94 rfl (by rw [cells8_size, L2.out.1]; kernel_rfl) ?_)
   | ((with_reducible refine gate_dst (N := 15) rfl ?_); refine wpList_load_cells_g (by rfl) 94 (.tmp 14) rfl ⟨w.heap.size + 1, 22, none⟩ rfl (cells8 e2) _ HD.out.2.2.1 Try.underlying94 rfl (by rw [cells8_size, L2.out.2]; kernel_rfl) ?_)
   | fail)
  go_ret
  exact ⟨rfl, HT.out.2.2⟩
 cases c8 : (d3 == e3)
 ·simp only [c8] at hq3
  go_enter Try.func131, Try.ntmps131
  go_wp2_with (first
   | ((with_reducible refine gate_dst (N := 7) rfl ?_); refine wpList_load_cells rfl 94 (.tmp 6) rfl ⟨w.heap.size, 1, none⟩ rfl (cells8 d1) _ HD.out.1.1 Try.underlying94 rfl (by rw [cells8_size, L1.out.1]; kernel_rfl) ?_)
   | ((with_reducible refine gate_dst (N := 9) rfl ?_); refine wpList_load_cells rfl 94 (.tmp 8) rfl ⟨w.heap.size + 1, 1, none⟩ rfl (cells8 e1) _ HD.out.2.1 Try.underlying94 rfl (by rw [cells8_size, L1.out.2]; kernel_rfl) ?_)
   | ((with_reducible refine gate_dst (N := 13) rfl ?_); refine wpList_load_cells_g (by rfl) 94 (.tmp 12) rfl ⟨w.heap.size, 22, none⟩ rfl (cells8 d2) _ HD.out.1.2.1 Try.underlying94 rfl (by rw [cells8_size, L2.out.1]; kernel_rfl) ?_)
   | ((with_reducible refine gate_dst (N := 15) rfl ?_); refine wpList_load_cells_g (by rfl) 94 (.tmp 14) rfl ⟨w.heap.size + 1, 22, none⟩ rfl (cells8 e2) _ HD.out.2.2.1 Try.underlying94 rfl (by rw [cells8_size, L2.out.2]; kernel_rfl) ?_)
   | ((with_reducible refine gate_dst (N := 56) rfl ?_); refine wpList_load_cells_g (by rfl) 28 (.tmp 55) rfl ⟨w.heap.size, 39, none⟩ rfl (cells8 d3) _ HD.out.1.2.2 Try.underlying28 rfl (by rw [cells8_size, L3.out.1]; kernel_rfl) ?_)
   | ((with_reducible refine gate_dst (N := 58) rfl ?_); refine wpList_load_cells_g (by rfl) 28 (.tmp 57) rfl ⟨w.heap.size + 1, 39, none⟩ rfl (cells8 e3) _ HD.out.2.2.2 Try.underlying28 rfl (by rw [cells8_size, L3.out.2]; kernel_rfl) ?_)
   | fail)
  go_ret
  exact ⟨rfl, HT.out.2.2⟩
 simp only [c8] at hq3
 go_enter Try.func131, Try.ntmps131
 go_wp2_with (first
  | ((with_reducible refine gate_dst (N := 7) rfl ?_); refine wpList_load_cells rfl 94 (.tmp 6) rfl ⟨w.heap.size, 1, none⟩ rfl (cells8 d1) _ HD.out.1.1 Try.underlying94 rfl (by rw [cells8_size, L1.out.1]; kernel_rfl) ?_)
  | ((with_reducible refine gate_dst (N := 9) rfl ?_); refine wpList_load_cells rfl 94 (.tmp 8) rfl ⟨w.heap.size + 1, 1, none⟩ rfl (cells8 e1) _ HD.out.2.1 Try.underlying94 rfl (by rw [cells8_size, L1.out.2]; kernel_rfl) ?_)
  | ((with_reducible refine gate_dst (N := 13) rfl ?_); refine wpList_load_cells_g (by rfl) 94 (.tmp 12) rfl ⟨w.heap.size, 22, none⟩ rfl (cells8 d2) _ HD.out.1.2.1 Try.underlying94 rfl (by rw [cells8_size, L2.out.1]; kernel_rfl) ?_)
  | ((with_reducible refine gate_dst (N := 15) rfl ?_); refine wpList_load_cells_g (by rfl) 94 (.tmp 14) rfl ⟨w.heap.size + 1, 22, none⟩ rfl (cells8 e2) _ HD.out.2.2.1 Try.underlying94 rfl (by rw [cells8_size, L2.out.2]; kernel_rfl) ?_)
  | ((with_reducible refine gate_dst (N := 56) rfl ?_); refine wpList_load_cells_g (by rfl) 28 (.tmp 55) rfl ⟨w.heap.size, 39, none⟩ rfl (cells8 d3) _ HD.out.1.2.2 Try.underlying28 rfl (by rw [cells8_size, L3.out.1]; kernel_rfl) ?_)
  | ((with_reducible refine gate_dst (N := 58) rfl ?_); refine wpList_load_cells_g (by rfl) 28 (.tmp 57) rfl ⟨w.heap.size + 1, 39, none⟩ rfl (cells8 e3) _ HD.out.2.2.2 Try.underlying28 rfl (by rw [cells8_size, L3.out.2]; kernel_rfl) ?_)
  | fail)
 refine (HA.out _ HT.out.2.2).mono ?_
 rintro e_ w1 ⟨rfl, hb1⟩
 have HB1 := am (below_step HT.out.2.2 hb1)
 clear hb1 p0 q0 p17 q17 p18 q18 p19 q19 p20 q20 p21 q21 p38 q38
 go_wp2_with fail
 go_ret
 exact ⟨rfl, HB1.out⟩
theorem sameo_call (x y : OpT) (A B : Option Addr) (c c' : Nat) (w : World) (hx : x.id.length = 16 ∧ x.fro.length = 16 ∧ x.d.length = 32) (hy : y.id.length = 16 ∧ y.fro.length = 16 ∧ y.d.length = 32) (hcx : x.p.length ≤ c) (hcy : y.p.length ≤ c') (hA : Kd.C k67 w A x.p.length x.p) (hB : Kd.C k67 w B y.p.length y.p) (hl : x.p.length ≤ 9223372036854775807) :
  Calls Try.prog 131 #[.agg (opC x A c).toArray, .agg (opC y B c').toArray] w fun e w' => e = .returned (.bool (sameO x y)) ∧ Below w.heap.size w w' := by
 have hat : ∀ (g : Nat) (z : OpT) (C : Option Addr) (k : Nat) (W : World), (z.id.length = 16 ∧ z.fro.length = 16 ∧ z.d.length = 32) → W.heap[g]? = some (.cells (opC z C k).toArray 98 (0, 0)) → At W ⟨g, 1, none⟩ (cells8 z.id) ∧ At W ⟨g, 22, none⟩ (cells8 z.fro) ∧ At W ⟨g, 39, none⟩ (cells8 z.d) := fun g z C k W hz h => by
  have := opC_arr hz C k (At.blk h)
  rw [add_at, add_at, add_at] at this
  exact this
 have hcall := fun (W : World) (hW : Below w.heap.size w W) => dsame_call x.p y.p A B c c' W hcx hcy (Kd.C_below hA hW) (Kd.C_below hB hW) hl
 obtain ⟨a0, a1, a2, a3, a4, a5, a6⟩ := opC_at hx A c
 obtain ⟨b0, b1, b2, b3, b4, b5, b6⟩ := opC_at hy B c'
 unfold sameO
 exact same_o _ _ x.kind x.n x.rep x.no x.fno y.kind y.n y.rep y.no y.fno x.v y.v x.id x.fro x.d y.id y.fro y.d x.p y.p A B c c' w a0 a1 a2 a3 a4 a5 a6 (hat _ x A c · hx) b0 b1 b2 b3 b4 b5 b6 (hat _ y B c' · hy) hx.1 hx.2.1 hx.2.2 hy.1 hy.2.1 hy.2.2 hcall
def mayO (x : OpT) : Bool := decide (0 ≤ x.kind) && (decide (x.kind < 4) && (sameO x (onlyO x) && (!(x.n == 0 && x.rep == 0) && (stMay x.n x.rep && ((decide (0 ≤ x.no) && decide (x.no < 8)) && ((decide (0 ≤ x.fno) && decide (x.fno < 8)) && (decide (x.v.size ≤ 200) && mayL x.p)))))))
set_option maxHeartbeats 4000000 in
theorem may_o0 (es : Array Value) (kind n rep : Int) (same : Bool) (w : World) (k0 : es[0]? = some (.int .i64 kind)) (k17 : es[17]? = some (.int .i64 n)) (k18 : es[18]? = some (.int .i64 rep)) (hI : (Try.prog.info? 98).map (·.size) = some es.size)
  (honly : ∀ W : World, Below w.heap.size w W → Calls Try.prog 156 #[.agg es] W fun e w' => (∃ os, e = .returned (.agg os) ∧ ∀ V : World, Below w.heap.size w V → Calls Try.prog 131 #[.agg es, .agg os] V fun e w' => e = .returned (.bool same) ∧ Below V.heap.size V w') ∧ Below W.heap.size W w') (c1 : decide (kind < 0) = true) :
  Calls Try.prog 118 #[.agg es] w fun e w' => e = .returned (.bool false) ∧ Below w.heap.size w w' := by
 have HBK := am (blk_new w (.cells es 98))
 have HBL := am (below_alloc (Below.refl w.heap.size w) (.cells es 98))
 have K0 := am k0
 have K17 := am k17
 have K18 := am k18
 have HI := am hI
 have HONLY := am honly
 clear k0 k17 k18 hI honly
 go_enter Try.func118, Try.ntmps118
 go_wp2_with fail
 refine wp_region_held_drew (S := (fun W => W.heap[w.heap.size]? = some (.cells es 98 (0, 0)) ∧ Below w.heap.size w W)) (by kernel_rfl) (⟨blk_below HBK.out (below_drew (Below.refl _ _)), below_drew HBL.out⟩) (fun hHeld => ?_)
 refine th (i := 0) ?_
 refine tu (i := 1) (fun W_ hW_ => (blk_cell hW_.1 0).trans K0.out) ?_
 refine th (i := 2) ?_
 refine th (i := 3) ?_
 refine tj (i := 4) ?_
 refine tj (i := 5) ?_
 refine tj (i := 6) ?_
 refine th (i := 7) ?_
 refine th (i := 8) ?_
 refine tj (i := 9) ?_
 refine tj (i := 10) ?_
 refine tj (i := 11) ?_
 refine tj (i := 12) ?_
 refine tj (i := 13) ?_
 refine th (i := 14) ?_
 refine th (i := 15) ?_
 refine tj (i := 16) ?_
 refine tj (i := 17) ?_
 refine tj (i := 18) ?_
 refine tj (i := 19) ?_
 refine th (i := 20) ?_
 refine td ?_
 have HB9 := am hHeld.2
 clear hHeld
 go_wp2_with fail
 go_ret
 exact ⟨rfl, HB9.out⟩
set_option maxHeartbeats 4000000 in
theorem may_o1 (es : Array Value) (kind n rep : Int) (same : Bool) (w : World) (k0 : es[0]? = some (.int .i64 kind)) (k17 : es[17]? = some (.int .i64 n)) (k18 : es[18]? = some (.int .i64 rep)) (hI : (Try.prog.info? 98).map (·.size) = some es.size)
  (honly : ∀ W : World, Below w.heap.size w W → Calls Try.prog 156 #[.agg es] W fun e w' => (∃ os, e = .returned (.agg os) ∧ ∀ V : World, Below w.heap.size w V → Calls Try.prog 131 #[.agg es, .agg os] V fun e w' => e = .returned (.bool same) ∧ Below V.heap.size V w') ∧ Below W.heap.size W w') (c1 : decide (kind < 0) = false) (c2 : decide (kind ≥ 4) = true) :
  Calls Try.prog 118 #[.agg es] w fun e w' => e = .returned (.bool false) ∧ Below w.heap.size w w' := by
 have HBK := am (blk_new w (.cells es 98))
 have HBL := am (below_alloc (Below.refl w.heap.size w) (.cells es 98))
 have K0 := am k0
 have K17 := am k17
 have K18 := am k18
 have HI := am hI
 have HONLY := am honly
 clear k0 k17 k18 hI honly
 go_enter Try.func118, Try.ntmps118
 go_wp2_with fail
 refine wp_region_held_drew (S := (fun W => W.heap[w.heap.size]? = some (.cells es 98 (0, 0)) ∧ Below w.heap.size w W)) (by kernel_rfl) (⟨blk_below HBK.out (below_drew (Below.refl _ _)), below_drew HBL.out⟩) (fun hHeld => ?_)
 refine th (i := 0) ?_
 refine tu (i := 1) (fun W_ hW_ => (blk_cell hW_.1 0).trans K0.out) ?_
 refine th (i := 2) ?_
 refine th (i := 3) ?_
 refine th (i := 4) ?_
 refine tu (i := 5) (fun W_ hW_ => (blk_cell hW_.1 0).trans K0.out) ?_
 refine th (i := 6) ?_
 refine th (i := 7) ?_
 refine th (i := 8) ?_
 refine tj (i := 9) ?_
 refine tj (i := 10) ?_
 refine tj (i := 11) ?_
 refine tj (i := 12) ?_
 refine tj (i := 13) ?_
 refine th (i := 14) ?_
 refine th (i := 15) ?_
 refine tj (i := 16) ?_
 refine tj (i := 17) ?_
 refine tj (i := 18) ?_
 refine tj (i := 19) ?_
 refine th (i := 20) ?_
 refine td ?_
 have HB9 := am hHeld.2
 clear hHeld
 go_wp2_with fail
 go_ret
 exact ⟨rfl, HB9.out⟩
set_option maxHeartbeats 4000000 in
theorem may_o2 (es : Array Value) (kind n rep : Int) (same : Bool) (w : World) (k0 : es[0]? = some (.int .i64 kind)) (k17 : es[17]? = some (.int .i64 n)) (k18 : es[18]? = some (.int .i64 rep)) (hI : (Try.prog.info? 98).map (·.size) = some es.size)
  (honly : ∀ W : World, Below w.heap.size w W → Calls Try.prog 156 #[.agg es] W fun e w' => (∃ os, e = .returned (.agg os) ∧ ∀ V : World, Below w.heap.size w V → Calls Try.prog 131 #[.agg es, .agg os] V fun e w' => e = .returned (.bool same) ∧ Below V.heap.size V w') ∧ Below W.heap.size W w') (c1 : decide (kind < 0) = false) (c2 : decide (kind ≥ 4) = false) (c3 : same = false) :
  Calls Try.prog 118 #[.agg es] w fun e w' => e = .returned (.bool false) ∧ Below w.heap.size w w' := by
 have HBK := am (blk_new w (.cells es 98))
 have HBL := am (below_alloc (Below.refl w.heap.size w) (.cells es 98))
 have K0 := am k0
 have K17 := am k17
 have K18 := am k18
 have HI := am hI
 have HONLY := am honly
 clear k0 k17 k18 hI honly
 go_enter Try.func118, Try.ntmps118
 go_wp2_with fail
 refine wp_region_held_drew (S := (fun W => W.heap[w.heap.size]? = some (.cells es 98 (0, 0)) ∧ Below w.heap.size w W)) (by kernel_rfl) (⟨blk_below HBK.out (below_drew (Below.refl _ _)), below_drew HBL.out⟩) (fun hHeld => ?_)
 refine th (i := 0) ?_
 refine tu (i := 1) (fun W_ hW_ => (blk_cell hW_.1 0).trans K0.out) ?_
 refine th (i := 2) ?_
 refine th (i := 3) ?_
 refine th (i := 4) ?_
 refine tu (i := 5) (fun W_ hW_ => (blk_cell hW_.1 0).trans K0.out) ?_
 refine th (i := 6) ?_
 refine th (i := 7) ?_
 refine th (i := 8) ?_
 refine tq (i := 9) (v := ?_) ?hy ?_
 case hy => (intro W_ hW_; refine Eq.trans (exec_load_row 98 (.tmp 1) ?_ w.heap.size ?_ 98 es (0, 0) _ hW_.1 Try.underlying98 rfl HI.out) ?_ <;> (first | with_reducible rfl | rfl))
 try simp only [sp]
 refine tq (i := 10) (v := ?_) ?hy ?_
 case hy => (intro W_ hW_; refine Eq.trans (exec_load_row 98 (.tmp 1) ?_ w.heap.size ?_ 98 es (0, 0) _ hW_.1 Try.underlying98 rfl HI.out) ?_ <;> (first | with_reducible rfl | rfl))
 try simp only [sp]
 refine tr (i := 11) (fun K hK => ?_)
 go_wp2_with fail
 refine (HONLY.out _ hHeld.2).mono ?_
 rintro e_ wq ⟨⟨os, rfl, hsame⟩, hbq⟩
 refine hK.out _ _ (⟨blk_below hHeld.1 hbq, below_step hHeld.2 hbq⟩) ?_
 clear hK K hHeld
 intro hHeld
 try simp only [sp]
 have HSAME := am hsame
 clear hsame hbq
 refine tr (i := 12) (fun K hK => ?_)
 go_wp2_with fail
 refine (HSAME.out _ hHeld.2).mono ?_
 rintro e_ wr_ ⟨rfl, hbr⟩
 refine hK.out _ _ (⟨blk_below hHeld.1 hbr, below_step hHeld.2 hbr⟩) ?_
 clear hK K hHeld
 intro hHeld
 try simp only [sp]
 clear hbr
 refine th (i := 13) ?_
 refine th (i := 14) ?_
 refine th (i := 15) ?_
 refine tj (i := 16) ?_
 refine tj (i := 17) ?_
 refine tj (i := 18) ?_
 refine tj (i := 19) ?_
 refine th (i := 20) ?_
 refine td ?_
 have HB9 := am hHeld.2
 clear hHeld
 go_wp2_with fail
 go_ret
 exact ⟨rfl, HB9.out⟩
set_option maxHeartbeats 4000000 in
theorem may_o3 (es : Array Value) (kind n rep : Int) (same : Bool) (w : World) (k0 : es[0]? = some (.int .i64 kind)) (k17 : es[17]? = some (.int .i64 n)) (k18 : es[18]? = some (.int .i64 rep)) (hI : (Try.prog.info? 98).map (·.size) = some es.size)
  (honly : ∀ W : World, Below w.heap.size w W → Calls Try.prog 156 #[.agg es] W fun e w' => (∃ os, e = .returned (.agg os) ∧ ∀ V : World, Below w.heap.size w V → Calls Try.prog 131 #[.agg es, .agg os] V fun e w' => e = .returned (.bool same) ∧ Below V.heap.size V w') ∧ Below W.heap.size W w') (c1 : decide (kind < 0) = false) (c2 : decide (kind ≥ 4) = false) (c3 : same = true) (c4 : (n == 0 && rep == 0) = true) :
  Calls Try.prog 118 #[.agg es] w fun e w' => e = .returned (.bool false) ∧ Below w.heap.size w w' := by
 have HBK := am (blk_new w (.cells es 98))
 have HBL := am (below_alloc (Below.refl w.heap.size w) (.cells es 98))
 have K0 := am k0
 have K17 := am k17
 have K18 := am k18
 have HI := am hI
 have HONLY := am honly
 have hst := eql_st n rep 0 0
 simp only [c4] at hst
 clear k0 k17 k18 hI honly
 go_enter Try.func118, Try.ntmps118
 go_wp2_with fail
 refine wp_region_held_drew (S := (fun W => W.heap[w.heap.size]? = some (.cells es 98 (0, 0)) ∧ Below w.heap.size w W)) (by kernel_rfl) (⟨blk_below HBK.out (below_drew (Below.refl _ _)), below_drew HBL.out⟩) (fun hHeld => ?_)
 refine th (i := 0) ?_
 refine tu (i := 1) (fun W_ hW_ => (blk_cell hW_.1 0).trans K0.out) ?_
 refine th (i := 2) ?_
 refine th (i := 3) ?_
 refine th (i := 4) ?_
 refine tu (i := 5) (fun W_ hW_ => (blk_cell hW_.1 0).trans K0.out) ?_
 refine th (i := 6) ?_
 refine th (i := 7) ?_
 refine th (i := 8) ?_
 refine tq (i := 9) (v := ?_) ?hy ?_
 case hy => (intro W_ hW_; refine Eq.trans (exec_load_row 98 (.tmp 1) ?_ w.heap.size ?_ 98 es (0, 0) _ hW_.1 Try.underlying98 rfl HI.out) ?_ <;> (first | with_reducible rfl | rfl))
 try simp only [sp]
 refine tq (i := 10) (v := ?_) ?hy ?_
 case hy => (intro W_ hW_; refine Eq.trans (exec_load_row 98 (.tmp 1) ?_ w.heap.size ?_ 98 es (0, 0) _ hW_.1 Try.underlying98 rfl HI.out) ?_ <;> (first | with_reducible rfl | rfl))
 try simp only [sp]
 refine tr (i := 11) (fun K hK => ?_)
 go_wp2_with fail
 refine (HONLY.out _ hHeld.2).mono ?_
 rintro e_ wq ⟨⟨os, rfl, hsame⟩, hbq⟩
 refine hK.out _ _ (⟨blk_below hHeld.1 hbq, below_step hHeld.2 hbq⟩) ?_
 clear hK K hHeld
 intro hHeld
 try simp only [sp]
 have HSAME := am hsame
 clear hsame hbq
 refine tr (i := 12) (fun K hK => ?_)
 go_wp2_with fail
 refine (HSAME.out _ hHeld.2).mono ?_
 rintro e_ wr_ ⟨rfl, hbr⟩
 refine hK.out _ _ (⟨blk_below hHeld.1 hbr, below_step hHeld.2 hbr⟩) ?_
 clear hK K hHeld
 intro hHeld
 try simp only [sp]
 clear hbr
 refine th (i := 13) ?_
 refine th (i := 14) ?_
 refine th (i := 15) ?_
 refine th (i := 16) ?_
 refine tq (i := 17) (v := ?_) ?hy ?_
 case hy => (intro W_ hW_; have f17 := (blk_cell hW_.1 17).trans K17.out; have f18 := (blk_cell hW_.1 18).trans K18.out; go_simp; first | done | with_reducible rfl)
 try simp only [sp]
 refine tq (i := 18) (v := ?_) ?hy ?_
 case hy => (intro W_ hW_; refine Eq.trans (exec_build_cells 96 #[] ?_ #[.int .i64 0, .int .i64 0] ?_) ?_ <;> (first | with_reducible rfl | rfl | kernel_rfl))
 try simp only [sp]
 refine th (i := 19) ?_
 refine th (i := 20) ?_
 refine td ?_
 have HB9 := am hHeld.2
 clear hHeld
 go_wp2_with fail
 go_ret
 exact ⟨rfl, HB9.out⟩
set_option maxHeartbeats 4000000 in
theorem may_o4 (es : Array Value) (kind n rep : Int) (same : Bool) (no fno : Int) (v : ByteArray) (p : List S67) (A : Option Addr) (c : Nat) (w : World) (k0 : es[0]? = some (.int .i64 kind)) (k17 : es[17]? = some (.int .i64 n)) (k18 : es[18]? = some (.int .i64 rep)) (hI : (Try.prog.info? 98).map (·.size) = some es.size)
  (honly : ∀ W : World, Below w.heap.size w W → Calls Try.prog 156 #[.agg es] W fun e w' => (∃ os, e = .returned (.agg os) ∧ ∀ V : World, Below w.heap.size w V → Calls Try.prog 131 #[.agg es, .agg os] V fun e w' => e = .returned (.bool same) ∧ Below V.heap.size V w') ∧ Below W.heap.size W w')
  (k38 : es[38]? = some (.int .i64 fno)) (k19 : es[19]? = some (.int .i64 no)) (k20 : es[20]? = some (.string v)) (k21 : es[21]? = some (.slice A p.length c)) (hp : ∀ W : World, Below w.heap.size w W → Calls Try.prog 57 #[.slice A p.length c] W fun e w' => e = .returned (.bool (mayL p)) ∧ Below W.heap.size W w') (c1 : decide (kind < 0) = false) (c2 : decide (kind ≥ 4) = false) (c3 : same = true) (c4 : (n == 0 && rep == 0) = false) :
  Calls Try.prog 118 #[.agg es] w fun e w' => e = .returned (.bool (stMay n rep && ((decide (0 ≤ no) && decide (no < 8)) && ((decide (0 ≤ fno) && decide (fno < 8)) && (decide (v.size ≤ 200) && mayL p))))) ∧ Below w.heap.size w w' := by
 have HBK := am (blk_new w (.cells es 98))
 have HBL := am (below_alloc (Below.refl w.heap.size w) (.cells es 98))
 have K0 := am k0
 have K17 := am k17
 have K18 := am k18
 have HI := am hI
 have HONLY := am honly
 have hst := eql_st n rep 0 0
 simp only [c4] at hst
 have K38 := am k38
 have K19 := am k19
 have K20 := am k20
 have K21 := am k21
 have HP := am hp
 clear k38 k19 k20 k21 hp
 clear k0 k17 k18 hI honly
 go_enter Try.func118, Try.ntmps118
 go_wp2_with fail
 refine wp_region_held_drew (S := (fun W => W.heap[w.heap.size]? = some (.cells es 98 (0, 0)) ∧ Below w.heap.size w W)) (by kernel_rfl) (⟨blk_below HBK.out (below_drew (Below.refl _ _)), below_drew HBL.out⟩) (fun hHeld => ?_)
 refine th (i := 0) ?_
 refine tu (i := 1) (fun W_ hW_ => (blk_cell hW_.1 0).trans K0.out) ?_
 refine th (i := 2) ?_
 refine th (i := 3) ?_
 refine th (i := 4) ?_
 refine tu (i := 5) (fun W_ hW_ => (blk_cell hW_.1 0).trans K0.out) ?_
 refine th (i := 6) ?_
 refine th (i := 7) ?_
 refine th (i := 8) ?_
 refine tq (i := 9) (v := ?_) ?hy ?_
 case hy => (intro W_ hW_; refine Eq.trans (exec_load_row 98 (.tmp 1) ?_ w.heap.size ?_ 98 es (0, 0) _ hW_.1 Try.underlying98 rfl HI.out) ?_ <;> (first | with_reducible rfl | rfl))
 try simp only [sp]
 refine tq (i := 10) (v := ?_) ?hy ?_
 case hy => (intro W_ hW_; refine Eq.trans (exec_load_row 98 (.tmp 1) ?_ w.heap.size ?_ 98 es (0, 0) _ hW_.1 Try.underlying98 rfl HI.out) ?_ <;> (first | with_reducible rfl | rfl))
 try simp only [sp]
 refine tr (i := 11) (fun K hK => ?_)
 go_wp2_with fail
 refine (HONLY.out _ hHeld.2).mono ?_
 rintro e_ wq ⟨⟨os, rfl, hsame⟩, hbq⟩
 refine hK.out _ _ (⟨blk_below hHeld.1 hbq, below_step hHeld.2 hbq⟩) ?_
 clear hK K hHeld
 intro hHeld
 try simp only [sp]
 have HSAME := am hsame
 clear hsame hbq
 refine tr (i := 12) (fun K hK => ?_)
 go_wp2_with fail
 refine (HSAME.out _ hHeld.2).mono ?_
 rintro e_ wr_ ⟨rfl, hbr⟩
 refine hK.out _ _ (⟨blk_below hHeld.1 hbr, below_step hHeld.2 hbr⟩) ?_
 clear hK K hHeld
 intro hHeld
 try simp only [sp]
 clear hbr
 refine th (i := 13) ?_
 refine th (i := 14) ?_
 refine th (i := 15) ?_
 refine th (i := 16) ?_
 refine tq (i := 17) (v := ?_) ?hy ?_
 case hy => (intro W_ hW_; have f17 := (blk_cell hW_.1 17).trans K17.out; have f18 := (blk_cell hW_.1 18).trans K18.out; go_simp; first | done | with_reducible rfl)
 try simp only [sp]
 refine tq (i := 18) (v := ?_) ?hy ?_
 case hy => (intro W_ hW_; refine Eq.trans (exec_build_cells 96 #[] ?_ #[.int .i64 0, .int .i64 0] ?_) ?_ <;> (first | with_reducible rfl | rfl | kernel_rfl))
 try simp only [sp]
 refine th (i := 19) ?_
 refine th (i := 20) ?_
 refine td ?_
 have HE9 := am hHeld
 clear hHeld hst
 have f17 := (blk_cell HE9.out.1 17).trans K17.out
 have f18 := (blk_cell HE9.out.1 18).trans K18.out
 go_wp2_with fail
 refine (stmay_call _ _ _).mono ?_
 rintro e_ w2 ⟨rfl, hb2⟩
 have HE2 := am (And.intro (blk_below HE9.out.1 hb2) (below_step HE9.out.2 hb2))
 clear hb2 f17 f18
 cases hs : stMay n rep
 ·go_wp2_with fail
  go_ret
  exact ⟨by rw [hs]; rfl, HE2.out.2⟩
 have f19 := (blk_cell HE2.out.1 19).trans K19.out
 have f38 := (blk_cell HE2.out.1 38).trans K38.out
 have f20 := (blk_cell HE2.out.1 20).trans K20.out
 have f21 := (blk_cell HE2.out.1 21).trans K21.out
 go_wp2_with fail
 refine (number_call _ _).mono ?_
 rintro e_ w3 ⟨rfl, rfl⟩
 cases h1 : (decide (0 ≤ no) && decide (no < 8))
 ·go_wp2_with fail
  go_ret
  exact ⟨by rw [hs, h1]; rfl, HE2.out.2⟩
 go_wp2_with fail
 refine (number_call _ _).mono ?_
 rintro e_ w3 ⟨rfl, rfl⟩
 cases h2 : (decide (0 ≤ fno) && decide (fno < 8))
 ·go_wp2_with fail
  go_ret
  exact ⟨by rw [hs, h1, h2]; rfl, HE2.out.2⟩
 by_cases h3 : v.size ≤ 200
 ·have e1 : decide ((v.size : Int) ≤ 200) = true := decide_eq_true (by omega)
  have e2 : decide (v.size ≤ 200) = true := decide_eq_true h3
  clear h3
  go_wp2_with fail
  refine (HP.out _ HE2.out.2).mono ?_
  rintro e_ w4 ⟨rfl, hb4⟩
  have HB4 := am (below_step HE2.out.2 hb4)
  clear hb4 f19 f38 f20 f21
  go_wp2_with fail
  go_ret
  exact ⟨by rw [hs, h1, h2, e2]; rfl, HB4.out⟩
 ·have e1 : decide ((v.size : Int) ≤ 200) = false := decide_eq_false (by omega)
  have e2 : decide (v.size ≤ 200) = false := decide_eq_false h3
  clear h3
  go_wp2_with fail
  go_ret
  exact ⟨by rw [hs, h1, h2, e2]; rfl, HE2.out.2⟩
theorem mayo_call (x : OpT) (A : Option Addr) (c : Nat) (w : World) (hx : x.id.length = 16 ∧ x.fro.length = 16 ∧ x.d.length = 32) (hc : x.p.length ≤ c) (hC : Kd.C k67 w A x.p.length x.p) (hl : x.p.length ≤ 9223372036854775807) :
  Calls Try.prog 118 #[.agg (opC x A c).toArray] w fun e w' => e = .returned (.bool (mayO x)) ∧ Below w.heap.size w w' := by
 obtain ⟨k0, k17, k18, k19, k20, k21, k38⟩ := opC_at hx A c
 have hI := opInfo hx A c
 have honly : ∀ W : World, Below w.heap.size w W → Calls Try.prog 156 #[.agg (opC x A c).toArray] W fun e w' => (∃ os, e = .returned (.agg os) ∧ ∀ V : World, Below w.heap.size w V → Calls Try.prog 131 #[.agg (opC x A c).toArray, .agg os] V fun e w' => e = .returned (.bool (sameO x (onlyO x))) ∧ Below V.heap.size V w') ∧ Below W.heap.size W w' := fun W hW => by
  refine (only_call x A c W hx hc).mono ?_
  rintro e w' ⟨⟨A2, c2, he, hc2, hC2⟩, hb⟩
  exact ⟨⟨_, he, fun V hV => sameo_call x (onlyO x) A A2 c c2 V hx (onlyO_lens hx) hc hc2 (Kd.C_below hC hV) (hC2 V (Kd.C_below hC hV)) hl⟩, hb⟩
 have hp : ∀ W : World, Below w.heap.size w W → Calls Try.prog 57 #[.slice A x.p.length c] W fun e w' => e = .returned (.bool (mayL x.p)) ∧ Below W.heap.size W w' := fun W hW => may_callC A c W (Kd.C_below hC hW) hc hl
 unfold mayO
 cases c1 : decide (x.kind < 0)
 case true =>
  rw [decide_eq_false (p := 0 ≤ x.kind) (by simp only [decide_eq_true_eq] at c1; omega)]
  exact may_o0 _ x.kind x.n x.rep _ w k0 k17 k18 hI honly c1
 rw [decide_eq_true (p := 0 ≤ x.kind) (by simp only [decide_eq_false_iff_not] at c1; omega), Bool.true_and]
 cases c2 : decide (x.kind ≥ 4)
 case true =>
  rw [decide_eq_false (p := x.kind < 4) (by simp only [decide_eq_true_eq] at c2; omega)]
  exact may_o1 _ x.kind x.n x.rep _ w k0 k17 k18 hI honly c1 c2
 rw [decide_eq_true (p := x.kind < 4) (by simp only [decide_eq_false_iff_not] at c2; omega), Bool.true_and]
 cases c3 : sameO x (onlyO x)
 ·exact may_o2 _ x.kind x.n x.rep _ w k0 k17 k18 hI honly c1 c2 c3
 rw [Bool.true_and]
 cases c4 : (x.n == 0 && x.rep == 0)
 case true => exact may_o3 _ x.kind x.n x.rep _ w k0 k17 k18 hI honly c1 c2 c3 c4
 rw [Bool.not_false, Bool.true_and]
 exact may_o4 _ x.kind x.n x.rep _ x.no x.fno x.v x.p A c w k0 k17 k18 hI honly k38 k19 k20 k21 hp c1 c2 c3 c4
theorem store_fn (W : World) (n : Nat) (hn : n = W.heap.size) (t : TypeId) (u v : Value) (h1 : v.oneCell' = true) : (store ⟨n, 0, none⟩ v).run Try.prog (W.alloc (.cells #[u] t)) = .ok () (W.alloc (.cells #[v] t)) := by
 subst hn
 rw [run_store _ _ _ _ _ h1, (blk_cell (blk_new W (.cells #[u] t)) 0).trans (show _ = some u from rfl)]
 simp only [World.frozen?_alloc_new, Bool.false_eq_true, if_false, World.setCell_alloc_new]
 rfl
def badO (x : OpT) : Bool := !mayO x
def FitO (x : OpT) : Prop := x.p.length ≤ 9223372036854775807
set_option maxHeartbeats 1000000 in
theorem bad_call (x : OpT) (A : Option Addr) (c : Nat) (w : World) (hx : x.id.length = 16 ∧ x.fro.length = 16 ∧ x.d.length = 32) (hc : x.p.length ≤ c) (hC : Kd.C k67 w A x.p.length x.p) (hl : x.p.length ≤ 9223372036854775807) :
  Calls Try.prog 117 #[.agg (opC x A c).toArray] w fun e w' => e = .returned (.bool (badO x)) ∧ Below w.heap.size w w' := by
 have HI := am (opInfo hx A c)
 have hm := mayo_call x A c (w.alloc (.cells (opC x A c).toArray 98)) hx hc (Kd.C_alloc hC _) hl
 obtain ⟨es, hes⟩ : ∃ es, (opC x A c).toArray = es := ⟨_, rfl⟩
 rw [hes] at HI hm ⊢
 have HM := am hm
 have HBK := am (blk_new w (.cells es 98))
 clear hx hc hC hl hes hm
 go_enter Try.func117, Try.ntmps117
 go_wp2_with (first
  | ((with_reducible refine gate_dst (N := 3) rfl ?_); refine wpList_load_row rfl 98 (.tmp 1) rfl w.heap.size rfl 98 es (0, 0) _ HBK.out Try.underlying98 rfl HI.out ?_)
  | fail)
 refine HM.out.mono ?_
 rintro e_ w1 ⟨rfl, hb1⟩
 have HB1 := am (below_step (below_alloc (Below.refl w.heap.size w) _) hb1)
 clear hb1
 go_wp2_with fail
 go_ret
 exact ⟨rfl, HB1.out⟩
theorem any_drop {α : Type} (p : α → Bool) (l : List α) (i : Nat) (z : α) (hi : i < l.length) : (l.drop i).any p = (p (l.getD i z) || (l.drop (i + 1)).any p) := by
 rw [List.drop_eq_getElem_cons hi, List.any_cons, List.getD_eq_getElem?_getD, List.getElem?_eq_getElem hi, Option.getD_some]
set_option maxHeartbeats 2000000 in
theorem idxo_call (l : List OpT) (A : Option Addr) (c : Nat) (w : World) (hC : Kd.C opK w A l.length l) (hf : ∀ x ∈ l, FitO x) :
  Calls Try.prog 158 #[.slice A l.length c, .func (.func 117) #[] #[]] w fun e w' => (∃ v : Int, e = .returned (.int .i64 v) ∧ decide (v ≥ 0) = l.any badO) ∧ Below w.heap.size w w' := by
 have HLEN := am hC.2.1
 have HC := am hC
 have HF := am hf
 clear hC hf
 go_enter Try.func158, Try.ntmps158
 go_wp2_with fail
 go_loopg [5, 8] l.length (fun k v5 v8 w' => ∃ j : Nat, v8 = .int .i64 j ∧ Aside0 (k = l.length - j ∧ j ≤ l.length) ∧ Aside0 (Below w.heap.size w w') ∧ Aside0 ((l.drop j).any badO = l.any badO))
 case atStart => exact ⟨0, rfl, ⟨by omega, by omega⟩, ⟨Below.refl _ _⟩, ⟨rfl⟩⟩
 case round =>
  obtain ⟨j, rfl, HJ, HBR, HE⟩ := hrel
  by_cases hj : j < l.length
  ·obtain ⟨x, hx⟩ : ∃ x, x = l.getD j zOp := ⟨_, rfl⟩
   obtain ⟨ad, B, cb, hA, hid, hbc, hCb, hcell⟩ := op_at (Kd.C_below HC.out HBR.out) hj x hx.symm
   have HST := am (any_drop badO l j zOp hj)
   rw [← hx] at HST
   have hfx : FitO x := HF.out x (by rw [hx, List.getD_eq_getElem?_getD, List.getElem?_eq_getElem hj]; exact List.getElem_mem hj)
   have HB := am (bad_call x B cb wr hid hbc hCb hfx)
   have HI := am (opInfo hid B cb)
   subst hA
   obtain ⟨es, hes⟩ : ∃ es, (opC x B cb).toArray = es := ⟨_, rfl⟩
   rw [hes] at hcell HB HI
   have HCE := am hcell
   obtain ⟨e1, e2⟩ := ltY hj
   have e3 : (0 ≤ (j : Int)) = True := by simp
   have e4 := wr1 (i := j) (by have := HLEN.out; omega)
   have HJ2 := am hj
   clear hj hx hid hbc hCb hcell hes hfx
   go_wp2_with (first
    | ((with_reducible refine gate_dst (N := 15) rfl ?_); refine wpList_load_cells rfl 98 (.tmp 14) rfl (ad.add (j * 71)) rfl es _ HCE.out Try.underlying98 rfl HI.out ?_)
    | fail)
   refine HB.out.mono ?_
   rintro e_ w1 ⟨rfl, hb1⟩
   have HB1 := am (below_step HBR.out hb1)
   clear hb1
   cases hbd : badO x
   ·have HFF : Aside0 ((l.drop (j + 1)).any badO = l.any badO) := ⟨by rw [← HE.out, HST.out, hbd, Bool.false_or]⟩
    clear hbd
    go_wp2_with fail
    go_roundg (l.length - (j + 1))
    case measure => have := HJ.out; have := HJ2.out; omega
    case rel => exact ⟨j + 1, by simp [e4], ⟨by omega, by have := HJ2.out; omega⟩, HB1, HFF⟩
   ·have HR : Aside0 (l.any badO = true) := ⟨by rw [← HE.out, HST.out, hbd, Bool.true_or]⟩
    clear hbd
    go_wp2_with fail
    go_ret
    exact ⟨⟨_, rfl, by rw [HR.out]; exact decide_eq_true (by omega)⟩, HB1.out⟩
  ·have hjl : j = l.length := by have := HJ.out; omega
   have HR : Aside0 (l.any badO = false) := ⟨by rw [← HE.out, hjl, List.drop_length]; rfl⟩
   obtain ⟨e1, e2⟩ := ltN hj
   clear hj hjl
   go_wp2_with fail
   go_ret
   exact ⟨⟨_, rfl, by rw [HR.out]; rfl⟩, HBR.out⟩
set_option maxHeartbeats 1000000 in
theorem hasbad_call (l : List OpT) (A : Option Addr) (c : Nat) (w : World) (hC : Kd.C opK w A l.length l) (hf : ∀ x ∈ l, FitO x) :
  Calls Try.prog 120 #[.slice A l.length c, .func (.func 117) #[] #[]] w fun e w' => e = .returned (.bool (l.any badO)) ∧ Below w.heap.size w w' := by
 have HM := am (idxo_call l A c w hC hf)
 clear hC hf
 go_enter Try.func120, Try.ntmps120
 go_wp2_with fail
 refine HM.out.mono ?_
 rintro e_ w1 ⟨⟨v, rfl, hv⟩, hb1⟩
 have HB1 := am hb1
 have HV := am hv
 clear hb1 hv
 go_wp2_with fail
 go_ret
 exact ⟨by rw [← HV.out]; rfl, HB1.out⟩
def badB (l : List OpT) : Bool := decide (l.length = 0) || (decide (l.length > 20) || l.any badO)
set_option maxHeartbeats 1000000 in
theorem wrong_call (l : List OpT) (A : Option Addr) (c cell : Nat) (w : World) (hcell : w.cell? ⟨cell, 0, none⟩ = some (.func (.func 117) #[] #[])) (hC : Kd.C opK w A l.length l) (hf : ∀ x ∈ l, FitO x) :
  Calls Try.prog 119 #[.slice A l.length c, .pointer (some ⟨cell, 0, none⟩)] w fun e w' => e = .returned (.bool (badB l)) ∧ Below w.heap.size w w' := by
 have HM := am (hasbad_call l A c w hC hf)
 clear hC hf
 by_cases h0 : l.length = 0
 ·have HR : Aside0 (badB l = true) := ⟨by unfold badB; rw [decide_eq_true h0]; rfl⟩
  have e1 : ((l.length : Int) == 0) = true := by simp only [beq_iff_eq]; omega
  have e2 : (l.length == 0) = true := by simp only [beq_iff_eq]; omega
  have e3 : decide (l.length = 0) = true := decide_eq_true h0
  clear h0
  go_enter Try.func119, Try.ntmps119
  go_wp2_with fail
  go_ret
  exact ⟨by rw [HR.out]; rfl, Below.refl _ _⟩
 have e1 : ((l.length : Int) == 0) = false := by simp only [beq_eq_false_iff_ne]; omega
 have e2 : (l.length == 0) = false := by simp only [beq_eq_false_iff_ne]; omega
 by_cases h2 : l.length > 20
 ·have HR : Aside0 (badB l = true) := ⟨by unfold badB; rw [decide_eq_true h2, Bool.true_or, Bool.or_true]⟩
  have e3 : decide ((l.length : Int) > 20) = true := decide_eq_true (by omega)
  have e4 : decide (l.length > 20) = true := decide_eq_true h2
  clear h0 h2
  go_enter Try.func119, Try.ntmps119
  go_wp2_with fail
  go_ret
  exact ⟨by rw [HR.out]; rfl, Below.refl _ _⟩
 have HR : Aside0 (badB l = l.any badO) := ⟨by unfold badB; rw [decide_eq_false h0, decide_eq_false h2, Bool.false_or, Bool.false_or]⟩
 have e3 : decide ((l.length : Int) > 20) = false := decide_eq_false (by omega)
 have e4 : decide (l.length > 20) = false := decide_eq_false h2
 clear h0 h2
 go_enter Try.func119, Try.ntmps119
 go_wp2_with fail
 refine HM.out.mono ?_
 rintro e_ w1 ⟨rfl, hb1⟩
 have HB1 := am hb1
 clear hb1
 go_wp2_with fail
 go_ret
 exact ⟨by rw [HR.out]; rfl, HB1.out⟩
set_option maxHeartbeats 2000000 in
theorem idxb_call (l : List (List OpT)) (A : Option Addr) (c cell : Nat) (w : World) (hcell : w.cell? ⟨cell, 0, none⟩ = some (.func (.func 117) #[] #[])) (hC : Kd.C batK w A l.length l) (hf : ∀ b ∈ l, ∀ x ∈ b, FitO x) :
  Calls Try.prog 159 #[.slice A l.length c, .func (.func 119) #[] #[.pointer (some ⟨cell, 0, none⟩)]] w fun e w' => (∃ v : Int, e = .returned (.int .i64 v) ∧ decide (v ≥ 0) = l.any badB) ∧ Below w.heap.size w w' := by
 have HLEN := am hC.2.1
 have HC := am hC
 have HF := am hf
 have HCELL := am hcell
 clear hC hf hcell
 go_enter Try.func159, Try.ntmps159
 go_wp2_with fail
 go_loopg [5, 8] l.length (fun k v5 v8 w' => ∃ j : Nat, v8 = .int .i64 j ∧ Aside0 (k = l.length - j ∧ j ≤ l.length) ∧ Aside0 (Below w.heap.size w w') ∧ Aside0 ((l.drop j).any badB = l.any badB))
 case atStart => exact ⟨0, rfl, ⟨by omega, by omega⟩, ⟨Below.refl _ _⟩, ⟨rfl⟩⟩
 case round =>
  obtain ⟨j, rfl, HJ, HBR, HE⟩ := hrel
  by_cases hj : j < l.length
  ·obtain ⟨x, hx⟩ : ∃ x, x = l.getD j [] := ⟨_, rfl⟩
   obtain ⟨ad, B, cb, hA, hbc, hCb, hcl⟩ := bat_at (Kd.C_below HC.out HBR.out) hj x hx.symm
   have HST := am (any_drop badB l j [] hj)
   rw [← hx] at HST
   have hfx : ∀ y ∈ x, FitO y := HF.out x (by rw [hx, List.getD_eq_getElem?_getD, List.getElem?_eq_getElem hj]; exact List.getElem_mem hj)
   have HB := am (wrong_call x B cb cell wr (bel_cell (w := w) HBR.out HCELL.out) hCb hfx)
   have HLX := am hCb.2.1
   subst hA
   obtain ⟨e1, e2⟩ := ltY hj
   have e3 : (0 ≤ (j : Int)) = True := by simp
   have e4 := wr1 (i := j) (by have := HLEN.out; omega)
   have HJ2 := am hj
   clear hj hx hbc hCb hfx
   go_wp2_with fail
   refine HB.out.mono ?_
   rintro e_ w1 ⟨rfl, hb1⟩
   have HB1 := am (below_step HBR.out hb1)
   clear hb1
   cases hbd : badB x
   ·have HFF : Aside0 ((l.drop (j + 1)).any badB = l.any badB) := ⟨by rw [← HE.out, HST.out, hbd, Bool.false_or]⟩
    clear hbd
    go_wp2_with fail
    go_roundg (l.length - (j + 1))
    case measure => have := HJ.out; have := HJ2.out; omega
    case rel => exact ⟨j + 1, by simp [e4], ⟨by omega, by have := HJ2.out; omega⟩, HB1, HFF⟩
   ·have HR : Aside0 (l.any badB = true) := ⟨by rw [← HE.out, HST.out, hbd, Bool.true_or]⟩
    clear hbd
    go_wp2_with fail
    go_ret
    exact ⟨⟨_, rfl, by rw [HR.out]; exact decide_eq_true (by omega)⟩, HB1.out⟩
  ·have hjl : j = l.length := by have := HJ.out; omega
   have HR : Aside0 (l.any badB = false) := ⟨by rw [← HE.out, hjl, List.drop_length]; rfl⟩
   obtain ⟨e1, e2⟩ := ltN hj
   clear hj hjl
   go_wp2_with fail
   go_ret
   exact ⟨⟨_, rfl, by rw [HR.out]; rfl⟩, HBR.out⟩
set_option maxHeartbeats 1000000 in
theorem haswrong_call (l : List (List OpT)) (A : Option Addr) (c cell : Nat) (w : World) (hcell : w.cell? ⟨cell, 0, none⟩ = some (.func (.func 117) #[] #[])) (hC : Kd.C batK w A l.length l) (hf : ∀ b ∈ l, ∀ x ∈ b, FitO x) :
  Calls Try.prog 121 #[.slice A l.length c, .func (.func 119) #[] #[.pointer (some ⟨cell, 0, none⟩)]] w fun e w' => e = .returned (.bool (l.any badB)) ∧ Below w.heap.size w w' := by
 have HM := am (idxb_call l A c cell w hcell hC hf)
 clear hC hf hcell
 go_enter Try.func121, Try.ntmps121
 go_wp2_with fail
 refine HM.out.mono ?_
 rintro e_ w1 ⟨⟨v, rfl, hv⟩, hb1⟩
 have HB1 := am hb1
 have HV := am hv
 clear hb1 hv
 go_wp2_with fail
 go_ret
 exact ⟨by rw [← HV.out]; rfl, HB1.out⟩
def mayPl (p : PlanT) : Bool := decide (p.b.length ≤ 16) && !(p.b.any badB)
set_option maxHeartbeats 2000000 in
theorem mayp_call (p : PlanT) (A : Option Addr) (c : Nat) (w : World) (hb : p.base.length = 32) (hc : p.b.length ≤ c) (hC : Kd.C batK w A p.b.length p.b) (hf : ∀ b ∈ p.b, ∀ x ∈ b, FitO x) :
  Calls Try.prog 71 #[.agg (planC p A c).toArray] w fun e w' => e = .returned (.bool (mayPl p)) ∧ Below w.heap.size w w' := by
 have k32 := planC_32 hb A c
 obtain ⟨cs, hcs⟩ : ∃ cs, (planC p A c).toArray = cs := ⟨_, rfl⟩
 rw [hcs] at k32 ⊢
 have h1 := blk_alloc (blk_new w (.cells cs 81)) (.cells #[.func (.func 117) #[] #[]] 167)
 have h2 := blk_new (w.alloc (.cells cs 81)) (.cells #[.func (.func 117) #[] #[]] 167)
 rw [alloc_size] at h2
 have HB := am (below_alloc (below_alloc (Below.refl w.heap.size w) (.cells cs 81)) (.cells #[.func (.func 117) #[] #[]] 167))
 have g32 := (blk_cell h1 32).trans k32
 have HM := am (haswrong_call p.b A c (w.heap.size + 1) _ ((blk_cell h2 0).trans (show _ = some (Value.func (.func 117) #[] #[]) from rfl)) (Kd.C_below hC HB.out) hf)
 have hsf := store_fn (w.alloc (.cells cs 81)) (w.heap.size + 1) (by rw [alloc_size]) 167 .nilFunc (.func (.func 117) #[] #[]) rfl
 have hmf : ∀ (fn : Fn) (first cap : Array Value) (w : World), (Instr.makeFunc fn first cap).run Try.prog w = .ok (.func fn first cap) w := fun _ _ _ _ => rfl
 clear hb hc hC hf hcs k32 h1 h2
 by_cases h16 : p.b.length ≤ 16
 ·have HR : Aside0 (mayPl p = !(p.b.any badB)) := ⟨by unfold mayPl; rw [decide_eq_true h16, Bool.true_and]⟩
  have e1 : decide ((p.b.length : Int) ≤ 16) = true := decide_eq_true (by omega)
  have e2 : decide (p.b.length ≤ 16) = true := decide_eq_true h16
  clear h16
  go_enter Try.func71, Try.ntmps71
  go_wp2_with fail
  refine HM.out.mono ?_
  rintro e_ w1 ⟨rfl, hb1⟩
  have HB1 := am (below_step HB.out hb1)
  clear hb1
  go_wp2_with fail
  go_ret
  exact ⟨by rw [HR.out]; rfl, HB1.out⟩
 ·have HR : Aside0 (mayPl p = false) := ⟨by unfold mayPl; rw [decide_eq_false h16, Bool.false_and]⟩
  have e1 : decide ((p.b.length : Int) ≤ 16) = false := decide_eq_false (by omega)
  have e2 : decide (p.b.length ≤ 16) = false := decide_eq_false h16
  clear h16
  go_enter Try.func71, Try.ntmps71
  go_wp2_with fail
  go_ret
  exact ⟨by rw [HR.out]; rfl, HB.out⟩
set_option maxHeartbeats 4000000 in
theorem eqops_call (A B : Option Addr) (c d : Nat) (l m : List OpT) (w : World) (ha : Kd.C opK w A l.length l) (hb : Kd.C opK w B m.length m) (hok : ∀ s ∈ l, FitO s) (hok2 : ∀ s ∈ m, FitO s) :
  Calls Try.prog 130 #[.slice A l.length c, .slice B m.length d, .func (.func 131) #[] #[]] w fun e w' => e = .returned (.bool (allEq sameO l m)) ∧ Below w.heap.size w w' := by
 have HA := am ha
 have HB := am hb
 have HOK := am (And.intro hok hok2)
 have HL := am ha.2.1
 clear ha hb hok hok2
 by_cases hlm : l.length = m.length
 case neg =>
  have HR := am (allEq_len (e := sameO) hlm)
  have e1 : ((l.length : Int) != (m.length : Int)) = true := by simp only [bne_iff_ne, ne_eq]; omega
  clear hlm
  go_enter Try.func130, Try.ntmps130
  go_wp2_with fail
  go_ret
  exact ⟨by rw [HR.out]; rfl, Below.refl _ _⟩
 have HLM := am hlm
 have e1 : ((l.length : Int) != (m.length : Int)) = false := by rw [hlm]; simp
 clear hlm
 go_enter Try.func130, Try.ntmps130
 go_wp2_with fail
 clear e1
 go_loopg [7, 17] l.length (fun k v7 v17 w' => ∃ j : Nat, v17 = .int .i64 j ∧ Aside0 (k = l.length - j ∧ j ≤ l.length) ∧ Aside0 (Below w.heap.size w w') ∧ Aside0 (allEq sameO (l.drop j) (m.drop j) = allEq sameO l m))
 case atStart => exact ⟨0, rfl, ⟨by omega, by omega⟩, ⟨Below.refl _ _⟩, ⟨rfl⟩⟩
 case round =>
  obtain ⟨j, rfl, HJ, HBR, HE⟩ := hrel
  by_cases hj : j < l.length
  ·have hjm : j < m.length := by have := HLM.out; omega
   obtain ⟨x, hx⟩ : ∃ x, x = l.getD j zOp := ⟨_, rfl⟩
   obtain ⟨y, hy⟩ : ∃ y, y = m.getD j zOp := ⟨_, rfl⟩
   obtain ⟨ad, A2, c2, hA, hid, hbc, hC2, hcell⟩ := op_at (Kd.C_below HA.out HBR.out) hj x hx.symm
   obtain ⟨bd, B2, d2, hB, hid2, hbc2, hD2, hcell2⟩ := op_at (Kd.C_below HB.out HBR.out) hjm y hy.symm
   have hstep := allEq_drop sameO l m j zOp hj hjm
   rw [← hx, ← hy] at hstep
   have HST := am hstep
   have hmx : x ∈ l := by rw [hx, List.getD_eq_getElem?_getD, List.getElem?_eq_getElem hj]; exact List.getElem_mem hj
   have hmy : y ∈ m := by rw [hy, List.getD_eq_getElem?_getD, List.getElem?_eq_getElem hjm]; exact List.getElem_mem hjm
   have HSO : Aside0 (FitO x ∧ FitO y) := ⟨HOK.out.1 x hmx, HOK.out.2 y hmy⟩
   subst hA
   subst hB
   obtain ⟨e1, e2⟩ := ltY hj
   have e3 : (0 ≤ (j : Int)) = True := by simp
   have e6 : ((j : Int) < (m.length : Int)) = True := by simpa using hjm
   have e4 := wr1 (i := j) (by have := HL.out; omega)
   have HJ2 := am hj
   obtain ⟨es, hes⟩ : ∃ es, (opC x A2 c2).toArray = es := ⟨_, rfl⟩
   obtain ⟨fs, hfs⟩ : ∃ fs, (opC y B2 d2).toArray = fs := ⟨_, rfl⟩
   have hsz : es.size = 71 := by rw [← hes, List.size_toArray, opC_len hid]
   have hsz2 : fs.size = 71 := by rw [← hfs, List.size_toArray, opC_len hid2]
   have hone : es.all (·.oneCell') = true := by rw [← hes]; exact opC_one x A2 c2
   have hone2 : fs.all (·.oneCell') = true := by rw [← hfs]; exact opC_one y B2 d2
   have HCE : Aside0 (∀ j' v, es[j']? = some v → wr.cell? ((ad.add (j * 71)).add j') = some v) := ⟨fun j' v h => hcell j' v (by rw [← hes] at h; simpa using h)⟩
   have hcf : ∀ j' v, fs[j']? = some v → wr.cell? ((bd.add (j * 71)).add j') = some v := fun j' v h => hcell2 j' v (by rw [← hfs] at h; simpa using h)
   have HCF : Aside0 (At (wr.alloc (.cells es 98)) (bd.add (j * 71)) fs) := ⟨At.below (W := wr) hcf (below_alloc (Below.refl _ _) _)⟩
   have HINE : Aside0 ((Try.prog.info? 98).map (·.size) = some es.size) := ⟨by rw [hsz]; exact infoOp⟩
   have HINF : Aside0 ((Try.prog.info? 98).map (·.size) = some fs.size) := ⟨by rw [hsz2]; exact infoOp⟩
   have hs1 := store_new wr Try.zeroCells98 es 98 (by rw [hsz]; kernel_rfl) hone
   have hs2 := store_new (wr.alloc (.cells es 98)) Try.zeroCells98 fs 98 (by rw [hsz2]; kernel_rfl) hone2
   rw [alloc_size] at hs2
   have HTW := am (TwoS.begin wr 98 es fs)
   have HBB := am (below_step HBR.out HTW.out.2.2)
   have HCALL : Aside0 (∀ W : World, Below wr.heap.size wr W → Calls Try.prog 131 #[.agg es, .agg fs] W fun e w' => e = .returned (.bool (sameO x y)) ∧ Below W.heap.size W w') := ⟨fun W hW => by
    rw [← hes, ← hfs]
    exact sameo_call x y A2 B2 c2 d2 W hid hid2 hbc hbc2 (Kd.C_below hC2 hW) (Kd.C_below hD2 hW) HSO.out.1⟩
   clear hx hy hmx hmy hcell hcell2 hcf hj hjm hstep hid hid2 hbc hbc2 hC2 hD2 hes hfs hone hone2
   go_wp2_with (first
    | ((with_reducible refine gate_dst (N := 21) rfl ?_); refine wpList_load_cells rfl 98 (.tmp 20) rfl (ad.add (j * 71)) rfl es _ HCE.out Try.underlying98 rfl HINE.out ?_)
    | ((with_reducible refine gate_dst (N := 25) rfl ?_); refine wpList_load_cells rfl 98 (.tmp 24) rfl (bd.add (j * 71)) rfl fs _ HCF.out Try.underlying98 rfl HINF.out ?_)
    | ((with_reducible refine gate_dst (N := 27) rfl ?_); refine wpList_load_row rfl 98 (.tmp 8) rfl wr.heap.size rfl 98 es (0, 0) _ HTW.out.1 Try.underlying98 rfl HINE.out ?_)
    | ((with_reducible refine gate_dst (N := 28) rfl ?_); refine wpList_load_row rfl 98 (.tmp 9) rfl (wr.heap.size + 1) rfl 98 fs (0, 0) _ HTW.out.2.1 Try.underlying98 rfl HINF.out ?_)
    | fail)
   refine (HCALL.out _ HTW.out.2.2).mono ?_
   rintro e_ w6 ⟨rfl, hb6⟩
   have HB6 := am (below_step HBB.out hb6)
   clear hb6 hs1 hs2
   cases hsy : sameO x y
   ·have HF : Aside0 (allEq sameO l m = false) := ⟨by rw [← HE.out]; exact HST.out.trans (by rw [hsy]; rfl)⟩
    clear hsy
    go_wp2_with fail
    go_ret
    exact ⟨by rw [HF.out]; rfl, HB6.out⟩
   ·have HF : Aside0 (allEq sameO (l.drop (j + 1)) (m.drop (j + 1)) = allEq sameO l m) := ⟨by rw [← HE.out]; exact (HST.out.trans (by rw [hsy]; rfl)).symm⟩
    clear hsy
    go_wp2_with fail
    go_roundg (l.length - (j + 1))
    case measure => have := HJ.out; have := HJ2.out; omega
    case rel => exact ⟨j + 1, by simp [e4], ⟨by omega, by have := HJ2.out; omega⟩, HB6, HF⟩
  ·have hjl : j = l.length := by have := HJ.out; omega
   have HF : Aside0 (allEq sameO l m = true) := ⟨by
    rw [← HE.out, hjl, List.drop_length, HLM.out, List.drop_length]
    rfl⟩
   obtain ⟨e1, e2⟩ := ltN hj
   clear hj hjl
   go_wp2_with fail
   go_ret
   exact ⟨by rw [HF.out]; rfl, HBR.out⟩
set_option maxHeartbeats 1000000 in
theorem eqbat_call (l m : List OpT) (A B : Option Addr) (c d : Nat) (w : World) (ha : Kd.C opK w A l.length l) (hb : Kd.C opK w B m.length m) (hok : ∀ s ∈ l, FitO s) (hok2 : ∀ s ∈ m, FitO s) :
  Calls Try.prog 129 #[.slice A l.length c, .slice B m.length d] w fun e w' => e = .returned (.bool (allEq sameO l m)) ∧ Below w.heap.size w w' := by
 have HM := am (eqops_call A B c d l m w ha hb hok hok2)
 clear ha hb hok hok2
 go_enter Try.func129, Try.ntmps129
 go_wp2_with fail
 refine HM.out.mono ?_
 rintro e_ w1 ⟨rfl, hb1⟩
 have HB1 := am hb1
 clear hb1
 go_wp2_with fail
 go_ret
 exact ⟨rfl, HB1.out⟩
set_option maxHeartbeats 4000000 in
theorem eqbats_call (A B : Option Addr) (c d : Nat) (l m : List (List OpT)) (w : World) (ha : Kd.C batK w A l.length l) (hb : Kd.C batK w B m.length m) (hok : ∀ s ∈ l, ∀ o ∈ s, FitO o) (hok2 : ∀ s ∈ m, ∀ o ∈ s, FitO o) :
  Calls Try.prog 128 #[.slice A l.length c, .slice B m.length d, .func (.func 129) #[] #[]] w fun e w' => e = .returned (.bool (allEq (allEq sameO) l m)) ∧ Below w.heap.size w w' := by
 have HA := am ha
 have HB := am hb
 have HOK := am (And.intro hok hok2)
 have HL := am ha.2.1
 clear ha hb hok hok2
 by_cases hlm : l.length = m.length
 case neg =>
  have HR := am (allEq_len (e := allEq sameO) hlm)
  have e1 : ((l.length : Int) != (m.length : Int)) = true := by simp only [bne_iff_ne, ne_eq]; omega
  clear hlm
  go_enter Try.func128, Try.ntmps128
  go_wp2_with fail
  go_ret
  exact ⟨by rw [HR.out]; rfl, Below.refl _ _⟩
 have HLM := am hlm
 have e1 : ((l.length : Int) != (m.length : Int)) = false := by rw [hlm]; simp
 clear hlm
 go_enter Try.func128, Try.ntmps128
 go_wp2_with fail
 clear e1
 go_loopg [7, 8, 9, 17] l.length (fun k v7 v8 v9 v17 w' => ∃ j : Nat, v17 = .int .i64 j ∧ Aside0 (k = l.length - j ∧ j ≤ l.length) ∧ Aside0 (Below w.heap.size w w') ∧ Aside0 (allEq (allEq sameO) (l.drop j) (m.drop j) = allEq (allEq sameO) l m))
 case atStart => exact ⟨0, rfl, ⟨by omega, by omega⟩, ⟨Below.refl _ _⟩, ⟨rfl⟩⟩
 case round =>
  obtain ⟨j, rfl, HJ, HBR, HE⟩ := hrel
  by_cases hj : j < l.length
  ·have hjm : j < m.length := by have := HLM.out; omega
   obtain ⟨x, hx⟩ : ∃ x, x = l.getD j [] := ⟨_, rfl⟩
   obtain ⟨y, hy⟩ : ∃ y, y = m.getD j [] := ⟨_, rfl⟩
   obtain ⟨ad, A2, c2, hA, hbc, hC2, hcell⟩ := bat_at (Kd.C_below HA.out HBR.out) hj x hx.symm
   obtain ⟨bd, B2, d2, hB, hbc2, hD2, hcell2⟩ := bat_at (Kd.C_below HB.out HBR.out) hjm y hy.symm
   have hstep := allEq_drop (allEq sameO) l m j [] hj hjm
   rw [← hx, ← hy] at hstep
   have HST := am hstep
   have hmx : x ∈ l := by rw [hx, List.getD_eq_getElem?_getD, List.getElem?_eq_getElem hj]; exact List.getElem_mem hj
   have hmy : y ∈ m := by rw [hy, List.getD_eq_getElem?_getD, List.getElem?_eq_getElem hjm]; exact List.getElem_mem hjm
   have HCALL := am (eqbat_call x y A2 B2 c2 d2 wr hC2 hD2 (HOK.out.1 x hmx) (HOK.out.2 y hmy))
   subst hA
   subst hB
   obtain ⟨e1, e2⟩ := ltY hj
   have e3 : (0 ≤ (j : Int)) = True := by simp
   have e6 : ((j : Int) < (m.length : Int)) = True := by simpa using hjm
   have e4 := wr1 (i := j) (by have := HL.out; omega)
   have HJ2 := am hj
   clear hx hy hmx hmy hj hjm hstep hbc hbc2 hC2 hD2
   go_wp2_with fail
   refine HCALL.out.mono ?_
   rintro e_ w6 ⟨rfl, hb6⟩
   have HB6 := am (below_step HBR.out hb6)
   clear hb6
   cases hsy : allEq sameO x y
   ·have HF : Aside0 (allEq (allEq sameO) l m = false) := ⟨by rw [← HE.out]; exact HST.out.trans (by rw [hsy]; rfl)⟩
    clear hsy
    go_wp2_with fail
    go_ret
    exact ⟨by rw [HF.out]; rfl, HB6.out⟩
   ·have HF : Aside0 (allEq (allEq sameO) (l.drop (j + 1)) (m.drop (j + 1)) = allEq (allEq sameO) l m) := ⟨by rw [← HE.out]; exact (HST.out.trans (by rw [hsy]; rfl)).symm⟩
    clear hsy
    go_wp2_with fail
    go_roundg (l.length - (j + 1))
    case measure => have := HJ.out; have := HJ2.out; omega
    case rel => exact ⟨j + 1, by simp [e4], ⟨by omega, by have := HJ2.out; omega⟩, HB6, HF⟩
  ·have hjl : j = l.length := by have := HJ.out; omega
   have HF : Aside0 (allEq (allEq sameO) l m = true) := ⟨by
    rw [← HE.out, hjl, List.drop_length, HLM.out, List.drop_length]
    rfl⟩
   obtain ⟨e1, e2⟩ := ltN hj
   clear hj hjl
   go_wp2_with fail
   go_ret
   exact ⟨by rw [HF.out]; rfl, HBR.out⟩
def samePl (p q : PlanT) : Bool := p.base == q.base && allEq (allEq sameO) p.b q.b
theorem plan_base {W : World} {g : Nat} {m : PlanT} {A : Option Addr} {c : Nat} (h : W.heap[g]? = some (.cells (planC m A c).toArray 81 (0, 0))) : At W ⟨g, 0, none⟩ (cells8 m.base) := At.head (m := nums .u8 m.base) (r := [.slice A m.b.length c]) (At.blk h)
set_option maxHeartbeats 4000000 in
theorem same_p0 (es fs : Array Value) (d d2 : List Int) (b b2 : List (List OpT)) (A B : Option Addr) (c c' : Nat) (w : World)
  (h4 : ∀ W : World, W.heap[w.heap.size]? = some (.cells es 81 (0, 0)) → At W ⟨w.heap.size, 0, none⟩ (cells8 d)) (h5 : es[32]? = some (.slice A b.length c))
  (g4 : ∀ W : World, W.heap[w.heap.size + 1]? = some (.cells fs 81 (0, 0)) → At W ⟨w.heap.size + 1, 0, none⟩ (cells8 d2)) (g5 : fs[32]? = some (.slice B b2.length c'))
  (hd : d.length = 32) (hd2 : d2.length = 32) (hA : ∀ W : World, Below w.heap.size w W → Calls Try.prog 128 #[.slice A b.length c, .slice B b2.length c', .func (.func 129) #[] #[]] W fun e w' => e = .returned (.bool (allEq (allEq sameO) b b2)) ∧ Below W.heap.size W w') (c1 : (d == d2) = false) :
  Calls Try.prog 73 #[.agg es, .agg fs] w fun e w' => e = .returned (.bool false) ∧ Below w.heap.size w w' := by
 have HT := am (TwoS.begin w 81 es fs)
 have f5 := (blk_cell HT.out.1 32).trans h5
 have e5 := (blk_cell HT.out.2.1 32).trans g5
 have HD := am (And.intro (h4 _ HT.out.1) (g4 _ HT.out.2.1))
 have HDL := am (And.intro hd hd2)
 have HA := am hA
 have hdg : ∀ W : World, (binOp .eql 28 (.agg (cells8 d)) (.agg (cells8 d2))).run Try.prog W = .ok (.bool (d == d2)) W := fun W => eql8 (P := Try.prog) (w := W) Try.underlying28 Try.info5i Try.underlying5 cells5 d d2 hd hd2
 simp only [c1] at hdg
 clear h4 h5 g4 g5 hd hd2 hA
 go_enter Try.func73, Try.ntmps73
 go_wp2_with (first
  | ((with_reducible refine gate_dst (N := 6) rfl ?_); refine wpList_load_cells rfl 28 (.tmp 5) rfl ⟨w.heap.size, 0, none⟩ rfl (cells8 d) _ HD.out.1 Try.underlying28 rfl (by rw [cells8_size, HDL.out.1]; kernel_rfl) ?_)
  | ((with_reducible refine gate_dst (N := 8) rfl ?_); refine wpList_load_cells rfl 28 (.tmp 7) rfl ⟨w.heap.size + 1, 0, none⟩ rfl (cells8 d2) _ HD.out.2 Try.underlying28 rfl (by rw [cells8_size, HDL.out.2]; kernel_rfl) ?_)
  | fail)
 go_ret
 exact ⟨rfl, HT.out.2.2⟩
set_option maxHeartbeats 4000000 in
theorem same_p1 (es fs : Array Value) (d d2 : List Int) (b b2 : List (List OpT)) (A B : Option Addr) (c c' : Nat) (w : World)
  (h4 : ∀ W : World, W.heap[w.heap.size]? = some (.cells es 81 (0, 0)) → At W ⟨w.heap.size, 0, none⟩ (cells8 d)) (h5 : es[32]? = some (.slice A b.length c))
  (g4 : ∀ W : World, W.heap[w.heap.size + 1]? = some (.cells fs 81 (0, 0)) → At W ⟨w.heap.size + 1, 0, none⟩ (cells8 d2)) (g5 : fs[32]? = some (.slice B b2.length c'))
  (hd : d.length = 32) (hd2 : d2.length = 32) (hA : ∀ W : World, Below w.heap.size w W → Calls Try.prog 128 #[.slice A b.length c, .slice B b2.length c', .func (.func 129) #[] #[]] W fun e w' => e = .returned (.bool (allEq (allEq sameO) b b2)) ∧ Below W.heap.size W w') (c1 : (d == d2) = true) :
  Calls Try.prog 73 #[.agg es, .agg fs] w fun e w' => e = .returned (.bool (allEq (allEq sameO) b b2)) ∧ Below w.heap.size w w' := by
 have HT := am (TwoS.begin w 81 es fs)
 have f5 := (blk_cell HT.out.1 32).trans h5
 have e5 := (blk_cell HT.out.2.1 32).trans g5
 have HD := am (And.intro (h4 _ HT.out.1) (g4 _ HT.out.2.1))
 have HDL := am (And.intro hd hd2)
 have HA := am hA
 have hdg : ∀ W : World, (binOp .eql 28 (.agg (cells8 d)) (.agg (cells8 d2))).run Try.prog W = .ok (.bool (d == d2)) W := fun W => eql8 (P := Try.prog) (w := W) Try.underlying28 Try.info5i Try.underlying5 cells5 d d2 hd hd2
 simp only [c1] at hdg
 clear h4 h5 g4 g5 hd hd2 hA
 go_enter Try.func73, Try.ntmps73
 go_wp2_with (first
  | ((with_reducible refine gate_dst (N := 6) rfl ?_); refine wpList_load_cells rfl 28 (.tmp 5) rfl ⟨w.heap.size, 0, none⟩ rfl (cells8 d) _ HD.out.1 Try.underlying28 rfl (by rw [cells8_size, HDL.out.1]; kernel_rfl) ?_)
  | ((with_reducible refine gate_dst (N := 8) rfl ?_); refine wpList_load_cells rfl 28 (.tmp 7) rfl ⟨w.heap.size + 1, 0, none⟩ rfl (cells8 d2) _ HD.out.2 Try.underlying28 rfl (by rw [cells8_size, HDL.out.2]; kernel_rfl) ?_)
  | fail)
 refine (HA.out _ HT.out.2.2).mono ?_
 rintro e_ w1 ⟨rfl, hb1⟩
 have HB1 := am (below_step HT.out.2.2 hb1)
 clear hb1 f5 e5
 go_wp2_with fail
 go_ret
 exact ⟨rfl, HB1.out⟩
theorem samepl_call (p q : PlanT) (A B : Option Addr) (c c' : Nat) (w : World) (hd : p.base.length = 32) (hd2 : q.base.length = 32) (hA : Kd.C batK w A p.b.length p.b) (hB : Kd.C batK w B q.b.length q.b) (ok : ∀ s ∈ p.b, ∀ o ∈ s, FitO o) (ok2 : ∀ s ∈ q.b, ∀ o ∈ s, FitO o) :
  Calls Try.prog 73 #[.agg (planC p A c).toArray, .agg (planC q B c').toArray] w fun e w' => e = .returned (.bool (samePl p q)) ∧ Below w.heap.size w w' := by
 have hcall := fun (W : World) (hW : Below w.heap.size w W) => eqbats_call A B c c' p.b q.b W (Kd.C_below hA hW) (Kd.C_below hB hW) ok ok2
 unfold samePl
 cases c1 : p.base == q.base
 ·exact same_p0 _ _ p.base q.base p.b q.b A B c c' w (fun W h => plan_base h) (planC_32 hd A c) (fun W h => plan_base h) (planC_32 hd2 B c') hd hd2 hcall c1
 exact same_p1 _ _ p.base q.base p.b q.b A B c c' w (fun W h => plan_base h) (planC_32 hd A c) (fun W h => plan_base h) (planC_32 hd2 B c') hd hd2 hcall c1
end
theorem bytes_inj {a b : ByteArray} (h : a.toList = b.toList) : a = b := by
 rw [ByteArray.toList_eq, ByteArray.toList_eq] at h
 obtain ⟨⟨x⟩⟩ := a
 obtain ⟨⟨y⟩⟩ := b
 simp only at h
 rw [h]
theorem sameP_eq {p q : S67} (h : sameP p q = true) : p = q := by
 unfold sameP at h
 simp only [Bool.and_eq_true, beq_iff_eq] at h
 obtain ⟨h0, h1, h2, h3⟩ := h
 have h4 := bytes_inj h3
 obtain ⟨a0, a1, a2, a3⟩ := p
 obtain ⟨b0, b1, b2, b3⟩ := q
 simp only at h0 h1 h2 h4
 subst h0; subst h1; subst h2; subst h4
 rfl
theorem sameL_eq : ∀ {l m : List S67}, sameL l m = true → l = m
 | [], [], _ => rfl
 | [], _ :: _, h => by cases h
 | _ :: _, [], h => by cases h
 | p :: l, q :: m, h => by
  have h2 : (sameP p q && sameL l m) = true := h
  rw [Bool.and_eq_true] at h2
  rw [sameP_eq h2.1, sameL_eq h2.2]
theorem sameO_eq {x y : OpT} : sameO x y = true ↔ x = y := by
 constructor
 ·intro h
  unfold sameO at h
  simp only [Bool.and_eq_true, beq_iff_eq] at h
  obtain ⟨h1, h2, h3, h4, h5, ⟨h6, h7⟩, h8, h9, h10⟩ := h
  have e1 := bytes_inj h8
  have e2 := sameL_eq h10
  obtain ⟨a0, a1, a2, a3, a4, a5, a6, a7, a8, a9⟩ := x
  obtain ⟨b0, b1, b2, b3, b4, b5, b6, b7, b8, b9⟩ := y
  simp only at h1 h2 h3 h4 h5 h6 h7 h9 e1 e2
  subst h1; subst h2; subst h3; subst h4; subst h5; subst h6; subst h7; subst h9; subst e1; subst e2
  rfl
 ·rintro rfl
  unfold sameO
  rw [sameL_refl]
  simp
theorem samePl_eq {p q : PlanT} : samePl p q = true ↔ p = q := by
 constructor
 ·intro h
  unfold samePl at h
  simp only [Bool.and_eq_true, beq_iff_eq] at h
  have h2 := allEq_eq (fun a _ b _ hab => allEq_eq (fun x _ y _ hxy => sameO_eq.1 hxy) hab) h.2
  obtain ⟨a0, a1⟩ := p
  obtain ⟨b0, b1⟩ := q
  have h1 := h.1
  simp only at h1 h2
  subst h1; subst h2
  rfl
 ·rintro rfl
  unfold samePl
  rw [allEq_self (fun a _ => allEq_self (fun x _ => sameO_eq.2 rfl))]
  simp
section
open Go.Proofs.Ytchaegfdcdlfaaa.Y (IsGet Bytes put put_range put_length put_length_pos put_unique isGet_put readR bytesOf_bytes)
open Go.RowKit Go.Maps Go.Proofs.YtchaegfdcdlfaaaW.PrintWords Go.Proofs.YtchaegfdcdlfaaaW.PrintLast Go.Proofs.YtchaegfdcdlfaaaW.PrintMore
theorem strOf_bytesOf (s : ByteArray) : strOfNums (bytesOf s) = s := by
 apply ByteArray.ext
 apply Array.ext'
 rw [strOfNums_data]
 unfold bytesOf
 rw [List.map_map]
 conv => rhs; rw [← List.map_id s.data.toList]
 apply List.map_congr_left
 intro x _
 simp
theorem bytesOf_strOf {l : List Int} (h : Bytes l) : bytesOf (strOfNums l) = l := by
 unfold bytesOf
 rw [strOfNums_data, List.map_map]
 conv => rhs; rw [← List.map_id l]
 apply List.map_congr_left
 intro x hx
 have := h x hx
 simp
 omega
theorem strOf_size (l : List Int) : (strOfNums l).size = l.length := strOfNums_size l
theorem bytesOf_len (s : ByteArray) : (bytesOf s).length = s.size := by simp [bytesOf]
theorem bytes_app {l m : List Int} (h : Bytes l) (h2 : Bytes m) : Bytes (l ++ m) := fun x hx => (List.mem_append.1 hx).elim (h x) (h2 x)
def pieceB (p : S67) : List Int := if p.f0 = true then 1 :: (put p.f1.toNat ++ put p.f2.toNat) else 0 :: (put p.f3.size ++ bytesOf p.f3)
def piecesB : List S67 → List Int
 | [] => []
 | p :: l => pieceB p ++ piecesB l
def putL (l : List S67) : List Int := put l.length ++ piecesB l
def pieceR (b : List Int) : S67 × Int × Bool :=
 if b.length = 0 ∨ 1 < rd b 0 then (z67, 0, false)
 else if rd b 0 = 0 then (⟨false, 0, 0, (readR (b.drop 1) (getL (b.drop 1)) 200).1⟩, (readR (b.drop 1) (getL (b.drop 1)) 200).2.1 + 1, (readR (b.drop 1) (getL (b.drop 1)) 200).2.2)
 else if (getL (b.drop 1)).2.2 = true ∧ (getL (b.drop (1 + (getL (b.drop 1)).2.1.toNat))).2.2 = true ∧ (getL (b.drop 1)).1 ≤ 200 ∧ (getL (b.drop (1 + (getL (b.drop 1)).2.1.toNat))).1 ≤ 200 then
  (⟨true, (getL (b.drop 1)).1, (getL (b.drop (1 + (getL (b.drop 1)).2.1.toNat))).1, ⟨#[]⟩⟩, 1 + (getL (b.drop 1)).2.1 + (getL (b.drop (1 + (getL (b.drop 1)).2.1.toNat))).2.1, true)
 else (z67, 0, false)
def Shape (p : S67) : Prop := (p.f0 = true → 0 ≤ p.f1 ∧ p.f1 ≤ 200 ∧ 0 ≤ p.f2 ∧ p.f2 ≤ 200 ∧ p.f3 = ⟨#[]⟩) ∧ (p.f0 = false → p.f1 = 0 ∧ p.f2 = 0 ∧ p.f3.size ≤ 200)
theorem empty_bytes {s : ByteArray} (h : s.size = 0) : s = ⟨#[]⟩ := by
 apply ByteArray.ext
 show s.data = #[]
 exact Array.eq_empty_of_size_eq_zero h
theorem shape_may {p : S67} (h : mayP p = true) : Shape p := by
 have h2 := mayP_true h
 refine ⟨fun h0 => ?_, fun h0 => ?_⟩
 ·have := h2.1 h0
  exact ⟨by omega, by omega, by omega, by omega, empty_bytes this.2.2.2.2⟩
 ·have := h2.2 h0
  omega
theorem pieceB_bytes (p : S67) : Bytes (pieceB p) := by
 unfold pieceB
 split
 ·intro x hx
  rcases List.mem_cons.1 hx with rfl | hx
  ·omega
  ·exact bytes_app (put_range _) (put_range _) x hx
 ·intro x hx
  rcases List.mem_cons.1 hx with rfl | hx
  ·omega
  ·exact bytes_app (put_range _) (bytesOf_bytes _) x hx
theorem piecesB_bytes : ∀ l : List S67, Bytes (piecesB l)
 | [] => fun x hx => by simp [piecesB] at hx
 | p :: l => bytes_app (pieceB_bytes p) (piecesB_bytes l)
theorem putL_bytes (l : List S67) : Bytes (putL l) := bytes_app (put_range _) (piecesB_bytes l)
theorem readR_put (s : ByteArray) (h : s.size ≤ 200) (rest : List Int) (hb : Bytes rest) (hl : rest.length ≤ 1000000) : readR (put s.size ++ bytesOf s ++ rest) (getL (put s.size ++ bytesOf s ++ rest)) 200 = (s, ((put s.size ++ bytesOf s).length : Int), true) := by
 have h10 := put_length s.size (by omega)
 have hlen := bytesOf_len s
 have hg : getL (put s.size ++ bytesOf s ++ rest) = ((s.size : Int), ((put s.size).length : Int), true) :=
  getL_eq (bytes_app (bytes_app (put_range _) (bytesOf_bytes _)) hb) (by simp only [List.length_append]; omega) (by rw [List.append_assoc]; exact isGet_put _ (by omega) _)
 rw [hg]
 unfold readR
 rw [if_pos ⟨rfl, by omega, by show (s.size : Int) ≤ 200; omega, by
  show (s.size : Int) ≤ ((put s.size ++ bytesOf s ++ rest).length : Int) - ((put s.size).length : Int)
  simp only [List.length_append]; omega⟩]
 show (strOfNums (((put s.size ++ bytesOf s ++ rest).drop ((put s.size).length : Int).toNat).take (s.size : Int).toNat), ((put s.size).length : Int) + (s.size : Int), true) = _
 rw [Int.toNat_natCast, Int.toNat_natCast, List.append_assoc, List.drop_left, ← hlen, List.take_left, strOf_bytesOf]
 simp only [List.length_append]
 rw [Int.natCast_add]
theorem pieceR_put (p : S67) (h : Shape p) (rest : List Int) (hb : Bytes rest) (hl : rest.length ≤ 1000000) : pieceR (pieceB p ++ rest) = (p, ((pieceB p).length : Int), true) := by
 unfold pieceB
 cases h0 : p.f0
 ·obtain ⟨h1, h2, h3⟩ := h.2 h0
  rw [if_neg (by simp)]
  unfold pieceR
  have e0 : rd (0 :: (put p.f3.size ++ bytesOf p.f3) ++ rest) 0 = 0 := rfl
  have e1 : (0 :: (put p.f3.size ++ bytesOf p.f3) ++ rest).drop 1 = put p.f3.size ++ bytesOf p.f3 ++ rest := rfl
  rw [e0, if_neg (by simp), if_pos rfl, e1, readR_put _ h3 _ hb hl]
  dsimp only
  rw [← h0]
  have e : (⟨p.f0, 0, 0, p.f3⟩ : S67) = p := by
   cases p
   dsimp only at h1 h2
   rw [h1, h2]
  rw [e]
  simp only [List.length_cons]
  rw [Int.natCast_succ]
 ·obtain ⟨h1, h2, h3, h4, h5⟩ := h.1 h0
  rw [if_pos rfl]
  obtain ⟨a, ha⟩ := Int.eq_ofNat_of_zero_le h1
  obtain ⟨b, hb'⟩ := Int.eq_ofNat_of_zero_le h3
  have ta : p.f1.toNat = a := by omega
  have tb : p.f2.toNat = b := by omega
  rw [ta, tb]
  have la := put_length a (by omega)
  have lb := put_length b (by omega)
  unfold pieceR
  have e0 : rd (1 :: (put a ++ put b) ++ rest) 0 = 1 := rfl
  have e1 : (1 :: (put a ++ put b) ++ rest).drop 1 = put a ++ (put b ++ rest) := by
   show put a ++ put b ++ rest = _
   rw [List.append_assoc]
  have g1 : getL (put a ++ (put b ++ rest)) = ((a : Int), ((put a).length : Int), true) :=
   getL_eq (bytes_app (put_range _) (bytes_app (put_range _) hb)) (by simp only [List.length_append]; omega) (isGet_put _ (by omega) _)
  have g2 : getL (put b ++ rest) = ((b : Int), ((put b).length : Int), true) :=
   getL_eq (bytes_app (put_range _) hb) (by simp only [List.length_append]; omega) (isGet_put _ (by omega) _)
  rw [e0, if_neg (by simp), if_neg (by omega), e1, g1]
  dsimp only
  have e2 : (1 :: (put a ++ put b) ++ rest).drop (1 + ((put a).length : Int).toNat) = put b ++ rest := by
   rw [Int.toNat_natCast, ← List.drop_drop, e1, List.drop_left]
  rw [e2, g2]
  dsimp only
  rw [if_pos ⟨rfl, rfl, by omega, by omega⟩, ← h0, ← h5, ← ha, ← hb']
  simp only [List.length_cons, List.length_append]
  congr 1
  congr 1
  omega
theorem pieceR_is (b : List Int) (hb : Bytes b) (hl : b.length ≤ 1000000) : ((pieceR b).2.2 = false) ∨ ∃ p rest, b = pieceB p ++ rest ∧ Shape p ∧ pieceR b = (p, ((pieceB p).length : Int), true) := by
 by_cases h0 : b.length = 0 ∨ 1 < rd b 0
 ·left; unfold pieceR; rw [if_pos h0]
 cases b with
 | nil => exact absurd (.inl rfl) h0
 | cons c t =>
  have hc : rd (c :: t) 0 = c := rfl
  have hd : (c :: t).drop 1 = t := rfl
  rw [hc] at h0
  have hcb := hb c (by simp)
  have htb : Bytes t := fun x hx => hb x (by simp [hx])
  have htl : t.length ≤ 1000000 := by simp only [List.length_cons] at hl; omega
  by_cases hc0 : c = 0
  ·subst hc0
   rcases getL_is htb (by omega) with ⟨m, hm, ⟨r, hr⟩, hg⟩ | ⟨_, hg⟩
   ·by_cases hk : m ≤ 200 ∧ m ≤ r.length
    ·right
     have hs : (strOfNums (r.take m)).size = m := by rw [strOf_size, List.length_take]; omega
     have hrb : Bytes (r.take m) := fun x hx => htb x (by rw [← hr]; simp [List.mem_of_mem_take hx])
     refine ⟨⟨false, 0, 0, strOfNums (r.take m)⟩, r.drop m, ?_, ⟨fun h => by simp at h, fun _ => ⟨rfl, rfl, by show (strOfNums (r.take m)).size ≤ 200; omega⟩⟩, ?_⟩
     ·unfold pieceB
      rw [if_neg (by simp)]
      show (0 : Int) :: t = 0 :: (put (strOfNums (r.take m)).size ++ bytesOf (strOfNums (r.take m))) ++ r.drop m
      rw [hs, bytesOf_strOf hrb, List.cons_append, List.append_assoc, List.take_append_drop, hr]
     ·have e : (0 : Int) :: t = pieceB ⟨false, 0, 0, strOfNums (r.take m)⟩ ++ r.drop m := by
       unfold pieceB
       rw [if_neg (by simp)]
       show (0 : Int) :: t = 0 :: (put (strOfNums (r.take m)).size ++ bytesOf (strOfNums (r.take m))) ++ r.drop m
       rw [hs, bytesOf_strOf hrb, List.cons_append, List.append_assoc, List.take_append_drop, hr]
      rw [e]
      refine pieceR_put _ ⟨fun h => by simp at h, fun _ => ⟨rfl, rfl, by show (strOfNums (r.take m)).size ≤ 200; omega⟩⟩ _ (fun x hx => htb x (by rw [← hr]; simp [List.mem_of_mem_drop hx])) ?_
      have := congrArg List.length hr
      simp only [List.length_append] at this
      rw [List.length_drop]
      omega
    ·left
     unfold pieceR
     rw [hc, if_neg h0, if_pos rfl, hd, hg]
     show (readR t ((m : Int), ((put m).length : Int), true) 200).2.2 = false
     unfold readR
     have hle := congrArg List.length hr
     simp only [List.length_append] at hle
     rw [if_neg (by rintro ⟨_, _, h1, h2⟩; apply hk; dsimp only at h1 h2; omega)]
   ·left
    unfold pieceR
    rw [hc, if_neg h0, if_pos rfl, hd, hg]
    show (readR t (0, 0, false) 200).2.2 = false
    unfold readR
    rw [if_neg (by simp)]
  ·have hc1 : c = 1 := by
    have := h0
    simp only [List.length_cons] at this
    omega
   subst hc1
   by_cases hq : (getL t).2.2 = true ∧ (getL (t.drop (getL t).2.1.toNat)).2.2 = true ∧ (getL t).1 ≤ 200 ∧ (getL (t.drop (getL t).2.1.toNat)).1 ≤ 200
   ·right
    rcases getL_is htb (by omega) with ⟨m, hm, ⟨r, hr⟩, hg⟩ | ⟨_, hg⟩
    ·rw [hg] at hq
     dsimp only at hq
     have hr' : t.drop ((put m).length : Int).toNat = r := by rw [Int.toNat_natCast, ← hr, List.drop_left]
     rw [hr'] at hq
     have hrb : Bytes r := fun x hx => htb x (by rw [← hr]; simp [hx])
     have hrl : r.length ≤ 1000000 := by
      have := congrArg List.length hr
      simp only [List.length_append] at this
      omega
     rcases getL_is hrb (by omega) with ⟨m', hm', ⟨r', hr2⟩, hg'⟩ | ⟨_, hg'⟩
     ·rw [hg'] at hq
      dsimp only at hq
      have hsh : Shape ⟨true, (m : Int), (m' : Int), ⟨#[]⟩⟩ := ⟨fun _ => ⟨by show (0 : Int) ≤ (m : Int); omega, by show (m : Int) ≤ 200; omega, by show (0 : Int) ≤ (m' : Int); omega, by show (m' : Int) ≤ 200; omega, rfl⟩, fun h => by simp at h⟩
      have e : (1 : Int) :: t = pieceB ⟨true, (m : Int), (m' : Int), ⟨#[]⟩⟩ ++ r' := by
       unfold pieceB
       rw [if_pos rfl]
       show (1 : Int) :: t = 1 :: (put (m : Int).toNat ++ put (m' : Int).toNat) ++ r'
       rw [Int.toNat_natCast, Int.toNat_natCast, List.cons_append, List.append_assoc, hr2, hr]
      refine ⟨_, r', e, hsh, ?_⟩
      rw [e]
      refine pieceR_put _ hsh _ (fun x hx => hrb x (by rw [← hr2]; simp [hx])) ?_
      have := congrArg List.length hr2
      simp only [List.length_append] at this
      omega
     ·rw [hg'] at hq
      simp at hq
    ·rw [hg] at hq
     simp at hq
   ·left
    unfold pieceR
    rw [hc, if_neg h0, if_neg (by omega), hd]
    have hdd : ∀ n, ((1 : Int) :: t).drop (1 + n) = t.drop n := fun n => by rw [Nat.add_comm]; rfl
    rw [hdd, if_neg hq]
def getsR : Nat → List Int → Option (List S67 × Nat)
 | 0, _ => some ([], 0)
 | k + 1, b => if (pieceR b).2.2 = true then (getsR k (b.drop (pieceR b).2.1.toNat)).map fun r => ((pieceR b).1 :: r.1, (pieceR b).2.1.toNat + r.2) else none
theorem getsR_put : ∀ (l : List S67) (rest : List Int), (∀ p ∈ l, Shape p) → Bytes rest → (piecesB l ++ rest).length ≤ 1000000 → getsR l.length (piecesB l ++ rest) = some (l, (piecesB l).length)
 | [], rest, _, _, _ => rfl
 | p :: l, rest, h, hb, hl => by
  have e : piecesB (p :: l) ++ rest = pieceB p ++ (piecesB l ++ rest) := by
   show pieceB p ++ piecesB l ++ rest = _
   rw [List.append_assoc]
  rw [e] at hl ⊢
  have hl2 : (piecesB l ++ rest).length ≤ 1000000 := by rw [List.length_append] at hl; omega
  show (if (pieceR (pieceB p ++ (piecesB l ++ rest))).2.2 = true then _ else none) = _
  rw [pieceR_put p (h p (by simp)) _ (bytes_app (piecesB_bytes l) hb) hl2]
  dsimp only
  rw [if_pos rfl, Int.toNat_natCast, List.drop_left, getsR_put l rest (fun q hq => h q (by simp [hq])) hb hl2]
  show some (p :: l, (pieceB p).length + (piecesB l).length) = some (p :: l, (pieceB p ++ piecesB l).length)
  rw [List.length_append]
theorem getsR_is : ∀ (k : Nat) (b : List Int) (l : List S67) (n : Nat), Bytes b → b.length ≤ 1000000 → getsR k b = some (l, n) → l.length = k ∧ n = (piecesB l).length ∧ (∀ p ∈ l, Shape p) ∧ ∃ rest, b = piecesB l ++ rest
 | 0, b, l, n, _, _, h => by
  obtain ⟨rfl, rfl⟩ := Prod.mk.inj (Option.some.inj h)
  exact ⟨rfl, rfl, fun p hp => by simp at hp, b, rfl⟩
 | k + 1, b, l, n, hb, hl, h => by
  have h' : (if (pieceR b).2.2 = true then (getsR k (b.drop (pieceR b).2.1.toNat)).map fun r => ((pieceR b).1 :: r.1, (pieceR b).2.1.toNat + r.2) else none) = some (l, n) := h
  rcases pieceR_is b hb hl with hf | ⟨p, rest, rfl, hs, hp⟩
  ·rw [if_neg (by simp [hf])] at h'
   simp at h'
  ·rw [hp] at h'
   dsimp only at h'
   rw [if_pos rfl, Int.toNat_natCast, List.drop_left] at h'
   cases hg : getsR k rest with
   | none => rw [hg] at h'; simp at h'
   | some r =>
    obtain ⟨l', n'⟩ := r
    rw [hg] at h'
    obtain ⟨rfl, rfl⟩ := Prod.mk.inj (Option.some.inj h')
    obtain ⟨h1, h2, h3, r2, hr2⟩ := getsR_is k rest l' n' (fun x hx => hb x (by simp [hx])) (by rw [List.length_append] at hl; omega) hg
    refine ⟨by simp [h1], by show (pieceB p).length + n' = (pieceB p ++ piecesB l').length; rw [List.length_append, h2], ?_, r2, ?_⟩
    ·intro q hq
     rcases List.mem_cons.1 hq with rfl | hq
     ·exact hs
     ·exact h3 q hq
    ·show pieceB p ++ rest = pieceB p ++ piecesB l' ++ r2
     rw [List.append_assoc, hr2]
def getP (b : List Int) : List S67 × Int × Bool :=
 if (getL b).2.2 = true ∧ (getL b).1 ≤ 60 then
  match getsR (getL b).1.toNat (b.drop (getL b).2.1.toNat) with
  | some (l, n) => if mayL l = true then (l, (getL b).2.1 + (n : Int), true) else ([], 0, false)
  | none => ([], 0, false)
 else ([], 0, false)
theorem pieceB_length {p : S67} (h : Shape p) : (pieceB p).length ≤ 300 := by
 unfold pieceB
 cases h0 : p.f0
 ·have h3 := (h.2 h0).2.2
  rw [if_neg (by simp)]
  have := put_length p.f3.size (by omega)
  simp only [List.length_cons, List.length_append, bytesOf_len]
  omega
 ·have h3 := h.1 h0
  rw [if_pos rfl]
  have h4 := put_length p.f1.toNat (by omega)
  have h5 := put_length p.f2.toNat (by omega)
  simp only [List.length_cons, List.length_append]
  omega
theorem may_shape {l : List S67} (h : mayL l = true) : ∀ p ∈ l, Shape p := fun p hp => shape_may (List.all_eq_true.1 ((mayL_iff l).1 h).1 p hp)
theorem getP_is (b : List Int) (hb : Bytes b) (hl : b.length ≤ 1000000) : getP b = ([], 0, false) ∨ ∃ l rest, b = putL l ++ rest ∧ mayL l = true ∧ getP b = (l, ((putL l).length : Int), true) := by
 by_cases hc : (getL b).2.2 = true ∧ (getL b).1 ≤ 60
 ·rcases getL_is hb (by omega) with ⟨m, hm, ⟨r, rfl⟩, hg⟩ | ⟨_, hg⟩
  ·rw [hg] at hc
   unfold getP
   rw [hg]
   dsimp only
   rw [if_pos hc, Int.toNat_natCast, Int.toNat_natCast, List.drop_left]
   cases hr : getsR m r with
   | none => exact .inl rfl
   | some q =>
    obtain ⟨l, n⟩ := q
    obtain ⟨h1, h2, h3, r2, rfl⟩ := getsR_is m r l n (fun x hx => hb x (by simp [hx])) (by rw [List.length_append] at hl; omega) hr
    dsimp only
    by_cases hm : mayL l = true
    ·rw [if_pos hm]
     refine .inr ⟨l, r2, ?_, hm, ?_⟩
     ·unfold putL
      rw [h1, List.append_assoc]
     ·unfold putL
      rw [h1, h2, List.length_append, Int.natCast_add]
    ·rw [if_neg hm]
     exact .inl rfl
  ·rw [hg] at hc
   simp at hc
 ·unfold getP
  rw [if_neg hc]
  exact .inl rfl
end
section
open Go.RowKit Go.Proofs.YtchaegfdcdlfaaaW.PrintWords Go.Proofs.YtchaegfdcdlfaaaW.PrintLast Go.Proofs.YtchaegfdcdlfaaaW.PrintMore
open Go.Proofs.Ytchaegfdcdlfaaa.Y (IsGet readR bytesOf_bytes Bytes four word put put_range put_length put_length_pos isGet_put word_four four_word word_length word_bytes put_unique)
theorem Good.iso2 {α β : Type} {f : Rd → α × Rd} {B : α → List Int} {P : α → Prop} (h : Good f B P) (u : α → β) (v : β → α) (P' : β → Prop) (h1 : ∀ x, P x → P' (u x) ∧ v (u x) = x) (h2 : ∀ y, P' y → P (v y) ∧ u (v y) = y) :
  Good (fun s => (u (f s).1, (f s).2)) (fun y => B (v y)) P' where
 byt := fun y hy => h.byt _ (h2 y hy).1
 put := fun y rest hy hb hl => by
  show (u (f ⟨B (v y) ++ rest, false⟩).1, (f ⟨B (v y) ++ rest, false⟩).2) = _
  rw [h.put _ rest (h2 y hy).1 hb hl, (h2 y hy).2]
 suf := fun s => h.suf s
 got := fun s hb hl hs => by
  obtain ⟨g1, g2, g3⟩ := h.got s hb hl hs
  exact ⟨g1, (h1 _ g2).1, by show s.b = B (v (u _)) ++ _; rw [(h1 _ g2).2]; exact g3⟩
def parR {α : Type} (q : List Int → α × Int × Bool) (s : Rd) : α × Rd := ((q s.b).1, (skipR s (q s.b).2.1.toNat (q s.b).2.2).2)
theorem parR_tame {α : Type} (q : List Int → α × Int × Bool) : Tame (parR q) := ⟨fun s => skipR_suf s _ _, fun s h => skip_bad_of _ _ _ h⟩
theorem parR_good {α : Type} {q : List Int → α × Int × Bool} {B : α → List Int} {P : α → Prop} (hby : ∀ x, P x → Bytes (B x))
  (hput : ∀ x rest, P x → Bytes rest → (B x ++ rest).length ≤ 1000000 → q (B x ++ rest) = (x, ((B x).length : Int), true))
  (his : ∀ b, Bytes b → b.length ≤ 1000000 → (q b).2.2 = false ∨ ∃ x rest, b = B x ++ rest ∧ P x ∧ q b = (x, ((B x).length : Int), true)) : Good (parR q) B P where
 byt := hby
 put := fun x rest hx hb hl => by
  unfold parR
  dsimp only
  rw [hput x rest hx hb hl]
  dsimp only
  rw [skipR_ok rfl rfl (by show ((B x).length : Int).toNat ≤ (B x ++ rest).length; rw [List.length_append]; omega)]
  show (_, (⟨(B x ++ rest).drop ((B x).length : Int).toNat, false⟩ : Rd)) = _
  rw [Int.toNat_natCast, List.drop_left]
 suf := fun s => skipR_suf s _ _
 got := fun s hb hl h => by
  obtain ⟨g1, g2, g3, g4⟩ := skipR_got h
  rcases his s.b hb hl with h0 | ⟨x, rest, hx, hP, hq⟩
  ·rw [h0] at g2; cases g2
  ·have e : parR q s = (x, ⟨rest, false⟩) := by
    unfold parR
    rw [g4, hq]
    dsimp only
    rw [Int.toNat_natCast, hx, List.drop_left]
   rw [e]
   exact ⟨g1, hP, hx⟩
def textQ (b : List Int) : ByteArray × Int × Bool := readR b (getL b) 200
def textB (v : ByteArray) : List Int := put v.size ++ bytesOf v
theorem textB_bytes (v : ByteArray) : Bytes (textB v) := by_app (put_range _) (bytesOf_bytes v)
theorem textQ_put (s : ByteArray) (rest : List Int) (h : s.size ≤ 200) (hb : Bytes rest) (hl : (textB s ++ rest).length ≤ 1000000) : textQ (textB s ++ rest) = (s, ((textB s).length : Int), true) :=
 readR_put s h rest hb (by rw [List.length_append] at hl; omega)
theorem textQ_is (b : List Int) (hb : Bytes b) (hl : b.length ≤ 1000000) : (textQ b).2.2 = false ∨ ∃ s rest, b = textB s ++ rest ∧ s.size ≤ 200 ∧ textQ b = (s, ((textB s).length : Int), true) := by
 rcases getL_is hb (by omega) with ⟨m, hm, ⟨r, hr⟩, hg⟩ | ⟨_, hg⟩
 ·by_cases hk : m ≤ 200 ∧ m ≤ r.length
  ·right
   have hs : (strOfNums (r.take m)).size = m := by rw [strOf_size, List.length_take]; omega
   have hrb : Bytes (r.take m) := fun x hx => hb x (by rw [← hr]; simp [List.mem_of_mem_take hx])
   have e : b = textB (strOfNums (r.take m)) ++ r.drop m := by
    show b = put (strOfNums (r.take m)).size ++ bytesOf (strOfNums (r.take m)) ++ r.drop m
    rw [hs, bytesOf_strOf hrb, List.append_assoc, List.take_append_drop, hr]
   refine ⟨strOfNums (r.take m), r.drop m, e, by omega, ?_⟩
   have hl' : (textB (strOfNums (r.take m)) ++ r.drop m).length ≤ 1000000 := by rw [← e]; exact hl
   have := textQ_put (strOfNums (r.take m)) (r.drop m) (by omega) (fun x hx => hb x (by rw [← hr]; simp [List.mem_of_mem_drop hx])) hl'
   rw [← e] at this
   exact this
  ·left
   unfold textQ
   rw [hg]
   unfold readR
   have hle := congrArg List.length hr
   simp only [List.length_append] at hle
   rw [if_neg (by rintro ⟨_, _, h1, h2⟩; apply hk; dsimp only at h1 h2; omega)]
 ·left
  unfold textQ
  rw [hg]
  unfold readR
  rw [if_neg (by simp)]
theorem textQ_nat {l : List Int} (hb : Bytes l) (hl : l.length ≤ 1000000) : ∃ (v : ByteArray) (n : Nat) (is : Bool), textQ l = (v, (n : Int), is) ∧ n ≤ 1000000 := by
 rcases textQ_is l hb hl with h | ⟨v, rest, e, _, hq⟩
 ·refine ⟨⟨#[]⟩, 0, false, ?_, by decide⟩
  unfold textQ readR at h ⊢
  split at h
  ·cases h
  ·rename_i hc
   rw [if_neg hc]
   rfl
 ·exact ⟨v, (textB v).length, true, hq, by have := congrArg List.length e; rw [List.length_append] at this; omega⟩
def textR : Rd → ByteArray × Rd := parR textQ
theorem textR_good : Good textR textB (fun v => v.size ≤ 200) := parR_good (fun x _ => textB_bytes x) (fun x rest h hb hl => textQ_put x rest h hb hl) textQ_is
theorem getP_put2 {l : List S67} (h : mayL l = true) (rest : List Int) (hb : Bytes rest) (hl : (putL l ++ rest).length ≤ 1000000) : getP (putL l ++ rest) = (l, ((putL l).length : Int), true) := by
 have hi := (mayL_iff l).1 h
 have e : putL l ++ rest = put l.length ++ (piecesB l ++ rest) := by unfold putL; rw [List.append_assoc]
 rw [e] at hl
 have hl2 : (piecesB l ++ rest).length ≤ 1000000 := by rw [List.length_append] at hl; omega
 have hg : getL (put l.length ++ (piecesB l ++ rest)) = ((l.length : Int), ((put l.length).length : Int), true) :=
  getL_eq (bytes_app (put_range _) (bytes_app (piecesB_bytes l) hb)) (by omega) (isGet_put _ (by omega) _)
 unfold getP
 rw [e, hg]
 dsimp only
 rw [if_pos ⟨rfl, by omega⟩, Int.toNat_natCast, Int.toNat_natCast, List.drop_left, getsR_put l rest (may_shape h) hb hl2]
 dsimp only
 rw [if_pos h]
 unfold putL
 rw [List.length_append, Int.natCast_add]
def piecesR : Rd → List S67 × Rd := parR getP
theorem piecesR_good : Good piecesR putL (fun l => mayL l = true) := parR_good (fun x _ => putL_bytes x) (fun x rest h hb hl => getP_put2 h rest hb hl) (fun b hb hl => by
 rcases getP_is b hb hl with h | ⟨l, rest, h1, h2, h3⟩
 ·exact .inl (by rw [h])
 ·exact .inr ⟨l, rest, h1, h2, h3⟩)
abbrev TailT := Int × ByteArray × List S67 × List Int × Int × List Int
def zT : TailT := (0, ⟨#[]⟩, [], z16, 0, z32)
def t1R : Rd → (Int × ByteArray) × Rd := seqR byteR fun _ => textR
def t2R : Rd → (Int × List Int × Int × List Int) × Rd := seqR byteR fun _ => seqR (takeR 16) fun _ => seqR byteR fun _ => takeR 32
def t3R : Rd → (Int × List S67 × List Int) × Rd := seqR byteR fun _ => seqR piecesR fun _ => takeR 32
theorem text_tame : Tame textR := parR_tame _
theorem pieces_tame : Tame piecesR := parR_tame _
def By (x : Int) : Prop := 0 ≤ x ∧ x ≤ 255
def BL (n : Nat) (l : List Int) : Prop := l.length = n ∧ Bytes l
theorem t1R_good : Good t1R (fun p => [p.1] ++ textB p.2) (fun p => By p.1 ∧ p.2.size ≤ 200) := Good.seq' byteR_good (fun _ _ => textR_good) (fun _ => text_tame)
theorem t2R_good : Good t2R (fun p => [p.1] ++ (p.2.1 ++ ([p.2.2.1] ++ p.2.2.2))) (fun p => By p.1 ∧ BL 16 p.2.1 ∧ By p.2.2.1 ∧ BL 32 p.2.2.2) :=
 Good.seq' byteR_good (fun _ _ => Good.seq' (takeR_good 16) (fun _ _ => Good.seq' byteR_good (fun _ _ => takeR_good 32) (fun _ => take_tame 32)) (fun _ => Tame.seq byte_tame fun _ => take_tame 32)) (fun _ => Tame.seq (take_tame 16) fun _ => Tame.seq byte_tame fun _ => take_tame 32)
theorem t3R_good : Good t3R (fun p => [p.1] ++ (putL p.2.1 ++ p.2.2)) (fun p => By p.1 ∧ mayL p.2.1 = true ∧ BL 32 p.2.2) :=
 Good.seq' byteR_good (fun _ _ => Good.seq' piecesR_good (fun _ _ => takeR_good 32) (fun _ => take_tame 32)) (fun _ => Tame.seq pieces_tame fun _ => take_tame 32)
theorem t1_tame : Tame t1R := Tame.seq byte_tame fun _ => text_tame
theorem t2_tame : Tame t2R := Tame.seq byte_tame fun _ => Tame.seq (take_tame 16) fun _ => Tame.seq byte_tame fun _ => take_tame 32
theorem t3_tame : Tame t3R := Tame.seq byte_tame fun _ => Tame.seq pieces_tame fun _ => take_tame 32
def tailR (k : Int) (s : Rd) : TailT × Rd :=
 if k = 0 then (zT, s)
 else if k = 1 then (((t1R s).1.1, (t1R s).1.2, [], z16, 0, z32), (t1R s).2)
 else if k = 2 then (((t2R s).1.1, ⟨#[]⟩, [], (t2R s).1.2.1, (t2R s).1.2.2.1, (t2R s).1.2.2.2), (t2R s).2)
 else if k = 3 then (((t3R s).1.1, ⟨#[]⟩, (t3R s).1.2.1, z16, 0, (t3R s).1.2.2), (t3R s).2)
 else (((byteR s).1, ⟨#[]⟩, [], z16, 0, z32), (byteR s).2)
def tailB (k : Int) (t : TailT) : List Int :=
 if k = 0 then []
 else if k = 1 then [t.1] ++ textB t.2.1
 else if k = 2 then [t.1] ++ (t.2.2.2.1 ++ ([t.2.2.2.2.1] ++ t.2.2.2.2.2))
 else if k = 3 then [t.1] ++ (putL t.2.2.1 ++ t.2.2.2.2.2)
 else [t.1]
def ShT (k : Int) (t : TailT) : Prop :=
 if k = 0 then t = zT
 else if k = 1 then (By t.1 ∧ t.2.1.size ≤ 200) ∧ t.2.2 = ([], z16, 0, z32)
 else if k = 2 then (By t.1 ∧ BL 16 t.2.2.2.1 ∧ By t.2.2.2.2.1 ∧ BL 32 t.2.2.2.2.2) ∧ t.2.1 = ⟨#[]⟩ ∧ t.2.2.1 = []
 else if k = 3 then (By t.1 ∧ mayL t.2.2.1 = true ∧ BL 32 t.2.2.2.2.2) ∧ t.2.1 = ⟨#[]⟩ ∧ t.2.2.2.1 = z16 ∧ t.2.2.2.2.1 = 0
 else By t.1 ∧ t.2 = (⟨#[]⟩, [], z16, 0, z32)
theorem tailR_good (k : Int) : Good (tailR k) (tailB k) (ShT k) := by
 unfold tailR tailB ShT
 by_cases k0 : k = 0
 ·subst k0
  simp only [if_pos]
  exact { byt := fun x h y hy => (by cases hy), put := fun x rest h hb hl => (by rw [h]; rfl), suf := fun s => ⟨0, rfl⟩, got := fun s hb hl h => ⟨h, rfl, rfl⟩ }
 by_cases k1 : k = 1
 ·subst k1
  simp only [if_neg k0, if_pos]
  exact t1R_good.iso2 (fun p => ((p.1, p.2, [], z16, 0, z32) : TailT)) (fun t => (t.1, t.2.1)) _ (fun x h => ⟨⟨h, rfl⟩, rfl⟩) (fun y h => ⟨h.1, by
   obtain ⟨a, b, c⟩ := y
   have h2 : c = ([], z16, 0, z32) := h.2
   rw [h2]⟩)
 by_cases k2 : k = 2
 ·subst k2
  simp only [if_neg k0, if_neg k1, if_pos]
  exact t2R_good.iso2 (fun p => ((p.1, ⟨#[]⟩, [], p.2.1, p.2.2.1, p.2.2.2) : TailT)) (fun t => (t.1, t.2.2.2.1, t.2.2.2.2.1, t.2.2.2.2.2)) _ (fun x h => ⟨⟨h, rfl, rfl⟩, rfl⟩) (fun y h => ⟨h.1, by
   obtain ⟨a, b, c, d⟩ := y
   have h2 : b = ⟨#[]⟩ := h.2.1
   have h3 : c = [] := h.2.2
   rw [h2, h3]⟩)
 by_cases k3 : k = 3
 ·subst k3
  simp only [if_neg k0, if_neg k1, if_neg k2, if_pos]
  exact t3R_good.iso2 (fun p => ((p.1, ⟨#[]⟩, p.2.1, z16, 0, p.2.2) : TailT)) (fun t => (t.1, t.2.2.1, t.2.2.2.2.2)) _ (fun x h => ⟨⟨h, rfl, rfl, rfl⟩, rfl⟩) (fun y h => ⟨h.1, by
   obtain ⟨a, b, c, d, e, f⟩ := y
   have h2 : b = ⟨#[]⟩ := h.2.1
   have h3 : d = z16 := h.2.2.1
   have h4 : e = 0 := h.2.2.2
   rw [h2, h3, h4]⟩)
 simp only [if_neg k0, if_neg k1, if_neg k2, if_neg k3]
 exact byteR_good.iso2 (fun p => ((p, ⟨#[]⟩, [], z16, 0, z32) : TailT)) (fun t => t.1) _ (fun x h => ⟨⟨h, rfl⟩, rfl⟩) (fun y h => ⟨h.1, by
   obtain ⟨a, b⟩ := y
   have h2 : b = (⟨#[]⟩, [], z16, 0, z32) := h.2
   rw [h2]⟩)
theorem tail_tame (k : Int) : Tame (tailR k) := by
 constructor
 ·intro s
  unfold tailR
  split
  ·exact ⟨0, rfl⟩
  ·split
   ·exact t1_tame.suf s
   ·split
    ·exact t2_tame.suf s
    ·split
     ·exact t3_tame.suf s
     ·exact byte_tame.suf s
 ·intro s h
  unfold tailR at h
  split at h
  ·exact h
  ·split at h
   ·exact t1_tame.bad s h
   ·split at h
    ·exact t2_tame.bad s h
    ·split at h
     ·exact t3_tame.bad s h
     ·exact byte_tame.bad s h
abbrev OpV := Int × List Int × (Int × Int) × TailT
def opU (x : OpV) : OpT := ⟨x.1, x.2.1, x.2.2.1.1, x.2.2.1.2, x.2.2.2.1, x.2.2.2.2.1, x.2.2.2.2.2.1, x.2.2.2.2.2.2.1, x.2.2.2.2.2.2.2.1, x.2.2.2.2.2.2.2.2⟩
def opW (x : OpT) : OpV := (x.kind, x.id, (x.n, x.rep), (x.no, x.v, x.p, x.fro, x.fno, x.d))
def opT : Rd → OpV × Rd := seqR byteR fun k => seqR (takeR 16) fun _ => seqR stR fun _ => tailR k
def opR (s : Rd) : OpT × Rd := (opU (opT s).1, (opT s).2)
def opB (x : OpT) : List Int := [x.kind] ++ (x.id ++ (put (stNum x.n x.rep) ++ tailB x.kind (x.no, x.v, x.p, x.fro, x.fno, x.d)))
def ShO (x : OpT) : Prop := By x.kind ∧ BL 16 x.id ∧ stMay x.n x.rep = true ∧ ShT x.kind (x.no, x.v, x.p, x.fro, x.fno, x.d)
theorem opT_tame : Tame opT := Tame.seq byte_tame fun k => Tame.seq (take_tame 16) fun _ => Tame.seq st_tame fun _ => tail_tame k
theorem op_tame : Tame opR := opT_tame.iso opU
theorem opR_good : Good opR opB ShO :=
 (Good.seq' byteR_good (fun k _ => Good.seq' (takeR_good 16) (fun _ _ => Good.seq' stR_good (fun _ _ => tailR_good k) (fun _ => tail_tame k)) (fun _ => Tame.seq st_tame fun _ => tail_tame k)) (fun k => Tame.seq (take_tame 16) fun _ => Tame.seq st_tame fun _ => tail_tame k)).iso' opU opW (fun _ _ => rfl) (fun _ => rfl)
structure OpByt (x : OpT) : Prop where
 id : x.id.length = 16 ∧ Bytes x.id
 fro : x.fro.length = 16 ∧ Bytes x.fro
 d : x.d.length = 32 ∧ Bytes x.d
theorem mayO_facts {x : OpT} (h : mayO x = true) : 0 ≤ x.kind ∧ x.kind < 4 ∧ x = onlyO x ∧ stMay x.n x.rep = true ∧ 0 ≤ x.no ∧ x.no < 8 ∧ 0 ≤ x.fno ∧ x.fno < 8 ∧ x.v.size ≤ 200 ∧ mayL x.p = true := by
 unfold mayO at h
 simp only [Bool.and_eq_true, decide_eq_true_eq] at h
 exact ⟨h.1, h.2.1, sameO_eq.1 h.2.2.1, h.2.2.2.2.1, h.2.2.2.2.2.1.1, h.2.2.2.2.2.1.2, h.2.2.2.2.2.2.1.1, h.2.2.2.2.2.2.1.2, h.2.2.2.2.2.2.2.1, h.2.2.2.2.2.2.2.2⟩
theorem mayO_sh {x : OpT} (h : mayO x = true) (hb : OpByt x) : ShO x := by
 obtain ⟨h0, h1, h2, h3, h4, h5, h6, h7, h8, h9⟩ := mayO_facts h
 refine ⟨⟨h0, by omega⟩, hb.id, h3, ?_⟩
 unfold ShT
 by_cases k0 : x.kind = 0
 ·rw [if_pos k0]
  have e : onlyO x = headO x := by unfold onlyO; rw [if_neg (by omega), if_neg (by omega), if_neg (by omega)]
  rw [e] at h2
  rw [h2]
  rfl
 ·rw [if_neg k0]
  by_cases k1 : x.kind = 1
  ·rw [if_pos k1]
   refine ⟨⟨⟨h4, by omega⟩, h8⟩, ?_⟩
   have e : onlyO x = ⟨x.kind, x.id, x.n, x.rep, x.no, x.v, [], z16, 0, z32⟩ := by unfold onlyO; rw [if_pos k1]
   rw [e] at h2
   have a := congrArg OpT.p h2
   have b := congrArg OpT.fro h2
   have c := congrArg OpT.fno h2
   have d := congrArg OpT.d h2
   dsimp only at a b c d ⊢
   rw [a, b, c, d]
  ·rw [if_neg k1]
   by_cases k2 : x.kind = 2
   ·rw [if_pos k2]
    refine ⟨⟨⟨h4, by show x.no ≤ 255; omega⟩, hb.fro, ⟨h6, by show x.fno ≤ 255; omega⟩, hb.d⟩, ?_⟩
    have e : onlyO x = ⟨x.kind, x.id, x.n, x.rep, x.no, ⟨#[]⟩, [], x.fro, x.fno, x.d⟩ := by unfold onlyO; rw [if_neg k1, if_pos k2]
    rw [e] at h2
    exact ⟨congrArg OpT.v h2, congrArg OpT.p h2⟩
   ·rw [if_neg k2, if_pos (by omega)]
    refine ⟨⟨⟨h4, by omega⟩, h9, hb.d⟩, ?_⟩
    have k3 : x.kind = 3 := by omega
    have e : onlyO x = ⟨x.kind, x.id, x.n, x.rep, x.no, ⟨#[]⟩, x.p, z16, 0, x.d⟩ := by unfold onlyO; rw [if_neg k1, if_neg k2, if_pos k3]
    rw [e] at h2
    exact ⟨congrArg OpT.v h2, congrArg OpT.fro h2, congrArg OpT.fno h2⟩
def zO : OpT := ⟨0, z16, 0, 0, 0, ⟨#[]⟩, [], z16, 0, z32⟩
def getO (b : List Int) : OpT × Int × Bool := if (opR ⟨b, false⟩).2.bad = true ∨ mayO (opR ⟨b, false⟩).1 = false then (zO, 0, false) else ((opR ⟨b, false⟩).1, (b.length : Int) - ((opR ⟨b, false⟩).2.b.length : Int), true)
theorem getO_put (x : OpT) (rest : List Int) (h : mayO x = true ∧ OpByt x) (hb : Bytes rest) (hl : (opB x ++ rest).length ≤ 1000000) : getO (opB x ++ rest) = (x, ((opB x).length : Int), true) := by
 have hp := opR_good.put x rest (mayO_sh h.1 h.2) hb hl
 unfold getO
 rw [hp]
 dsimp only
 rw [if_neg (by rw [h.1]; simp), List.length_append]
 congr 2
 omega
theorem z_byt (n : Nat) : Bytes (List.replicate n 0) := fun x hx => by rw [(List.mem_replicate.1 hx).2]; decide
theorem sh_byt {x : OpT} (h : ShO x) : OpByt x := by
 obtain ⟨h0, h1, h2, h3⟩ := h
 refine ⟨h1, ?_, ?_⟩
 ·unfold ShT at h3
  split at h3
  ·have e : x.fro = z16 := congrArg (fun t : TailT => t.2.2.2.1) h3
   rw [e]; exact ⟨rfl, z_byt 16⟩
  ·split at h3
   ·have e : x.fro = z16 := congrArg (fun t : List S67 × List Int × Int × List Int => t.2.1) h3.2
    rw [e]; exact ⟨rfl, z_byt 16⟩
   ·split at h3
    ·exact h3.1.2.1
    ·split at h3
     ·have e : x.fro = z16 := h3.2.2.1
      rw [e]; exact ⟨rfl, z_byt 16⟩
     ·have e : x.fro = z16 := congrArg (fun t : ByteArray × List S67 × List Int × Int × List Int => t.2.2.1) h3.2
      rw [e]; exact ⟨rfl, z_byt 16⟩
 ·unfold ShT at h3
  split at h3
  ·have e : x.d = z32 := congrArg (fun t : TailT => t.2.2.2.2.2) h3
   rw [e]; exact ⟨rfl, z_byt 32⟩
  ·split at h3
   ·have e : x.d = z32 := congrArg (fun t : List S67 × List Int × Int × List Int => t.2.2.2) h3.2
    rw [e]; exact ⟨rfl, z_byt 32⟩
   ·split at h3
    ·exact h3.1.2.2.2
    ·split at h3
     ·exact h3.1.2.2
     ·have e : x.d = z32 := congrArg (fun t : ByteArray × List S67 × List Int × Int × List Int => t.2.2.2.2) h3.2
      rw [e]; exact ⟨rfl, z_byt 32⟩
theorem getO_is (b : List Int) (hb : Bytes b) (hl : b.length ≤ 1000000) : (getO b).2.2 = false ∨ ∃ x rest, b = opB x ++ rest ∧ (mayO x = true ∧ OpByt x) ∧ getO b = (x, ((opB x).length : Int), true) := by
 by_cases hc : (opR ⟨b, false⟩).2.bad = true ∨ mayO (opR ⟨b, false⟩).1 = false
 ·left
  unfold getO
  rw [if_pos hc]
 ·right
  have h1 : (opR ⟨b, false⟩).2.bad = false := by
   cases hq : (opR ⟨b, false⟩).2.bad
   ·rfl
   ·exact absurd (.inl hq) hc
  have h2 : mayO (opR ⟨b, false⟩).1 = true := by
   cases hq : mayO (opR ⟨b, false⟩).1
   ·exact absurd (.inr hq) hc
   ·rfl
  obtain ⟨_, g2, g3⟩ := opR_good.got ⟨b, false⟩ hb hl h1
  have g3' : b = opB (opR ⟨b, false⟩).1 ++ (opR ⟨b, false⟩).2.b := g3
  refine ⟨_, _, g3', ⟨h2, sh_byt g2⟩, ?_⟩
  unfold getO
  rw [if_neg hc]
  have := congrArg List.length g3'
  rw [List.length_append] at this
  congr 2
  omega
def opvR : Rd → OpT × Rd := parR getO
theorem opvR_good : Good opvR opB (fun x => mayO x = true ∧ OpByt x) := parR_good (fun x h => opR_good.byt x (mayO_sh h.1 h.2)) (fun x rest h hb hl => getO_put x rest h hb hl) getO_is
def atL (v : ByteArray) : List ByteArray → Int
 | [] => -1
 | x :: l => if x = v then 0 else if atL v l < 0 then -1 else atL v l + 1
theorem atL_is (v : ByteArray) : ∀ l : List ByteArray, (atL v l = -1 ∧ v ∉ l) ∨ ∃ n : Nat, atL v l = (n : Int) ∧ n < l.length ∧ l.getD n ⟨#[]⟩ = v
 | [] => .inl ⟨rfl, by simp⟩
 | x :: l => by
  unfold atL
  by_cases h : x = v
  ·rw [if_pos h]
   exact .inr ⟨0, rfl, by simp, h⟩
  ·rw [if_neg h]
   rcases atL_is v l with ⟨h1, h2⟩ | ⟨n, h1, h2, h3⟩
   ·rw [h1]
    exact .inl ⟨rfl, by simp [h2, Ne.symm h]⟩
   ·rw [h1, if_neg (by omega)]
    exact .inr ⟨n + 1, by omega, by simp only [List.length_cons]; omega, by rw [List.getD_cons_succ]; exact h3⟩
def oneB (d : List ByteArray) (x : OpT) : List Int :=
 if x.kind = 1 ∧ 0 ≤ atL x.v d then [4] ++ (x.id ++ (put (stNum x.n x.rep) ++ ([x.no] ++ put (atL x.v d).toNat))) else opB x
structure Puts {α : Type} (f : Rd → α × Rd) (B : α → List Int) (P : α → Prop) : Prop where
 byt : ∀ x, P x → Bytes (B x)
 put : ∀ x rest, P x → Bytes rest → (B x ++ rest).length ≤ 1000000 → f ⟨B x ++ rest, false⟩ = (x, ⟨rest, false⟩)
theorem Good.puts {α : Type} {f : Rd → α × Rd} {B : α → List Int} {P : α → Prop} (h : Good f B P) : Puts f B P := ⟨h.byt, h.put⟩
theorem itR_cons {α : Type} (f : Rd → α × Rd) : ∀ (k : Nat) (s : Rd), itR f (k + 1) s = ((f s).1 :: (itR f k (f s).2).1, (itR f k (f s).2).2)
 | 0, s => rfl
 | k + 1, s => by
  show ((itR f (k + 1) s).1 ++ [(f (itR f (k + 1) s).2).1], (f (itR f (k + 1) s).2).2) = _
  rw [itR_cons f k s]
  rfl
theorem Puts.it {α : Type} {f : Rd → α × Rd} {B : α → List Int} {P : α → Prop} (h : Puts f B P) : ∀ (l : List α) (rest : List Int), (∀ x ∈ l, P x) → Bytes rest → (allB B l ++ rest).length ≤ 1000000 → itR f l.length ⟨allB B l ++ rest, false⟩ = (l, ⟨rest, false⟩)
 | [], rest, _, _, _ => rfl
 | x :: l, rest, hP, hb, hl => by
  have e : allB B (x :: l) ++ rest = B x ++ (allB B l ++ rest) := List.append_assoc ..
  rw [e] at hl ⊢
  have h1 := h.put x (allB B l ++ rest) (hP x (by simp)) (by_app (allB_byt fun y hy => h.byt y (hP y (by simp [hy]))) hb) hl
  have h2 := Puts.it h l rest (fun y hy => hP y (by simp [hy])) hb (by rw [List.length_append] at hl; omega)
  show itR f (l.length + 1) _ = _
  rw [itR_cons, h1]
  dsimp only
  rw [h2]
def knownR (d : List ByteArray) (s : Rd) : OpT × Rd :=
 let a := takeR 16 (skipR s 1 true).2
 let b := stR a.2
 let c := byteR b.2
 let e := numR ((d.length : Int) - 1) c.2
 (⟨1, a.1, b.1.1, b.1.2, c.1, if e.2.bad = true then ⟨#[]⟩ else d.getD e.1.toNat ⟨#[]⟩, [], z16, 0, z32⟩, e.2)
def oneR (d : List ByteArray) (s : Rd) : OpT × Rd := if s.b = [] ∨ s.b.getD 0 0 ≠ 4 then opvR s else knownR d s
def OkO (x : OpT) : Prop := mayO x = true ∧ OpByt x
theorem opB_byt {x : OpT} (h : OkO x) : Bytes (opB x) := opR_good.byt x (mayO_sh h.1 h.2)
theorem set_is {x : OpT} (h : mayO x = true) (k1 : x.kind = 1) : x = ⟨1, x.id, x.n, x.rep, x.no, x.v, [], z16, 0, z32⟩ := by
 obtain ⟨_, _, h2, _⟩ := mayO_facts h
 have e : onlyO x = ⟨x.kind, x.id, x.n, x.rep, x.no, x.v, [], z16, 0, z32⟩ := by unfold onlyO; rw [if_pos k1]
 rw [e, k1] at h2
 exact h2
theorem known_byt {x : OpT} (h : OkO x) (n : Nat) : Bytes ([4] ++ (x.id ++ (put (stNum x.n x.rep) ++ ([x.no] ++ put n)))) := by
 obtain ⟨h0, h1, _, h3, h4, h5, _⟩ := mayO_facts h.1
 refine by_app (fun y hy => ?_) (by_app h.2.id.2 (by_app (put_range _) (by_app (fun y hy => ?_) (put_range _))))
 ·rw [List.mem_singleton.1 hy]; decide
 ·rw [List.mem_singleton.1 hy]; omega
theorem oneB_byt {d : List ByteArray} {x : OpT} (h : OkO x) : Bytes (oneB d x) := by
 unfold oneB
 split
 ·exact known_byt h _
 ·exact opB_byt h
theorem opB_head {x : OpT} (h : OkO x) (rest : List Int) : ¬ (opB x ++ rest = []) ∧ (opB x ++ rest).getD 0 0 = x.kind := by
 unfold opB
 exact ⟨by simp, rfl⟩
theorem oneR_puts (d : List ByteArray) (hd : d.length ≤ 16) : Puts (oneR d) (oneB d) OkO where
 byt := fun x h => oneB_byt h
 put := fun x rest h hb hl => by
  obtain ⟨h0, h1, _, h3, h4, h5, _⟩ := mayO_facts h.1
  unfold oneB at hl ⊢
  by_cases hc : x.kind = 1 ∧ 0 ≤ atL x.v d
  ·rw [if_pos hc] at hl ⊢
   obtain ⟨n, e1, e2, e3⟩ : ∃ n : Nat, atL x.v d = (n : Int) ∧ n < d.length ∧ d.getD n ⟨#[]⟩ = x.v := by
    rcases atL_is x.v d with ⟨e, _⟩ | e
    ·omega
    ·exact e
   rw [e1, Int.toNat_natCast] at hl ⊢
   have hby := known_byt h n
   obtain ⟨r4, hr4⟩ : ∃ r4, put n ++ rest = r4 := ⟨_, rfl⟩
   obtain ⟨r3, hr3⟩ : ∃ r3, [x.no] ++ r4 = r3 := ⟨_, rfl⟩
   obtain ⟨r2, hr2⟩ : ∃ r2, put (stNum x.n x.rep) ++ r3 = r2 := ⟨_, rfl⟩
   have e : [4] ++ (x.id ++ (put (stNum x.n x.rep) ++ ([x.no] ++ put n))) ++ rest = (4 : Int) :: (x.id ++ r2) := by
    rw [← hr2, ← hr3, ← hr4]
    simp
   rw [e] at hl ⊢
   have b4 : Bytes r4 := by rw [← hr4]; exact by_app (put_range _) hb
   have b3 : Bytes r3 := by rw [← hr3]; exact by_app (fun y hy => by rw [List.mem_singleton.1 hy]; omega) b4
   have b2 : Bytes r2 := by rw [← hr2]; exact by_app (put_range _) b3
   have l2 : (x.id ++ r2).length ≤ 1000000 := by simp only [List.length_cons] at hl; omega
   have l2' : r2.length ≤ 1000000 := by rw [List.length_append] at l2; omega
   have l3 : r3.length ≤ 1000000 := by rw [← hr2, List.length_append] at l2'; omega
   have l4 : r4.length ≤ 1000000 := by rw [← hr3, List.length_append] at l3; omega
   unfold oneR
   rw [if_neg (by rintro (h | h) <;> simp at h)]
   unfold knownR
   have s1 : (skipR ⟨4 :: (x.id ++ r2), false⟩ 1 true).2 = ⟨x.id ++ r2, false⟩ := by
    rw [skipR_ok rfl rfl (by show 1 ≤ (4 :: (x.id ++ r2)).length; simp)]
    rfl
   have s2 : takeR 16 ⟨x.id ++ r2, false⟩ = (x.id, ⟨r2, false⟩) := (takeR_good 16).put x.id r2 h.2.id b2 l2
   have s3 : stR ⟨r2, false⟩ = ((x.n, x.rep), ⟨r3, false⟩) := by
    rw [← hr2] at l2' ⊢
    exact stR_good.put (x.n, x.rep) r3 h3 b3 l2'
   have s4 : byteR ⟨r3, false⟩ = (x.no, ⟨r4, false⟩) := by
    rw [← hr3] at l3 ⊢
    exact byteR_good.put x.no r4 ⟨h4, by omega⟩ b4 l3
   have s5 : numR ((d.length : Int) - 1) ⟨r4, false⟩ = ((n : Int), ⟨rest, false⟩) := by
    rw [← hr4] at l4 ⊢
    have := (numR_good ((d.length : Int) - 1) (by omega)).put (n : Int) rest ⟨by omega, by omega⟩ hb (by rw [Int.toNat_natCast]; exact l4)
    rw [Int.toNat_natCast] at this
    exact this
   rw [s1, s2]
   dsimp only
   rw [s3]
   dsimp only
   rw [s4]
   dsimp only
   rw [s5]
   dsimp only
   rw [Int.toNat_natCast, if_neg (by simp), e3]
   exact congrArg (fun y => (y, (⟨rest, false⟩ : Rd))) (set_is h.1 hc.1).symm
  ·rw [if_neg hc] at hl ⊢
   have hh := opB_head h rest
   unfold oneR
   rw [if_pos (.inr (by rw [hh.2]; omega))]
   exact opvR_good.put x rest h hb hl
def svals (l : List OpT) : List ByteArray := (l.filter (fun x => decide (x.kind = 1) && decide (4 ≤ x.v.size))).map (·.v)
def hasL (v : ByteArray) (l : List ByteArray) : Bool := l.any (fun x => decide (x = v))
theorem hasL_iff {v : ByteArray} {l : List ByteArray} : hasL v l = true ↔ v ∈ l := by
 unfold hasL
 rw [List.any_eq_true]
 constructor
 ·rintro ⟨x, hx, h⟩
  rw [decide_eq_true_eq] at h
  rw [← h]
  exact hx
 ·intro h
  exact ⟨v, h, by simp⟩
def cntL (v : ByteArray) (l : List ByteArray) : Nat := l.countP (fun x => decide (x = v))
def uniq (l : List ByteArray) : List ByteArray := l.foldl (fun acc v => if hasL v acc = true then acc else acc ++ [v]) []
def dictL (l : List OpT) : List ByteArray := ((uniq (svals l)).filter (fun s => decide (2 ≤ cntL s (svals l)))).take 16
def dictP (p : PlanT) : List ByteArray := dictL p.b.flatten
theorem uniq_snoc (l : List ByteArray) (v : ByteArray) : uniq (l ++ [v]) = if hasL v (uniq l) = true then uniq l else uniq l ++ [v] := by
 unfold uniq
 rw [List.foldl_append]
 rfl
theorem uniq_rev {P : List ByteArray → Prop} (h0 : P []) (h1 : ∀ l v, P l → P (l ++ [v])) (l : List ByteArray) : P l := by
 obtain ⟨m, rfl⟩ : ∃ m, l = m.reverse := ⟨l.reverse, by simp⟩
 induction m with
 | nil => exact h0
 | cons a m ih => rw [List.reverse_cons]; exact h1 _ _ ih
theorem uniq_mem (v : ByteArray) (l : List ByteArray) : v ∈ uniq l ↔ v ∈ l := by
 refine uniq_rev (P := fun l => v ∈ uniq l ↔ v ∈ l) Iff.rfl (fun l x ih => ?_) l
 rw [uniq_snoc]
 by_cases h : x ∈ uniq l
 ·rw [if_pos (hasL_iff.2 h), ih, List.mem_append, List.mem_singleton]
  constructor
  ·exact .inl
  ·rintro (h2 | rfl)
   ·exact h2
   ·exact ih.1 h
 ·rw [if_neg (fun h2 => h (hasL_iff.1 h2)), List.mem_append, List.mem_append, ih]
theorem uniq_nodup (l : List ByteArray) : (uniq l).Nodup := by
 refine uniq_rev (P := fun l => (uniq l).Nodup) List.nodup_nil (fun l x ih => ?_) l
 rw [uniq_snoc]
 by_cases h : x ∈ uniq l
 ·rw [if_pos (hasL_iff.2 h)]; exact ih
 ·rw [if_neg (fun h2 => h (hasL_iff.1 h2)), List.nodup_append]
  refine ⟨ih, by simp, fun a ha b hb => ?_⟩
  rw [List.mem_singleton.1 hb]
  rintro rfl
  exact h ha
theorem uniq_sub (l : List ByteArray) : (uniq l).Sublist l := by
 refine uniq_rev (P := fun l => (uniq l).Sublist l) (List.Sublist.refl _) (fun l x ih => ?_) l
 rw [uniq_snoc]
 by_cases h : x ∈ uniq l
 ·rw [if_pos (hasL_iff.2 h)]; exact ih.trans (List.sublist_append_left _ _)
 ·rw [if_neg (fun h2 => h (hasL_iff.1 h2))]; exact ih.append (List.Sublist.refl _)
theorem dictL_len (l : List OpT) : (dictL l).length ≤ 16 := by unfold dictL; rw [List.length_take]; omega
theorem dictL_mem {l : List OpT} {v : ByteArray} (h : v ∈ dictL l) : v ∈ svals l ∧ 2 ≤ cntL v (svals l) := by
 unfold dictL at h
 have h2 := List.mem_filter.1 (List.mem_of_mem_take h)
 exact ⟨(uniq_mem v _).1 h2.1, by simpa using h2.2⟩
theorem svals_mem {l : List OpT} {v : ByteArray} (h : v ∈ svals l) : ∃ x ∈ l, x.kind = 1 ∧ 4 ≤ x.v.size ∧ x.v = v := by
 unfold svals at h
 obtain ⟨x, hx, rfl⟩ := List.mem_map.1 h
 have := List.mem_filter.1 hx
 simp only [Bool.and_eq_true, decide_eq_true_eq] at this
 exact ⟨x, this.1, this.2.1, this.2.2, rfl⟩
theorem dictL_sub (l : List OpT) : (dictL l).Sublist (svals l) := (List.take_sublist _ _).trans (List.filter_sublist.trans (uniq_sub _))
theorem dictL_nodup (l : List OpT) : (dictL l).Nodup := ((uniq_nodup _).sublist List.filter_sublist).sublist (List.take_sublist _ _)
def hdB (p : PlanT) (d : List ByteArray) : List Int := p.base ++ (put d.length ++ (allB textB d ++ put p.b.length))
def bodyB (d : List ByteArray) (l : List OpT) : List Int := put l.length ++ allB (oneB d) l
def secB (d : List ByteArray) (l : List OpT) : List Int := packL 3 (bodyB d l)
def plB (p : PlanT) : List Int := packL 2 (hdB p (dictP p)) ++ allB (secB (dictP p)) p.b
def putPl (p : PlanT) : List Int × Int := if mayPl p = true then (plB p, 0) else ([], 1)
structure PlByt (p : PlanT) : Prop where
 base : p.base.length = 32 ∧ Bytes p.base
 b : ∀ l ∈ p.b, ∀ x ∈ l, OpByt x
theorem mayPl_facts {p : PlanT} (h : mayPl p = true) : p.b.length ≤ 16 ∧ ∀ l ∈ p.b, 1 ≤ l.length ∧ l.length ≤ 20 ∧ ∀ x ∈ l, mayO x = true := by
 unfold mayPl at h
 simp only [Bool.and_eq_true, decide_eq_true_eq, Bool.not_eq_true', List.any_eq_false] at h
 refine ⟨h.1, fun l hl => ?_⟩
 have h2 := h.2 l hl
 unfold badB at h2
 simp only [Bool.or_eq_true, decide_eq_true_eq, List.any_eq_true, not_or, not_exists, not_and] at h2
 refine ⟨by omega, by omega, fun x hx => ?_⟩
 have := h2.2.2 x hx
 unfold badO at this
 simpa using this
theorem mayPl_ok {p : PlanT} (h : mayPl p = true) (hb : PlByt p) : ∀ l ∈ p.b, ∀ x ∈ l, OkO x := fun l hl x hx => ⟨((mayPl_facts h).2 l hl).2.2 x hx, hb.b l hl x hx⟩
theorem piecesB_short : ∀ (l : List S67), (∀ p ∈ l, Shape p) → ((piecesB l).length : Int) ≤ 21 * l.length + sumP l
 | [], _ => by simp [piecesB, sumP]
 | p :: l, h => by
  have ih := piecesB_short l (fun q hq => h q (by simp [hq]))
  have hs := h p (by simp)
  have h1 : ((pieceB p).length : Int) ≤ 21 + (p.f2 + (p.f3.size : Int)) := by
   unfold pieceB
   cases h0 : p.f0
   ·obtain ⟨_, h2, h3⟩ := hs.2 h0
    rw [if_neg (by simp)]
    have := put_length p.f3.size (by omega)
    simp only [List.length_cons, List.length_append, bytesOf_len]
    omega
   ·obtain ⟨a1, a2, a3, a4, _⟩ := hs.1 h0
    rw [if_pos rfl]
    have h4 := put_length p.f1.toNat (by omega)
    have h5 := put_length p.f2.toNat (by omega)
    simp only [List.length_cons, List.length_append]
    omega
  rw [sumP_cons]
  show ((pieceB p ++ piecesB l).length : Int) ≤ 21 * ((p :: l).length : Int) + _
  simp only [List.length_append, List.length_cons]
  omega
theorem putL_short {l : List S67} (h : mayL l = true) : (putL l).length ≤ 1480 := by
 have hi := (mayL_iff l).1 h
 have h1 := piecesB_short l (may_shape h)
 have h2 := put_length l.length (by omega)
 unfold putL
 rw [List.length_append]
 omega
theorem textB_len (v : ByteArray) (h : v.size ≤ 1000000) : (textB v).length ≤ 10 + v.size := by
 have := put_length v.size (by omega)
 unfold textB
 rw [List.length_append, bytesOf_len]
 omega
theorem opB_len {x : OpT} (h : OkO x) : (opB x).length ≤ 1600 := by
 obtain ⟨h0, h1, h2, h3, h4, h5, h6, h7, h8, h9⟩ := mayO_facts h.1
 have hr := stMay_range h3
 have p1 := put_length (stNum x.n x.rep) (by unfold stNum; omega)
 have p2 := textB_len x.v (by omega)
 have p3 := putL_short h9
 have i1 := h.2.id.1
 have i2 := h.2.fro.1
 have i3 := h.2.d.1
 unfold opB tailB
 dsimp only
 split
 ·simp only [List.length_append, List.length_cons, List.length_nil]; omega
 ·split
  ·simp only [List.length_append, List.length_cons, List.length_nil]; omega
  ·split
   ·simp only [List.length_append, List.length_cons, List.length_nil]; omega
   ·split
    ·simp only [List.length_append, List.length_cons, List.length_nil]; omega
    ·simp only [List.length_append, List.length_cons, List.length_nil]; omega
theorem oneB_len {d : List ByteArray} (hd : d.length ≤ 16) {x : OpT} (h : OkO x) : (oneB d x).length ≤ 1600 := by
 unfold oneB
 split
 ·rename_i hc
  obtain ⟨_, _, _, h3, _⟩ := mayO_facts h.1
  have hr := stMay_range h3
  have p1 := put_length (stNum x.n x.rep) (by unfold stNum; omega)
  have p2 := put_length (atL x.v d).toNat (by
   rcases atL_is x.v d with ⟨e, _⟩ | ⟨n, e, e2, _⟩ <;> rw [e] <;> omega)
  have i1 := h.2.id.1
  simp only [List.length_append, List.length_cons, List.length_nil]
  omega
 ·exact opB_len h
theorem bodyB_len {d : List ByteArray} (hd : d.length ≤ 16) {l : List OpT} (hl : l.length ≤ 20) (h : ∀ x ∈ l, OkO x) : (bodyB d l).length ≤ 32010 := by
 have p1 := put_length l.length (by omega)
 have := allB_le (B := oneB d) (c := 1600) (l := l) (fun x hx => oneB_len hd (h x hx))
 unfold bodyB
 rw [List.length_append]
 omega
theorem bodyB_byt {d : List ByteArray} {l : List OpT} (h : ∀ x ∈ l, OkO x) : Bytes (bodyB d l) := by_app (put_range _) (allB_byt fun x hx => oneB_byt (h x hx))
theorem hdB_byt {p : PlanT} (hb : PlByt p) (d : List ByteArray) : Bytes (hdB p d) := by_app hb.base.2 (by_app (put_range _) (by_app (allB_byt fun x _ => textB_bytes x) (put_range _)))
theorem hdB_len {p : PlanT} (hb : p.base.length = 32) (hl : p.b.length ≤ 16) {d : List ByteArray} (hd : d.length ≤ 16) (hs : ∀ v ∈ d, v.size ≤ 200) : (hdB p d).length ≤ 3412 := by
 have p1 := put_length d.length (by omega)
 have p2 := put_length p.b.length (by omega)
 have := allB_le (B := textB) (c := 210) (l := d) (fun x hx => by have := textB_len x (by have := hs x hx; omega); have := hs x hx; omega)
 unfold hdB
 simp only [List.length_append]
 omega
theorem dictP_small {p : PlanT} (h : mayPl p = true) : ∀ v ∈ dictP p, v.size ≤ 200 := fun v hv => by
 obtain ⟨x, hx, _, _, rfl⟩ := svals_mem (dictL_mem hv).1
 obtain ⟨l, hl, hxl⟩ := List.mem_flatten.1 hx
 obtain ⟨_, _, _, _, _, _, _, _, h8, _⟩ := mayO_facts (((mayPl_facts h).2 l hl).2.2 x hxl)
 exact h8
theorem secB_len {d : List ByteArray} (hd : d.length ≤ 16) {l : List OpT} (hl : l.length ≤ 20) (h : ∀ x ∈ l, OkO x) : (secB d l).length ≤ 32025 := by
 have h1 := bodyB_len hd hl h
 have := put_length (bodyB d l).length (by omega)
 unfold secB
 rw [packL_length]
 omega
theorem plB_len {p : PlanT} (h : mayPl p = true) (hb : PlByt p) : (plB p).length ≤ 515827 := by
 have hf := mayPl_facts h
 have hd : (dictP p).length ≤ 16 := dictL_len p.b.flatten
 have h1 := hdB_len hb.base.1 hf.1 hd (dictP_small h)
 have h2 := put_length (hdB p (dictP p)).length (by omega)
 have := allB_le (B := secB (dictP p)) (c := 32025) (l := p.b) (fun l hl => secB_len hd (hf.2 l hl).2.1 (mayPl_ok h hb l hl))
 unfold plB
 rw [List.length_append, packL_length]
 omega
def sectL : Nat → List (List Int) → List Int → List (List Int) × Int
 | 0, acc, b => (acc, 0)
 | k + 1, acc, b =>
  if acc.length = 0 ∨ 0 < b.length then
   if (openL b).2.2.2 ≠ 0 then ([], (openL b).2.2.2)
   else if (openL b).1 ≠ (if acc.length = 0 then 2 else 3) then ([], 2)
   else sectL k (acc ++ [(openL b).2.1]) (b.drop (openL b).2.2.1.toNat)
  else (acc, 0)
def secs (b : List Int) : List (List Int) × Int := sectL (b.length + 1) [] b
theorem sectL_put : ∀ (l : List (List Int)) (acc : List (List Int)) (k : Nat), acc.length ≠ 0 → (∀ x ∈ l, Bytes x ∧ x.length ≤ 100000) → (allB (packL 3) l).length ≤ 1000000 → l.length < k → sectL k acc (allB (packL 3) l) = (acc ++ l, 0)
 | [], acc, k, ha, _, _, hk => by
  obtain ⟨k, rfl⟩ : ∃ j, k = j + 1 := ⟨k - 1, by simp at hk; omega⟩
  unfold sectL
  rw [if_neg (by rintro (h | h); exact ha h; exact absurd h (by simp [allB])), List.append_nil]
 | x :: l, acc, k, ha, hx, hl, hk => by
  obtain ⟨k, rfl⟩ : ∃ j, k = j + 1 := ⟨k - 1, by simp only [List.length_cons] at hk; omega⟩
  have hx0 := hx x (by simp)
  have hbl : Bytes (allB (packL 3) l) := allB_byt fun y hy => packL_byt (by decide) (by decide) (hx y (by simp [hy])).1
  have hL : (packL 3 x ++ allB (packL 3) l).length ≤ 1000000 := hl
  have ho := open_pack (kind := 3) (b := x) (rest := allB (packL 3) l) (by decide) (by decide) hx0.1 hx0.2 hbl (by rw [List.length_append] at hL; omega)
  have hpos : 0 < (packL 3 x).length := by rw [packL_length]; omega
  unfold sectL
  show (if acc.length = 0 ∨ 0 < (packL 3 x ++ allB (packL 3) l).length then _ else _) = _
  rw [if_pos (.inr (by rw [List.length_append]; omega))]
  show (if (openL (packL 3 x ++ allB (packL 3) l)).2.2.2 ≠ 0 then _ else if (openL (packL 3 x ++ allB (packL 3) l)).1 ≠ _ then _ else sectL k (acc ++ [(openL (packL 3 x ++ allB (packL 3) l)).2.1]) ((packL 3 x ++ allB (packL 3) l).drop (openL (packL 3 x ++ allB (packL 3) l)).2.2.1.toNat)) = _
  rw [ho]
  dsimp only
  rw [if_neg (by simp), if_neg (by rw [if_neg ha]; simp), Int.toNat_natCast, List.drop_left, sectL_put l (acc ++ [x]) k (by simp) (fun y hy => hx y (by simp [hy])) (by rw [List.length_append] at hL; omega) (by simp only [List.length_cons] at hk; omega), List.append_assoc]
  rfl
theorem secs_put {h : List Int} {l : List (List Int)} (hh : Bytes h ∧ h.length ≤ 100000) (hx : ∀ x ∈ l, Bytes x ∧ x.length ≤ 100000) (hl : (packL 2 h ++ allB (packL 3) l).length ≤ 1000000) : secs (packL 2 h ++ allB (packL 3) l) = (h :: l, 0) := by
 have hbl : Bytes (allB (packL 3) l) := allB_byt fun y hy => packL_byt (by decide) (by decide) (hx y hy).1
 have ho := open_pack (kind := 2) (b := h) (rest := allB (packL 3) l) (by decide) (by decide) hh.1 hh.2 hbl (by rw [List.length_append] at hl; omega)
 have hpos : 0 < (packL 2 h).length := by rw [packL_length]; omega
 have hll : l.length ≤ (allB (packL 3) l).length := by
  clear hx hl hbl ho
  induction l with
  | nil => exact Nat.le_refl _
  | cons x l ih =>
   show l.length + 1 ≤ (packL 3 x ++ allB (packL 3) l).length
   rw [List.length_append, packL_length]
   omega
 unfold secs sectL
 rw [if_pos (.inl rfl), ho]
 dsimp only
 rw [if_neg (by simp), if_neg (by simp), Int.toNat_natCast, List.drop_left, sectL_put l ([] ++ [h]) _ (by simp) hx (by rw [List.length_append] at hl; omega) (by rw [List.length_append]; omega)]
 rfl
def batR (d : List ByteArray) (s : Rd) : List OpT × Rd := itR (oneR d) (numR 20 s).1.toNat (numR 20 s).2
theorem batR_puts (d : List ByteArray) (hd : d.length ≤ 16) (l : List OpT) (hl : l.length ≤ 20) (h : ∀ x ∈ l, OkO x) : batR d ⟨bodyB d l, false⟩ = (l, ⟨[], false⟩) := by
 have hlen := bodyB_len hd hl h
 have hb : Bytes (allB (oneB d) l) := allB_byt fun x hx => oneB_byt (h x hx)
 have h1 := (numR_good 20 (by decide)).put (l.length : Int) (allB (oneB d) l) ⟨by omega, by omega⟩ hb (by rw [Int.toNat_natCast]; exact Nat.le_trans hlen (by decide))
 rw [Int.toNat_natCast] at h1
 have h2 := (oneR_puts d hd).it l [] h (fun x hx => by cases hx) (by
  rw [List.append_nil]
  unfold bodyB at hlen
  rw [List.length_append] at hlen
  omega)
 rw [List.append_nil] at h2
 unfold batR bodyB
 rw [h1]
 dsimp only
 rw [Int.toNat_natCast, h2]
def bodsR (d : List ByteArray) (bs : List (List Int)) (bad : Bool) : Nat → List (List OpT) × Bool
 | 0 => ([], bad)
 | k + 1 => ((bodsR d bs bad k).1 ++ [(batR d ⟨bs.getD k [], (bodsR d bs bad k).2⟩).1], (batR d ⟨bs.getD k [], (bodsR d bs bad k).2⟩).2.bad || decide (0 < (batR d ⟨bs.getD k [], (bodsR d bs bad k).2⟩).2.b.length))
theorem bodsR_puts (d : List ByteArray) (hd : d.length ≤ 16) (l : List (List OpT)) (h : ∀ b ∈ l, b.length ≤ 20 ∧ ∀ x ∈ b, OkO x) : ∀ k, k ≤ l.length → bodsR d (l.map (bodyB d)) false k = (l.take k, false)
 | 0, _ => rfl
 | k + 1, hk => by
  have ih := bodsR_puts d hd l h k (by omega)
  have hg : (l.map (bodyB d)).getD k [] = bodyB d (l.getD k []) := by
   rw [List.getD_eq_getElem?_getD, List.getD_eq_getElem?_getD, List.getElem?_map, List.getElem?_eq_getElem (by omega)]
   rfl
  have hm : l.getD k [] ∈ l := by
   rw [List.getD_eq_getElem?_getD, List.getElem?_eq_getElem (by omega)]
   exact List.getElem_mem _
  have h1 := batR_puts d hd (l.getD k []) (h _ hm).1 (h _ hm).2
  unfold bodsR
  rw [ih, hg]
  dsimp only
  rw [h1]
  dsimp only
  rw [List.take_succ_eq_append_getElem (by omega)]
  congr 2
  rw [List.getD_eq_getElem?_getD, List.getElem?_eq_getElem (by omega)]
  rfl
def zPl : PlanT := ⟨z32, []⟩
def rdH (h : List Int) (bs : List (List Int)) : PlanT × Bool :=
 let a := takeR 32 ⟨h, false⟩
 let n := numR 16 a.2
 let d := itR textR n.1.toNat n.2
 let m := numR 16 d.2
 let r := bodsR d.1 bs (decide (m.1 ≠ (bs.length : Int)) || (decide (0 < m.2.b.length) || m.2.bad)) bs.length
 (⟨a.1, r.1⟩, r.2)
def rdPl (l : List (List Int)) : PlanT × Bool := rdH (l.getD 0 []) (l.drop 1)
def getPl (b : List Int) : PlanT × Int :=
 if (secs b).2 ≠ 0 then (zPl, (secs b).2)
 else if (rdPl (secs b).1).2 = true ∨ (putPl (rdPl (secs b).1).1).2 ≠ 0 ∨ (putPl (rdPl (secs b).1).1).1 ≠ b then (zPl, 2)
 else ((rdPl (secs b).1).1, 0)
theorem allB_map {α β : Type} (B : β → List Int) (g : α → β) : ∀ l : List α, allB B (l.map g) = allB (fun x => B (g x)) l
 | [] => rfl
 | x :: l => by show B (g x) ++ allB B (l.map g) = B (g x) ++ _; rw [allB_map B g l]
theorem plB_secs {p : PlanT} (h : mayPl p = true) (hb : PlByt p) : secs (plB p) = (hdB p (dictP p) :: p.b.map (bodyB (dictP p)), 0) := by
 have hf := mayPl_facts h
 have hd : (dictP p).length ≤ 16 := dictL_len p.b.flatten
 have e : plB p = packL 2 (hdB p (dictP p)) ++ allB (packL 3) (p.b.map (bodyB (dictP p))) := by rw [allB_map]; rfl
 have hl := plB_len h hb
 rw [e] at hl ⊢
 refine secs_put ⟨hdB_byt hb _, Nat.le_trans (hdB_len hb.base.1 hf.1 hd (dictP_small h)) (by decide)⟩ (fun x hx => ?_) (Nat.le_trans hl (by decide))
 obtain ⟨l, hl2, rfl⟩ := List.mem_map.1 hx
 exact ⟨bodyB_byt (mayPl_ok h hb l hl2), Nat.le_trans (bodyB_len hd (hf.2 l hl2).2.1 (mayPl_ok h hb l hl2)) (by decide)⟩
theorem rdPl_put {p : PlanT} (h : mayPl p = true) (hb : PlByt p) : rdPl (hdB p (dictP p) :: p.b.map (bodyB (dictP p))) = (p, false) := by
 have hf := mayPl_facts h
 have hd : (dictP p).length ≤ 16 := dictL_len p.b.flatten
 have hs := dictP_small h
 have hl := hdB_len hb.base.1 hf.1 hd hs
 obtain ⟨d, hde⟩ : ∃ d, dictP p = d := ⟨_, rfl⟩
 rw [hde] at hd hs hl ⊢
 have b3 : Bytes (put p.b.length) := put_range _
 have b2 : Bytes (allB textB d ++ put p.b.length) := by_app (allB_byt fun x _ => textB_bytes x) b3
 have b1 : Bytes (put d.length ++ (allB textB d ++ put p.b.length)) := by_app (put_range _) b2
 unfold hdB at hl
 have s1 : takeR 32 ⟨p.base ++ (put d.length ++ (allB textB d ++ put p.b.length)), false⟩ = (p.base, ⟨put d.length ++ (allB textB d ++ put p.b.length), false⟩) := (takeR_good 32).put p.base _ hb.base b1 (by omega)
 have s2 : numR 16 ⟨put d.length ++ (allB textB d ++ put p.b.length), false⟩ = ((d.length : Int), ⟨allB textB d ++ put p.b.length, false⟩) := by
  have := (numR_good 16 (by decide)).put (d.length : Int) (allB textB d ++ put p.b.length) ⟨by omega, by omega⟩ b2 (by rw [Int.toNat_natCast]; rw [List.length_append] at hl; omega)
  rw [Int.toNat_natCast] at this
  exact this
 have s3 : itR textR d.length ⟨allB textB d ++ put p.b.length, false⟩ = (d, ⟨put p.b.length, false⟩) := textR_good.puts.it d _ hs b3 (by simp only [List.length_append] at hl ⊢; omega)
 have s4 : numR 16 ⟨put p.b.length, false⟩ = ((p.b.length : Int), ⟨[], false⟩) := by
  have := (numR_good 16 (by decide)).put (p.b.length : Int) [] ⟨by omega, by omega⟩ (fun x hx => by cases hx) (by rw [Int.toNat_natCast]; simp only [List.length_append] at hl ⊢; simp only [List.length_nil]; omega)
  rw [Int.toNat_natCast, List.append_nil] at this
  exact this
 have s5 := bodsR_puts d hd p.b (fun b hbm => ⟨(hf.2 b hbm).2.1, mayPl_ok h hb b hbm⟩) p.b.length (Nat.le_refl _)
 show rdH (hdB p d) (p.b.map (bodyB d)) = _
 unfold rdH hdB
 rw [s1]
 dsimp only
 rw [s2]
 dsimp only
 rw [Int.toNat_natCast, s3]
 dsimp only
 rw [s4]
 dsimp only
 have e : (decide ((p.b.length : Int) ≠ ((p.b.map (bodyB d)).length : Int)) || (decide (0 < ([] : List Int).length) || false)) = false := by
  simp
 rw [e, List.length_map, s5, List.take_length]
theorem getPl_put {p : PlanT} (h : mayPl p = true) (hb : PlByt p) : getPl (plB p) = (p, 0) := by
 unfold getPl
 rw [plB_secs h hb]
 dsimp only
 rw [if_neg (by simp), rdPl_put h hb]
 dsimp only
 have e : putPl p = (plB p, 0) := if_pos h
 rw [e]
 dsimp only
 rw [if_neg (by simp)]
theorem getPl_got {b : List Int} (h : (getPl b).2 = 0) : mayPl (getPl b).1 = true ∧ plB (getPl b).1 = b := by
 unfold getPl at h ⊢
 split
 ·rename_i h1
  rw [if_pos h1] at h
  exact absurd h h1
 ·rename_i h1
  rw [if_neg h1] at h
  split
  ·rename_i h2
   rw [if_pos h2] at h
   cases h
  ·rename_i h2
   dsimp only
   by_cases hm : mayPl (rdPl (secs b).1).1 = true
   ·have e : putPl (rdPl (secs b).1).1 = (plB (rdPl (secs b).1).1, 0) := if_pos hm
    rw [e] at h2
    refine ⟨hm, ?_⟩
    by_cases h3 : plB (rdPl (secs b).1).1 = b
    ·exact h3
    ·exact absurd (.inr (.inr h3)) h2
   ·have e : putPl (rdPl (secs b).1).1 = ([], 1) := if_neg hm
    rw [e] at h2
    exact absurd (.inr (.inl (by decide))) h2
theorem getPl_zero {b : List Int} (h : (getPl b).2 ≠ 0) : (getPl b).1 = zPl := by
 unfold getPl at h ⊢
 split
 ·rfl
 ·rename_i h1
  rw [if_neg h1] at h
  split
  ·rfl
  ·rename_i h2
   rw [if_neg h2] at h
   exact absurd rfl h
end
section
open Go.RowKit Go.Proofs.YtchaegfdcdlfaaaW.PrintWords Go.Proofs.YtchaegfdcdlfaaaW.PrintLast Go.Proofs.YtchaegfdcdlfaaaW.PrintMore
open Go.Proofs.Ytchaegfdcdlfaaa.Y (Bytes RdB rdb_below rdb_drop rdb_take)
attribute [local go_sem] max2_int min2_int max_two min_two max_three min_three max_four min_four
structure RoSt (w0 W : World) (rb : Nat) (s : Rd) : Prop where
 base : w0.heap.size ≤ rb
 row : ∃ A c, W.heap[rb]? = some (.cells #[.slice A s.b.length c, .bool s.bad] 240 (0, 0)) ∧ s.b.length ≤ c ∧ RdB w0 A s.b.length s.b
 byt : Bytes s.b
 len : s.b.length ≤ 1000000
 bel : Below w0.heap.size w0 W
theorem RoSt.lt {w0 W : World} {rb : Nat} {s : Rd} (h : RoSt w0 W rb s) : rb < W.heap.size := by
 obtain ⟨A, c, hr, _⟩ := h.row
 exact blk_lt hr
theorem RoSt.below {w0 W W1 : World} {rb : Nat} {s : Rd} (h : RoSt w0 W rb s) (hb : Below W.heap.size W W1) : RoSt w0 W1 rb s := by
 obtain ⟨A, c, hr, hc, hA⟩ := h.row
 exact ⟨h.base, ⟨A, c, blk_below hr hb, hc, hA⟩, h.byt, h.len, below_step h.bel hb⟩
theorem RoSt.cell0 {w0 W : World} {rb : Nat} {A : Option Addr} {n c : Nat} {b : Bool} (h : W.heap[rb]? = some (.cells #[.slice A n c, .bool b] 240 (0, 0))) : W.cell? ⟨rb, 0, none⟩ = some (.slice A n c) ∧ W.cell? ⟨rb, 1, none⟩ = some (.bool b) ∧ W.frozen? ⟨rb, 0, none⟩ = false ∧ W.frozen? ⟨rb, 1, none⟩ = false :=
 ⟨(blk_cell h 0).trans rfl, (blk_cell h 1).trans rfl, blk_frozen h 0, blk_frozen h 1⟩
def SkoQ (w0 W : World) (rb : Nat) (s : Rd) (n : Nat) (is : Bool) (e : Ending) (W' : World) : Prop :=
 (∃ A c, e = .returned (.slice A n c) ∧ n ≤ c ∧ RdB W' A n (skipR s n is).1) ∧ RoSt w0 W' rb (skipR s n is).2 ∧ W.grownBy W' (some rb)
theorem rost_after {w0 W : World} {rb : Nat} {s : Rd} (h : RoSt w0 W rb s) {W1 : World} (hg : W.grownBy W1 (some rb)) (s1 : Rd) (A : Option Addr) (c : Nat) (hr : W1.heap[rb]? = some (.cells #[.slice A s1.b.length c, .bool s1.bad] 240 (0, 0))) (hc : s1.b.length ≤ c) (hA : RdB w0 A s1.b.length s1.b) (k : Nat) (hk : s1.b = s.b.drop k) : RoSt w0 W1 rb s1 :=
 ⟨h.base, ⟨A, c, hr, hc, hA⟩, by rw [hk]; exact by_drop h.byt k, by rw [hk, List.length_drop]; have := h.len; omega, below_grown h.bel hg h.bel.size (fun k hk => by injection hk with hk; subst hk; exact h.base)⟩
set_option maxHeartbeats 1000000 in
theorem osk_ok (w0 W : World) (rb : Nat) (s : Rd) (n : Nat) (h : RoSt w0 W rb s) (hbad : s.bad = false) (hn : n ≤ s.b.length) :
  Calls Try.prog 179 #[.pointer (some ⟨rb, 0, none⟩), .int .i64 n, .bool true] W (SkoQ w0 W rb s n true) := by
 obtain ⟨A, c, hr, hc, hA⟩ := h.row
 rw [hbad] at hr
 have H := am h
 have HR := am hr
 have HC := am hc
 have HA := am hA
 have HBAD := am hbad
 have HN := am hn
 obtain ⟨A', hcut, hA', hC'⟩ := rdb_drop A c s.b n hn hc
 have HA2 := am (hA' w0 hA)
 have HC2 := am hC'
 obtain ⟨x0, x1, f0, f1⟩ := RoSt.cell0 hr (w0 := w0)
 have c1 : decide ((n : Int) > (s.b.length : Int)) = false := decide_eq_false (by omega)
 have c2 : decide (n > s.b.length) = false := decide_eq_false (by omega)
 have c3 : ((n : Int) ≤ (s.b.length : Int)) = True := eq_true (by omega)
 have c4 : (n ≤ s.b.length) = True := eq_true (by omega)
 have c5 : (0 ≤ (n : Int)) = True := by simp
 have c6 : ((n : Int) ≤ (c : Int)) = True := eq_true (by omega)
 have c7 : (n ≤ c) = True := eq_true (by omega)
 clear h hr hc hA hbad hn hA' hC'
 go_enter Try.func179, Try.ntmps179
 go_wp2_with fail
 go_ret
 have hS := skipR_ok HBAD.out rfl HN.out (is := true)
 have hg : W.grownBy ((W.setCell ⟨rb, 1, none⟩ (.bool false)).setCell ⟨rb, 0, none⟩ (.slice A' (s.b.length - n) (c - n))) (some rb) := grown_set (grown_set (World.grownBy.refl W (some rb)) 1 _) 0 _
 have hst : RoSt w0 ((W.setCell ⟨rb, 1, none⟩ (.bool false)).setCell ⟨rb, 0, none⟩ (.slice A' (s.b.length - n) (c - n))) rb ⟨s.b.drop n, false⟩ := by
  refine rost_after H.out hg ⟨s.b.drop n, false⟩ A' (c - n) ?_ (by rw [List.length_drop]; exact HC2.out) (by rw [List.length_drop]; exact HA2.out) n rfl
  rw [List.length_drop]
  exact blk_put (blk_put HR.out 1 _ rfl) 0 _ rfl
 unfold SkoQ
 rw [hS]
 refine ⟨⟨A, c, rfl, by have := HC.out; have := HN.out; omega, ?_⟩, hst, hg⟩
 exact rdb_below (rdb_take HA.out n HN.out) hst.bel
set_option maxHeartbeats 1000000 in
theorem osk_no (w0 W : World) (rb : Nat) (s : Rd) (n : Nat) (is : Bool) (h : RoSt w0 W rb s) (hno : s.bad = true ∨ is = false ∨ s.b.length < n) (hn : n ≤ 1000000) :
  Calls Try.prog 179 #[.pointer (some ⟨rb, 0, none⟩), .int .i64 n, .bool is] W (SkoQ w0 W rb s n is) := by
 obtain ⟨A, c, hr, hc, hA⟩ := h.row
 have hS := am (skipR_bad hno)
 have hmk := print_make (P := Try.prog) 40 5 .u8 1 Try.underlying40 info5 (by decide) n (by omega)
 have hmx : max (n : Int) 0 = (n : Int) := by omega
 have H := am h
 have HC := am hc
 have HA := am hA
 have HN := am hn
 have HFIN : Aside0 (W.heap[rb]? = some (.cells #[.slice A s.b.length c, .bool s.bad] 240 (0, 0)) → SkoQ w0 W rb s n is (.returned (.slice (some ⟨W.heap.size, 0, none⟩) n n)) ((W.setCell ⟨rb, 1, none⟩ (.bool true)).alloc (.cells (madeCells #[.int .u8 0] n) 5))) := ⟨fun hr => by
  have hz : (W.setCell ⟨rb, 1, none⟩ (.bool true)).heap.size = W.heap.size := by simp [World.setCell]
  rw [← hz]
  have hg : W.grownBy (W.setCell ⟨rb, 1, none⟩ (.bool true)) (some rb) := grown_set (World.grownBy.refl W (some rb)) 1 _
  have hst : RoSt w0 (W.setCell ⟨rb, 1, none⟩ (.bool true)) rb ⟨s.b, true⟩ := rost_after h hg ⟨s.b, true⟩ A c (blk_put hr 1 _ rfl) hc hA 0 rfl
  unfold SkoQ
  rw [hS.out]
  refine ⟨⟨_, _, rfl, Nat.le_refl _, ?_⟩, hst.below (below_alloc (Below.refl _ _) _), hg.trans (World.grownBy_alloc _ _ _)⟩
  have := own_made (W.setCell ⟨rb, 1, none⟩ (.bool true)) 0 5 .u8 n (Nat.zero_le _) (by omega)
  obtain ⟨A9, c9, hv, hc9, hr9⟩ := Y.own_row (l := List.replicate n 0) this
  injection hv with h1 h2 h3
  rw [h1]
  exact hr9⟩
 cases hb : s.bad
 ·rw [hb] at hr
  obtain ⟨x0, x1, f0, f1⟩ := RoSt.cell0 hr (w0 := w0)
  cases is
  ·have HF := am (HFIN.out (by rw [hb]; exact hr))
   clear h hno hr hc hA hb hn HFIN
   go_enter Try.func179, Try.ntmps179
   go_wp2_with fail
   go_ret
   exact HF.out
  ·have hlt : s.b.length < n := by
    rcases hno with h1 | h1 | h1
    ·rw [hb] at h1; cases h1
    ·cases h1
    ·exact h1
   have c1 : decide ((n : Int) > (s.b.length : Int)) = true := decide_eq_true (by omega)
   have c2 : decide (n > s.b.length) = true := decide_eq_true (by omega)
   have HF := am (HFIN.out (by rw [hb]; exact hr))
   clear h hno hr hc hA hb hn hlt HFIN
   go_enter Try.func179, Try.ntmps179
   go_wp2_with fail
   go_ret
   exact HF.out
 ·rw [hb] at hr
  obtain ⟨x0, x1, f0, f1⟩ := RoSt.cell0 hr (w0 := w0)
  have HF := am (HFIN.out (by rw [hb]; exact hr))
  clear h hno hr hc hA hb hn HFIN
  go_enter Try.func179, Try.ntmps179
  go_wp2_with fail
  go_ret
  exact HF.out
theorem oskip_call (w0 W : World) (rb : Nat) (s : Rd) (n : Nat) (is : Bool) (h : RoSt w0 W rb s) (hn : n ≤ 1000000) :
  Calls Try.prog 179 #[.pointer (some ⟨rb, 0, none⟩), .int .i64 n, .bool is] W (SkoQ w0 W rb s n is) := by
 by_cases hno : s.bad = true ∨ is = false ∨ s.b.length < n
 ·exact osk_no w0 W rb s n is h hno hn
 ·have h1 : s.bad = false := by
   cases hb : s.bad
   ·rfl
   ·exact absurd (.inl hb) hno
  have h2 : is = true := by
   cases hb : is
   ·exact absurd (.inr (.inl hb)) hno
   ·rfl
  subst h2
  exact osk_ok w0 W rb s n h h1 (by have : ¬ s.b.length < n := fun h => hno (.inr (.inr h)); omega)
end
section
open Go.RowKit Go.Proofs.YtchaegfdcdlfaaaW.PrintWords Go.Proofs.YtchaegfdcdlfaaaW.PrintLast Go.Proofs.YtchaegfdcdlfaaaW.PrintMore
open Go.Proofs.Ytchaegfdcdlfaaa.Y (Bytes RdB IsGet rdb_below rdb_drop rdb_take get_call Get_eq put put_length four four_call)
attribute [local go_sem] max2_int min2_int max_two min_two max_three min_three max_four min_four
theorem RoSt.setRow {w0 W : World} {rb : Nat} {s : Rd} (h : RoSt w0 W rb s) {g : Nat} (hg : g ≠ rb) (hw : w0.heap.size ≤ g) (cs : Array Value) : RoSt w0 (W.setRow g cs) rb s := by
 obtain ⟨A, c, hr, hc, hA⟩ := h.row
 exact ⟨h.base, ⟨A, c, (setRow_other _ _ _ _ (by omega)).trans hr, hc, hA⟩, h.byt, h.len, below_row h.bel hw⟩
def DioQ (w0 W : World) (rb : Nat) (s : Rd) (e : Ending) (W' : World) : Prop := e = .returned (.agg (cells8 (takeR 32 s).1)) ∧ RoSt w0 W' rb (takeR 32 s).2 ∧ W.grownBy W' (some rb)
set_option maxHeartbeats 1000000 in
theorem odig_call (w0 W : World) (rb : Nat) (s : Rd) (h : RoSt w0 W rb s) :
  Calls Try.prog 180 #[.pointer (some ⟨rb, 0, none⟩)] W (DioQ w0 W rb s) := by
 have H := am h
 have HL : Aside0 ((takeR 32 s).1.length = 32) := ⟨skipR_len s 32 true⟩
 clear h
 go_enter Try.func180, Try.ntmps180
 go_wp2_with fail
 refine (oskip_call w0 _ rb s 32 true (H.out.below (below_alloc (Below.refl _ _) _)) (by decide)).mono ?_
 rintro e_ w2 ⟨⟨A2, c2, rfl, hc2, hr2⟩, hst2, hg2⟩
 obtain ⟨ad, hA, hat⟩ := rdb_at hr2 (by decide)
 subst hA
 have hlt := H.out.lt
 have hn1 : some W.heap.size ≠ some rb := fun he => by injection he with he; omega
 have HZ2 := am (blk_grown (blk_new W (.cells #[.int .u8 0, .int .u8 0, .int .u8 0, .int .u8 0, .int .u8 0, .int .u8 0, .int .u8 0, .int .u8 0, .int .u8 0, .int .u8 0, .int .u8 0, .int .u8 0, .int .u8 0, .int .u8 0, .int .u8 0, .int .u8 0, .int .u8 0, .int .u8 0, .int .u8 0, .int .u8 0, .int .u8 0, .int .u8 0, .int .u8 0, .int .u8 0, .int .u8 0, .int .u8 0, .int .u8 0, .int .u8 0, .int .u8 0, .int .u8 0, .int .u8 0, .int .u8 0] 28)) hg2 hn1)
 obtain ⟨d, hd⟩ : ∃ d, (takeR 32 s).1 = d := ⟨_, rfl⟩
 have hd' : (skipR s 32 true).1 = d := hd
 rw [hd'] at hat
 rw [hd] at HL
 have HD := am hd
 have HAT := am hat
 have H2 := am hst2
 have HG2 := am ((World.grownBy_alloc W (.cells #[.int .u8 0, .int .u8 0, .int .u8 0, .int .u8 0, .int .u8 0, .int .u8 0, .int .u8 0, .int .u8 0, .int .u8 0, .int .u8 0, .int .u8 0, .int .u8 0, .int .u8 0, .int .u8 0, .int .u8 0, .int .u8 0, .int .u8 0, .int .u8 0, .int .u8 0, .int .u8 0, .int .u8 0, .int .u8 0, .int .u8 0, .int .u8 0, .int .u8 0, .int .u8 0, .int .u8 0, .int .u8 0, .int .u8 0, .int .u8 0, .int .u8 0, .int .u8 0] 28) (some rb)).trans hg2)
 have HLT := am hlt
 have har := fun W1 : World => run_arrayAt (P := Try.prog) (w := W1) 28 5 32 (some ad) 32 c2 Try.underlying28 (by decide)
 have hz : (cells8 d).size = 32 := by rw [cells8_size, HL.out]
 have hst := store8 (g := W.heap.size) (t := 28) (old := List.replicate 32 0) (xs := d) (w := w2) HZ2.out (by rw [HL.out]; rfl)
 clear hst2 hg2 hlt hn1 hd hd' hat hr2 hc2
 go_wp2_with (first
  | ((with_reducible refine gate_dst (N := 6) rfl ?_); refine wpList_load_cells rfl 28 (.tmp 5) rfl ad rfl (cells8 d) _ HAT.out Try.underlying28 rfl (by rw [hz]; kernel_rfl) ?_)
  | fail)
 refine bodyPost_ret (v := .agg (cells8 d)) ?_ rfl ?_
 ·exact results_cell_row (P := Try.prog) Try.results180 _ _ W.heap.size 28 (cells8 d) (0, 0) _ rfl (setRow_heap _ _ _ _ _ _ HZ2.out) Try.underlying28 rfl (by rw [hz]; kernel_rfl)
 ·unfold DioQ
  rw [HD.out]
  exact ⟨rfl, H2.out.setRow (by have := HLT.out; omega) H.out.bel.size _, grown_row HG2.out (Nat.le_refl _) _⟩
def IdoQ (w0 W : World) (rb : Nat) (s : Rd) (e : Ending) (W' : World) : Prop := e = .returned (.agg (cells8 (takeR 16 s).1)) ∧ RoSt w0 W' rb (takeR 16 s).2 ∧ W.grownBy W' (some rb)
set_option maxHeartbeats 1000000 in
theorem oid_call (w0 W : World) (rb : Nat) (s : Rd) (h : RoSt w0 W rb s) :
  Calls Try.prog 178 #[.pointer (some ⟨rb, 0, none⟩)] W (IdoQ w0 W rb s) := by
 have H := am h
 have HL : Aside0 ((takeR 16 s).1.length = 16) := ⟨skipR_len s 16 true⟩
 clear h
 go_enter Try.func178, Try.ntmps178
 go_wp2_with fail
 refine (oskip_call w0 _ rb s 16 true (H.out.below (below_alloc (Below.refl _ _) _)) (by decide)).mono ?_
 rintro e_ w2 ⟨⟨A2, c2, rfl, hc2, hr2⟩, hst2, hg2⟩
 obtain ⟨ad, hA, hat⟩ := rdb_at hr2 (by decide)
 subst hA
 have hlt := H.out.lt
 have hn1 : some W.heap.size ≠ some rb := fun he => by injection he with he; omega
 have HZ2 := am (blk_grown (blk_new W (.cells #[.int .u8 0, .int .u8 0, .int .u8 0, .int .u8 0, .int .u8 0, .int .u8 0, .int .u8 0, .int .u8 0, .int .u8 0, .int .u8 0, .int .u8 0, .int .u8 0, .int .u8 0, .int .u8 0, .int .u8 0, .int .u8 0] 94)) hg2 hn1)
 obtain ⟨d, hd⟩ : ∃ d, (takeR 16 s).1 = d := ⟨_, rfl⟩
 have hd' : (skipR s 16 true).1 = d := hd
 rw [hd'] at hat
 rw [hd] at HL
 have HD := am hd
 have HAT := am hat
 have H2 := am hst2
 have HG2 := am ((World.grownBy_alloc W (.cells #[.int .u8 0, .int .u8 0, .int .u8 0, .int .u8 0, .int .u8 0, .int .u8 0, .int .u8 0, .int .u8 0, .int .u8 0, .int .u8 0, .int .u8 0, .int .u8 0, .int .u8 0, .int .u8 0, .int .u8 0, .int .u8 0] 94) (some rb)).trans hg2)
 have HLT := am hlt
 have har := fun W1 : World => run_arrayAt (P := Try.prog) (w := W1) 94 5 16 (some ad) 16 c2 Try.underlying94 (by decide)
 have hz : (cells8 d).size = 16 := by rw [cells8_size, HL.out]
 have hst := store8 (g := W.heap.size) (t := 94) (old := List.replicate 16 0) (xs := d) (w := w2) HZ2.out (by rw [HL.out]; rfl)
 clear hst2 hg2 hlt hn1 hd hd' hat hr2 hc2
 go_wp2_with (first
  | ((with_reducible refine gate_dst (N := 6) rfl ?_); refine wpList_load_cells rfl 94 (.tmp 5) rfl ad rfl (cells8 d) _ HAT.out Try.underlying94 rfl (by rw [hz]; kernel_rfl) ?_)
  | fail)
 refine bodyPost_ret (v := .agg (cells8 d)) ?_ rfl ?_
 ·exact results_cell_row (P := Try.prog) Try.results178 _ _ W.heap.size 94 (cells8 d) (0, 0) _ rfl (setRow_heap _ _ _ _ _ _ HZ2.out) Try.underlying94 rfl (by rw [hz]; kernel_rfl)
 ·unfold IdoQ
  rw [HD.out]
  exact ⟨rfl, H2.out.setRow (by have := HLT.out; omega) H.out.bel.size _, grown_row HG2.out (Nat.le_refl _) _⟩
def OneQ (w0 W : World) (rb : Nat) (s : Rd) (e : Ending) (W' : World) : Prop := e = .returned (.int .i64 (byteR s).1) ∧ RoSt w0 W' rb (byteR s).2 ∧ W.grownBy W' (some rb)
theorem skip_byt {s : Rd} (hb : Bytes s.b) (n : Nat) (is : Bool) : Bytes (skipR s n is).1 := fun x hx => by
 unfold skipR at hx
 split at hx
 ·obtain ⟨_, rfl⟩ := List.mem_replicate.1 hx
  exact ⟨Int.le_refl _, by decide⟩
 ·exact hb x (List.mem_of_mem_take hx)
set_option maxHeartbeats 1000000 in
theorem oone_call (w0 W : World) (rb : Nat) (s : Rd) (h : RoSt w0 W rb s) : Calls Try.prog 177 #[.pointer (some ⟨rb, 0, none⟩)] W (OneQ w0 W rb s) := by
 have H := am h
 have HL : Aside0 ((skipR s 1 true).1.length = 1) := ⟨skipR_len s 1 true⟩
 have HBY := am (skip_byt h.byt 1 true)
 clear h
 go_enter Try.func177, Try.ntmps177
 go_wp2_with fail
 refine (oskip_call w0 W rb s 1 true H.out (by decide)).mono ?_
 rintro e_ w1 ⟨⟨A, c, rfl, hc, hr⟩, hst, hg⟩
 obtain ⟨ad, hA, x0⟩ := Kd.at_int hr 0 (by omega) (by omega)
 subst hA
 obtain ⟨b, hb⟩ : ∃ b, rd (skipR s 1 true).1 0 = b := ⟨_, rfl⟩
 have hb2 : (byteR s).1 = b := by rw [← hb]; rfl
 have hbb : 0 ≤ b ∧ b ≤ 255 := by
  rw [← hb]
  unfold rd
  have hl := HL.out
  rw [show ((0 : Int).toNat) = 0 from rfl, List.getD_eq_getElem?_getD, List.getElem?_eq_getElem (by omega), Option.getD_some]
  exact HBY.out _ (List.getElem_mem _)
 rw [hb, show ad.add (Int.toNat 0) = ad by simp [Addr.add]] at x0
 have hw : IntKind.i64.wrap b = b := by simp [IntKind.wrap, IntKind.bits, IntKind.signed]; omega
 have HQ : Aside0 (OneQ w0 W rb s (.returned (.int .i64 b)) w1) := ⟨⟨by rw [hb2], hst, hg⟩⟩
 clear hc hr hst hg hb hb2 hbb
 go_wp2_with fail
 go_ret
 exact HQ.out
end
end Go.Proofs.Ytchaegfdcdlfaaa.X
