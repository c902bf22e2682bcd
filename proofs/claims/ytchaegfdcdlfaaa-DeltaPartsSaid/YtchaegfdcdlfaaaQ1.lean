/- Texts of this claim, one behind the other: DRow, Xx76, DFew, Xx74, Xx75, Xx85. -/
import Derived.ProofKit
import Derived.OpenShut
import Derived.Deep.Slices
import Derived.Lib.SmallJoins
import Derived.Test.YtchaegfdcdlfaaaE1
import Derived.Test.YtchaegfdcdlfaaaE2
import Derived.Test.YtchaegfdcdlfaaaE5

/- A list of pieces that came in, opened. -/
namespace Go.Proofs.Ytchaegfdcdlfaaa.X
set_option linter.unusedVariables false
open Go.ChangeShapes Go.WideShapes Go.ChangeAt Go.RowKit Go.Deep Go.Proofs.YtchaegfdcdlfaaaW.PrintWords Go.Proofs.YtchaegfdcdlfaaaW.PrintLast Go.Proofs.YtchaegfdcdlfaaaW.PrintMore

section
variable {H : Type} {enc : TypeId × Value → H} {w : World} {base : Nat} {spare : Nat → Bool} {held : Bool}
/-- What a piece that came in is. -/
def PcOk (p : S67) : Prop := (Lit.int .i64 p.f1).wf = true ∧ (Lit.int .i64 p.f2).wf = true ∧ p.f3.size ≤ maxLen
set_option maxRecDepth 100000 in
theorem trod_pc {fuel : Nat} {cs : List Value} {x : DataW H × List MemPlace} (h : DataW.trod enc Try.prog w base spare held fuel 67 cs = some x) : ∃ p : S67, cs = [.bool p.f0, .int .i64 p.f1, .int .i64 p.f2, .string p.f3] ∧ PcOk p := by
  obtain ⟨y0, y1, y2, y3, n, rfl, hl, h0, h1, h2, h3⟩ := Go.Joins.trod_struct4 Try.underlying67 h
  obtain ⟨a, ha, _⟩ := DataW.trod_bool (by kernel_rfl) h0
  obtain ⟨b, hb, _, hwb⟩ := DataW.trod_int (k := .i64) (by kernel_rfl) h1
  obtain ⟨c, hc, _, hwc⟩ := DataW.trod_int (k := .i64) (by kernel_rfl) h2
  obtain ⟨d, hd, _, hwd⟩ := DataW.trod_string (by kernel_rfl) h3
  have h4 : cs.length = 4 := by rw [hl]; kernel_rfl
  refine ⟨⟨a, b, c, d⟩, ?_, hwb, hwc, hwd⟩
  match cs, h4 with
  | [v0, v1, v2, v3], _ =>
    have ha2 : [v0] = [.bool a] := ha
    have hb2 : [v1] = [.int .i64 b] := hb
    have hc2 : [v2] = [.int .i64 c] := hc
    have hd2 : [v3] = [.string d] := hd
    simp only [List.cons.injEq, and_true] at ha2 hb2 hc2 hd2
    rw [ha2, hb2, hc2, hd2]
set_option maxRecDepth 100000 in
theorem open_pieces {A : Option Addr} {len cap : Nat} {d : DataW H} {p : List MemPlace} (h : DataW.Trod enc Try.prog w base spare held 55 (.slice A len cap) d p) :
    ∃ l : List S67, l.length = len ∧ len ≤ cap ∧ Kd.C k67 w A len l ∧ ∀ s ∈ l, PcOk s := by
  obtain ⟨fuel, hf⟩ := h
  rcases open_slice Try.underlying55 hf with ⟨hcs, _⟩ | ⟨a, l, c, m, n, D, Pl, hcs, hb, hl, hm, hmm, _, hx⟩
  · simp [Value.cells] at hcs
    obtain ⟨rfl, rfl, rfl⟩ := hcs
    exact ⟨[], rfl, Nat.le_refl _, ⟨rfl, by omega, fun h => absurd h (by omega)⟩, fun s hs => absurd hs (by simp)⟩
  · simp [Value.cells] at hcs
    obtain ⟨rfl, rfl, rfl⟩ := hcs
    have hlm : len ≤ m := by rw [hmm]; split <;> omega
    have h4 : Try.prog.cellsOf 67 = 4 := by kernel_rfl
    rw [h4] at hx
    haveI : Inhabited S67 := ⟨z67⟩
    obtain ⟨S, hS⟩ := choose_lt (α := S67) (n := len) (p := fun i s => PcOk s ∧ w.cells? base (a.add (i * 4)) 4 = some [.bool s.f0, .int .i64 s.f1, .int .i64 s.f2, .string s.f3]) (fun i hi => by
      obtain ⟨cs', h1, h2⟩ := hx i (by omega)
      obtain ⟨s, rfl, hs⟩ := trod_pc h2
      exact ⟨s, hs, h1⟩)
    refine ⟨(List.range len).map S, by simp, hl, ⟨by simp, by unfold maxLen at hm; omega, fun _ => ⟨a, rfl, fun j s hj => ?_⟩⟩, ?_⟩
    · have hjl : j < len := by
        have := (List.getElem?_eq_some_iff.1 hj).1
        simpa using this
      have hs : S j = s := by simpa [hjl] using hj
      subst hs
      refine ⟨[.bool (S j).f0, .int .i64 (S j).f1, .int .i64 (S j).f2, .string (S j).f3], rfl, k67_mk w (S j), fun i u hi => ?_⟩
      obtain ⟨_, hlen, hcell⟩ := World.cells?_some (hS j hjl).2
      have hi2 : i < 4 := by
        have := (List.getElem?_eq_some_iff.1 hi).1
        simpa using this
      have := hcell i hi2
      rw [Go.Deep.add_add] at this
      have e : j * k67.sz + i = j * 4 + i := rfl
      rw [e, this, hi]
    · intro s hs
      obtain ⟨i, hi, rfl⟩ := List.mem_map.1 hs
      exact (hS i (List.mem_range.1 hi)).1
end
end Go.Proofs.Ytchaegfdcdlfaaa.X

namespace Go.Proofs.Ytchaegfdcdlfaaa.X
open Go.RowKit Go.Proofs.YtchaegfdcdlfaaaW.PrintWords Go.Proofs.YtchaegfdcdlfaaaW.PrintLast Go.Proofs.YtchaegfdcdlfaaaW.PrintMore
attribute [local go_sem] max2_int min2_int max_two min_two max_three min_three max_four min_four   -- for this text's walks alone
set_option linter.unusedVariables false
set_option linter.unusedSimpArgs false

/-! ### rolodexlaw11_few: function 49 -/
def rolodexlaw11_few.l0 : Nat → List (S67) → Int → Option (Bool)
  | 0, _, _ => none
  | k + 1, x0, x3 => if x3 < (x0.length : Int) then (if 0 ≤ x3 then (if (((rd_T67 x0 x3).f3).size : Int) > 300 then (some false) else (rolodexlaw11_few.l0 k x0 (wrap64 (x3 + 1)))) else (none)) else (some true)
def rolodexlaw11_few.f (k : Nat) (l0 : List (S67)) : Option (Bool) := if (l0.length : Int) > 80 then (some false) else (rolodexlaw11_few.l0 k l0 0)
theorem rolodexlaw11_few.mono_l : ∀ k, (∀ y0 y1, LeO (rolodexlaw11_few.l0 k y0 y1) (rolodexlaw11_few.l0 (k + 1) y0 y1))
  | 0 => fun _ _ r h => by simp [rolodexlaw11_few.l0] at h
  | k + 1 => by
    have ih0 := rolodexlaw11_few.mono_l k
    · intro y0 y1
      unfold rolodexlaw11_few.l0
      repeat' first
      | (with_reducible exact ih0 _ _)
      | (with_reducible exact LeO.refl _)
      | (with_reducible exact LeO.none _)
      | (with_reducible refine LeO.ite ?_ ?_)
      | (with_reducible refine LeO.bind ?_ (fun _ => ?_))
      | exact ih0 _ _
      | exact LeO.none _
      | refine LeO.ite ?_ ?_
      | refine LeO.bind ?_ (fun _ => ?_)
theorem rolodexlaw11_few.mono : ∀ a0 k, LeO (rolodexlaw11_few.f k a0) (rolodexlaw11_few.f (k + 1) a0) := by
  intro a0 k
  have ih0 := rolodexlaw11_few.mono_l k
  unfold rolodexlaw11_few.f
  repeat' first
      | (with_reducible exact ih0 _ _)
      | (with_reducible exact LeO.refl _)
      | (with_reducible exact LeO.none _)
      | (with_reducible refine LeO.ite ?_ ?_)
      | (with_reducible refine LeO.bind ?_ (fun _ => ?_))
      | exact ih0 _ _
      | exact LeO.none _
      | refine LeO.ite ?_ ?_
      | refine LeO.bind ?_ (fun _ => ?_)
set_option maxHeartbeats 8000000 in
set_option maxRecDepth 100000 in
theorem rolodexlaw11_few.calls (k : Nat) (A0 : Option Addr) (c0 : Nat) (l0 : List (S67)) (r : Bool) (w : World) (hr0 : Kd.C k67 w A0 l0.length l0) (hc0 : l0.length ≤ c0) (h : rolodexlaw11_few.f k l0 = some r) :
    Calls Try.prog 49 #[.slice A0 l0.length c0] w fun e w' => e = .returned (.bool r) ∧ Drawn0 w w' := by
  have HR0 := Aside0.mk hr0
  have HC0 := Aside0.mk hc0
  clear hr0 hc0
  have H : (if (l0.length : Int) > 80 then (some false) else (rolodexlaw11_few.l0 k l0 0)) = some r := h
  clear h
  by_cases c2 : (l0.length : Int) > 80
  · rw [if_pos c2] at H
    have c2b0 : decide (80 < (l0.length : Int)) = true := decide_eq_true c2
    have c2b1 : decide (80 < l0.length) = true := decide_eq_true (by omega)
    clear c2
    obtain rfl := Option.some.inj H
    go_enter Try.func49, Try.ntmps49
    go_wp2
    go_ret
    exact ⟨by first | rfl | (simp; done) | (simp [*]; done), by repeat (first | exact Drawn0.refl _ | apply Drawn0.step)⟩
  · rw [if_neg c2] at H
    have c2b0 : decide (80 < (l0.length : Int)) = false := decide_eq_false c2
    have c2b1 : decide (80 < l0.length) = false := decide_eq_false (by omega)
    clear c2
    have H' := Aside0.mk H
    clear H
    go_enter Try.func49, Try.ntmps49
    go_wp2
    go_loopg [3] k (fun kq v3 w' => ∃ (x3_1 : Int), v3 = .int .i64 x3_1 ∧ Aside0 (rolodexlaw11_few.l0 kq l0 x3_1 = some r) ∧ Aside0 (kq ≤ k) ∧ Drawn0 w w')
    case atStart => exact ⟨(0), (by first | rfl | (simp; done) | (simp [*]; done)), H', ⟨Nat.le_refl _⟩, by repeat (first | exact Drawn0.refl _ | apply Drawn0.step)⟩
    case round =>
      clear H'
      try clear c2
      try clear c2b0
      try clear c2b1
      try clear p2
      obtain ⟨x3_1, rfl, HA, HK1, ⟨m1, rfl⟩⟩ := hrel
      cases gk with
      | zero => exact absurd HA.out (by simp [rolodexlaw11_few.l0])
      | succ k1 =>
        have H := HA.out
        clear HA
        simp only [rolodexlaw11_few.l0] at H
        by_cases c3 : x3_1 < (l0.length : Int)
        · rw [if_pos c3] at H
          have c3b0 : decide (x3_1 < (l0.length : Int)) = true := decide_eq_true c3
          clear c3
          by_cases c4 : 0 ≤ x3_1
          · rw [if_pos c4] at H
            have c4b0 : decide (0 ≤ x3_1) = true := decide_eq_true c4
            clear c4
            by_cases c5 : (((rd_T67 l0 x3_1).f3).size : Int) > 300
            · rw [if_pos c5] at H
              have c5b0 : decide (300 < (((rd_T67 l0 x3_1).f3).size : Int)) = true := decide_eq_true c5
              have c5b1 : decide (300 < ((rd_T67 l0 x3_1).f3).size) = true := decide_eq_true (by omega)
              clear c5
              obtain rfl := Option.some.inj H
              have p453 : 0 ≤ (x3_1 : Int) := of_decide_eq_true (by first | (with_reducible assumption) | assumption)
              have q453 : x3_1 < (l0.length : Int) := of_decide_eq_true (by first | (with_reducible assumption) | assumption)
              obtain ⟨ad453, e453, hx453_0, hx453_1, hx453_2, hx453_3⟩ := at_T67 HR0.out x3_1 p453 q453
              cases e453
              replace p453 := eq_true p453
              replace q453 := eq_true q453
              go_wp2
              go_ret
              exact ⟨by first | rfl | (simp; done) | (simp [*]; done), by repeat (first | exact Drawn0.refl _ | apply Drawn0.step)⟩
            · rw [if_neg c5] at H
              have c5b0 : decide (300 < (((rd_T67 l0 x3_1).f3).size : Int)) = false := decide_eq_false c5
              have c5b1 : decide (300 < ((rd_T67 l0 x3_1).f3).size) = false := decide_eq_false (by omega)
              clear c5
              have H' := Aside0.mk H
              clear H
              have p453 : 0 ≤ (x3_1 : Int) := of_decide_eq_true (by first | (with_reducible assumption) | assumption)
              have q453 : x3_1 < (l0.length : Int) := of_decide_eq_true (by first | (with_reducible assumption) | assumption)
              obtain ⟨ad453, e453, hx453_0, hx453_1, hx453_2, hx453_3⟩ := at_T67 HR0.out x3_1 p453 q453
              cases e453
              replace p453 := eq_true p453
              replace q453 := eq_true q453
              go_wp2
              go_roundg k1
              case measure => have := HK1.out; omega
              case rel => exact ⟨(wrap64 (x3_1 + 1)), (by first | rfl | (simp; done) | (simp [*]; done)), H', ⟨by have := HK1.out; omega⟩, by repeat (first | exact Drawn0.refl _ | apply Drawn0.step)⟩
          · rw [if_neg c4] at H
            exact absurd H (by simp)
        · rw [if_neg c3] at H
          have c3b0 : decide (x3_1 < (l0.length : Int)) = false := decide_eq_false c3
          clear c3
          obtain rfl := Option.some.inj H
          go_wp2
          go_ret
          exact ⟨by first | rfl | (simp; done) | (simp [*]; done), by repeat (first | exact Drawn0.refl _ | apply Drawn0.step)⟩

end Go.Proofs.Ytchaegfdcdlfaaa.X

/- Few pieces: what the law asks first. -/
namespace Go.Proofs.Ytchaegfdcdlfaaa.X
set_option linter.unusedVariables false
set_option linter.unusedSimpArgs false
open Go.RowKit Go.Maps Go.Proofs.YtchaegfdcdlfaaaW.PrintWords Go.Proofs.YtchaegfdcdlfaaaW.PrintLast Go.Proofs.YtchaegfdcdlfaaaW.PrintMore

theorem rd_next {l : List S67} {i : Nat} (h : i < l.length) : l.drop i = rd_T67 l (i : Int) :: l.drop (i + 1) := by
  rw [List.drop_eq_getElem_cons h]
  congr 1
  unfold rd_T67
  rw [Int.toNat_natCast, List.getD_eq_getElem?_getD, List.getElem?_eq_getElem h]
  rfl
theorem rd_mem {l : List S67} {i : Nat} (h : i < l.length) : rd_T67 l (i : Int) ∈ l := by
  unfold rd_T67
  rw [Int.toNat_natCast, List.getD_eq_getElem?_getD, List.getElem?_eq_getElem h]
  exact List.getElem_mem h
theorem wrap_next (i : Nat) (h : i ≤ 1000000000000) : wrap64 ((i : Int) + 1) = ((i + 1 : Nat) : Int) := by unfold wrap64; omega
/-- Few, and short. -/
def fewL (l : List S67) : Bool := decide (l.length ≤ 80) && l.all (fun p => decide (p.f3.size ≤ 300))
theorem few_l0 (l : List S67) (hl : l.length ≤ 80) : ∀ (d i k : Nat), l.length = i + d → d < k → rolodexlaw11_few.l0 k l (i : Int) = some ((l.drop i).all (fun p => decide (p.f3.size ≤ 300))) := by
  intro d
  induction d with
  | zero =>
    intro i k hi hk
    obtain ⟨k, rfl⟩ : ∃ k', k = k' + 1 := ⟨k - 1, by omega⟩
    rw [rolodexlaw11_few.l0, if_neg (by omega), List.drop_eq_nil_of_le (by omega)]
    rfl
  | succ d ih =>
    intro i k hi hk
    obtain ⟨k, rfl⟩ : ∃ k', k = k' + 1 := ⟨k - 1, by omega⟩
    have hil : i < l.length := by omega
    rw [rolodexlaw11_few.l0, if_pos (by omega), if_pos (by omega), rd_next hil, List.all_cons]
    by_cases h : ((rd_T67 l (i : Int)).f3.size : Int) > 300
    · rw [if_pos h, decide_eq_false (by omega), Bool.false_and]
    · rw [if_neg h, decide_eq_true (by omega), Bool.true_and, wrap_next i (by omega), ih (i + 1) k (by omega) (by omega)]
theorem Few_eq (l : List S67) (k : Nat) (hk : 100 < k) : rolodexlaw11_few.f k l = some (fewL l) := by
  unfold rolodexlaw11_few.f fewL
  by_cases h : (l.length : Int) > 80
  · rw [if_pos h, decide_eq_false (by omega), Bool.false_and]
  · rw [if_neg h, decide_eq_true (by omega), Bool.true_and, show (0 : Int) = ((0 : Nat) : Int) from rfl, few_l0 l (by omega) l.length 0 k (by omega) (by omega), List.drop_zero]
theorem fewL_le {l : List S67} (h : fewL l = true) : l.length ≤ 80 := by
  unfold fewL at h
  rw [Bool.and_eq_true, decide_eq_true_eq] at h
  exact h.1
end Go.Proofs.Ytchaegfdcdlfaaa.X

-- Printed for this session by a program of its own over an edited copy of the translation's print.

-- Printed for this session by a program of its own over an edited copy of the translation's print.

namespace Go.Proofs.Ytchaegfdcdlfaaa.X
open Go.RowKit Go.Proofs.YtchaegfdcdlfaaaW.PrintWords Go.Proofs.YtchaegfdcdlfaaaW.PrintLast Go.Proofs.YtchaegfdcdlfaaaW.PrintMore
attribute [local go_sem] max2_int min2_int max_two min_two max_three min_three max_four min_four   -- for this text's walks alone
set_option linter.unusedVariables false
set_option linter.unusedSimpArgs false

/-! ### rolodexlaw11_DeltaParts: function 17 -/
mutual
def rolodexlaw11_DeltaParts.j0 : Nat → ByteArray → List (S67) → List (S67) → Bool → Bool → List (S67) → Option (Bool)
  | 0, _, _, _, _, _, _ => none
  | k + 1, x0, x1, x2, x7, x35, x94 => if x35 = true then (some x7) else ((delta_Apply.f k x0 x1).bind fun bt550 => ((delta_Apply.f k x0 x2).bind fun bt552 => (if x94.length + x1.length < 3518437208883 then ((some (x94 ++ x1 : List (S67))).bind fun y554 => (if y554.length + x2.length < 3518437208883 then ((delta_Apply.f k x0 (y554 ++ x2)).bind fun bt560 => (if bt550.2 = true then (rolodexlaw11_DeltaParts.j1 k x1 x2 bt550.1 bt552.1 bt560.1 bt560.2 (!bt552.2)) else (rolodexlaw11_DeltaParts.j1 k x1 x2 bt550.1 bt552.1 bt560.1 bt560.2 true))) else (none))) else (none))))
def rolodexlaw11_DeltaParts.j1 : Nat → List (S67) → List (S67) → ByteArray → ByteArray → ByteArray → Bool → Bool → Option (Bool)
  | 0, _, _, _, _, _, _, _ => none
  | k + 1, x1, x2, x10, x12, x14, x15, x63 => if x63 = true then (if x15 = true then (some false) else (some (x14.toList == ([] : List UInt8)))) else (if (wrap64 ((x10.size : Int) + (x12.size : Int))) > 200 then (some (!x15)) else (if (wrap64 ((x1.length : Int) + (x2.length : Int))) > 60 then (some (!x15)) else (if x15 = true then (if x10.size + x12.size ≤ 9223372036854775807 then (some (x14.toList == (x10 ++ x12).toList)) else (none)) else (some false))))
end
def rolodexlaw11_DeltaParts.f (k : Nat) (a0 : ByteArray) (l1 : List (S67)) (l2 : List (S67)) : Option (Bool) := (rolodexlaw11_awake.f).bind fun t547 => ((rolodexlaw11_few.f k l1).bind fun t548 => ((rolodexlaw11_few.f k l2).bind fun t549 => (if t547 = true then (if t548 = true then (if t549 = true then (rolodexlaw11_DeltaParts.j0 k a0 l1 l2 t547 (decide ((a0.size : Int) > 300)) ([] : List (S67))) else (rolodexlaw11_DeltaParts.j0 k a0 l1 l2 t547 true ([] : List (S67)))) else (rolodexlaw11_DeltaParts.j0 k a0 l1 l2 t547 true ([] : List (S67)))) else (rolodexlaw11_DeltaParts.j0 k a0 l1 l2 t547 true ([] : List (S67))))))
theorem rolodexlaw11_DeltaParts.mono_l : ∀ k, (∀ y0 y1 y2 y3 y4 y5, LeO (rolodexlaw11_DeltaParts.j0 k y0 y1 y2 y3 y4 y5) (rolodexlaw11_DeltaParts.j0 (k + 1) y0 y1 y2 y3 y4 y5)) ∧ (∀ y0 y1 y2 y3 y4 y5 y6, LeO (rolodexlaw11_DeltaParts.j1 k y0 y1 y2 y3 y4 y5 y6) (rolodexlaw11_DeltaParts.j1 (k + 1) y0 y1 y2 y3 y4 y5 y6))
  | 0 => ⟨fun _ _ _ _ _ _ r h => by simp [rolodexlaw11_DeltaParts.j0] at h, fun _ _ _ _ _ _ _ r h => by simp [rolodexlaw11_DeltaParts.j1] at h⟩
  | k + 1 => by
    obtain ⟨ih0, ih1⟩ := rolodexlaw11_DeltaParts.mono_l k
    refine ⟨?_, ?_⟩
    · intro y0 y1 y2 y3 y4 y5
      unfold rolodexlaw11_DeltaParts.j0
      repeat' first
      | (with_reducible exact ih0 _ _ _ _ _ _)
      | (with_reducible exact ih1 _ _ _ _ _ _ _)
      | (with_reducible exact delta_Apply.mono _ _ _)
      | (with_reducible exact rolodexlaw11_few.mono _ _)
      | (with_reducible exact LeO.refl _)
      | (with_reducible exact LeO.none _)
      | (with_reducible refine LeO.ite ?_ ?_)
      | (with_reducible refine LeO.bind ?_ (fun _ => ?_))
      | exact ih0 _ _ _ _ _ _
      | exact ih1 _ _ _ _ _ _ _
      | exact delta_Apply.mono _ _ _
      | exact rolodexlaw11_few.mono _ _
      | exact LeO.none _
      | refine LeO.ite ?_ ?_
      | refine LeO.bind ?_ (fun _ => ?_)
    · intro y0 y1 y2 y3 y4 y5 y6
      unfold rolodexlaw11_DeltaParts.j1
      repeat' first
      | (with_reducible exact ih0 _ _ _ _ _ _)
      | (with_reducible exact ih1 _ _ _ _ _ _ _)
      | (with_reducible exact delta_Apply.mono _ _ _)
      | (with_reducible exact rolodexlaw11_few.mono _ _)
      | (with_reducible exact LeO.refl _)
      | (with_reducible exact LeO.none _)
      | (with_reducible refine LeO.ite ?_ ?_)
      | (with_reducible refine LeO.bind ?_ (fun _ => ?_))
      | exact ih0 _ _ _ _ _ _
      | exact ih1 _ _ _ _ _ _ _
      | exact delta_Apply.mono _ _ _
      | exact rolodexlaw11_few.mono _ _
      | exact LeO.none _
      | refine LeO.ite ?_ ?_
      | refine LeO.bind ?_ (fun _ => ?_)
theorem rolodexlaw11_DeltaParts.mono : ∀ a0 a1 a2 k, LeO (rolodexlaw11_DeltaParts.f k a0 a1 a2) (rolodexlaw11_DeltaParts.f (k + 1) a0 a1 a2) := by
  intro a0 a1 a2 k
  obtain ⟨ih0, ih1⟩ := rolodexlaw11_DeltaParts.mono_l k
  unfold rolodexlaw11_DeltaParts.f
  repeat' first
      | (with_reducible exact ih0 _ _ _ _ _ _)
      | (with_reducible exact ih1 _ _ _ _ _ _ _)
      | (with_reducible exact delta_Apply.mono _ _ _)
      | (with_reducible exact rolodexlaw11_few.mono _ _)
      | (with_reducible exact LeO.refl _)
      | (with_reducible exact LeO.none _)
      | (with_reducible refine LeO.ite ?_ ?_)
      | (with_reducible refine LeO.bind ?_ (fun _ => ?_))
      | exact ih0 _ _ _ _ _ _
      | exact ih1 _ _ _ _ _ _ _
      | exact delta_Apply.mono _ _ _
      | exact rolodexlaw11_few.mono _ _
      | exact LeO.none _
      | refine LeO.ite ?_ ?_
      | refine LeO.bind ?_ (fun _ => ?_)
set_option maxHeartbeats 8000000 in
set_option maxRecDepth 100000 in
theorem rolodexlaw11_DeltaParts.calls (k : Nat) (a0 : ByteArray) (A1 : Option Addr) (c1 : Nat) (l1 : List (S67)) (A2 : Option Addr) (c2 : Nat) (l2 : List (S67)) (r : Bool) (w : World) (hr1 : Kd.C k67 w A1 l1.length l1) (hc1 : l1.length ≤ c1) (hr2 : Kd.C k67 w A2 l2.length l2) (hc2 : l2.length ≤ c2) (h : rolodexlaw11_DeltaParts.f k a0 l1 l2 = some r) :
    Calls Try.prog 17 #[.string a0, .slice A1 l1.length c1, .slice A2 l2.length c2] w fun e w' => e = .returned (.bool r) ∧ Below w.heap.size w w' := by
  have HR1 := Aside0.mk hr1
  have HC1 := Aside0.mk hc1
  clear hr1 hc1
  have HR2 := Aside0.mk hr2
  have HC2 := Aside0.mk hc2
  clear hr2 hc2
  have HB := Aside0.mk (Below.refl w.heap.size w)
  have H : ((rolodexlaw11_awake.f).bind fun t547 => ((rolodexlaw11_few.f k l1).bind fun t548 => ((rolodexlaw11_few.f k l2).bind fun t549 => (if t547 = true then (if t548 = true then (if t549 = true then (rolodexlaw11_DeltaParts.j0 k a0 l1 l2 t547 (decide ((a0.size : Int) > 300)) ([] : List (S67))) else (rolodexlaw11_DeltaParts.j0 k a0 l1 l2 t547 true ([] : List (S67)))) else (rolodexlaw11_DeltaParts.j0 k a0 l1 l2 t547 true ([] : List (S67)))) else (rolodexlaw11_DeltaParts.j0 k a0 l1 l2 t547 true ([] : List (S67))))))) = some r := h
  clear h
  replace H := Option.bind_eq_some_iff.mp H
  obtain ⟨t547, A40, H⟩ := H
  replace H : ((rolodexlaw11_few.f k l1).bind fun t548 => ((rolodexlaw11_few.f k l2).bind fun t549 => (if t547 = true then (if t548 = true then (if t549 = true then (rolodexlaw11_DeltaParts.j0 k a0 l1 l2 t547 (decide ((a0.size : Int) > 300)) ([] : List (S67))) else (rolodexlaw11_DeltaParts.j0 k a0 l1 l2 t547 true ([] : List (S67)))) else (rolodexlaw11_DeltaParts.j0 k a0 l1 l2 t547 true ([] : List (S67)))) else (rolodexlaw11_DeltaParts.j0 k a0 l1 l2 t547 true ([] : List (S67)))))) = some r := H
  have A4 := Aside0.mk A40
  clear A40
  replace H := Option.bind_eq_some_iff.mp H
  obtain ⟨t548, A50, H⟩ := H
  replace H : ((rolodexlaw11_few.f k l2).bind fun t549 => (if t547 = true then (if t548 = true then (if t549 = true then (rolodexlaw11_DeltaParts.j0 k a0 l1 l2 t547 (decide ((a0.size : Int) > 300)) ([] : List (S67))) else (rolodexlaw11_DeltaParts.j0 k a0 l1 l2 t547 true ([] : List (S67)))) else (rolodexlaw11_DeltaParts.j0 k a0 l1 l2 t547 true ([] : List (S67)))) else (rolodexlaw11_DeltaParts.j0 k a0 l1 l2 t547 true ([] : List (S67))))) = some r := H
  have A5 := Aside0.mk A50
  clear A50
  replace H := Option.bind_eq_some_iff.mp H
  obtain ⟨t549, A60, H⟩ := H
  replace H : (if t547 = true then (if t548 = true then (if t549 = true then (rolodexlaw11_DeltaParts.j0 k a0 l1 l2 t547 (decide ((a0.size : Int) > 300)) ([] : List (S67))) else (rolodexlaw11_DeltaParts.j0 k a0 l1 l2 t547 true ([] : List (S67)))) else (rolodexlaw11_DeltaParts.j0 k a0 l1 l2 t547 true ([] : List (S67)))) else (rolodexlaw11_DeltaParts.j0 k a0 l1 l2 t547 true ([] : List (S67)))) = some r := H
  have A6 := Aside0.mk A60
  clear A60
  have HC7 := Aside0.mk H
  clear H
  go_enter Try.func17, Try.ntmps17
  go_upto_region 4 with (first | ((with_reducible refine gate_callee (f := 48) rfl ?_); refine goesL_ (some 16) rfl rfl Try.func48 (by kernel_rfl) rfl #[] rfl (by (try simp only [List.map_toArray, List.map_cons, List.map_nil]); first | done | rfl | (simp only [List.length_drop, List.length_take]; rfl)) ?_; (with_reducible refine (rolodexlaw11_awake.calls  t547 _ A4.out).mono ?_); rintro e w8 ⟨rfl, hb⟩; refine ⟨_, rfl, ?_⟩; have n0_ := Aside0.mk (below_step (by repeat (first | (with_reducible first | exact HB.out | apply below_alloc | apply pw_below_drewN | apply below_drew1) | exact HB.out)) hb); clear HB; have HB := n0_; clear n0_; (try clear hb); (try clear hb2); (try clear hk); (try clear hi)) | ((with_reducible refine gate_callee (f := 49) rfl ?_); refine goesL_ (some 18) rfl rfl Try.func49 (by kernel_rfl) rfl #[.slice A1 l1.length c1] rfl (by (try simp only [List.map_toArray, List.map_cons, List.map_nil]); first | done | rfl | (simp only [List.length_drop, List.length_take]; rfl)) ?_; (with_reducible refine (rolodexlaw11_few.calls k _ _ l1 t548 _ ?side1 ?side2 A5.out).mono ?_); (case side1 => repeat (first | exact (Kd.C_below HR1.out HB.out) | (with_reducible refine Kd.C_alloc ?_ _) | (with_reducible refine Kd.C_drewN ?_ _) | (with_reducible refine Kd.C_drew ?_))); (case side2 => exact HC1.out); rintro e w' ⟨rfl, ⟨nd, rfl⟩⟩; refine ⟨_, rfl, ?_⟩) | ((with_reducible refine gate_callee (f := 49) rfl ?_); refine goesL_ (some 20) rfl rfl Try.func49 (by kernel_rfl) rfl #[.slice A2 l2.length c2] rfl (by (try simp only [List.map_toArray, List.map_cons, List.map_nil]); first | done | rfl | (simp only [List.length_drop, List.length_take]; rfl)) ?_; (with_reducible refine (rolodexlaw11_few.calls k _ _ l2 t549 _ ?side1 ?side2 A6.out).mono ?_); (case side1 => repeat (first | exact (Kd.C_below HR2.out (by repeat (first | (with_reducible first | exact HB.out | apply below_alloc | apply pw_below_drewN | apply below_drew1) | exact HB.out))) | (with_reducible refine Kd.C_alloc ?_ _) | (with_reducible refine Kd.C_drewN ?_ _) | (with_reducible refine Kd.C_drew ?_))); (case side2 => exact HC2.out); rintro e w' ⟨rfl, ⟨nd, rfl⟩⟩; refine ⟨_, rfl, ?_⟩))
  (try simp only [Act.put, List.setIfInBounds_toArray, List.set_cons_zero, List.set_cons_succ])
  go_cut [35] (fun v35 wc => ∃ (kq : Nat) (x35_6 : Bool), v35 = .bool x35_6 ∧ Aside0 (rolodexlaw11_DeltaParts.j0 kq a0 l1 l2 t547 x35_6 ([] : List (S67)) = some r) ∧ Aside0 (kq ≤ k) ∧ Aside0 (Kd.R k67 67 wc w.heap.size (fun _ => True) (.slice none 0 0) ([] : List (S67))) ∧ Aside0 (Below w.heap.size w wc))
  case first =>
    have H := HC7.out
    clear HC7
    by_cases c9 : t547 = true
    · subst c9
      have H1 : (if t548 = true then (if t549 = true then (rolodexlaw11_DeltaParts.j0 k a0 l1 l2 true (decide ((a0.size : Int) > 300)) ([] : List (S67))) else (rolodexlaw11_DeltaParts.j0 k a0 l1 l2 true true ([] : List (S67)))) else (rolodexlaw11_DeltaParts.j0 k a0 l1 l2 true true ([] : List (S67)))) = some r := by rw [if_pos rfl] at H; exact H
      clear H
      have H := H1
      clear H1
      by_cases c10 : t548 = true
      · subst c10
        have H1 : (if t549 = true then (rolodexlaw11_DeltaParts.j0 k a0 l1 l2 true (decide ((a0.size : Int) > 300)) ([] : List (S67))) else (rolodexlaw11_DeltaParts.j0 k a0 l1 l2 true true ([] : List (S67)))) = some r := by rw [if_pos rfl] at H; exact H
        clear H
        have H := H1
        clear H1
        by_cases c11 : t549 = true
        · subst c11
          have H1 : (rolodexlaw11_DeltaParts.j0 k a0 l1 l2 true (decide ((a0.size : Int) > 300)) ([] : List (S67))) = some r := by rw [if_pos rfl] at H; exact H
          clear H
          have H := H1
          clear H1
          have H' := Aside0.mk H
          clear H
          go_wp2
          go_meet
          case rel => exact ⟨_, (decide ((a0.size : Int) > 300)), (by first | rfl | (simp; done) | (simp [*]; done)), H', ⟨by first | omega | exact Nat.le_refl _⟩, ⟨by first | exact Kd.R_nil _ _ _ _ _ | exact Kd.N_nil _ _ _ _ _ | exact Kd.V_nil _ _ _ _ _ | exact Kd.Q_nil _ _ _ _ _ | exact Kd.S_nil _ _ _ _ _⟩, ⟨by repeat (first | (with_reducible first | exact HB.out | apply below_alloc | apply pw_below_drewN | apply below_drew1) | exact HB.out)⟩⟩
        · replace c11 := Bool.eq_false_iff.mpr c11
          subst c11
          have H1 : (rolodexlaw11_DeltaParts.j0 k a0 l1 l2 true true ([] : List (S67))) = some r := by rw [if_neg (show ¬ (false = true) by decide)] at H; exact H
          clear H
          have H := H1
          clear H1
          have H' := Aside0.mk H
          clear H
          go_wp2
          go_meet
          case rel => exact ⟨_, (true), (by first | rfl | (simp; done) | (simp [*]; done)), H', ⟨by first | omega | exact Nat.le_refl _⟩, ⟨by first | exact Kd.R_nil _ _ _ _ _ | exact Kd.N_nil _ _ _ _ _ | exact Kd.V_nil _ _ _ _ _ | exact Kd.Q_nil _ _ _ _ _ | exact Kd.S_nil _ _ _ _ _⟩, ⟨by repeat (first | (with_reducible first | exact HB.out | apply below_alloc | apply pw_below_drewN | apply below_drew1) | exact HB.out)⟩⟩
      · replace c10 := Bool.eq_false_iff.mpr c10
        subst c10
        have H1 : (rolodexlaw11_DeltaParts.j0 k a0 l1 l2 true true ([] : List (S67))) = some r := by rw [if_neg (show ¬ (false = true) by decide)] at H; exact H
        clear H
        have H := H1
        clear H1
        have H' := Aside0.mk H
        clear H
        go_wp2
        go_meet
        case rel => exact ⟨_, (true), (by first | rfl | (simp; done) | (simp [*]; done)), H', ⟨by first | omega | exact Nat.le_refl _⟩, ⟨by first | exact Kd.R_nil _ _ _ _ _ | exact Kd.N_nil _ _ _ _ _ | exact Kd.V_nil _ _ _ _ _ | exact Kd.Q_nil _ _ _ _ _ | exact Kd.S_nil _ _ _ _ _⟩, ⟨by repeat (first | (with_reducible first | exact HB.out | apply below_alloc | apply pw_below_drewN | apply below_drew1) | exact HB.out)⟩⟩
    · replace c9 := Bool.eq_false_iff.mpr c9
      subst c9
      have H1 : (rolodexlaw11_DeltaParts.j0 k a0 l1 l2 false true ([] : List (S67))) = some r := by rw [if_neg (show ¬ (false = true) by decide)] at H; exact H
      clear H
      have H := H1
      clear H1
      have H' := Aside0.mk H
      clear H
      go_wp2
      go_meet
      case rel => exact ⟨_, (true), (by first | rfl | (simp; done) | (simp [*]; done)), H', ⟨by first | omega | exact Nat.le_refl _⟩, ⟨by first | exact Kd.R_nil _ _ _ _ _ | exact Kd.N_nil _ _ _ _ _ | exact Kd.V_nil _ _ _ _ _ | exact Kd.Q_nil _ _ _ _ _ | exact Kd.S_nil _ _ _ _ _⟩, ⟨by repeat (first | (with_reducible first | exact HB.out | apply below_alloc | apply pw_below_drewN | apply below_drew1) | exact HB.out)⟩⟩
  case rest =>
    clear HC7
    try clear c1
    try clear c2
    try clear p2
    try clear c4
    try clear c9
    try clear c10
    try clear c11
    obtain ⟨kq, x35_6, rfl, HA, HJ6, HO_94, HB⟩ := hcut
    cases kq with
    | zero => exact absurd HA.out (by simp [rolodexlaw11_DeltaParts.j0])
    | succ kj6 =>
      have H := HA.out
      clear HA
      simp only [rolodexlaw11_DeltaParts.j0] at H
      by_cases c12 : x35_6 = true
      · subst c12
        have H1 : (some t547) = some r := by rw [if_pos rfl] at H; exact H
        clear H
        have H := H1
        clear H1
        obtain rfl := Option.some.inj H
        go_wp2
        go_ret
        exact ⟨by first | rfl | (simp [errW_none, errW_some] <;> rfl) | (simp [*, errW_none, errW_some] <;> rfl), by repeat (first | (with_reducible first | exact HB.out | apply below_alloc | apply pw_below_drewN | apply below_drew1) | exact HB.out)⟩
      · replace c12 := Bool.eq_false_iff.mpr c12
        subst c12
        have H1 : ((delta_Apply.f kj6 a0 l1).bind fun bt550 => ((delta_Apply.f kj6 a0 l2).bind fun bt552 => (if ([] : List (S67)).length + l1.length < 3518437208883 then ((some (([] : List (S67)) ++ l1 : List (S67))).bind fun y554 => (if y554.length + l2.length < 3518437208883 then ((delta_Apply.f kj6 a0 (y554 ++ l2)).bind fun bt560 => (if bt550.2 = true then (rolodexlaw11_DeltaParts.j1 kj6 l1 l2 bt550.1 bt552.1 bt560.1 bt560.2 (!bt552.2)) else (rolodexlaw11_DeltaParts.j1 kj6 l1 l2 bt550.1 bt552.1 bt560.1 bt560.2 true))) else (none))) else (none)))) = some r := by rw [if_neg (show ¬ (false = true) by decide)] at H; exact H
        clear H
        have H := H1
        clear H1
        replace H := Option.bind_eq_some_iff.mp H
        obtain ⟨⟨t550, t551⟩, A130, H⟩ := H
        replace H : ((delta_Apply.f kj6 a0 l2).bind fun bt552 => (if ([] : List (S67)).length + l1.length < 3518437208883 then ((some (([] : List (S67)) ++ l1 : List (S67))).bind fun y554 => (if y554.length + l2.length < 3518437208883 then ((delta_Apply.f kj6 a0 (y554 ++ l2)).bind fun bt560 => (if t551 = true then (rolodexlaw11_DeltaParts.j1 kj6 l1 l2 t550 bt552.1 bt560.1 bt560.2 (!bt552.2)) else (rolodexlaw11_DeltaParts.j1 kj6 l1 l2 t550 bt552.1 bt560.1 bt560.2 true))) else (none))) else (none))) = some r := H
        have A13 := Aside0.mk A130
        clear A130
        replace H := Option.bind_eq_some_iff.mp H
        obtain ⟨⟨t552, t553⟩, A140, H⟩ := H
        replace H : (if ([] : List (S67)).length + l1.length < 3518437208883 then ((some (([] : List (S67)) ++ l1 : List (S67))).bind fun y554 => (if y554.length + l2.length < 3518437208883 then ((delta_Apply.f kj6 a0 (y554 ++ l2)).bind fun bt560 => (if t551 = true then (rolodexlaw11_DeltaParts.j1 kj6 l1 l2 t550 t552 bt560.1 bt560.2 (!t553)) else (rolodexlaw11_DeltaParts.j1 kj6 l1 l2 t550 t552 bt560.1 bt560.2 true))) else (none))) else (none)) = some r := H
        have A14 := Aside0.mk A140
        clear A140
        by_cases c15 : ([] : List (S67)).length + l1.length < 3518437208883
        · rw [if_pos c15] at H
          have LMc15 := Aside0.mk c15
          clear c15
          obtain ⟨y554, hy554⟩ : ∃ y_ : List (S67), y_ = (([] : List (S67)) ++ l1) := ⟨_, rfl⟩
          replace H : (if y554.length + l2.length < 3518437208883 then ((delta_Apply.f kj6 a0 (y554 ++ l2)).bind fun bt560 => (if t551 = true then (rolodexlaw11_DeltaParts.j1 kj6 l1 l2 t550 t552 bt560.1 bt560.2 (!t553)) else (rolodexlaw11_DeltaParts.j1 kj6 l1 l2 t550 t552 bt560.1 bt560.2 true))) else (none)) = some r := by first | (rw [hy554]; with_reducible exact H) | (have H2_ := (Option.bind_some _ _).symm.trans H; rw [hy554]; with_reducible exact H2_) | (have H2_ := (Option.bind_some _ _).symm.trans H; with_reducible exact H2_) | with_reducible exact H | (rw [hy554]; exact H) | exact H
          have Ny554 := Aside0.mk hy554
          clear hy554
          by_cases c16 : y554.length + l2.length < 3518437208883
          · rw [if_pos c16] at H
            have LMc16 := Aside0.mk c16
            clear c16
            obtain ⟨y557, hy557⟩ : ∃ y_ : List (S67), y_ = (y554 ++ l2) := ⟨_, rfl⟩
            replace H : ((delta_Apply.f kj6 a0 y557).bind fun bt560 => (if t551 = true then (rolodexlaw11_DeltaParts.j1 kj6 l1 l2 t550 t552 bt560.1 bt560.2 (!t553)) else (rolodexlaw11_DeltaParts.j1 kj6 l1 l2 t550 t552 bt560.1 bt560.2 true))) = some r := by first | (rw [hy557]; with_reducible exact H) | (have H2_ := (Option.bind_some _ _).symm.trans H; rw [hy557]; with_reducible exact H2_) | (have H2_ := (Option.bind_some _ _).symm.trans H; with_reducible exact H2_) | with_reducible exact H | (rw [hy557]; exact H) | exact H
            have Ny557 := Aside0.mk hy557
            clear hy557
            replace H := Option.bind_eq_some_iff.mp H
            obtain ⟨⟨t560, t561⟩, A170, H⟩ := H
            replace H : (if t551 = true then (rolodexlaw11_DeltaParts.j1 kj6 l1 l2 t550 t552 t560 t561 (!t553)) else (rolodexlaw11_DeltaParts.j1 kj6 l1 l2 t550 t552 t560 t561 true)) = some r := H
            have A17 := Aside0.mk A170
            clear A170
            have HC18 := Aside0.mk H
            clear H
            go_upto_region 9 with (first | ((with_reducible refine gate_callee (f := 56) rfl ?_); refine goesL_ (some 40) rfl rfl Try.func56 (by kernel_rfl) rfl #[.string a0, .slice A1 l1.length c1] rfl (by (try simp only [List.map_toArray, List.map_cons, List.map_nil]); first | done | rfl | (simp only [List.length_drop, List.length_take]; rfl)) ?_; (with_reducible refine (delta_Apply.calls kj6 a0 _ _ l1 t550 t551 _ ?side1 ?side2 A13.out).mono ?_); (case side1 => repeat (first | exact (Kd.C_below HR1.out HB.out) | (with_reducible refine Kd.C_alloc ?_ _) | (with_reducible refine Kd.C_drewN ?_ _) | (with_reducible refine Kd.C_drew ?_))); (case side2 => exact HC1.out); rintro e w19 ⟨rfl, hb⟩; refine ⟨_, rfl, ?_⟩; have n0_ := Aside0.mk (Kd.R_below (by (with_reducible repeat (first | apply Kd.R_alloc | apply Kd.R_drewN | apply Kd.R_drew)); exact HO_94.out) hb); have n1_ := Aside0.mk (below_step (by repeat (first | (with_reducible first | exact HB.out | apply below_alloc | apply pw_below_drewN | apply below_drew1) | exact HB.out)) hb); clear HO_94; clear HB; have HO_94 := n0_; have HB := n1_; clear n0_ n1_; (try clear hb); (try clear hb2); (try clear hk); (try clear hi)) | ((with_reducible refine gate_callee (f := 56) rfl ?_); refine goesL_ (some 46) rfl rfl Try.func56 (by kernel_rfl) rfl #[.string a0, .slice A2 l2.length c2] rfl (by (try simp only [List.map_toArray, List.map_cons, List.map_nil]); first | done | rfl | (simp only [List.length_drop, List.length_take]; rfl)) ?_; (with_reducible refine (delta_Apply.calls kj6 a0 _ _ l2 t552 t553 _ ?side1 ?side2 A14.out).mono ?_); (case side1 => repeat (first | exact (Kd.C_below HR2.out HB.out) | (with_reducible refine Kd.C_alloc ?_ _) | (with_reducible refine Kd.C_drewN ?_ _) | (with_reducible refine Kd.C_drew ?_))); (case side2 => exact HC2.out); rintro e w20 ⟨rfl, hb⟩; refine ⟨_, rfl, ?_⟩; have n0_ := Aside0.mk (Kd.R_below (by (with_reducible repeat (first | apply Kd.R_alloc | apply Kd.R_drewN | apply Kd.R_drew)); exact HO_94.out) hb); have n1_ := Aside0.mk (below_step (by repeat (first | (with_reducible first | exact HB.out | apply below_alloc | apply pw_below_drewN | apply below_drew1) | exact HB.out)) hb); clear HO_94; clear HB; have HO_94 := n0_; have HB := n1_; clear n0_ n1_; (try clear hb); (try clear hb2); (try clear hk); (try clear hi)) | ((with_reducible refine gate_builtin (b := .append) (xs := #[.const (.slice none 0 0), .tmp 51]) rfl ?_); (try (refine gate_guard (by rfl) ?_; dsimp only)); at_builtin; refine Kd.R_append_rows k67 (w0 := w) w.heap.size rfl _ _ 55 67 (.agg #[(.bool false), (.int .i64 0), (.int .i64 0), (.string ⟨#[]⟩)]) 40 rfl Try.underlying55 info67 rfl (by decide) (by omega) (.slice none 0 0) ([] : List (S67)) l1 _ _ _ (fun _ => True) (fun _ => False) rfl rfl ?aO ?aR (fun _ _ h => h) (fun _ h => h.elim) ?aF ?aB ?aS ?aL ?_; (case aR => repeat (first | exact (Kd.C_below HR1.out HB.out) | (with_reducible refine Kd.C_alloc ?_ _) | (with_reducible refine Kd.C_drewN ?_ _) | (with_reducible refine Kd.C_drew ?_))); (case aB => exact (by repeat (first | (with_reducible first | exact HB.out | apply below_alloc | apply pw_below_drewN | apply below_drew1) | exact HB.out))); (case aF => exact (fun _ _ => trivial)); (case aO => exact (by (with_reducible repeat (first | apply Kd.R_alloc | apply Kd.R_drewN | apply Kd.R_drew)); exact HO_94.out)); (case aS => exact (below_size (by repeat (first | (with_reducible first | exact HB.out | apply below_alloc | apply pw_below_drewN | apply below_drew1) | exact HB.out)))); (case aL => have := LMc15.out; omega); intro v555 w21 ho hb hg hat; rw [← Ny554.out] at ho; have n0_ := Aside0.mk (hb); have n1_ := Aside0.mk (ho); clear HB; clear HO_94; have HB := n0_; have HO556 := n1_; clear n0_ n1_; clear ho hb hg hat) | ((with_reducible refine gate_builtin (b := .append) (xs := #[.tmp 52, .tmp 53]) rfl ?_); (try (refine gate_guard (by rfl) ?_; dsimp only)); at_builtin; refine Kd.R_append_rows k67 (w0 := w) w.heap.size rfl (.tmp 52) (.tmp 53) 55 67 (.agg #[(.bool false), (.int .i64 0), (.int .i64 0), (.string ⟨#[]⟩)]) 40 rfl Try.underlying55 info67 rfl (by decide) (by omega) v555 y554 l2 _ _ _ (fun _ => True) (fun _ => False) rfl rfl ?aO ?aR (fun _ _ h => h) (fun _ h => h.elim) ?aF ?aB ?aS ?aL ?_; (case aR => repeat (first | exact (Kd.C_below HR2.out HB.out) | (with_reducible refine Kd.C_alloc ?_ _) | (with_reducible refine Kd.C_drewN ?_ _) | (with_reducible refine Kd.C_drew ?_))); (case aB => exact (by repeat (first | (with_reducible first | exact HB.out | apply below_alloc | apply pw_below_drewN | apply below_drew1) | exact HB.out))); (case aF => exact (fun _ _ => trivial)); (case aO => exact (by (with_reducible repeat (first | apply Kd.R_alloc | apply Kd.R_drewN | apply Kd.R_drew)); exact HO556.out)); (case aS => exact (below_size (by repeat (first | (with_reducible first | exact HB.out | apply below_alloc | apply pw_below_drewN | apply below_drew1) | exact HB.out)))); (case aL => have := LMc16.out; omega); intro v558 w22 ho hb hg hat; rw [← Ny557.out] at ho; have n0_ := Aside0.mk (hb); have n1_ := Aside0.mk (ho); clear HB; clear HO556; have HB := n0_; have HO559 := n1_; clear n0_ n1_; clear ho hb hg hat; obtain ⟨Ao23, co23, eo23⟩ := Kd.R_slice HO559.out; subst eo23) | ((with_reducible refine gate_callee (f := 56) rfl ?_); refine goesL_ (some 55) rfl rfl Try.func56 (by kernel_rfl) rfl #[.string a0, .slice Ao23 y557.length co23] rfl (by (try simp only [List.map_toArray, List.map_cons, List.map_nil]); first | done | rfl | (simp only [List.length_drop, List.length_take]; rfl)) ?_; (with_reducible refine (delta_Apply.calls kj6 a0 _ _ y557 t560 t561 _ ?side1 ?side2 A17.out).mono ?_); (case side1 => repeat (first | exact (Kd.R_reads' HO559.out).2.2 | (with_reducible refine Kd.C_alloc ?_ _) | (with_reducible refine Kd.C_drewN ?_ _) | (with_reducible refine Kd.C_drew ?_))); (case side2 => exact (Kd.R_reads' HO559.out).2.1); rintro e w24 ⟨rfl, hb⟩; refine ⟨_, rfl, ?_⟩; have n0_ := Aside0.mk (Kd.R_below (by (with_reducible repeat (first | apply Kd.R_alloc | apply Kd.R_drewN | apply Kd.R_drew)); exact HO559.out) hb); have n1_ := Aside0.mk (below_step (by repeat (first | (with_reducible first | exact HB.out | apply below_alloc | apply pw_below_drewN | apply below_drew1) | exact HB.out)) hb); clear HO559; clear HB; have HO559 := n0_; have HB := n1_; clear n0_ n1_; (try clear hb); (try clear hb2); (try clear hk); (try clear hi)))
            (try simp only [Act.put, List.setIfInBounds_toArray, List.set_cons_zero, List.set_cons_succ])
            go_cut [63] (fun v63 wc => ∃ (kq : Nat) (x63_17 : Bool), v63 = .bool x63_17 ∧ Aside0 (rolodexlaw11_DeltaParts.j1 kq l1 l2 t550 t552 t560 t561 x63_17 = some r) ∧ Aside0 (kq ≤ kj6) ∧ Aside0 (Below w.heap.size w wc))
            case first =>
              have H := HC18.out
              clear HC18
              by_cases c25 : t551 = true
              · subst c25
                have H1 : (rolodexlaw11_DeltaParts.j1 kj6 l1 l2 t550 t552 t560 t561 (!t553)) = some r := by rw [if_pos rfl] at H; exact H
                clear H
                have H := H1
                clear H1
                have H' := Aside0.mk H
                clear H
                go_wp2
                go_meet
                case rel => exact ⟨_, (!t553), (by first | rfl | (simp; done) | (simp [*]; done)), H', ⟨by have := HJ6.out; first | omega | exact Nat.le_refl _⟩, ⟨by repeat (first | (with_reducible first | exact HB.out | apply below_alloc | apply pw_below_drewN | apply below_drew1) | exact HB.out)⟩⟩
              · replace c25 := Bool.eq_false_iff.mpr c25
                subst c25
                have H1 : (rolodexlaw11_DeltaParts.j1 kj6 l1 l2 t550 t552 t560 t561 true) = some r := by rw [if_neg (show ¬ (false = true) by decide)] at H; exact H
                clear H
                have H := H1
                clear H1
                have H' := Aside0.mk H
                clear H
                go_wp2
                go_meet
                case rel => exact ⟨_, (true), (by first | rfl | (simp; done) | (simp [*]; done)), H', ⟨by have := HJ6.out; first | omega | exact Nat.le_refl _⟩, ⟨by repeat (first | (with_reducible first | exact HB.out | apply below_alloc | apply pw_below_drewN | apply below_drew1) | exact HB.out)⟩⟩
            case rest =>
              clear HC18
              try clear c1
              try clear c2
              try clear p2
              try clear c4
              try clear c5
              try clear c9
              try clear c10
              try clear c11
              try clear c12
              try clear c15
              try clear c16
              try clear c17
              try clear c25
              try clear p2
              obtain ⟨kq, x63_17, rfl, HA, HJ17, HB⟩ := hcut
              cases kq with
              | zero => exact absurd HA.out (by simp [rolodexlaw11_DeltaParts.j1])
              | succ kj17 =>
                have H := HA.out
                clear HA
                simp only [rolodexlaw11_DeltaParts.j1] at H
                by_cases c26 : x63_17 = true
                · subst c26
                  have H1 : (if t561 = true then (some false) else (some (t560.toList == ([] : List UInt8)))) = some r := by rw [if_pos rfl] at H; exact H
                  clear H
                  have H := H1
                  clear H1
                  by_cases c27 : t561 = true
                  · subst c27
                    have H1 : (some false) = some r := by rw [if_pos rfl] at H; exact H
                    clear H
                    have H := H1
                    clear H1
                    obtain rfl := Option.some.inj H
                    go_wp2
                    go_ret
                    exact ⟨by first | rfl | (simp [errW_none, errW_some] <;> rfl) | (simp [*, errW_none, errW_some] <;> rfl), by repeat (first | (with_reducible first | exact HB.out | apply below_alloc | apply pw_below_drewN | apply below_drew1) | exact HB.out)⟩
                  · replace c27 := Bool.eq_false_iff.mpr c27
                    subst c27
                    have H1 : (some (t560.toList == ([] : List UInt8))) = some r := by rw [if_neg (show ¬ (false = true) by decide)] at H; exact H
                    clear H
                    have H := H1
                    clear H1
                    obtain rfl := Option.some.inj H
                    go_wp2
                    go_ret
                    exact ⟨by first | rfl | (simp [errW_none, errW_some] <;> rfl) | (simp [*, errW_none, errW_some] <;> rfl), by repeat (first | (with_reducible first | exact HB.out | apply below_alloc | apply pw_below_drewN | apply below_drew1) | exact HB.out)⟩
                · replace c26 := Bool.eq_false_iff.mpr c26
                  subst c26
                  have H1 : (if (wrap64 ((t550.size : Int) + (t552.size : Int))) > 200 then (some (!t561)) else (if (wrap64 ((l1.length : Int) + (l2.length : Int))) > 60 then (some (!t561)) else (if t561 = true then (if t550.size + t552.size ≤ 9223372036854775807 then (some (t560.toList == (t550 ++ t552).toList)) else (none)) else (some false)))) = some r := by rw [if_neg (show ¬ (false = true) by decide)] at H; exact H
                  clear H
                  have H := H1
                  clear H1
                  by_cases c28 : (wrap64 ((t550.size : Int) + (t552.size : Int))) > 200
                  · rw [if_pos c28] at H
                    have c28b0 : decide (200 < (wrap64 ((t550.size : Int) + (t552.size : Int)))) = true := decide_eq_true c28
                    clear c28
                    obtain rfl := Option.some.inj H
                    go_wp2
                    go_ret
                    exact ⟨by first | rfl | (simp [errW_none, errW_some] <;> rfl) | (simp [*, errW_none, errW_some] <;> rfl), by repeat (first | (with_reducible first | exact HB.out | apply below_alloc | apply pw_below_drewN | apply below_drew1) | exact HB.out)⟩
                  · rw [if_neg c28] at H
                    have c28b0 : decide (200 < (wrap64 ((t550.size : Int) + (t552.size : Int)))) = false := decide_eq_false c28
                    clear c28
                    by_cases c29 : (wrap64 ((l1.length : Int) + (l2.length : Int))) > 60
                    · rw [if_pos c29] at H
                      have c29b0 : decide (60 < (wrap64 ((l1.length : Int) + (l2.length : Int)))) = true := decide_eq_true c29
                      clear c29
                      obtain rfl := Option.some.inj H
                      go_wp2
                      go_ret
                      exact ⟨by first | rfl | (simp [errW_none, errW_some] <;> rfl) | (simp [*, errW_none, errW_some] <;> rfl), by repeat (first | (with_reducible first | exact HB.out | apply below_alloc | apply pw_below_drewN | apply below_drew1) | exact HB.out)⟩
                    · rw [if_neg c29] at H
                      have c29b0 : decide (60 < (wrap64 ((l1.length : Int) + (l2.length : Int)))) = false := decide_eq_false c29
                      clear c29
                      by_cases c30 : t561 = true
                      · subst c30
                        have H1 : (if t550.size + t552.size ≤ 9223372036854775807 then (some (t560.toList == (t550 ++ t552).toList)) else (none)) = some r := by rw [if_pos rfl] at H; exact H
                        clear H
                        have H := H1
                        clear H1
                        by_cases c31 : t550.size + t552.size ≤ 9223372036854775807
                        · rw [if_pos c31] at H
                          have c31b0 := eq_true c31
                          have c31b1 : decide (t550.size + t552.size ≤ 9223372036854775807) = true := decide_eq_true c31
                          try have c31b2 : (9223372036854775807 < t550.size + t552.size) = False := eq_false (Nat.not_lt.2 c31)
                          have cq_ : decide (200 < (t550.size : Int) + (t552.size : Int)) = false := by have hw_ : wrap64 ((t550.size : Int) + (t552.size : Int)) = (t550.size : Int) + (t552.size : Int) := (by unfold wrap64; omega); rw [← hw_]; exact c28b0
                          obtain rfl := Option.some.inj H
                          go_wp2
                          go_ret
                          exact ⟨by first | rfl | (simp [errW_none, errW_some] <;> rfl) | (simp [*, errW_none, errW_some] <;> rfl), by repeat (first | (with_reducible first | exact HB.out | apply below_alloc | apply pw_below_drewN | apply below_drew1) | exact HB.out)⟩
                        · rw [if_neg c31] at H
                          exact absurd H (by simp)
                      · replace c30 := Bool.eq_false_iff.mpr c30
                        subst c30
                        have H1 : (some false) = some r := by rw [if_neg (show ¬ (false = true) by decide)] at H; exact H
                        clear H
                        have H := H1
                        clear H1
                        obtain rfl := Option.some.inj H
                        go_wp2
                        go_ret
                        exact ⟨by first | rfl | (simp [errW_none, errW_some] <;> rfl) | (simp [*, errW_none, errW_some] <;> rfl), by repeat (first | (with_reducible first | exact HB.out | apply below_alloc | apply pw_below_drewN | apply below_drew1) | exact HB.out)⟩
          · rw [if_neg c16] at H
            exact absurd H (by simp)
        · rw [if_neg c15] at H
          exact absurd H (by simp)

end Go.Proofs.Ytchaegfdcdlfaaa.X
