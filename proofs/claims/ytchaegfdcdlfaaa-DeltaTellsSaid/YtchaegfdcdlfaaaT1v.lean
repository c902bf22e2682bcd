/- Texts of this claim, one behind the other: DRow, Xx76, DFew, DRMay, Xx82, Xx91, Xx92, DSame, Xx77, Xx89. -/
import Derived.Test.YtchaegfdcdlfaaaU1
import Derived.ProofKit
import Derived.OpenShut
import Derived.Deep.Slices
import Derived.Lib.SmallJoins
import Derived.Test.YtchaegfdcdlfaaaE1v
import Derived.Test.YtchaegfdcdlfaaaE2v

/- A list of pieces that came in, opened. -/
namespace Go.Proofs.Ytchaegfdcdlfaaa.X
set_option linter.unusedVariables false
open Go.ChangeShapes Go.WideShapes Go.ChangeAt Go.RowKit Go.Deep Go.Proofs.YtchaegfdcdlfaaaW.PrintWords Go.Proofs.YtchaegfdcdlfaaaW.PrintLast Go.Proofs.YtchaegfdcdlfaaaW.PrintMore

section
variable {H : Type} {enc : TypeId × Value → H} {w : World} {base : Nat} {spare : Nat → Bool} {held : Bool}
/-- What a piece that came in is. -/
def PcOk (p : S67) : Prop := (Lit.int .i64 p.f1).wf = true ∧ (Lit.int .i64 p.f2).wf = true ∧ p.f3.size ≤ maxLen
set_option maxRecDepth 100000 in
theorem trod_pc {fuel : Nat} {cs : List Value} {x : DataW H × List MemPlace} (h : DataW.trod enc Try.prog w base spare held fuel 67 cs = some x) : ∃ p : S67, cs = [.bool p.f0, .int .i64 p.f1, .int .i64 p.f2, .string p.f3] ∧ PcOk p := by
  obtain ⟨y0, y1, y2, y3, n, rfl, hl, h0, h1, h2, h3⟩ := Go.Joins.trod_struct4 Try.underlying67 h
  obtain ⟨a, ha, _⟩ := DataW.trod_bool (by kernel_rfl) h0
  obtain ⟨b, hb, _, hwb⟩ := DataW.trod_int (k := .i64) (by kernel_rfl) h1
  obtain ⟨c, hc, _, hwc⟩ := DataW.trod_int (k := .i64) (by kernel_rfl) h2
  obtain ⟨d, hd, _, hwd⟩ := DataW.trod_string (by kernel_rfl) h3
  have h4 : cs.length = 4 := by rw [hl]; kernel_rfl
  refine ⟨⟨a, b, c, d⟩, ?_, hwb, hwc, hwd⟩
  match cs, h4 with
  | [v0, v1, v2, v3], _ =>
    have ha2 : [v0] = [.bool a] := ha
    have hb2 : [v1] = [.int .i64 b] := hb
    have hc2 : [v2] = [.int .i64 c] := hc
    have hd2 : [v3] = [.string d] := hd
    simp only [List.cons.injEq, and_true] at ha2 hb2 hc2 hd2
    rw [ha2, hb2, hc2, hd2]
set_option maxRecDepth 100000 in
theorem open_pieces {A : Option Addr} {len cap : Nat} {d : DataW H} {p : List MemPlace} (h : DataW.Trod enc Try.prog w base spare held 55 (.slice A len cap) d p) :
    ∃ l : List S67, l.length = len ∧ len ≤ cap ∧ Kd.C k67 w A len l ∧ ∀ s ∈ l, PcOk s := by
  obtain ⟨fuel, hf⟩ := h
  rcases open_slice Try.underlying55 hf with ⟨hcs, _⟩ | ⟨a, l, c, m, n, D, Pl, hcs, hb, hl, hm, hmm, _, hx⟩
  · simp [Value.cells] at hcs
    obtain ⟨rfl, rfl, rfl⟩ := hcs
    exact ⟨[], rfl, Nat.le_refl _, ⟨rfl, by omega, fun h => absurd h (by omega)⟩, fun s hs => absurd hs (by simp)⟩
  · simp [Value.cells] at hcs
    obtain ⟨rfl, rfl, rfl⟩ := hcs
    have hlm : len ≤ m := by rw [hmm]; split <;> omega
    have h4 : Try.prog.cellsOf 67 = 4 := by kernel_rfl
    rw [h4] at hx
    haveI : Inhabited S67 := ⟨z67⟩
    obtain ⟨S, hS⟩ := choose_lt (α := S67) (n := len) (p := fun i s => PcOk s ∧ w.cells? base (a.add (i * 4)) 4 = some [.bool s.f0, .int .i64 s.f1, .int .i64 s.f2, .string s.f3]) (fun i hi => by
      obtain ⟨cs', h1, h2⟩ := hx i (by omega)
      obtain ⟨s, rfl, hs⟩ := trod_pc h2
      exact ⟨s, hs, h1⟩)
    refine ⟨(List.range len).map S, by simp, hl, ⟨by simp, by unfold maxLen at hm; omega, fun _ => ⟨a, rfl, fun j s hj => ?_⟩⟩, ?_⟩
    · have hjl : j < len := by
        have := (List.getElem?_eq_some_iff.1 hj).1
        simpa using this
      have hs : S j = s := by simpa [hjl] using hj
      subst hs
      refine ⟨[.bool (S j).f0, .int .i64 (S j).f1, .int .i64 (S j).f2, .string (S j).f3], rfl, k67_mk w (S j), fun i u hi => ?_⟩
      obtain ⟨_, hlen, hcell⟩ := World.cells?_some (hS j hjl).2
      have hi2 : i < 4 := by
        have := (List.getElem?_eq_some_iff.1 hi).1
        simpa using this
      have := hcell i hi2
      rw [Go.Deep.add_add] at this
      have e : j * k67.sz + i = j * 4 + i := rfl
      rw [e, this, hi]
    · intro s hs
      obtain ⟨i, hi, rfl⟩ := List.mem_map.1 hs
      exact (hS i (List.mem_range.1 hi)).1
end
end Go.Proofs.Ytchaegfdcdlfaaa.X

namespace Go.Proofs.Ytchaegfdcdlfaaa.X
open Go.RowKit Go.Proofs.YtchaegfdcdlfaaaW.PrintWords Go.Proofs.YtchaegfdcdlfaaaW.PrintLast Go.Proofs.YtchaegfdcdlfaaaW.PrintMore
attribute [local go_sem] max2_int min2_int max_two min_two max_three min_three max_four min_four   -- for this text's walks alone
set_option linter.unusedVariables false
set_option linter.unusedSimpArgs false

/-! ### rolodexlaw11_few: function 49 -/
def rolodexlaw11_few.l0 : Nat → List (S67) → Int → Option (Bool)
  | 0, _, _ => none
  | k + 1, x0, x3 => if x3 < (x0.length : Int) then (if 0 ≤ x3 then (if (((rd_T67 x0 x3).f3).size : Int) > 300 then (some false) else (rolodexlaw11_few.l0 k x0 (wrap64 (x3 + 1)))) else (none)) else (some true)
def rolodexlaw11_few.f (k : Nat) (l0 : List (S67)) : Option (Bool) := if (l0.length : Int) > 80 then (some false) else (rolodexlaw11_few.l0 k l0 0)
theorem rolodexlaw11_few.mono_l : ∀ k, (∀ y0 y1, LeO (rolodexlaw11_few.l0 k y0 y1) (rolodexlaw11_few.l0 (k + 1) y0 y1))
  | 0 => fun _ _ r h => by simp [rolodexlaw11_few.l0] at h
  | k + 1 => by
    have ih0 := rolodexlaw11_few.mono_l k
    · intro y0 y1
      unfold rolodexlaw11_few.l0
      repeat' first
      | (with_reducible exact ih0 _ _)
      | (with_reducible exact LeO.refl _)
      | (with_reducible exact LeO.none _)
      | (with_reducible refine LeO.ite ?_ ?_)
      | (with_reducible refine LeO.bind ?_ (fun _ => ?_))
      | exact ih0 _ _
      | exact LeO.none _
      | refine LeO.ite ?_ ?_
      | refine LeO.bind ?_ (fun _ => ?_)
theorem rolodexlaw11_few.mono : ∀ a0 k, LeO (rolodexlaw11_few.f k a0) (rolodexlaw11_few.f (k + 1) a0) := by
  intro a0 k
  have ih0 := rolodexlaw11_few.mono_l k
  unfold rolodexlaw11_few.f
  repeat' first
      | (with_reducible exact ih0 _ _)
      | (with_reducible exact LeO.refl _)
      | (with_reducible exact LeO.none _)
      | (with_reducible refine LeO.ite ?_ ?_)
      | (with_reducible refine LeO.bind ?_ (fun _ => ?_))
      | exact ih0 _ _
      | exact LeO.none _
      | refine LeO.ite ?_ ?_
      | refine LeO.bind ?_ (fun _ => ?_)
set_option maxHeartbeats 8000000 in
set_option maxRecDepth 100000 in
theorem rolodexlaw11_few.calls (k : Nat) (A0 : Option Addr) (c0 : Nat) (l0 : List (S67)) (r : Bool) (w : World) (hr0 : Kd.C k67 w A0 l0.length l0) (hc0 : l0.length ≤ c0) (h : rolodexlaw11_few.f k l0 = some r) :
    Calls Try.prog 49 #[.slice A0 l0.length c0] w fun e w' => e = .returned (.bool r) ∧ Drawn0 w w' := by
  have HR0 := Aside0.mk hr0
  have HC0 := Aside0.mk hc0
  clear hr0 hc0
  have H : (if (l0.length : Int) > 80 then (some false) else (rolodexlaw11_few.l0 k l0 0)) = some r := h
  clear h
  by_cases c2 : (l0.length : Int) > 80
  · rw [if_pos c2] at H
    have c2b0 : decide (80 < (l0.length : Int)) = true := decide_eq_true c2
    have c2b1 : decide (80 < l0.length) = true := decide_eq_true (by omega)
    clear c2
    obtain rfl := Option.some.inj H
    go_enter Try.func49, Try.ntmps49
    go_wp2
    go_ret
    exact ⟨by first | rfl | (simp; done) | (simp [*]; done), by repeat (first | exact Drawn0.refl _ | apply Drawn0.step)⟩
  · rw [if_neg c2] at H
    have c2b0 : decide (80 < (l0.length : Int)) = false := decide_eq_false c2
    have c2b1 : decide (80 < l0.length) = false := decide_eq_false (by omega)
    clear c2
    have H' := Aside0.mk H
    clear H
    go_enter Try.func49, Try.ntmps49
    go_wp2
    go_loopg [3] k (fun kq v3 w' => ∃ (x3_1 : Int), v3 = .int .i64 x3_1 ∧ Aside0 (rolodexlaw11_few.l0 kq l0 x3_1 = some r) ∧ Aside0 (kq ≤ k) ∧ Drawn0 w w')
    case atStart => exact ⟨(0), (by first | rfl | (simp; done) | (simp [*]; done)), H', ⟨Nat.le_refl _⟩, by repeat (first | exact Drawn0.refl _ | apply Drawn0.step)⟩
    case round =>
      clear H'
      try clear c2
      try clear c2b0
      try clear c2b1
      try clear p2
      obtain ⟨x3_1, rfl, HA, HK1, ⟨m1, rfl⟩⟩ := hrel
      cases gk with
      | zero => exact absurd HA.out (by simp [rolodexlaw11_few.l0])
      | succ k1 =>
        have H := HA.out
        clear HA
        simp only [rolodexlaw11_few.l0] at H
        by_cases c3 : x3_1 < (l0.length : Int)
        · rw [if_pos c3] at H
          have c3b0 : decide (x3_1 < (l0.length : Int)) = true := decide_eq_true c3
          clear c3
          by_cases c4 : 0 ≤ x3_1
          · rw [if_pos c4] at H
            have c4b0 : decide (0 ≤ x3_1) = true := decide_eq_true c4
            clear c4
            by_cases c5 : (((rd_T67 l0 x3_1).f3).size : Int) > 300
            · rw [if_pos c5] at H
              have c5b0 : decide (300 < (((rd_T67 l0 x3_1).f3).size : Int)) = true := decide_eq_true c5
              have c5b1 : decide (300 < ((rd_T67 l0 x3_1).f3).size) = true := decide_eq_true (by omega)
              clear c5
              obtain rfl := Option.some.inj H
              have p453 : 0 ≤ (x3_1 : Int) := of_decide_eq_true (by first | (with_reducible assumption) | assumption)
              have q453 : x3_1 < (l0.length : Int) := of_decide_eq_true (by first | (with_reducible assumption) | assumption)
              obtain ⟨ad453, e453, hx453_0, hx453_1, hx453_2, hx453_3⟩ := at_T67 HR0.out x3_1 p453 q453
              cases e453
              replace p453 := eq_true p453
              replace q453 := eq_true q453
              go_wp2
              go_ret
              exact ⟨by first | rfl | (simp; done) | (simp [*]; done), by repeat (first | exact Drawn0.refl _ | apply Drawn0.step)⟩
            · rw [if_neg c5] at H
              have c5b0 : decide (300 < (((rd_T67 l0 x3_1).f3).size : Int)) = false := decide_eq_false c5
              have c5b1 : decide (300 < ((rd_T67 l0 x3_1).f3).size) = false := decide_eq_false (by omega)
              clear c5
              have H' := Aside0.mk H
              clear H
              have p453 : 0 ≤ (x3_1 : Int) := of_decide_eq_true (by first | (with_reducible assumption) | assumption)
              have q453 : x3_1 < (l0.length : Int) := of_decide_eq_true (by first | (with_reducible assumption) | assumption)
              obtain ⟨ad453, e453, hx453_0, hx453_1, hx453_2, hx453_3⟩ := at_T67 HR0.out x3_1 p453 q453
              cases e453
              replace p453 := eq_true p453
              replace q453 := eq_true q453
              go_wp2
              go_roundg k1
              case measure => have := HK1.out; omega
              case rel => exact ⟨(wrap64 (x3_1 + 1)), (by first | rfl | (simp; done) | (simp [*]; done)), H', ⟨by have := HK1.out; omega⟩, by repeat (first | exact Drawn0.refl _ | apply Drawn0.step)⟩
          · rw [if_neg c4] at H
            exact absurd H (by simp)
        · rw [if_neg c3] at H
          have c3b0 : decide (x3_1 < (l0.length : Int)) = false := decide_eq_false c3
          clear c3
          obtain rfl := Option.some.inj H
          go_wp2
          go_ret
          exact ⟨by first | rfl | (simp; done) | (simp [*]; done), by repeat (first | exact Drawn0.refl _ | apply Drawn0.step)⟩

end Go.Proofs.Ytchaegfdcdlfaaa.X

/- Few pieces: what the law asks first. -/
namespace Go.Proofs.Ytchaegfdcdlfaaa.X
set_option linter.unusedVariables false
set_option linter.unusedSimpArgs false
open Go.RowKit Go.Maps Go.Proofs.YtchaegfdcdlfaaaW.PrintWords Go.Proofs.YtchaegfdcdlfaaaW.PrintLast Go.Proofs.YtchaegfdcdlfaaaW.PrintMore

theorem rd_next {l : List S67} {i : Nat} (h : i < l.length) : l.drop i = rd_T67 l (i : Int) :: l.drop (i + 1) := by
  rw [List.drop_eq_getElem_cons h]
  congr 1
  unfold rd_T67
  rw [Int.toNat_natCast, List.getD_eq_getElem?_getD, List.getElem?_eq_getElem h]
  rfl
theorem rd_mem {l : List S67} {i : Nat} (h : i < l.length) : rd_T67 l (i : Int) ∈ l := by
  unfold rd_T67
  rw [Int.toNat_natCast, List.getD_eq_getElem?_getD, List.getElem?_eq_getElem h]
  exact List.getElem_mem h
theorem wrap_next (i : Nat) (h : i ≤ 1000000000000) : wrap64 ((i : Int) + 1) = ((i + 1 : Nat) : Int) := by unfold wrap64; omega
/-- Few, and short. -/
def fewL (l : List S67) : Bool := decide (l.length ≤ 80) && l.all (fun p => decide (p.f3.size ≤ 300))
theorem few_l0 (l : List S67) (hl : l.length ≤ 80) : ∀ (d i k : Nat), l.length = i + d → d < k → rolodexlaw11_few.l0 k l (i : Int) = some ((l.drop i).all (fun p => decide (p.f3.size ≤ 300))) := by
  intro d
  induction d with
  | zero =>
    intro i k hi hk
    obtain ⟨k, rfl⟩ : ∃ k', k = k' + 1 := ⟨k - 1, by omega⟩
    rw [rolodexlaw11_few.l0, if_neg (by omega), List.drop_eq_nil_of_le (by omega)]
    rfl
  | succ d ih =>
    intro i k hi hk
    obtain ⟨k, rfl⟩ : ∃ k', k = k' + 1 := ⟨k - 1, by omega⟩
    have hil : i < l.length := by omega
    rw [rolodexlaw11_few.l0, if_pos (by omega), if_pos (by omega), rd_next hil, List.all_cons]
    by_cases h : ((rd_T67 l (i : Int)).f3.size : Int) > 300
    · rw [if_pos h, decide_eq_false (by omega), Bool.false_and]
    · rw [if_neg h, decide_eq_true (by omega), Bool.true_and, wrap_next i (by omega), ih (i + 1) k (by omega) (by omega)]
theorem Few_eq (l : List S67) (k : Nat) (hk : 100 < k) : rolodexlaw11_few.f k l = some (fewL l) := by
  unfold rolodexlaw11_few.f fewL
  by_cases h : (l.length : Int) > 80
  · rw [if_pos h, decide_eq_false (by omega), Bool.false_and]
  · rw [if_neg h, decide_eq_true (by omega), Bool.true_and, show (0 : Int) = ((0 : Nat) : Int) from rfl, few_l0 l (by omega) l.length 0 k (by omega) (by omega), List.drop_zero]
theorem fewL_le {l : List S67} (h : fewL l = true) : l.length ≤ 80 := by
  unfold fewL at h
  rw [Bool.and_eq_true, decide_eq_true_eq] at h
  exact h.1
end Go.Proofs.Ytchaegfdcdlfaaa.X

/- The document's May over pieces, walked; in the printed form. -/
namespace Go.Proofs.Ytchaegfdcdlfaaa.X
set_option linter.unusedVariables false
set_option linter.unusedSimpArgs false
open Go.RowKit Go.Maps Go.Proofs.YtchaegfdcdlfaaaW.PrintWords Go.Proofs.YtchaegfdcdlfaaaW.PrintLast Go.Proofs.YtchaegfdcdlfaaaW.PrintMore

theorem may_copy (x1 x2 : Int) (s : ByteArray) (h1 : 0 ≤ x1) (h2 : x1 ≤ 200) (h3 : 1 ≤ x2) (h4 : x2 ≤ 200) (h5 : s.size = 0) : mayP ⟨true, x1, x2, s⟩ = true := by
  unfold mayP
  rw [if_pos rfl]
  simp only [Bool.and_eq_true, decide_eq_true_eq, beq_iff_eq]
  exact ⟨⟨⟨h1, h2⟩, h3, h4⟩, toList_nil h5⟩
theorem may_text (x1 x2 : Int) (s : ByteArray) (h1 : x1 = 0) (h2 : x2 = 0) (h3 : 1 ≤ s.size) (h4 : s.size ≤ 200) : mayP ⟨false, x1, x2, s⟩ = true := by
  unfold mayP
  rw [if_neg (by simp)]
  simp only [Bool.and_eq_true, decide_eq_true_eq, beq_iff_eq]
  exact ⟨⟨h1, h2⟩, h3, h4⟩
theorem may_not {l : List S67} {j : Nat} (h : j < l.length) (hp : mayP (l.getD j z67) = false) : mayL l = false := by
  cases hm : mayL l
  · rfl
  · have := List.all_eq_true.1 ((mayL_iff l).1 hm).1 (l.getD j z67) (by rw [List.getD_eq_getElem?_getD, List.getElem?_eq_getElem h]; exact List.getElem_mem h)
    rw [hp] at this
    simp at this
set_option maxHeartbeats 8000000 in
set_option maxRecDepth 100000 in
theorem rmay_call {l : List S67} {n : Nat} (hn : l.length = n) (A : Option Addr) (c : Nat) (w : World) (hr : Kd.C k67 w A n l) (hl : n ≤ 1000000000) (b : Bool) (hb : mayL l = b) :
    Calls Try.prog 60 #[.slice A n c] w fun e w' => e = .returned (.bool b) ∧ Below w.heap.size w w' := by
  have HR := Aside0.mk hr
  have HN := Aside0.mk hl
  have HLN := Aside0.mk hn
  have HBE := Aside0.mk hb
  clear hr hl hn hb
  go_enter Try.func60, Try.ntmps60
  go_wp2_with fail
  go_loopg [3, 4] n (fun k v3 v4 w' => ∃ (a : Int) (j : Nat), v3 = .int .i64 a ∧ v4 = .int .i64 j ∧ Aside0 (k = n - j ∧ j ≤ n) ∧ Aside0 ((l.take j).all mayP = true ∧ a = sumP (l.take j)) ∧ Aside0 (0 ≤ a ∧ a ≤ 400 * (j : Int)) ∧ Aside0 (Below w.heap.size w w'))
  case atStart => exact ⟨0, 0, rfl, rfl, ⟨by omega, by omega⟩, ⟨rfl, rfl⟩, ⟨by omega, by omega⟩, ⟨Below.refl _ _⟩⟩
  case round =>
    obtain ⟨a, j, rfl, rfl, HJ, HT, HA, HB⟩ := hrel
    by_cases hj : j < n
    · have HJ2 := Aside0.mk hj
      have hjl : j < l.length := by rw [HLN.out]; exact hj
      have HJL := Aside0.mk hjl
      obtain ⟨p, hpd⟩ : ∃ p, l.getD j z67 = p := ⟨_, rfl⟩
      have HPD := Aside0.mk hpd
      obtain ⟨ad, hA, hx0, hx1, hx2, hx3⟩ := pc_at (Kd.C_below HR.out HB.out) hj p hpd
      subst hA
      obtain ⟨b0, x1, x2, s3, hpe⟩ : ∃ b0 x1 x2 s3, p = ⟨b0, x1, x2, s3⟩ := ⟨_, _, _, _, rfl⟩
      have HPE := Aside0.mk hpe
      rw [hpe] at hx0 hx1 hx2 hx3
      dsimp only at hx0 hx1 hx2 hx3
      have e1 : decide ((j : Int) < (n : Int)) = true := by simpa using hj
      have e2 : ((j : Int) < (n : Int)) = True := by simpa using hj
      have e3 : (0 ≤ (j : Int)) = True := by simp
      have ew : IntKind.i64.wrap ((j : Int) + 1) = ((j + 1 : Nat) : Int) := by have := HN.out; rw [wrap_ok _ (by omega) (by omega)]; omega
      clear hj
      cases b0
      · by_cases hA1 : x1 ≥ 0
        · by_cases hA2 : x1 ≤ 200
          · by_cases hA3 : x2 ≥ 1
            · by_cases hA4 : x2 ≤ 200
              · by_cases hA5 : s3.size = 0
                · by_cases hT1 : x1 = 0
                  · by_cases hT2 : x2 = 0
                    · omega
                    · have HM : Aside0 (b = false) := ⟨by rw [← HBE.out]; refine may_not hjl (j := j) ?_; rw [hpd, hpe]; cases hm : mayP ⟨false, x1, x2, s3⟩; rfl; have h : x1 = 0 ∧ x2 = 0 ∧ 1 ≤ s3.size ∧ s3.size ≤ 200 := (mayP_true hm).2 rfl; omega⟩
                      have fA10 : decide (x1 ≥ 0) = true := decide_eq_true (by omega)
                      have fA11 : decide (0 ≤ x1) = true := decide_eq_true (by omega)
                      have fA12 : (0 ≤ x1) = True := eq_true (by omega)
                      have fA20 : decide (x1 ≤ 200) = true := decide_eq_true (by omega)
                      have fA21 : (x1 ≤ 200) = True := eq_true (by omega)
                      have fA30 : decide (x2 ≥ 1) = true := decide_eq_true (by omega)
                      have fA31 : decide (1 ≤ x2) = true := decide_eq_true (by omega)
                      have fA32 : (1 ≤ x2) = True := eq_true (by omega)
                      have fA40 : decide (x2 ≤ 200) = true := decide_eq_true (by omega)
                      have fA41 : (x2 ≤ 200) = True := eq_true (by omega)
                      have fA50 : s3.toList.isEmpty = true := by rw [toList_nil hA5]; rfl
                      have fT10 : (x1 == 0) = true := by rw [hT1]; rfl
                      have fT20 : (x2 == 0) = false := by simpa using hT2
                      clear hjl hpd hpe hA1 hA2 hA3 hA4 hA5 hT1 hT2
                      go_wp2_with (first | ((with_reducible refine gate_dst (N := 5) rfl ?_); (try (refine gate_guard (by rfl) ?_; dsimp only)); refine box_event ?hg (N := 5) ?hd (cs := #[.bool false, .int .i64 0, .int .i64 0, .string (⟨#[]⟩ : ByteArray)]) (t := 67) ?hr ?_; (case hd => rfl); (case hg => rfl); (case hr => first | (go_simp; done) | (go_simp; rfl)); intro gb hg w15 hbox hb; have HG := Aside0.mk (show w.heap.size ≤ gb by rw [hg]; exact below_size HB.out); have HB2 := Aside0.mk (below_step HB.out hb); have z0 : w15.cell? ⟨gb, 0, none⟩ = some (.bool false) := (blk_cell hbox 0).trans rfl; have z1 : w15.cell? ⟨gb, 1, none⟩ = some (.int .i64 0) := (blk_cell hbox 1).trans rfl; have z2 : w15.cell? ⟨gb, 2, none⟩ = some (.int .i64 0) := (blk_cell hbox 2).trans rfl; have z3 : w15.cell? ⟨gb, 3, none⟩ = some (.string (⟨#[]⟩ : ByteArray)) := (blk_cell hbox 3).trans rfl; have y0 := blk_frozen hbox 0; have y1 := blk_frozen hbox 1; have y2 := blk_frozen hbox 2; have y3 := blk_frozen hbox 3; clear hb hbox hg) | fail)
                      go_ret
                      exact ⟨by rw [HM.out]; rfl, (by repeat (first | exact HB2.out | refine below_set ?_ HG.out | apply pw_below_drewN | apply below_drew1))⟩
                  · have HM : Aside0 (b = false) := ⟨by rw [← HBE.out]; refine may_not hjl (j := j) ?_; rw [hpd, hpe]; cases hm : mayP ⟨false, x1, x2, s3⟩; rfl; have h : x1 = 0 ∧ x2 = 0 ∧ 1 ≤ s3.size ∧ s3.size ≤ 200 := (mayP_true hm).2 rfl; omega⟩
                    have fA10 : decide (x1 ≥ 0) = true := decide_eq_true (by omega)
                    have fA11 : decide (0 ≤ x1) = true := decide_eq_true (by omega)
                    have fA12 : (0 ≤ x1) = True := eq_true (by omega)
                    have fA20 : decide (x1 ≤ 200) = true := decide_eq_true (by omega)
                    have fA21 : (x1 ≤ 200) = True := eq_true (by omega)
                    have fA30 : decide (x2 ≥ 1) = true := decide_eq_true (by omega)
                    have fA31 : decide (1 ≤ x2) = true := decide_eq_true (by omega)
                    have fA32 : (1 ≤ x2) = True := eq_true (by omega)
                    have fA40 : decide (x2 ≤ 200) = true := decide_eq_true (by omega)
                    have fA41 : (x2 ≤ 200) = True := eq_true (by omega)
                    have fA50 : s3.toList.isEmpty = true := by rw [toList_nil hA5]; rfl
                    have fT10 : (x1 == 0) = false := by simpa using hT1
                    clear hjl hpd hpe hA1 hA2 hA3 hA4 hA5 hT1
                    go_wp2_with (first | ((with_reducible refine gate_dst (N := 5) rfl ?_); (try (refine gate_guard (by rfl) ?_; dsimp only)); refine box_event ?hg (N := 5) ?hd (cs := #[.bool false, .int .i64 0, .int .i64 0, .string (⟨#[]⟩ : ByteArray)]) (t := 67) ?hr ?_; (case hd => rfl); (case hg => rfl); (case hr => first | (go_simp; done) | (go_simp; rfl)); intro gb hg w15 hbox hb; have HG := Aside0.mk (show w.heap.size ≤ gb by rw [hg]; exact below_size HB.out); have HB2 := Aside0.mk (below_step HB.out hb); have z0 : w15.cell? ⟨gb, 0, none⟩ = some (.bool false) := (blk_cell hbox 0).trans rfl; have z1 : w15.cell? ⟨gb, 1, none⟩ = some (.int .i64 0) := (blk_cell hbox 1).trans rfl; have z2 : w15.cell? ⟨gb, 2, none⟩ = some (.int .i64 0) := (blk_cell hbox 2).trans rfl; have z3 : w15.cell? ⟨gb, 3, none⟩ = some (.string (⟨#[]⟩ : ByteArray)) := (blk_cell hbox 3).trans rfl; have y0 := blk_frozen hbox 0; have y1 := blk_frozen hbox 1; have y2 := blk_frozen hbox 2; have y3 := blk_frozen hbox 3; clear hb hbox hg) | fail)
                    go_ret
                    exact ⟨by rw [HM.out]; rfl, (by repeat (first | exact HB2.out | refine below_set ?_ HG.out | apply pw_below_drewN | apply below_drew1))⟩
                · by_cases hT1 : x1 = 0
                  · by_cases hT2 : x2 = 0
                    · omega
                    · have HM : Aside0 (b = false) := ⟨by rw [← HBE.out]; refine may_not hjl (j := j) ?_; rw [hpd, hpe]; cases hm : mayP ⟨false, x1, x2, s3⟩; rfl; have h : x1 = 0 ∧ x2 = 0 ∧ 1 ≤ s3.size ∧ s3.size ≤ 200 := (mayP_true hm).2 rfl; omega⟩
                      have fA10 : decide (x1 ≥ 0) = true := decide_eq_true (by omega)
                      have fA11 : decide (0 ≤ x1) = true := decide_eq_true (by omega)
                      have fA12 : (0 ≤ x1) = True := eq_true (by omega)
                      have fA20 : decide (x1 ≤ 200) = true := decide_eq_true (by omega)
                      have fA21 : (x1 ≤ 200) = True := eq_true (by omega)
                      have fA30 : decide (x2 ≥ 1) = true := decide_eq_true (by omega)
                      have fA31 : decide (1 ≤ x2) = true := decide_eq_true (by omega)
                      have fA32 : (1 ≤ x2) = True := eq_true (by omega)
                      have fA40 : decide (x2 ≤ 200) = true := decide_eq_true (by omega)
                      have fA41 : (x2 ≤ 200) = True := eq_true (by omega)
                      have fA50 : s3.toList.isEmpty = false := toList_cons hA5
                      have fT10 : (x1 == 0) = true := by rw [hT1]; rfl
                      have fT20 : (x2 == 0) = false := by simpa using hT2
                      clear hjl hpd hpe hA1 hA2 hA3 hA4 hA5 hT1 hT2
                      go_wp2_with (first | ((with_reducible refine gate_dst (N := 5) rfl ?_); (try (refine gate_guard (by rfl) ?_; dsimp only)); refine box_event ?hg (N := 5) ?hd (cs := #[.bool false, .int .i64 0, .int .i64 0, .string (⟨#[]⟩ : ByteArray)]) (t := 67) ?hr ?_; (case hd => rfl); (case hg => rfl); (case hr => first | (go_simp; done) | (go_simp; rfl)); intro gb hg w15 hbox hb; have HG := Aside0.mk (show w.heap.size ≤ gb by rw [hg]; exact below_size HB.out); have HB2 := Aside0.mk (below_step HB.out hb); have z0 : w15.cell? ⟨gb, 0, none⟩ = some (.bool false) := (blk_cell hbox 0).trans rfl; have z1 : w15.cell? ⟨gb, 1, none⟩ = some (.int .i64 0) := (blk_cell hbox 1).trans rfl; have z2 : w15.cell? ⟨gb, 2, none⟩ = some (.int .i64 0) := (blk_cell hbox 2).trans rfl; have z3 : w15.cell? ⟨gb, 3, none⟩ = some (.string (⟨#[]⟩ : ByteArray)) := (blk_cell hbox 3).trans rfl; have y0 := blk_frozen hbox 0; have y1 := blk_frozen hbox 1; have y2 := blk_frozen hbox 2; have y3 := blk_frozen hbox 3; clear hb hbox hg) | fail)
                      go_ret
                      exact ⟨by rw [HM.out]; rfl, (by repeat (first | exact HB2.out | refine below_set ?_ HG.out | apply pw_below_drewN | apply below_drew1))⟩
                  · have HM : Aside0 (b = false) := ⟨by rw [← HBE.out]; refine may_not hjl (j := j) ?_; rw [hpd, hpe]; cases hm : mayP ⟨false, x1, x2, s3⟩; rfl; have h : x1 = 0 ∧ x2 = 0 ∧ 1 ≤ s3.size ∧ s3.size ≤ 200 := (mayP_true hm).2 rfl; omega⟩
                    have fA10 : decide (x1 ≥ 0) = true := decide_eq_true (by omega)
                    have fA11 : decide (0 ≤ x1) = true := decide_eq_true (by omega)
                    have fA12 : (0 ≤ x1) = True := eq_true (by omega)
                    have fA20 : decide (x1 ≤ 200) = true := decide_eq_true (by omega)
                    have fA21 : (x1 ≤ 200) = True := eq_true (by omega)
                    have fA30 : decide (x2 ≥ 1) = true := decide_eq_true (by omega)
                    have fA31 : decide (1 ≤ x2) = true := decide_eq_true (by omega)
                    have fA32 : (1 ≤ x2) = True := eq_true (by omega)
                    have fA40 : decide (x2 ≤ 200) = true := decide_eq_true (by omega)
                    have fA41 : (x2 ≤ 200) = True := eq_true (by omega)
                    have fA50 : s3.toList.isEmpty = false := toList_cons hA5
                    have fT10 : (x1 == 0) = false := by simpa using hT1
                    clear hjl hpd hpe hA1 hA2 hA3 hA4 hA5 hT1
                    go_wp2_with (first | ((with_reducible refine gate_dst (N := 5) rfl ?_); (try (refine gate_guard (by rfl) ?_; dsimp only)); refine box_event ?hg (N := 5) ?hd (cs := #[.bool false, .int .i64 0, .int .i64 0, .string (⟨#[]⟩ : ByteArray)]) (t := 67) ?hr ?_; (case hd => rfl); (case hg => rfl); (case hr => first | (go_simp; done) | (go_simp; rfl)); intro gb hg w15 hbox hb; have HG := Aside0.mk (show w.heap.size ≤ gb by rw [hg]; exact below_size HB.out); have HB2 := Aside0.mk (below_step HB.out hb); have z0 : w15.cell? ⟨gb, 0, none⟩ = some (.bool false) := (blk_cell hbox 0).trans rfl; have z1 : w15.cell? ⟨gb, 1, none⟩ = some (.int .i64 0) := (blk_cell hbox 1).trans rfl; have z2 : w15.cell? ⟨gb, 2, none⟩ = some (.int .i64 0) := (blk_cell hbox 2).trans rfl; have z3 : w15.cell? ⟨gb, 3, none⟩ = some (.string (⟨#[]⟩ : ByteArray)) := (blk_cell hbox 3).trans rfl; have y0 := blk_frozen hbox 0; have y1 := blk_frozen hbox 1; have y2 := blk_frozen hbox 2; have y3 := blk_frozen hbox 3; clear hb hbox hg) | fail)
                    go_ret
                    exact ⟨by rw [HM.out]; rfl, (by repeat (first | exact HB2.out | refine below_set ?_ HG.out | apply pw_below_drewN | apply below_drew1))⟩
              · by_cases hT1 : x1 = 0
                · by_cases hT2 : x2 = 0
                  · omega
                  · have HM : Aside0 (b = false) := ⟨by rw [← HBE.out]; refine may_not hjl (j := j) ?_; rw [hpd, hpe]; cases hm : mayP ⟨false, x1, x2, s3⟩; rfl; have h : x1 = 0 ∧ x2 = 0 ∧ 1 ≤ s3.size ∧ s3.size ≤ 200 := (mayP_true hm).2 rfl; omega⟩
                    have fA10 : decide (x1 ≥ 0) = true := decide_eq_true (by omega)
                    have fA11 : decide (0 ≤ x1) = true := decide_eq_true (by omega)
                    have fA12 : (0 ≤ x1) = True := eq_true (by omega)
                    have fA20 : decide (x1 ≤ 200) = true := decide_eq_true (by omega)
                    have fA21 : (x1 ≤ 200) = True := eq_true (by omega)
                    have fA30 : decide (x2 ≥ 1) = true := decide_eq_true (by omega)
                    have fA31 : decide (1 ≤ x2) = true := decide_eq_true (by omega)
                    have fA32 : (1 ≤ x2) = True := eq_true (by omega)
                    have fA40 : decide (x2 ≤ 200) = false := decide_eq_false (by omega)
                    have fA41 : (x2 ≤ 200) = False := eq_false (by omega)
                    have fT10 : (x1 == 0) = true := by rw [hT1]; rfl
                    have fT20 : (x2 == 0) = false := by simpa using hT2
                    clear hjl hpd hpe hA1 hA2 hA3 hA4 hT1 hT2
                    go_wp2_with (first | ((with_reducible refine gate_dst (N := 5) rfl ?_); (try (refine gate_guard (by rfl) ?_; dsimp only)); refine box_event ?hg (N := 5) ?hd (cs := #[.bool false, .int .i64 0, .int .i64 0, .string (⟨#[]⟩ : ByteArray)]) (t := 67) ?hr ?_; (case hd => rfl); (case hg => rfl); (case hr => first | (go_simp; done) | (go_simp; rfl)); intro gb hg w15 hbox hb; have HG := Aside0.mk (show w.heap.size ≤ gb by rw [hg]; exact below_size HB.out); have HB2 := Aside0.mk (below_step HB.out hb); have z0 : w15.cell? ⟨gb, 0, none⟩ = some (.bool false) := (blk_cell hbox 0).trans rfl; have z1 : w15.cell? ⟨gb, 1, none⟩ = some (.int .i64 0) := (blk_cell hbox 1).trans rfl; have z2 : w15.cell? ⟨gb, 2, none⟩ = some (.int .i64 0) := (blk_cell hbox 2).trans rfl; have z3 : w15.cell? ⟨gb, 3, none⟩ = some (.string (⟨#[]⟩ : ByteArray)) := (blk_cell hbox 3).trans rfl; have y0 := blk_frozen hbox 0; have y1 := blk_frozen hbox 1; have y2 := blk_frozen hbox 2; have y3 := blk_frozen hbox 3; clear hb hbox hg) | fail)
                    go_ret
                    exact ⟨by rw [HM.out]; rfl, (by repeat (first | exact HB2.out | refine below_set ?_ HG.out | apply pw_below_drewN | apply below_drew1))⟩
                · have HM : Aside0 (b = false) := ⟨by rw [← HBE.out]; refine may_not hjl (j := j) ?_; rw [hpd, hpe]; cases hm : mayP ⟨false, x1, x2, s3⟩; rfl; have h : x1 = 0 ∧ x2 = 0 ∧ 1 ≤ s3.size ∧ s3.size ≤ 200 := (mayP_true hm).2 rfl; omega⟩
                  have fA10 : decide (x1 ≥ 0) = true := decide_eq_true (by omega)
                  have fA11 : decide (0 ≤ x1) = true := decide_eq_true (by omega)
                  have fA12 : (0 ≤ x1) = True := eq_true (by omega)
                  have fA20 : decide (x1 ≤ 200) = true := decide_eq_true (by omega)
                  have fA21 : (x1 ≤ 200) = True := eq_true (by omega)
                  have fA30 : decide (x2 ≥ 1) = true := decide_eq_true (by omega)
                  have fA31 : decide (1 ≤ x2) = true := decide_eq_true (by omega)
                  have fA32 : (1 ≤ x2) = True := eq_true (by omega)
                  have fA40 : decide (x2 ≤ 200) = false := decide_eq_false (by omega)
                  have fA41 : (x2 ≤ 200) = False := eq_false (by omega)
                  have fT10 : (x1 == 0) = false := by simpa using hT1
                  clear hjl hpd hpe hA1 hA2 hA3 hA4 hT1
                  go_wp2_with (first | ((with_reducible refine gate_dst (N := 5) rfl ?_); (try (refine gate_guard (by rfl) ?_; dsimp only)); refine box_event ?hg (N := 5) ?hd (cs := #[.bool false, .int .i64 0, .int .i64 0, .string (⟨#[]⟩ : ByteArray)]) (t := 67) ?hr ?_; (case hd => rfl); (case hg => rfl); (case hr => first | (go_simp; done) | (go_simp; rfl)); intro gb hg w15 hbox hb; have HG := Aside0.mk (show w.heap.size ≤ gb by rw [hg]; exact below_size HB.out); have HB2 := Aside0.mk (below_step HB.out hb); have z0 : w15.cell? ⟨gb, 0, none⟩ = some (.bool false) := (blk_cell hbox 0).trans rfl; have z1 : w15.cell? ⟨gb, 1, none⟩ = some (.int .i64 0) := (blk_cell hbox 1).trans rfl; have z2 : w15.cell? ⟨gb, 2, none⟩ = some (.int .i64 0) := (blk_cell hbox 2).trans rfl; have z3 : w15.cell? ⟨gb, 3, none⟩ = some (.string (⟨#[]⟩ : ByteArray)) := (blk_cell hbox 3).trans rfl; have y0 := blk_frozen hbox 0; have y1 := blk_frozen hbox 1; have y2 := blk_frozen hbox 2; have y3 := blk_frozen hbox 3; clear hb hbox hg) | fail)
                  go_ret
                  exact ⟨by rw [HM.out]; rfl, (by repeat (first | exact HB2.out | refine below_set ?_ HG.out | apply pw_below_drewN | apply below_drew1))⟩
            · by_cases hT1 : x1 = 0
              · by_cases hT2 : x2 = 0
                · by_cases hT3 : 1 ≤ s3.size
                  · by_cases hT4 : s3.size ≤ 200
                    · have hmp : mayP p = true := by rw [hpe]; exact may_text x1 x2 s3 (by omega) (by omega) (by omega) (by omega)
                      have HMP := Aside0.mk hmp
                      obtain ⟨a1, ha1⟩ : ∃ a1, a1 = a + x2 := ⟨_, rfl⟩
                      obtain ⟨a2, ha2⟩ : ∃ a2, a2 = a1 + (s3.size : Int) := ⟨_, rfl⟩
                      have w1 : IntKind.i64.wrap (a + x2) = a1 := by have := HA.out; have := HJ.out; have := HN.out; rw [wrap_ok _ (by omega) (by omega), ha1]
                      have w2 : IntKind.i64.wrap (a1 + (s3.size : Int)) = a2 := by have := HA.out; have := HJ.out; have := HN.out; rw [wrap_ok _ (by omega) (by omega), ha2]
                      have HA2 : Aside0 (a2 = a + (x2 + (s3.size : Int)) ∧ 0 ≤ x2 + (s3.size : Int) ∧ x2 + (s3.size : Int) ≤ 400) := ⟨by omega⟩
                      clear ha1 ha2 hmp
                      have fA10 : decide (x1 ≥ 0) = true := decide_eq_true (by omega)
                      have fA11 : decide (0 ≤ x1) = true := decide_eq_true (by omega)
                      have fA12 : (0 ≤ x1) = True := eq_true (by omega)
                      have fA20 : decide (x1 ≤ 200) = true := decide_eq_true (by omega)
                      have fA21 : (x1 ≤ 200) = True := eq_true (by omega)
                      have fA30 : decide (x2 ≥ 1) = false := decide_eq_false (by omega)
                      have fA31 : decide (1 ≤ x2) = false := decide_eq_false (by omega)
                      have fA32 : (1 ≤ x2) = False := eq_false (by omega)
                      have fT10 : (x1 == 0) = true := by rw [hT1]; rfl
                      have fT20 : (x2 == 0) = true := by rw [hT2]; rfl
                      have fT30 : decide ((s3.size : Int) ≥ 1) = true := decide_eq_true (by omega)
                      have fT31 : decide (1 ≤ (s3.size : Int)) = true := decide_eq_true (by omega)
                      have fT32 : decide (1 ≤ s3.size) = true := decide_eq_true (by omega)
                      have fT33 : (1 ≤ s3.size) = True := eq_true (by omega)
                      have fT34 : (1 ≤ (s3.size : Int)) = True := eq_true (by omega)
                      have fT40 : decide ((s3.size : Int) ≤ 200) = true := decide_eq_true (by omega)
                      have fT41 : decide (s3.size ≤ 200) = true := decide_eq_true (by omega)
                      have fT42 : (s3.size ≤ 200) = True := eq_true (by omega)
                      have fT43 : ((s3.size : Int) ≤ 200) = True := eq_true (by omega)
                      clear hjl hpd hpe hA1 hA2 hA3 hT1 hT2 hT3 hT4
                      go_wp2_with (first | ((with_reducible refine gate_dst (N := 5) rfl ?_); (try (refine gate_guard (by rfl) ?_; dsimp only)); refine box_event ?hg (N := 5) ?hd (cs := #[.bool false, .int .i64 0, .int .i64 0, .string (⟨#[]⟩ : ByteArray)]) (t := 67) ?hr ?_; (case hd => rfl); (case hg => rfl); (case hr => first | (go_simp; done) | (go_simp; rfl)); intro gb hg w15 hbox hb; have HG := Aside0.mk (show w.heap.size ≤ gb by rw [hg]; exact below_size HB.out); have HB2 := Aside0.mk (below_step HB.out hb); have z0 : w15.cell? ⟨gb, 0, none⟩ = some (.bool false) := (blk_cell hbox 0).trans rfl; have z1 : w15.cell? ⟨gb, 1, none⟩ = some (.int .i64 0) := (blk_cell hbox 1).trans rfl; have z2 : w15.cell? ⟨gb, 2, none⟩ = some (.int .i64 0) := (blk_cell hbox 2).trans rfl; have z3 : w15.cell? ⟨gb, 3, none⟩ = some (.string (⟨#[]⟩ : ByteArray)) := (blk_cell hbox 3).trans rfl; have y0 := blk_frozen hbox 0; have y1 := blk_frozen hbox 1; have y2 := blk_frozen hbox 2; have y3 := blk_frozen hbox 3; clear hb hbox hg) | fail)
                      go_roundg (n - (j + 1))
                      case measure => have := HJ.out; have := HJ2.out; omega
                      case rel => exact ⟨a2, j + 1, by simp, by simp [ew], ⟨by have := HJ2.out; omega⟩, ⟨by rw [take_snocD l j HJL.out, HPD.out, List.all_append, HT.out.1]; simp [HMP.out], by rw [take_snocD l j HJL.out, HPD.out, sumP_append, sumP_one, ← HT.out.2, HA2.out.1, HPE.out]⟩, ⟨by have := HA.out; have := HA2.out; omega⟩, ⟨(by repeat (first | exact HB2.out | refine below_set ?_ HG.out | apply pw_below_drewN | apply below_drew1))⟩⟩
                    · have HM : Aside0 (b = false) := ⟨by rw [← HBE.out]; refine may_not hjl (j := j) ?_; rw [hpd, hpe]; cases hm : mayP ⟨false, x1, x2, s3⟩; rfl; have h : x1 = 0 ∧ x2 = 0 ∧ 1 ≤ s3.size ∧ s3.size ≤ 200 := (mayP_true hm).2 rfl; omega⟩
                      have fA10 : decide (x1 ≥ 0) = true := decide_eq_true (by omega)
                      have fA11 : decide (0 ≤ x1) = true := decide_eq_true (by omega)
                      have fA12 : (0 ≤ x1) = True := eq_true (by omega)
                      have fA20 : decide (x1 ≤ 200) = true := decide_eq_true (by omega)
                      have fA21 : (x1 ≤ 200) = True := eq_true (by omega)
                      have fA30 : decide (x2 ≥ 1) = false := decide_eq_false (by omega)
                      have fA31 : decide (1 ≤ x2) = false := decide_eq_false (by omega)
                      have fA32 : (1 ≤ x2) = False := eq_false (by omega)
                      have fT10 : (x1 == 0) = true := by rw [hT1]; rfl
                      have fT20 : (x2 == 0) = true := by rw [hT2]; rfl
                      have fT30 : decide ((s3.size : Int) ≥ 1) = true := decide_eq_true (by omega)
                      have fT31 : decide (1 ≤ (s3.size : Int)) = true := decide_eq_true (by omega)
                      have fT32 : decide (1 ≤ s3.size) = true := decide_eq_true (by omega)
                      have fT33 : (1 ≤ s3.size) = True := eq_true (by omega)
                      have fT34 : (1 ≤ (s3.size : Int)) = True := eq_true (by omega)
                      have fT40 : decide ((s3.size : Int) ≤ 200) = false := decide_eq_false (by omega)
                      have fT41 : decide (s3.size ≤ 200) = false := decide_eq_false (by omega)
                      have fT42 : (s3.size ≤ 200) = False := eq_false (by omega)
                      have fT43 : ((s3.size : Int) ≤ 200) = False := eq_false (by omega)
                      clear hjl hpd hpe hA1 hA2 hA3 hT1 hT2 hT3 hT4
                      go_wp2_with (first | ((with_reducible refine gate_dst (N := 5) rfl ?_); (try (refine gate_guard (by rfl) ?_; dsimp only)); refine box_event ?hg (N := 5) ?hd (cs := #[.bool false, .int .i64 0, .int .i64 0, .string (⟨#[]⟩ : ByteArray)]) (t := 67) ?hr ?_; (case hd => rfl); (case hg => rfl); (case hr => first | (go_simp; done) | (go_simp; rfl)); intro gb hg w15 hbox hb; have HG := Aside0.mk (show w.heap.size ≤ gb by rw [hg]; exact below_size HB.out); have HB2 := Aside0.mk (below_step HB.out hb); have z0 : w15.cell? ⟨gb, 0, none⟩ = some (.bool false) := (blk_cell hbox 0).trans rfl; have z1 : w15.cell? ⟨gb, 1, none⟩ = some (.int .i64 0) := (blk_cell hbox 1).trans rfl; have z2 : w15.cell? ⟨gb, 2, none⟩ = some (.int .i64 0) := (blk_cell hbox 2).trans rfl; have z3 : w15.cell? ⟨gb, 3, none⟩ = some (.string (⟨#[]⟩ : ByteArray)) := (blk_cell hbox 3).trans rfl; have y0 := blk_frozen hbox 0; have y1 := blk_frozen hbox 1; have y2 := blk_frozen hbox 2; have y3 := blk_frozen hbox 3; clear hb hbox hg) | fail)
                      go_ret
                      exact ⟨by rw [HM.out]; rfl, (by repeat (first | exact HB2.out | refine below_set ?_ HG.out | apply pw_below_drewN | apply below_drew1))⟩
                  · have HM : Aside0 (b = false) := ⟨by rw [← HBE.out]; refine may_not hjl (j := j) ?_; rw [hpd, hpe]; cases hm : mayP ⟨false, x1, x2, s3⟩; rfl; have h : x1 = 0 ∧ x2 = 0 ∧ 1 ≤ s3.size ∧ s3.size ≤ 200 := (mayP_true hm).2 rfl; omega⟩
                    have fA10 : decide (x1 ≥ 0) = true := decide_eq_true (by omega)
                    have fA11 : decide (0 ≤ x1) = true := decide_eq_true (by omega)
                    have fA12 : (0 ≤ x1) = True := eq_true (by omega)
                    have fA20 : decide (x1 ≤ 200) = true := decide_eq_true (by omega)
                    have fA21 : (x1 ≤ 200) = True := eq_true (by omega)
                    have fA30 : decide (x2 ≥ 1) = false := decide_eq_false (by omega)
                    have fA31 : decide (1 ≤ x2) = false := decide_eq_false (by omega)
                    have fA32 : (1 ≤ x2) = False := eq_false (by omega)
                    have fT10 : (x1 == 0) = true := by rw [hT1]; rfl
                    have fT20 : (x2 == 0) = true := by rw [hT2]; rfl
                    have fT30 : decide ((s3.size : Int) ≥ 1) = false := decide_eq_false (by omega)
                    have fT31 : decide (1 ≤ (s3.size : Int)) = false := decide_eq_false (by omega)
                    have fT32 : decide (1 ≤ s3.size) = false := decide_eq_false (by omega)
                    have fT33 : (1 ≤ s3.size) = False := eq_false (by omega)
                    have fT34 : (1 ≤ (s3.size : Int)) = False := eq_false (by omega)
                    clear hjl hpd hpe hA1 hA2 hA3 hT1 hT2 hT3
                    go_wp2_with (first | ((with_reducible refine gate_dst (N := 5) rfl ?_); (try (refine gate_guard (by rfl) ?_; dsimp only)); refine box_event ?hg (N := 5) ?hd (cs := #[.bool false, .int .i64 0, .int .i64 0, .string (⟨#[]⟩ : ByteArray)]) (t := 67) ?hr ?_; (case hd => rfl); (case hg => rfl); (case hr => first | (go_simp; done) | (go_simp; rfl)); intro gb hg w15 hbox hb; have HG := Aside0.mk (show w.heap.size ≤ gb by rw [hg]; exact below_size HB.out); have HB2 := Aside0.mk (below_step HB.out hb); have z0 : w15.cell? ⟨gb, 0, none⟩ = some (.bool false) := (blk_cell hbox 0).trans rfl; have z1 : w15.cell? ⟨gb, 1, none⟩ = some (.int .i64 0) := (blk_cell hbox 1).trans rfl; have z2 : w15.cell? ⟨gb, 2, none⟩ = some (.int .i64 0) := (blk_cell hbox 2).trans rfl; have z3 : w15.cell? ⟨gb, 3, none⟩ = some (.string (⟨#[]⟩ : ByteArray)) := (blk_cell hbox 3).trans rfl; have y0 := blk_frozen hbox 0; have y1 := blk_frozen hbox 1; have y2 := blk_frozen hbox 2; have y3 := blk_frozen hbox 3; clear hb hbox hg) | fail)
                    go_ret
                    exact ⟨by rw [HM.out]; rfl, (by repeat (first | exact HB2.out | refine below_set ?_ HG.out | apply pw_below_drewN | apply below_drew1))⟩
                · have HM : Aside0 (b = false) := ⟨by rw [← HBE.out]; refine may_not hjl (j := j) ?_; rw [hpd, hpe]; cases hm : mayP ⟨false, x1, x2, s3⟩; rfl; have h : x1 = 0 ∧ x2 = 0 ∧ 1 ≤ s3.size ∧ s3.size ≤ 200 := (mayP_true hm).2 rfl; omega⟩
                  have fA10 : decide (x1 ≥ 0) = true := decide_eq_true (by omega)
                  have fA11 : decide (0 ≤ x1) = true := decide_eq_true (by omega)
                  have fA12 : (0 ≤ x1) = True := eq_true (by omega)
                  have fA20 : decide (x1 ≤ 200) = true := decide_eq_true (by omega)
                  have fA21 : (x1 ≤ 200) = True := eq_true (by omega)
                  have fA30 : decide (x2 ≥ 1) = false := decide_eq_false (by omega)
                  have fA31 : decide (1 ≤ x2) = false := decide_eq_false (by omega)
                  have fA32 : (1 ≤ x2) = False := eq_false (by omega)
                  have fT10 : (x1 == 0) = true := by rw [hT1]; rfl
                  have fT20 : (x2 == 0) = false := by simpa using hT2
                  clear hjl hpd hpe hA1 hA2 hA3 hT1 hT2
                  go_wp2_with (first | ((with_reducible refine gate_dst (N := 5) rfl ?_); (try (refine gate_guard (by rfl) ?_; dsimp only)); refine box_event ?hg (N := 5) ?hd (cs := #[.bool false, .int .i64 0, .int .i64 0, .string (⟨#[]⟩ : ByteArray)]) (t := 67) ?hr ?_; (case hd => rfl); (case hg => rfl); (case hr => first | (go_simp; done) | (go_simp; rfl)); intro gb hg w15 hbox hb; have HG := Aside0.mk (show w.heap.size ≤ gb by rw [hg]; exact below_size HB.out); have HB2 := Aside0.mk (below_step HB.out hb); have z0 : w15.cell? ⟨gb, 0, none⟩ = some (.bool false) := (blk_cell hbox 0).trans rfl; have z1 : w15.cell? ⟨gb, 1, none⟩ = some (.int .i64 0) := (blk_cell hbox 1).trans rfl; have z2 : w15.cell? ⟨gb, 2, none⟩ = some (.int .i64 0) := (blk_cell hbox 2).trans rfl; have z3 : w15.cell? ⟨gb, 3, none⟩ = some (.string (⟨#[]⟩ : ByteArray)) := (blk_cell hbox 3).trans rfl; have y0 := blk_frozen hbox 0; have y1 := blk_frozen hbox 1; have y2 := blk_frozen hbox 2; have y3 := blk_frozen hbox 3; clear hb hbox hg) | fail)
                  go_ret
                  exact ⟨by rw [HM.out]; rfl, (by repeat (first | exact HB2.out | refine below_set ?_ HG.out | apply pw_below_drewN | apply below_drew1))⟩
              · have HM : Aside0 (b = false) := ⟨by rw [← HBE.out]; refine may_not hjl (j := j) ?_; rw [hpd, hpe]; cases hm : mayP ⟨false, x1, x2, s3⟩; rfl; have h : x1 = 0 ∧ x2 = 0 ∧ 1 ≤ s3.size ∧ s3.size ≤ 200 := (mayP_true hm).2 rfl; omega⟩
                have fA10 : decide (x1 ≥ 0) = true := decide_eq_true (by omega)
                have fA11 : decide (0 ≤ x1) = true := decide_eq_true (by omega)
                have fA12 : (0 ≤ x1) = True := eq_true (by omega)
                have fA20 : decide (x1 ≤ 200) = true := decide_eq_true (by omega)
                have fA21 : (x1 ≤ 200) = True := eq_true (by omega)
                have fA30 : decide (x2 ≥ 1) = false := decide_eq_false (by omega)
                have fA31 : decide (1 ≤ x2) = false := decide_eq_false (by omega)
                have fA32 : (1 ≤ x2) = False := eq_false (by omega)
                have fT10 : (x1 == 0) = false := by simpa using hT1
                clear hjl hpd hpe hA1 hA2 hA3 hT1
                go_wp2_with (first | ((with_reducible refine gate_dst (N := 5) rfl ?_); (try (refine gate_guard (by rfl) ?_; dsimp only)); refine box_event ?hg (N := 5) ?hd (cs := #[.bool false, .int .i64 0, .int .i64 0, .string (⟨#[]⟩ : ByteArray)]) (t := 67) ?hr ?_; (case hd => rfl); (case hg => rfl); (case hr => first | (go_simp; done) | (go_simp; rfl)); intro gb hg w15 hbox hb; have HG := Aside0.mk (show w.heap.size ≤ gb by rw [hg]; exact below_size HB.out); have HB2 := Aside0.mk (below_step HB.out hb); have z0 : w15.cell? ⟨gb, 0, none⟩ = some (.bool false) := (blk_cell hbox 0).trans rfl; have z1 : w15.cell? ⟨gb, 1, none⟩ = some (.int .i64 0) := (blk_cell hbox 1).trans rfl; have z2 : w15.cell? ⟨gb, 2, none⟩ = some (.int .i64 0) := (blk_cell hbox 2).trans rfl; have z3 : w15.cell? ⟨gb, 3, none⟩ = some (.string (⟨#[]⟩ : ByteArray)) := (blk_cell hbox 3).trans rfl; have y0 := blk_frozen hbox 0; have y1 := blk_frozen hbox 1; have y2 := blk_frozen hbox 2; have y3 := blk_frozen hbox 3; clear hb hbox hg) | fail)
                go_ret
                exact ⟨by rw [HM.out]; rfl, (by repeat (first | exact HB2.out | refine below_set ?_ HG.out | apply pw_below_drewN | apply below_drew1))⟩
          · by_cases hT1 : x1 = 0
            · omega
            · have HM : Aside0 (b = false) := ⟨by rw [← HBE.out]; refine may_not hjl (j := j) ?_; rw [hpd, hpe]; cases hm : mayP ⟨false, x1, x2, s3⟩; rfl; have h : x1 = 0 ∧ x2 = 0 ∧ 1 ≤ s3.size ∧ s3.size ≤ 200 := (mayP_true hm).2 rfl; omega⟩
              have fA10 : decide (x1 ≥ 0) = true := decide_eq_true (by omega)
              have fA11 : decide (0 ≤ x1) = true := decide_eq_true (by omega)
              have fA12 : (0 ≤ x1) = True := eq_true (by omega)
              have fA20 : decide (x1 ≤ 200) = false := decide_eq_false (by omega)
              have fA21 : (x1 ≤ 200) = False := eq_false (by omega)
              have fT10 : (x1 == 0) = false := by simpa using hT1
              clear hjl hpd hpe hA1 hA2 hT1
              go_wp2_with (first | ((with_reducible refine gate_dst (N := 5) rfl ?_); (try (refine gate_guard (by rfl) ?_; dsimp only)); refine box_event ?hg (N := 5) ?hd (cs := #[.bool false, .int .i64 0, .int .i64 0, .string (⟨#[]⟩ : ByteArray)]) (t := 67) ?hr ?_; (case hd => rfl); (case hg => rfl); (case hr => first | (go_simp; done) | (go_simp; rfl)); intro gb hg w15 hbox hb; have HG := Aside0.mk (show w.heap.size ≤ gb by rw [hg]; exact below_size HB.out); have HB2 := Aside0.mk (below_step HB.out hb); have z0 : w15.cell? ⟨gb, 0, none⟩ = some (.bool false) := (blk_cell hbox 0).trans rfl; have z1 : w15.cell? ⟨gb, 1, none⟩ = some (.int .i64 0) := (blk_cell hbox 1).trans rfl; have z2 : w15.cell? ⟨gb, 2, none⟩ = some (.int .i64 0) := (blk_cell hbox 2).trans rfl; have z3 : w15.cell? ⟨gb, 3, none⟩ = some (.string (⟨#[]⟩ : ByteArray)) := (blk_cell hbox 3).trans rfl; have y0 := blk_frozen hbox 0; have y1 := blk_frozen hbox 1; have y2 := blk_frozen hbox 2; have y3 := blk_frozen hbox 3; clear hb hbox hg) | fail)
              go_ret
              exact ⟨by rw [HM.out]; rfl, (by repeat (first | exact HB2.out | refine below_set ?_ HG.out | apply pw_below_drewN | apply below_drew1))⟩
        · by_cases hT1 : x1 = 0
          · omega
          · have HM : Aside0 (b = false) := ⟨by rw [← HBE.out]; refine may_not hjl (j := j) ?_; rw [hpd, hpe]; cases hm : mayP ⟨false, x1, x2, s3⟩; rfl; have h : x1 = 0 ∧ x2 = 0 ∧ 1 ≤ s3.size ∧ s3.size ≤ 200 := (mayP_true hm).2 rfl; omega⟩
            have fA10 : decide (x1 ≥ 0) = false := decide_eq_false (by omega)
            have fA11 : decide (0 ≤ x1) = false := decide_eq_false (by omega)
            have fA12 : (0 ≤ x1) = False := eq_false (by omega)
            have fT10 : (x1 == 0) = false := by simpa using hT1
            clear hjl hpd hpe hA1 hT1
            go_wp2_with (first | ((with_reducible refine gate_dst (N := 5) rfl ?_); (try (refine gate_guard (by rfl) ?_; dsimp only)); refine box_event ?hg (N := 5) ?hd (cs := #[.bool false, .int .i64 0, .int .i64 0, .string (⟨#[]⟩ : ByteArray)]) (t := 67) ?hr ?_; (case hd => rfl); (case hg => rfl); (case hr => first | (go_simp; done) | (go_simp; rfl)); intro gb hg w15 hbox hb; have HG := Aside0.mk (show w.heap.size ≤ gb by rw [hg]; exact below_size HB.out); have HB2 := Aside0.mk (below_step HB.out hb); have z0 : w15.cell? ⟨gb, 0, none⟩ = some (.bool false) := (blk_cell hbox 0).trans rfl; have z1 : w15.cell? ⟨gb, 1, none⟩ = some (.int .i64 0) := (blk_cell hbox 1).trans rfl; have z2 : w15.cell? ⟨gb, 2, none⟩ = some (.int .i64 0) := (blk_cell hbox 2).trans rfl; have z3 : w15.cell? ⟨gb, 3, none⟩ = some (.string (⟨#[]⟩ : ByteArray)) := (blk_cell hbox 3).trans rfl; have y0 := blk_frozen hbox 0; have y1 := blk_frozen hbox 1; have y2 := blk_frozen hbox 2; have y3 := blk_frozen hbox 3; clear hb hbox hg) | fail)
            go_ret
            exact ⟨by rw [HM.out]; rfl, (by repeat (first | exact HB2.out | refine below_set ?_ HG.out | apply pw_below_drewN | apply below_drew1))⟩
      · by_cases hA1 : x1 ≥ 0
        · by_cases hA2 : x1 ≤ 200
          · by_cases hA3 : x2 ≥ 1
            · by_cases hA4 : x2 ≤ 200
              · by_cases hA5 : s3.size = 0
                · by_cases hT1 : x1 = 0
                  · by_cases hT2 : x2 = 0
                    · omega
                    · have hmp : mayP p = true := by rw [hpe]; exact may_copy x1 x2 s3 (by omega) (by omega) (by omega) (by omega) (by omega)
                      have HMP := Aside0.mk hmp
                      obtain ⟨a1, ha1⟩ : ∃ a1, a1 = a + x2 := ⟨_, rfl⟩
                      obtain ⟨a2, ha2⟩ : ∃ a2, a2 = a1 + (s3.size : Int) := ⟨_, rfl⟩
                      have w1 : IntKind.i64.wrap (a + x2) = a1 := by have := HA.out; have := HJ.out; have := HN.out; rw [wrap_ok _ (by omega) (by omega), ha1]
                      have w2 : IntKind.i64.wrap (a1 + (s3.size : Int)) = a2 := by have := HA.out; have := HJ.out; have := HN.out; rw [wrap_ok _ (by omega) (by omega), ha2]
                      have HA2 : Aside0 (a2 = a + (x2 + (s3.size : Int)) ∧ 0 ≤ x2 + (s3.size : Int) ∧ x2 + (s3.size : Int) ≤ 400) := ⟨by omega⟩
                      clear ha1 ha2 hmp
                      have fA10 : decide (x1 ≥ 0) = true := decide_eq_true (by omega)
                      have fA11 : decide (0 ≤ x1) = true := decide_eq_true (by omega)
                      have fA12 : (0 ≤ x1) = True := eq_true (by omega)
                      have fA20 : decide (x1 ≤ 200) = true := decide_eq_true (by omega)
                      have fA21 : (x1 ≤ 200) = True := eq_true (by omega)
                      have fA30 : decide (x2 ≥ 1) = true := decide_eq_true (by omega)
                      have fA31 : decide (1 ≤ x2) = true := decide_eq_true (by omega)
                      have fA32 : (1 ≤ x2) = True := eq_true (by omega)
                      have fA40 : decide (x2 ≤ 200) = true := decide_eq_true (by omega)
                      have fA41 : (x2 ≤ 200) = True := eq_true (by omega)
                      have fA50 : s3.toList.isEmpty = true := by rw [toList_nil hA5]; rfl
                      have fT10 : (x1 == 0) = true := by rw [hT1]; rfl
                      have fT20 : (x2 == 0) = false := by simpa using hT2
                      clear hjl hpd hpe hA1 hA2 hA3 hA4 hA5 hT1 hT2
                      go_wp2_with (first | ((with_reducible refine gate_dst (N := 5) rfl ?_); (try (refine gate_guard (by rfl) ?_; dsimp only)); refine box_event ?hg (N := 5) ?hd (cs := #[.bool false, .int .i64 0, .int .i64 0, .string (⟨#[]⟩ : ByteArray)]) (t := 67) ?hr ?_; (case hd => rfl); (case hg => rfl); (case hr => first | (go_simp; done) | (go_simp; rfl)); intro gb hg w15 hbox hb; have HG := Aside0.mk (show w.heap.size ≤ gb by rw [hg]; exact below_size HB.out); have HB2 := Aside0.mk (below_step HB.out hb); have z0 : w15.cell? ⟨gb, 0, none⟩ = some (.bool false) := (blk_cell hbox 0).trans rfl; have z1 : w15.cell? ⟨gb, 1, none⟩ = some (.int .i64 0) := (blk_cell hbox 1).trans rfl; have z2 : w15.cell? ⟨gb, 2, none⟩ = some (.int .i64 0) := (blk_cell hbox 2).trans rfl; have z3 : w15.cell? ⟨gb, 3, none⟩ = some (.string (⟨#[]⟩ : ByteArray)) := (blk_cell hbox 3).trans rfl; have y0 := blk_frozen hbox 0; have y1 := blk_frozen hbox 1; have y2 := blk_frozen hbox 2; have y3 := blk_frozen hbox 3; clear hb hbox hg) | fail)
                      go_roundg (n - (j + 1))
                      case measure => have := HJ.out; have := HJ2.out; omega
                      case rel => exact ⟨a2, j + 1, by simp, by simp [ew], ⟨by have := HJ2.out; omega⟩, ⟨by rw [take_snocD l j HJL.out, HPD.out, List.all_append, HT.out.1]; simp [HMP.out], by rw [take_snocD l j HJL.out, HPD.out, sumP_append, sumP_one, ← HT.out.2, HA2.out.1, HPE.out]⟩, ⟨by have := HA.out; have := HA2.out; omega⟩, ⟨(by repeat (first | exact HB2.out | refine below_set ?_ HG.out | apply pw_below_drewN | apply below_drew1))⟩⟩
                  · have hmp : mayP p = true := by rw [hpe]; exact may_copy x1 x2 s3 (by omega) (by omega) (by omega) (by omega) (by omega)
                    have HMP := Aside0.mk hmp
                    obtain ⟨a1, ha1⟩ : ∃ a1, a1 = a + x2 := ⟨_, rfl⟩
                    obtain ⟨a2, ha2⟩ : ∃ a2, a2 = a1 + (s3.size : Int) := ⟨_, rfl⟩
                    have w1 : IntKind.i64.wrap (a + x2) = a1 := by have := HA.out; have := HJ.out; have := HN.out; rw [wrap_ok _ (by omega) (by omega), ha1]
                    have w2 : IntKind.i64.wrap (a1 + (s3.size : Int)) = a2 := by have := HA.out; have := HJ.out; have := HN.out; rw [wrap_ok _ (by omega) (by omega), ha2]
                    have HA2 : Aside0 (a2 = a + (x2 + (s3.size : Int)) ∧ 0 ≤ x2 + (s3.size : Int) ∧ x2 + (s3.size : Int) ≤ 400) := ⟨by omega⟩
                    clear ha1 ha2 hmp
                    have fA10 : decide (x1 ≥ 0) = true := decide_eq_true (by omega)
                    have fA11 : decide (0 ≤ x1) = true := decide_eq_true (by omega)
                    have fA12 : (0 ≤ x1) = True := eq_true (by omega)
                    have fA20 : decide (x1 ≤ 200) = true := decide_eq_true (by omega)
                    have fA21 : (x1 ≤ 200) = True := eq_true (by omega)
                    have fA30 : decide (x2 ≥ 1) = true := decide_eq_true (by omega)
                    have fA31 : decide (1 ≤ x2) = true := decide_eq_true (by omega)
                    have fA32 : (1 ≤ x2) = True := eq_true (by omega)
                    have fA40 : decide (x2 ≤ 200) = true := decide_eq_true (by omega)
                    have fA41 : (x2 ≤ 200) = True := eq_true (by omega)
                    have fA50 : s3.toList.isEmpty = true := by rw [toList_nil hA5]; rfl
                    have fT10 : (x1 == 0) = false := by simpa using hT1
                    clear hjl hpd hpe hA1 hA2 hA3 hA4 hA5 hT1
                    go_wp2_with (first | ((with_reducible refine gate_dst (N := 5) rfl ?_); (try (refine gate_guard (by rfl) ?_; dsimp only)); refine box_event ?hg (N := 5) ?hd (cs := #[.bool false, .int .i64 0, .int .i64 0, .string (⟨#[]⟩ : ByteArray)]) (t := 67) ?hr ?_; (case hd => rfl); (case hg => rfl); (case hr => first | (go_simp; done) | (go_simp; rfl)); intro gb hg w15 hbox hb; have HG := Aside0.mk (show w.heap.size ≤ gb by rw [hg]; exact below_size HB.out); have HB2 := Aside0.mk (below_step HB.out hb); have z0 : w15.cell? ⟨gb, 0, none⟩ = some (.bool false) := (blk_cell hbox 0).trans rfl; have z1 : w15.cell? ⟨gb, 1, none⟩ = some (.int .i64 0) := (blk_cell hbox 1).trans rfl; have z2 : w15.cell? ⟨gb, 2, none⟩ = some (.int .i64 0) := (blk_cell hbox 2).trans rfl; have z3 : w15.cell? ⟨gb, 3, none⟩ = some (.string (⟨#[]⟩ : ByteArray)) := (blk_cell hbox 3).trans rfl; have y0 := blk_frozen hbox 0; have y1 := blk_frozen hbox 1; have y2 := blk_frozen hbox 2; have y3 := blk_frozen hbox 3; clear hb hbox hg) | fail)
                    go_roundg (n - (j + 1))
                    case measure => have := HJ.out; have := HJ2.out; omega
                    case rel => exact ⟨a2, j + 1, by simp, by simp [ew], ⟨by have := HJ2.out; omega⟩, ⟨by rw [take_snocD l j HJL.out, HPD.out, List.all_append, HT.out.1]; simp [HMP.out], by rw [take_snocD l j HJL.out, HPD.out, sumP_append, sumP_one, ← HT.out.2, HA2.out.1, HPE.out]⟩, ⟨by have := HA.out; have := HA2.out; omega⟩, ⟨(by repeat (first | exact HB2.out | refine below_set ?_ HG.out | apply pw_below_drewN | apply below_drew1))⟩⟩
                · by_cases hT1 : x1 = 0
                  · by_cases hT2 : x2 = 0
                    · omega
                    · have HM : Aside0 (b = false) := ⟨by rw [← HBE.out]; refine may_not hjl (j := j) ?_; rw [hpd, hpe]; cases hm : mayP ⟨true, x1, x2, s3⟩; rfl; have h : 0 ≤ x1 ∧ x1 ≤ 200 ∧ 1 ≤ x2 ∧ x2 ≤ 200 ∧ s3.size = 0 := (mayP_true hm).1 rfl; omega⟩
                      have fA10 : decide (x1 ≥ 0) = true := decide_eq_true (by omega)
                      have fA11 : decide (0 ≤ x1) = true := decide_eq_true (by omega)
                      have fA12 : (0 ≤ x1) = True := eq_true (by omega)
                      have fA20 : decide (x1 ≤ 200) = true := decide_eq_true (by omega)
                      have fA21 : (x1 ≤ 200) = True := eq_true (by omega)
                      have fA30 : decide (x2 ≥ 1) = true := decide_eq_true (by omega)
                      have fA31 : decide (1 ≤ x2) = true := decide_eq_true (by omega)
                      have fA32 : (1 ≤ x2) = True := eq_true (by omega)
                      have fA40 : decide (x2 ≤ 200) = true := decide_eq_true (by omega)
                      have fA41 : (x2 ≤ 200) = True := eq_true (by omega)
                      have fA50 : s3.toList.isEmpty = false := toList_cons hA5
                      have fT10 : (x1 == 0) = true := by rw [hT1]; rfl
                      have fT20 : (x2 == 0) = false := by simpa using hT2
                      clear hjl hpd hpe hA1 hA2 hA3 hA4 hA5 hT1 hT2
                      go_wp2_with (first | ((with_reducible refine gate_dst (N := 5) rfl ?_); (try (refine gate_guard (by rfl) ?_; dsimp only)); refine box_event ?hg (N := 5) ?hd (cs := #[.bool false, .int .i64 0, .int .i64 0, .string (⟨#[]⟩ : ByteArray)]) (t := 67) ?hr ?_; (case hd => rfl); (case hg => rfl); (case hr => first | (go_simp; done) | (go_simp; rfl)); intro gb hg w15 hbox hb; have HG := Aside0.mk (show w.heap.size ≤ gb by rw [hg]; exact below_size HB.out); have HB2 := Aside0.mk (below_step HB.out hb); have z0 : w15.cell? ⟨gb, 0, none⟩ = some (.bool false) := (blk_cell hbox 0).trans rfl; have z1 : w15.cell? ⟨gb, 1, none⟩ = some (.int .i64 0) := (blk_cell hbox 1).trans rfl; have z2 : w15.cell? ⟨gb, 2, none⟩ = some (.int .i64 0) := (blk_cell hbox 2).trans rfl; have z3 : w15.cell? ⟨gb, 3, none⟩ = some (.string (⟨#[]⟩ : ByteArray)) := (blk_cell hbox 3).trans rfl; have y0 := blk_frozen hbox 0; have y1 := blk_frozen hbox 1; have y2 := blk_frozen hbox 2; have y3 := blk_frozen hbox 3; clear hb hbox hg) | fail)
                      go_ret
                      exact ⟨by rw [HM.out]; rfl, (by repeat (first | exact HB2.out | refine below_set ?_ HG.out | apply pw_below_drewN | apply below_drew1))⟩
                  · have HM : Aside0 (b = false) := ⟨by rw [← HBE.out]; refine may_not hjl (j := j) ?_; rw [hpd, hpe]; cases hm : mayP ⟨true, x1, x2, s3⟩; rfl; have h : 0 ≤ x1 ∧ x1 ≤ 200 ∧ 1 ≤ x2 ∧ x2 ≤ 200 ∧ s3.size = 0 := (mayP_true hm).1 rfl; omega⟩
                    have fA10 : decide (x1 ≥ 0) = true := decide_eq_true (by omega)
                    have fA11 : decide (0 ≤ x1) = true := decide_eq_true (by omega)
                    have fA12 : (0 ≤ x1) = True := eq_true (by omega)
                    have fA20 : decide (x1 ≤ 200) = true := decide_eq_true (by omega)
                    have fA21 : (x1 ≤ 200) = True := eq_true (by omega)
                    have fA30 : decide (x2 ≥ 1) = true := decide_eq_true (by omega)
                    have fA31 : decide (1 ≤ x2) = true := decide_eq_true (by omega)
                    have fA32 : (1 ≤ x2) = True := eq_true (by omega)
                    have fA40 : decide (x2 ≤ 200) = true := decide_eq_true (by omega)
                    have fA41 : (x2 ≤ 200) = True := eq_true (by omega)
                    have fA50 : s3.toList.isEmpty = false := toList_cons hA5
                    have fT10 : (x1 == 0) = false := by simpa using hT1
                    clear hjl hpd hpe hA1 hA2 hA3 hA4 hA5 hT1
                    go_wp2_with (first | ((with_reducible refine gate_dst (N := 5) rfl ?_); (try (refine gate_guard (by rfl) ?_; dsimp only)); refine box_event ?hg (N := 5) ?hd (cs := #[.bool false, .int .i64 0, .int .i64 0, .string (⟨#[]⟩ : ByteArray)]) (t := 67) ?hr ?_; (case hd => rfl); (case hg => rfl); (case hr => first | (go_simp; done) | (go_simp; rfl)); intro gb hg w15 hbox hb; have HG := Aside0.mk (show w.heap.size ≤ gb by rw [hg]; exact below_size HB.out); have HB2 := Aside0.mk (below_step HB.out hb); have z0 : w15.cell? ⟨gb, 0, none⟩ = some (.bool false) := (blk_cell hbox 0).trans rfl; have z1 : w15.cell? ⟨gb, 1, none⟩ = some (.int .i64 0) := (blk_cell hbox 1).trans rfl; have z2 : w15.cell? ⟨gb, 2, none⟩ = some (.int .i64 0) := (blk_cell hbox 2).trans rfl; have z3 : w15.cell? ⟨gb, 3, none⟩ = some (.string (⟨#[]⟩ : ByteArray)) := (blk_cell hbox 3).trans rfl; have y0 := blk_frozen hbox 0; have y1 := blk_frozen hbox 1; have y2 := blk_frozen hbox 2; have y3 := blk_frozen hbox 3; clear hb hbox hg) | fail)
                    go_ret
                    exact ⟨by rw [HM.out]; rfl, (by repeat (first | exact HB2.out | refine below_set ?_ HG.out | apply pw_below_drewN | apply below_drew1))⟩
              · by_cases hT1 : x1 = 0
                · by_cases hT2 : x2 = 0
                  · omega
                  · have HM : Aside0 (b = false) := ⟨by rw [← HBE.out]; refine may_not hjl (j := j) ?_; rw [hpd, hpe]; cases hm : mayP ⟨true, x1, x2, s3⟩; rfl; have h : 0 ≤ x1 ∧ x1 ≤ 200 ∧ 1 ≤ x2 ∧ x2 ≤ 200 ∧ s3.size = 0 := (mayP_true hm).1 rfl; omega⟩
                    have fA10 : decide (x1 ≥ 0) = true := decide_eq_true (by omega)
                    have fA11 : decide (0 ≤ x1) = true := decide_eq_true (by omega)
                    have fA12 : (0 ≤ x1) = True := eq_true (by omega)
                    have fA20 : decide (x1 ≤ 200) = true := decide_eq_true (by omega)
                    have fA21 : (x1 ≤ 200) = True := eq_true (by omega)
                    have fA30 : decide (x2 ≥ 1) = true := decide_eq_true (by omega)
                    have fA31 : decide (1 ≤ x2) = true := decide_eq_true (by omega)
                    have fA32 : (1 ≤ x2) = True := eq_true (by omega)
                    have fA40 : decide (x2 ≤ 200) = false := decide_eq_false (by omega)
                    have fA41 : (x2 ≤ 200) = False := eq_false (by omega)
                    have fT10 : (x1 == 0) = true := by rw [hT1]; rfl
                    have fT20 : (x2 == 0) = false := by simpa using hT2
                    clear hjl hpd hpe hA1 hA2 hA3 hA4 hT1 hT2
                    go_wp2_with (first | ((with_reducible refine gate_dst (N := 5) rfl ?_); (try (refine gate_guard (by rfl) ?_; dsimp only)); refine box_event ?hg (N := 5) ?hd (cs := #[.bool false, .int .i64 0, .int .i64 0, .string (⟨#[]⟩ : ByteArray)]) (t := 67) ?hr ?_; (case hd => rfl); (case hg => rfl); (case hr => first | (go_simp; done) | (go_simp; rfl)); intro gb hg w15 hbox hb; have HG := Aside0.mk (show w.heap.size ≤ gb by rw [hg]; exact below_size HB.out); have HB2 := Aside0.mk (below_step HB.out hb); have z0 : w15.cell? ⟨gb, 0, none⟩ = some (.bool false) := (blk_cell hbox 0).trans rfl; have z1 : w15.cell? ⟨gb, 1, none⟩ = some (.int .i64 0) := (blk_cell hbox 1).trans rfl; have z2 : w15.cell? ⟨gb, 2, none⟩ = some (.int .i64 0) := (blk_cell hbox 2).trans rfl; have z3 : w15.cell? ⟨gb, 3, none⟩ = some (.string (⟨#[]⟩ : ByteArray)) := (blk_cell hbox 3).trans rfl; have y0 := blk_frozen hbox 0; have y1 := blk_frozen hbox 1; have y2 := blk_frozen hbox 2; have y3 := blk_frozen hbox 3; clear hb hbox hg) | fail)
                    go_ret
                    exact ⟨by rw [HM.out]; rfl, (by repeat (first | exact HB2.out | refine below_set ?_ HG.out | apply pw_below_drewN | apply below_drew1))⟩
                · have HM : Aside0 (b = false) := ⟨by rw [← HBE.out]; refine may_not hjl (j := j) ?_; rw [hpd, hpe]; cases hm : mayP ⟨true, x1, x2, s3⟩; rfl; have h : 0 ≤ x1 ∧ x1 ≤ 200 ∧ 1 ≤ x2 ∧ x2 ≤ 200 ∧ s3.size = 0 := (mayP_true hm).1 rfl; omega⟩
                  have fA10 : decide (x1 ≥ 0) = true := decide_eq_true (by omega)
                  have fA11 : decide (0 ≤ x1) = true := decide_eq_true (by omega)
                  have fA12 : (0 ≤ x1) = True := eq_true (by omega)
                  have fA20 : decide (x1 ≤ 200) = true := decide_eq_true (by omega)
                  have fA21 : (x1 ≤ 200) = True := eq_true (by omega)
                  have fA30 : decide (x2 ≥ 1) = true := decide_eq_true (by omega)
                  have fA31 : decide (1 ≤ x2) = true := decide_eq_true (by omega)
                  have fA32 : (1 ≤ x2) = True := eq_true (by omega)
                  have fA40 : decide (x2 ≤ 200) = false := decide_eq_false (by omega)
                  have fA41 : (x2 ≤ 200) = False := eq_false (by omega)
                  have fT10 : (x1 == 0) = false := by simpa using hT1
                  clear hjl hpd hpe hA1 hA2 hA3 hA4 hT1
                  go_wp2_with (first | ((with_reducible refine gate_dst (N := 5) rfl ?_); (try (refine gate_guard (by rfl) ?_; dsimp only)); refine box_event ?hg (N := 5) ?hd (cs := #[.bool false, .int .i64 0, .int .i64 0, .string (⟨#[]⟩ : ByteArray)]) (t := 67) ?hr ?_; (case hd => rfl); (case hg => rfl); (case hr => first | (go_simp; done) | (go_simp; rfl)); intro gb hg w15 hbox hb; have HG := Aside0.mk (show w.heap.size ≤ gb by rw [hg]; exact below_size HB.out); have HB2 := Aside0.mk (below_step HB.out hb); have z0 : w15.cell? ⟨gb, 0, none⟩ = some (.bool false) := (blk_cell hbox 0).trans rfl; have z1 : w15.cell? ⟨gb, 1, none⟩ = some (.int .i64 0) := (blk_cell hbox 1).trans rfl; have z2 : w15.cell? ⟨gb, 2, none⟩ = some (.int .i64 0) := (blk_cell hbox 2).trans rfl; have z3 : w15.cell? ⟨gb, 3, none⟩ = some (.string (⟨#[]⟩ : ByteArray)) := (blk_cell hbox 3).trans rfl; have y0 := blk_frozen hbox 0; have y1 := blk_frozen hbox 1; have y2 := blk_frozen hbox 2; have y3 := blk_frozen hbox 3; clear hb hbox hg) | fail)
                  go_ret
                  exact ⟨by rw [HM.out]; rfl, (by repeat (first | exact HB2.out | refine below_set ?_ HG.out | apply pw_below_drewN | apply below_drew1))⟩
            · by_cases hT1 : x1 = 0
              · by_cases hT2 : x2 = 0
                · by_cases hT3 : 1 ≤ s3.size
                  · by_cases hT4 : s3.size ≤ 200
                    · have HM : Aside0 (b = false) := ⟨by rw [← HBE.out]; refine may_not hjl (j := j) ?_; rw [hpd, hpe]; cases hm : mayP ⟨true, x1, x2, s3⟩; rfl; have h : 0 ≤ x1 ∧ x1 ≤ 200 ∧ 1 ≤ x2 ∧ x2 ≤ 200 ∧ s3.size = 0 := (mayP_true hm).1 rfl; omega⟩
                      have fA10 : decide (x1 ≥ 0) = true := decide_eq_true (by omega)
                      have fA11 : decide (0 ≤ x1) = true := decide_eq_true (by omega)
                      have fA12 : (0 ≤ x1) = True := eq_true (by omega)
                      have fA20 : decide (x1 ≤ 200) = true := decide_eq_true (by omega)
                      have fA21 : (x1 ≤ 200) = True := eq_true (by omega)
                      have fA30 : decide (x2 ≥ 1) = false := decide_eq_false (by omega)
                      have fA31 : decide (1 ≤ x2) = false := decide_eq_false (by omega)
                      have fA32 : (1 ≤ x2) = False := eq_false (by omega)
                      have fT10 : (x1 == 0) = true := by rw [hT1]; rfl
                      have fT20 : (x2 == 0) = true := by rw [hT2]; rfl
                      have fT30 : decide ((s3.size : Int) ≥ 1) = true := decide_eq_true (by omega)
                      have fT31 : decide (1 ≤ (s3.size : Int)) = true := decide_eq_true (by omega)
                      have fT32 : decide (1 ≤ s3.size) = true := decide_eq_true (by omega)
                      have fT33 : (1 ≤ s3.size) = True := eq_true (by omega)
                      have fT34 : (1 ≤ (s3.size : Int)) = True := eq_true (by omega)
                      have fT40 : decide ((s3.size : Int) ≤ 200) = true := decide_eq_true (by omega)
                      have fT41 : decide (s3.size ≤ 200) = true := decide_eq_true (by omega)
                      have fT42 : (s3.size ≤ 200) = True := eq_true (by omega)
                      have fT43 : ((s3.size : Int) ≤ 200) = True := eq_true (by omega)
                      clear hjl hpd hpe hA1 hA2 hA3 hT1 hT2 hT3 hT4
                      go_wp2_with (first | ((with_reducible refine gate_dst (N := 5) rfl ?_); (try (refine gate_guard (by rfl) ?_; dsimp only)); refine box_event ?hg (N := 5) ?hd (cs := #[.bool false, .int .i64 0, .int .i64 0, .string (⟨#[]⟩ : ByteArray)]) (t := 67) ?hr ?_; (case hd => rfl); (case hg => rfl); (case hr => first | (go_simp; done) | (go_simp; rfl)); intro gb hg w15 hbox hb; have HG := Aside0.mk (show w.heap.size ≤ gb by rw [hg]; exact below_size HB.out); have HB2 := Aside0.mk (below_step HB.out hb); have z0 : w15.cell? ⟨gb, 0, none⟩ = some (.bool false) := (blk_cell hbox 0).trans rfl; have z1 : w15.cell? ⟨gb, 1, none⟩ = some (.int .i64 0) := (blk_cell hbox 1).trans rfl; have z2 : w15.cell? ⟨gb, 2, none⟩ = some (.int .i64 0) := (blk_cell hbox 2).trans rfl; have z3 : w15.cell? ⟨gb, 3, none⟩ = some (.string (⟨#[]⟩ : ByteArray)) := (blk_cell hbox 3).trans rfl; have y0 := blk_frozen hbox 0; have y1 := blk_frozen hbox 1; have y2 := blk_frozen hbox 2; have y3 := blk_frozen hbox 3; clear hb hbox hg) | fail)
                      go_ret
                      exact ⟨by rw [HM.out]; rfl, (by repeat (first | exact HB2.out | refine below_set ?_ HG.out | apply pw_below_drewN | apply below_drew1))⟩
                    · have HM : Aside0 (b = false) := ⟨by rw [← HBE.out]; refine may_not hjl (j := j) ?_; rw [hpd, hpe]; cases hm : mayP ⟨true, x1, x2, s3⟩; rfl; have h : 0 ≤ x1 ∧ x1 ≤ 200 ∧ 1 ≤ x2 ∧ x2 ≤ 200 ∧ s3.size = 0 := (mayP_true hm).1 rfl; omega⟩
                      have fA10 : decide (x1 ≥ 0) = true := decide_eq_true (by omega)
                      have fA11 : decide (0 ≤ x1) = true := decide_eq_true (by omega)
                      have fA12 : (0 ≤ x1) = True := eq_true (by omega)
                      have fA20 : decide (x1 ≤ 200) = true := decide_eq_true (by omega)
                      have fA21 : (x1 ≤ 200) = True := eq_true (by omega)
                      have fA30 : decide (x2 ≥ 1) = false := decide_eq_false (by omega)
                      have fA31 : decide (1 ≤ x2) = false := decide_eq_false (by omega)
                      have fA32 : (1 ≤ x2) = False := eq_false (by omega)
                      have fT10 : (x1 == 0) = true := by rw [hT1]; rfl
                      have fT20 : (x2 == 0) = true := by rw [hT2]; rfl
                      have fT30 : decide ((s3.size : Int) ≥ 1) = true := decide_eq_true (by omega)
                      have fT31 : decide (1 ≤ (s3.size : Int)) = true := decide_eq_true (by omega)
                      have fT32 : decide (1 ≤ s3.size) = true := decide_eq_true (by omega)
                      have fT33 : (1 ≤ s3.size) = True := eq_true (by omega)
                      have fT34 : (1 ≤ (s3.size : Int)) = True := eq_true (by omega)
                      have fT40 : decide ((s3.size : Int) ≤ 200) = false := decide_eq_false (by omega)
                      have fT41 : decide (s3.size ≤ 200) = false := decide_eq_false (by omega)
                      have fT42 : (s3.size ≤ 200) = False := eq_false (by omega)
                      have fT43 : ((s3.size : Int) ≤ 200) = False := eq_false (by omega)
                      clear hjl hpd hpe hA1 hA2 hA3 hT1 hT2 hT3 hT4
                      go_wp2_with (first | ((with_reducible refine gate_dst (N := 5) rfl ?_); (try (refine gate_guard (by rfl) ?_; dsimp only)); refine box_event ?hg (N := 5) ?hd (cs := #[.bool false, .int .i64 0, .int .i64 0, .string (⟨#[]⟩ : ByteArray)]) (t := 67) ?hr ?_; (case hd => rfl); (case hg => rfl); (case hr => first | (go_simp; done) | (go_simp; rfl)); intro gb hg w15 hbox hb; have HG := Aside0.mk (show w.heap.size ≤ gb by rw [hg]; exact below_size HB.out); have HB2 := Aside0.mk (below_step HB.out hb); have z0 : w15.cell? ⟨gb, 0, none⟩ = some (.bool false) := (blk_cell hbox 0).trans rfl; have z1 : w15.cell? ⟨gb, 1, none⟩ = some (.int .i64 0) := (blk_cell hbox 1).trans rfl; have z2 : w15.cell? ⟨gb, 2, none⟩ = some (.int .i64 0) := (blk_cell hbox 2).trans rfl; have z3 : w15.cell? ⟨gb, 3, none⟩ = some (.string (⟨#[]⟩ : ByteArray)) := (blk_cell hbox 3).trans rfl; have y0 := blk_frozen hbox 0; have y1 := blk_frozen hbox 1; have y2 := blk_frozen hbox 2; have y3 := blk_frozen hbox 3; clear hb hbox hg) | fail)
                      go_ret
                      exact ⟨by rw [HM.out]; rfl, (by repeat (first | exact HB2.out | refine below_set ?_ HG.out | apply pw_below_drewN | apply below_drew1))⟩
                  · have HM : Aside0 (b = false) := ⟨by rw [← HBE.out]; refine may_not hjl (j := j) ?_; rw [hpd, hpe]; cases hm : mayP ⟨true, x1, x2, s3⟩; rfl; have h : 0 ≤ x1 ∧ x1 ≤ 200 ∧ 1 ≤ x2 ∧ x2 ≤ 200 ∧ s3.size = 0 := (mayP_true hm).1 rfl; omega⟩
                    have fA10 : decide (x1 ≥ 0) = true := decide_eq_true (by omega)
                    have fA11 : decide (0 ≤ x1) = true := decide_eq_true (by omega)
                    have fA12 : (0 ≤ x1) = True := eq_true (by omega)
                    have fA20 : decide (x1 ≤ 200) = true := decide_eq_true (by omega)
                    have fA21 : (x1 ≤ 200) = True := eq_true (by omega)
                    have fA30 : decide (x2 ≥ 1) = false := decide_eq_false (by omega)
                    have fA31 : decide (1 ≤ x2) = false := decide_eq_false (by omega)
                    have fA32 : (1 ≤ x2) = False := eq_false (by omega)
                    have fT10 : (x1 == 0) = true := by rw [hT1]; rfl
                    have fT20 : (x2 == 0) = true := by rw [hT2]; rfl
                    have fT30 : decide ((s3.size : Int) ≥ 1) = false := decide_eq_false (by omega)
                    have fT31 : decide (1 ≤ (s3.size : Int)) = false := decide_eq_false (by omega)
                    have fT32 : decide (1 ≤ s3.size) = false := decide_eq_false (by omega)
                    have fT33 : (1 ≤ s3.size) = False := eq_false (by omega)
                    have fT34 : (1 ≤ (s3.size : Int)) = False := eq_false (by omega)
                    clear hjl hpd hpe hA1 hA2 hA3 hT1 hT2 hT3
                    go_wp2_with (first | ((with_reducible refine gate_dst (N := 5) rfl ?_); (try (refine gate_guard (by rfl) ?_; dsimp only)); refine box_event ?hg (N := 5) ?hd (cs := #[.bool false, .int .i64 0, .int .i64 0, .string (⟨#[]⟩ : ByteArray)]) (t := 67) ?hr ?_; (case hd => rfl); (case hg => rfl); (case hr => first | (go_simp; done) | (go_simp; rfl)); intro gb hg w15 hbox hb; have HG := Aside0.mk (show w.heap.size ≤ gb by rw [hg]; exact below_size HB.out); have HB2 := Aside0.mk (below_step HB.out hb); have z0 : w15.cell? ⟨gb, 0, none⟩ = some (.bool false) := (blk_cell hbox 0).trans rfl; have z1 : w15.cell? ⟨gb, 1, none⟩ = some (.int .i64 0) := (blk_cell hbox 1).trans rfl; have z2 : w15.cell? ⟨gb, 2, none⟩ = some (.int .i64 0) := (blk_cell hbox 2).trans rfl; have z3 : w15.cell? ⟨gb, 3, none⟩ = some (.string (⟨#[]⟩ : ByteArray)) := (blk_cell hbox 3).trans rfl; have y0 := blk_frozen hbox 0; have y1 := blk_frozen hbox 1; have y2 := blk_frozen hbox 2; have y3 := blk_frozen hbox 3; clear hb hbox hg) | fail)
                    go_ret
                    exact ⟨by rw [HM.out]; rfl, (by repeat (first | exact HB2.out | refine below_set ?_ HG.out | apply pw_below_drewN | apply below_drew1))⟩
                · have HM : Aside0 (b = false) := ⟨by rw [← HBE.out]; refine may_not hjl (j := j) ?_; rw [hpd, hpe]; cases hm : mayP ⟨true, x1, x2, s3⟩; rfl; have h : 0 ≤ x1 ∧ x1 ≤ 200 ∧ 1 ≤ x2 ∧ x2 ≤ 200 ∧ s3.size = 0 := (mayP_true hm).1 rfl; omega⟩
                  have fA10 : decide (x1 ≥ 0) = true := decide_eq_true (by omega)
                  have fA11 : decide (0 ≤ x1) = true := decide_eq_true (by omega)
                  have fA12 : (0 ≤ x1) = True := eq_true (by omega)
                  have fA20 : decide (x1 ≤ 200) = true := decide_eq_true (by omega)
                  have fA21 : (x1 ≤ 200) = True := eq_true (by omega)
                  have fA30 : decide (x2 ≥ 1) = false := decide_eq_false (by omega)
                  have fA31 : decide (1 ≤ x2) = false := decide_eq_false (by omega)
                  have fA32 : (1 ≤ x2) = False := eq_false (by omega)
                  have fT10 : (x1 == 0) = true := by rw [hT1]; rfl
                  have fT20 : (x2 == 0) = false := by simpa using hT2
                  clear hjl hpd hpe hA1 hA2 hA3 hT1 hT2
                  go_wp2_with (first | ((with_reducible refine gate_dst (N := 5) rfl ?_); (try (refine gate_guard (by rfl) ?_; dsimp only)); refine box_event ?hg (N := 5) ?hd (cs := #[.bool false, .int .i64 0, .int .i64 0, .string (⟨#[]⟩ : ByteArray)]) (t := 67) ?hr ?_; (case hd => rfl); (case hg => rfl); (case hr => first | (go_simp; done) | (go_simp; rfl)); intro gb hg w15 hbox hb; have HG := Aside0.mk (show w.heap.size ≤ gb by rw [hg]; exact below_size HB.out); have HB2 := Aside0.mk (below_step HB.out hb); have z0 : w15.cell? ⟨gb, 0, none⟩ = some (.bool false) := (blk_cell hbox 0).trans rfl; have z1 : w15.cell? ⟨gb, 1, none⟩ = some (.int .i64 0) := (blk_cell hbox 1).trans rfl; have z2 : w15.cell? ⟨gb, 2, none⟩ = some (.int .i64 0) := (blk_cell hbox 2).trans rfl; have z3 : w15.cell? ⟨gb, 3, none⟩ = some (.string (⟨#[]⟩ : ByteArray)) := (blk_cell hbox 3).trans rfl; have y0 := blk_frozen hbox 0; have y1 := blk_frozen hbox 1; have y2 := blk_frozen hbox 2; have y3 := blk_frozen hbox 3; clear hb hbox hg) | fail)
                  go_ret
                  exact ⟨by rw [HM.out]; rfl, (by repeat (first | exact HB2.out | refine below_set ?_ HG.out | apply pw_below_drewN | apply below_drew1))⟩
              · have HM : Aside0 (b = false) := ⟨by rw [← HBE.out]; refine may_not hjl (j := j) ?_; rw [hpd, hpe]; cases hm : mayP ⟨true, x1, x2, s3⟩; rfl; have h : 0 ≤ x1 ∧ x1 ≤ 200 ∧ 1 ≤ x2 ∧ x2 ≤ 200 ∧ s3.size = 0 := (mayP_true hm).1 rfl; omega⟩
                have fA10 : decide (x1 ≥ 0) = true := decide_eq_true (by omega)
                have fA11 : decide (0 ≤ x1) = true := decide_eq_true (by omega)
                have fA12 : (0 ≤ x1) = True := eq_true (by omega)
                have fA20 : decide (x1 ≤ 200) = true := decide_eq_true (by omega)
                have fA21 : (x1 ≤ 200) = True := eq_true (by omega)
                have fA30 : decide (x2 ≥ 1) = false := decide_eq_false (by omega)
                have fA31 : decide (1 ≤ x2) = false := decide_eq_false (by omega)
                have fA32 : (1 ≤ x2) = False := eq_false (by omega)
                have fT10 : (x1 == 0) = false := by simpa using hT1
                clear hjl hpd hpe hA1 hA2 hA3 hT1
                go_wp2_with (first | ((with_reducible refine gate_dst (N := 5) rfl ?_); (try (refine gate_guard (by rfl) ?_; dsimp only)); refine box_event ?hg (N := 5) ?hd (cs := #[.bool false, .int .i64 0, .int .i64 0, .string (⟨#[]⟩ : ByteArray)]) (t := 67) ?hr ?_; (case hd => rfl); (case hg => rfl); (case hr => first | (go_simp; done) | (go_simp; rfl)); intro gb hg w15 hbox hb; have HG := Aside0.mk (show w.heap.size ≤ gb by rw [hg]; exact below_size HB.out); have HB2 := Aside0.mk (below_step HB.out hb); have z0 : w15.cell? ⟨gb, 0, none⟩ = some (.bool false) := (blk_cell hbox 0).trans rfl; have z1 : w15.cell? ⟨gb, 1, none⟩ = some (.int .i64 0) := (blk_cell hbox 1).trans rfl; have z2 : w15.cell? ⟨gb, 2, none⟩ = some (.int .i64 0) := (blk_cell hbox 2).trans rfl; have z3 : w15.cell? ⟨gb, 3, none⟩ = some (.string (⟨#[]⟩ : ByteArray)) := (blk_cell hbox 3).trans rfl; have y0 := blk_frozen hbox 0; have y1 := blk_frozen hbox 1; have y2 := blk_frozen hbox 2; have y3 := blk_frozen hbox 3; clear hb hbox hg) | fail)
                go_ret
                exact ⟨by rw [HM.out]; rfl, (by repeat (first | exact HB2.out | refine below_set ?_ HG.out | apply pw_below_drewN | apply below_drew1))⟩
          · by_cases hT1 : x1 = 0
            · omega
            · have HM : Aside0 (b = false) := ⟨by rw [← HBE.out]; refine may_not hjl (j := j) ?_; rw [hpd, hpe]; cases hm : mayP ⟨true, x1, x2, s3⟩; rfl; have h : 0 ≤ x1 ∧ x1 ≤ 200 ∧ 1 ≤ x2 ∧ x2 ≤ 200 ∧ s3.size = 0 := (mayP_true hm).1 rfl; omega⟩
              have fA10 : decide (x1 ≥ 0) = true := decide_eq_true (by omega)
              have fA11 : decide (0 ≤ x1) = true := decide_eq_true (by omega)
              have fA12 : (0 ≤ x1) = True := eq_true (by omega)
              have fA20 : decide (x1 ≤ 200) = false := decide_eq_false (by omega)
              have fA21 : (x1 ≤ 200) = False := eq_false (by omega)
              have fT10 : (x1 == 0) = false := by simpa using hT1
              clear hjl hpd hpe hA1 hA2 hT1
              go_wp2_with (first | ((with_reducible refine gate_dst (N := 5) rfl ?_); (try (refine gate_guard (by rfl) ?_; dsimp only)); refine box_event ?hg (N := 5) ?hd (cs := #[.bool false, .int .i64 0, .int .i64 0, .string (⟨#[]⟩ : ByteArray)]) (t := 67) ?hr ?_; (case hd => rfl); (case hg => rfl); (case hr => first | (go_simp; done) | (go_simp; rfl)); intro gb hg w15 hbox hb; have HG := Aside0.mk (show w.heap.size ≤ gb by rw [hg]; exact below_size HB.out); have HB2 := Aside0.mk (below_step HB.out hb); have z0 : w15.cell? ⟨gb, 0, none⟩ = some (.bool false) := (blk_cell hbox 0).trans rfl; have z1 : w15.cell? ⟨gb, 1, none⟩ = some (.int .i64 0) := (blk_cell hbox 1).trans rfl; have z2 : w15.cell? ⟨gb, 2, none⟩ = some (.int .i64 0) := (blk_cell hbox 2).trans rfl; have z3 : w15.cell? ⟨gb, 3, none⟩ = some (.string (⟨#[]⟩ : ByteArray)) := (blk_cell hbox 3).trans rfl; have y0 := blk_frozen hbox 0; have y1 := blk_frozen hbox 1; have y2 := blk_frozen hbox 2; have y3 := blk_frozen hbox 3; clear hb hbox hg) | fail)
              go_ret
              exact ⟨by rw [HM.out]; rfl, (by repeat (first | exact HB2.out | refine below_set ?_ HG.out | apply pw_below_drewN | apply below_drew1))⟩
        · by_cases hT1 : x1 = 0
          · omega
          · have HM : Aside0 (b = false) := ⟨by rw [← HBE.out]; refine may_not hjl (j := j) ?_; rw [hpd, hpe]; cases hm : mayP ⟨true, x1, x2, s3⟩; rfl; have h : 0 ≤ x1 ∧ x1 ≤ 200 ∧ 1 ≤ x2 ∧ x2 ≤ 200 ∧ s3.size = 0 := (mayP_true hm).1 rfl; omega⟩
            have fA10 : decide (x1 ≥ 0) = false := decide_eq_false (by omega)
            have fA11 : decide (0 ≤ x1) = false := decide_eq_false (by omega)
            have fA12 : (0 ≤ x1) = False := eq_false (by omega)
            have fT10 : (x1 == 0) = false := by simpa using hT1
            clear hjl hpd hpe hA1 hT1
            go_wp2_with (first | ((with_reducible refine gate_dst (N := 5) rfl ?_); (try (refine gate_guard (by rfl) ?_; dsimp only)); refine box_event ?hg (N := 5) ?hd (cs := #[.bool false, .int .i64 0, .int .i64 0, .string (⟨#[]⟩ : ByteArray)]) (t := 67) ?hr ?_; (case hd => rfl); (case hg => rfl); (case hr => first | (go_simp; done) | (go_simp; rfl)); intro gb hg w15 hbox hb; have HG := Aside0.mk (show w.heap.size ≤ gb by rw [hg]; exact below_size HB.out); have HB2 := Aside0.mk (below_step HB.out hb); have z0 : w15.cell? ⟨gb, 0, none⟩ = some (.bool false) := (blk_cell hbox 0).trans rfl; have z1 : w15.cell? ⟨gb, 1, none⟩ = some (.int .i64 0) := (blk_cell hbox 1).trans rfl; have z2 : w15.cell? ⟨gb, 2, none⟩ = some (.int .i64 0) := (blk_cell hbox 2).trans rfl; have z3 : w15.cell? ⟨gb, 3, none⟩ = some (.string (⟨#[]⟩ : ByteArray)) := (blk_cell hbox 3).trans rfl; have y0 := blk_frozen hbox 0; have y1 := blk_frozen hbox 1; have y2 := blk_frozen hbox 2; have y3 := blk_frozen hbox 3; clear hb hbox hg) | fail)
            go_ret
            exact ⟨by rw [HM.out]; rfl, (by repeat (first | exact HB2.out | refine below_set ?_ HG.out | apply pw_below_drewN | apply below_drew1))⟩
    · have e1 : decide ((j : Int) < (n : Int)) = false := by simpa using hj
      have e2 : ((j : Int) < (n : Int)) = False := by simpa using hj
      have htk : l.take j = l := List.take_of_length_le (by rw [HLN.out]; omega)
      have HT2 : Aside0 (l.all mayP = true ∧ a = sumP l) := ⟨by rw [← htk]; exact HT.out.1, by rw [← htk]; have := HT.out.2; rw [htk] at this ⊢; exact this⟩
      clear htk hj
      by_cases hq1 : n ≤ 60
      · have f1 : decide ((n : Int) ≤ 60) = true := decide_eq_true (by omega)
        have f2 : decide (n ≤ 60) = true := decide_eq_true hq1
        by_cases hq2 : a ≤ 200
        · have f3 : decide (a ≤ 200) = true := decide_eq_true hq2
          have HM : Aside0 (b = true) := ⟨by rw [← HBE.out, mayL_iff, HLN.out]; exact ⟨HT2.out.1, hq1, by rw [← HT2.out.2]; exact hq2⟩⟩
          clear hq1 hq2
          go_wp2_with fail
          go_ret
          exact ⟨by rw [HM.out]; rfl, HB.out⟩
        · have f3 : decide (a ≤ 200) = false := decide_eq_false hq2
          have HM : Aside0 (b = false) := ⟨by rw [← HBE.out]; cases hm : mayL l; rfl; have := ((mayL_iff l).1 hm).2.2; rw [← HT2.out.2] at this; omega⟩
          clear hq1 hq2
          go_wp2_with fail
          go_ret
          exact ⟨by rw [HM.out]; rfl, HB.out⟩
      · have f1 : decide ((n : Int) ≤ 60) = false := decide_eq_false (by omega)
        have f2 : decide (n ≤ 60) = false := decide_eq_false hq1
        have HM : Aside0 (b = false) := ⟨by rw [← HBE.out]; cases hm : mayL l; rfl; have := ((mayL_iff l).1 hm).2.1; rw [HLN.out] at this; omega⟩
        clear hq1
        go_wp2_with fail
        go_ret
        exact ⟨by rw [HM.out]; rfl, HB.out⟩
/-- In the printed form. -/
def rolodexref11_May.f (k : Nat) (l0 : List S67) : Option Bool := if l0.length ≤ 1000000000 then some (mayL l0) else none
theorem rolodexref11_May.mono : ∀ a0 k, LeO (rolodexref11_May.f k a0) (rolodexref11_May.f (k + 1) a0) := fun _ _ => LeO.refl _
theorem rolodexref11_May.calls (k : Nat) (A0 : Option Addr) (c0 : Nat) (l0 : List (S67)) (r : Bool) (w : World) (hr0 : Kd.C k67 w A0 l0.length l0) (hc0 : l0.length ≤ c0) (h : rolodexref11_May.f k l0 = some r) :
    Calls Try.prog 60 #[.slice A0 l0.length c0] w fun e w' => e = .returned (.bool r) ∧ Below w.heap.size w w' := by
  unfold rolodexref11_May.f at h
  split at h
  · rename_i hl
    exact rmay_call rfl A0 c0 w hr0 hl r (Option.some.inj h)
  · simp at h
end Go.Proofs.Ytchaegfdcdlfaaa.X

namespace Go.Proofs.Ytchaegfdcdlfaaa.X
open Go.RowKit Go.Proofs.YtchaegfdcdlfaaaW.PrintWords Go.Proofs.YtchaegfdcdlfaaaW.PrintLast Go.Proofs.YtchaegfdcdlfaaaW.PrintMore
attribute [local go_sem] max2_int min2_int max_two min_two max_three min_three max_four min_four   -- for this text's walks alone
set_option linter.unusedVariables false
set_option linter.unusedSimpArgs false

attribute [local go_sem high] eqA67
/-! ### rolodexref11_Same: function 54 -/
def rolodexref11_Same.l0 : Nat → List (S67) → List (S67) → Int → Option (Bool)
  | 0, _, _, _ => none
  | k + 1, x0, x1, x5 => if x5 < (x0.length : Int) then (if 0 ≤ x5 then (if x5 < (x1.length : Int) then (if (!(((rd_T67 x0 x5).f0) == ((rd_T67 x1 x5).f0)) || (!(((rd_T67 x0 x5).f1) == ((rd_T67 x1 x5).f1)) || (!(((rd_T67 x0 x5).f2) == ((rd_T67 x1 x5).f2)) || (!((((rd_T67 x0 x5).f3).toList) == (((rd_T67 x1 x5).f3).toList)))))) = true then (some false) else (rolodexref11_Same.l0 k x0 x1 (wrap64 (x5 + 1)))) else (none)) else (none)) else (some true)
def rolodexref11_Same.f (k : Nat) (l0 : List (S67)) (l1 : List (S67)) : Option (Bool) := if (l0.length : Int) = (l1.length : Int) then (rolodexref11_Same.l0 k l0 l1 0) else (some false)
theorem rolodexref11_Same.mono_l : ∀ k, (∀ y0 y1 y2, LeO (rolodexref11_Same.l0 k y0 y1 y2) (rolodexref11_Same.l0 (k + 1) y0 y1 y2))
  | 0 => fun _ _ _ r h => by simp [rolodexref11_Same.l0] at h
  | k + 1 => by
    have ih0 := rolodexref11_Same.mono_l k
    · intro y0 y1 y2
      unfold rolodexref11_Same.l0
      repeat' first
      | (with_reducible exact ih0 _ _ _)
      | (with_reducible exact LeO.refl _)
      | (with_reducible exact LeO.none _)
      | (with_reducible refine LeO.ite ?_ ?_)
      | (with_reducible refine LeO.bind ?_ (fun _ => ?_))
      | exact ih0 _ _ _
      | exact LeO.none _
      | refine LeO.ite ?_ ?_
      | refine LeO.bind ?_ (fun _ => ?_)
theorem rolodexref11_Same.mono : ∀ a0 a1 k, LeO (rolodexref11_Same.f k a0 a1) (rolodexref11_Same.f (k + 1) a0 a1) := by
  intro a0 a1 k
  have ih0 := rolodexref11_Same.mono_l k
  unfold rolodexref11_Same.f
  repeat' first
      | (with_reducible exact ih0 _ _ _)
      | (with_reducible exact LeO.refl _)
      | (with_reducible exact LeO.none _)
      | (with_reducible refine LeO.ite ?_ ?_)
      | (with_reducible refine LeO.bind ?_ (fun _ => ?_))
      | exact ih0 _ _ _
      | exact LeO.none _
      | refine LeO.ite ?_ ?_
      | refine LeO.bind ?_ (fun _ => ?_)
set_option maxHeartbeats 8000000 in
set_option maxRecDepth 100000 in
theorem rolodexref11_Same.calls (k : Nat) (A0 : Option Addr) (c0 : Nat) (l0 : List (S67)) (A1 : Option Addr) (c1 : Nat) (l1 : List (S67)) (r : Bool) (w : World) (hr0 : Kd.C k67 w A0 l0.length l0) (hc0 : l0.length ≤ c0) (hr1 : Kd.C k67 w A1 l1.length l1) (hc1 : l1.length ≤ c1) (h : rolodexref11_Same.f k l0 l1 = some r) :
    Calls Try.prog 54 #[.slice A0 l0.length c0, .slice A1 l1.length c1] w fun e w' => e = .returned (.bool r) ∧ Drawn0 w w' := by
  have hu67 := Try.underlying67
  have HR0 := Aside0.mk hr0
  have HC0 := Aside0.mk hc0
  clear hr0 hc0
  have HR1 := Aside0.mk hr1
  have HC1 := Aside0.mk hc1
  clear hr1 hc1
  have H : (if (l0.length : Int) = (l1.length : Int) then (rolodexref11_Same.l0 k l0 l1 0) else (some false)) = some r := h
  clear h
  by_cases c3 : (l0.length : Int) = (l1.length : Int)
  · rw [if_pos c3] at H
    have c3b0 : ((l0.length : Int) == (l1.length : Int)) = true := beq_iff_eq.mpr c3
    have c3b1 : ((l0.length : Int) != (l1.length : Int)) = false := bne_eq_false_iff_eq.mpr c3
    have c3b2 : (l0.length == l1.length) = true := by first | simpa using c3 | (simp at c3 ⊢; omega)
    clear c3
    have H' := Aside0.mk H
    clear H
    go_enter Try.func54, Try.ntmps54
    go_wp2
    repeat (go_quiet (fail); try go_wp2)
    go_loopg [5] k (fun kq v5 w' => ∃ (x5_1 : Int), v5 = .int .i64 x5_1 ∧ Aside0 (rolodexref11_Same.l0 kq l0 l1 x5_1 = some r) ∧ Aside0 (kq ≤ k) ∧ Drawn0 w w')
    case atStart => exact ⟨(0), (by first | rfl | (simp; done) | (simp [*]; done)), H', ⟨Nat.le_refl _⟩, by repeat (first | exact Drawn0.refl _ | apply Drawn0.step)⟩
    case round =>
      clear H'
      try clear c1
      try clear p2
      try clear c3
      try clear c3b0
      try clear c3b1
      try clear c3b2
      obtain ⟨x5_1, rfl, HA, HK1, ⟨m1, rfl⟩⟩ := hrel
      cases gk with
      | zero => exact absurd HA.out (by simp [rolodexref11_Same.l0])
      | succ k1 =>
        have H := HA.out
        clear HA
        simp only [rolodexref11_Same.l0] at H
        by_cases c4 : x5_1 < (l0.length : Int)
        · rw [if_pos c4] at H
          have c4b0 : decide (x5_1 < (l0.length : Int)) = true := decide_eq_true c4
          clear c4
          by_cases c5 : 0 ≤ x5_1
          · rw [if_pos c5] at H
            have c5b0 : decide (0 ≤ x5_1) = true := decide_eq_true c5
            clear c5
            by_cases c6 : x5_1 < (l1.length : Int)
            · rw [if_pos c6] at H
              have c6b0 : decide (x5_1 < (l1.length : Int)) = true := decide_eq_true c6
              clear c6
              by_cases c7 : (!(((rd_T67 l0 x5_1).f0) == ((rd_T67 l1 x5_1).f0)) || (!(((rd_T67 l0 x5_1).f1) == ((rd_T67 l1 x5_1).f1)) || (!(((rd_T67 l0 x5_1).f2) == ((rd_T67 l1 x5_1).f2)) || (!((((rd_T67 l0 x5_1).f3).toList) == (((rd_T67 l1 x5_1).f3).toList)))))) = true
              · rw [if_pos c7] at H
                have c7b0 : (!(((rd_T67 l0 x5_1).f0) == ((rd_T67 l1 x5_1).f0)) || (!(((rd_T67 l0 x5_1).f1) == ((rd_T67 l1 x5_1).f1)) || (!(((rd_T67 l0 x5_1).f2) == ((rd_T67 l1 x5_1).f2)) || (!((((rd_T67 l0 x5_1).f3).toList) == (((rd_T67 l1 x5_1).f3).toList)))))) = true := c7
                clear c7
                obtain rfl := Option.some.inj H
                have p524 : 0 ≤ (x5_1 : Int) := of_decide_eq_true (by first | (with_reducible assumption) | assumption)
                have q524 : x5_1 < (l0.length : Int) := of_decide_eq_true (by first | (with_reducible assumption) | assumption)
                obtain ⟨ad524, e524, hx524_0, hx524_1, hx524_2, hx524_3⟩ := at_T67 HR0.out x5_1 p524 q524
                cases e524
                replace p524 := eq_true p524
                replace q524 := eq_true q524
                have p525 : 0 ≤ (x5_1 : Int) := of_decide_eq_true (by first | (with_reducible assumption) | assumption)
                have q525 : x5_1 < (l1.length : Int) := of_decide_eq_true (by first | (with_reducible assumption) | assumption)
                obtain ⟨ad525, e525, hx525_0, hx525_1, hx525_2, hx525_3⟩ := at_T67 HR1.out x5_1 p525 q525
                cases e525
                replace p525 := eq_true p525
                replace q525 := eq_true q525
                go_wp2
                repeat (go_quiet (fail); try go_wp2)
                go_ret
                exact ⟨by first | rfl | (simp; done) | (simp [*]; done), by repeat (first | exact Drawn0.refl _ | apply Drawn0.step)⟩
              · rw [if_neg c7] at H
                have c7b0 : (!(((rd_T67 l0 x5_1).f0) == ((rd_T67 l1 x5_1).f0)) || (!(((rd_T67 l0 x5_1).f1) == ((rd_T67 l1 x5_1).f1)) || (!(((rd_T67 l0 x5_1).f2) == ((rd_T67 l1 x5_1).f2)) || (!((((rd_T67 l0 x5_1).f3).toList) == (((rd_T67 l1 x5_1).f3).toList)))))) = false := by simpa using c7
                clear c7
                have H' := Aside0.mk H
                clear H
                have p524 : 0 ≤ (x5_1 : Int) := of_decide_eq_true (by first | (with_reducible assumption) | assumption)
                have q524 : x5_1 < (l0.length : Int) := of_decide_eq_true (by first | (with_reducible assumption) | assumption)
                obtain ⟨ad524, e524, hx524_0, hx524_1, hx524_2, hx524_3⟩ := at_T67 HR0.out x5_1 p524 q524
                cases e524
                replace p524 := eq_true p524
                replace q524 := eq_true q524
                have p525 : 0 ≤ (x5_1 : Int) := of_decide_eq_true (by first | (with_reducible assumption) | assumption)
                have q525 : x5_1 < (l1.length : Int) := of_decide_eq_true (by first | (with_reducible assumption) | assumption)
                obtain ⟨ad525, e525, hx525_0, hx525_1, hx525_2, hx525_3⟩ := at_T67 HR1.out x5_1 p525 q525
                cases e525
                replace p525 := eq_true p525
                replace q525 := eq_true q525
                go_wp2
                repeat (go_quiet (fail); try go_wp2)
                go_roundg k1
                case measure => have := HK1.out; omega
                case rel => exact ⟨(wrap64 (x5_1 + 1)), (by first | rfl | (simp; done) | (simp [*]; done)), H', ⟨by have := HK1.out; omega⟩, by repeat (first | exact Drawn0.refl _ | apply Drawn0.step)⟩
            · rw [if_neg c6] at H
              exact absurd H (by simp)
          · rw [if_neg c5] at H
            exact absurd H (by simp)
        · rw [if_neg c4] at H
          have c4b0 : decide (x5_1 < (l0.length : Int)) = false := decide_eq_false c4
          clear c4
          obtain rfl := Option.some.inj H
          go_wp2
          repeat (go_quiet (fail); try go_wp2)
          go_ret
          exact ⟨by first | rfl | (simp; done) | (simp [*]; done), by repeat (first | exact Drawn0.refl _ | apply Drawn0.step)⟩
  · rw [if_neg c3] at H
    have c3b0 : ((l0.length : Int) == (l1.length : Int)) = false := beq_eq_false_iff_ne.mpr c3
    have c3b1 : ((l0.length : Int) != (l1.length : Int)) = true := bne_iff_ne.mpr c3
    have c3b2 : (l0.length == l1.length) = false := by first | simpa using c3 | (simp at c3 ⊢; omega)
    obtain rfl := Option.some.inj H
    go_enter Try.func54, Try.ntmps54
    go_wp2
    repeat (go_quiet (fail); try go_wp2)
    go_ret
    exact ⟨by first | rfl | (simp; done) | (simp [*]; done), by repeat (first | exact Drawn0.refl _ | apply Drawn0.step)⟩

end Go.Proofs.Ytchaegfdcdlfaaa.X

namespace Go.Proofs.Ytchaegfdcdlfaaa.X
open Go.RowKit Go.Proofs.YtchaegfdcdlfaaaW.PrintWords Go.Proofs.YtchaegfdcdlfaaaW.PrintLast Go.Proofs.YtchaegfdcdlfaaaW.PrintMore
attribute [local go_sem] max2_int min2_int max_two min_two max_three min_three max_four min_four   -- for this text's walks alone
set_option linter.unusedVariables false
set_option linter.unusedSimpArgs false

attribute [local go_sem high] eqA67
/-! ### api_Piece: function 102 -/
def api_Piece.l0 : Nat → List (S67) → List (S67) → Int → Int → Option (Bool)
  | 0, _, _, _, _ => none
  | k + 1, x0, x1, x12, x13 => if x13 < x12 then (if 0 ≤ x13 then (if x13 < (x0.length : Int) then (if x13 < (x1.length : Int) then (if (!(((rd_T67 x0 x13).f0) == ((rd_T67 x1 x13).f0)) || (!(((rd_T67 x0 x13).f1) == ((rd_T67 x1 x13).f1)) || (!(((rd_T67 x0 x13).f2) == ((rd_T67 x1 x13).f2)) || (!((((rd_T67 x0 x13).f3).toList) == (((rd_T67 x1 x13).f3).toList)))))) = true then (some false) else (api_Piece.l0 k x0 x1 x12 (wrap64 (x13 + 1)))) else (none)) else (none)) else (none)) else (some true)
def api_Piece.f (k : Nat) (l0 : List (S67)) (l1 : List (S67)) : Option (Bool) := if (l0.length : Int) = (l1.length : Int) then (api_Piece.l0 k l0 l1 (l0.length : Int) 0) else (some false)
theorem api_Piece.mono_l : ∀ k, (∀ y0 y1 y2 y3, LeO (api_Piece.l0 k y0 y1 y2 y3) (api_Piece.l0 (k + 1) y0 y1 y2 y3))
  | 0 => fun _ _ _ _ r h => by simp [api_Piece.l0] at h
  | k + 1 => by
    have ih0 := api_Piece.mono_l k
    · intro y0 y1 y2 y3
      unfold api_Piece.l0
      repeat' first
      | (with_reducible exact ih0 _ _ _ _)
      | (with_reducible exact LeO.refl _)
      | (with_reducible exact LeO.none _)
      | (with_reducible refine LeO.ite ?_ ?_)
      | (with_reducible refine LeO.bind ?_ (fun _ => ?_))
      | exact ih0 _ _ _ _
      | exact LeO.none _
      | refine LeO.ite ?_ ?_
      | refine LeO.bind ?_ (fun _ => ?_)
theorem api_Piece.mono : ∀ a0 a1 k, LeO (api_Piece.f k a0 a1) (api_Piece.f (k + 1) a0 a1) := by
  intro a0 a1 k
  have ih0 := api_Piece.mono_l k
  unfold api_Piece.f
  repeat' first
      | (with_reducible exact ih0 _ _ _ _)
      | (with_reducible exact LeO.refl _)
      | (with_reducible exact LeO.none _)
      | (with_reducible refine LeO.ite ?_ ?_)
      | (with_reducible refine LeO.bind ?_ (fun _ => ?_))
      | exact ih0 _ _ _ _
      | exact LeO.none _
      | refine LeO.ite ?_ ?_
      | refine LeO.bind ?_ (fun _ => ?_)
set_option maxHeartbeats 8000000 in
set_option maxRecDepth 100000 in
theorem api_Piece.calls (k : Nat) (A0 : Option Addr) (c0 : Nat) (l0 : List (S67)) (A1 : Option Addr) (c1 : Nat) (l1 : List (S67)) (r : Bool) (w : World) (hr0 : Kd.C k67 w A0 l0.length l0) (hc0 : l0.length ≤ c0) (hr1 : Kd.C k67 w A1 l1.length l1) (hc1 : l1.length ≤ c1) (h : api_Piece.f k l0 l1 = some r) :
    Calls Try.prog 102 #[.slice A0 l0.length c0, .slice A1 l1.length c1] w fun e w' => e = .returned (.bool r) ∧ Drawn0 w w' := by
  have hu67 := Try.underlying67
  have HR0 := Aside0.mk hr0
  have HC0 := Aside0.mk hc0
  clear hr0 hc0
  have HR1 := Aside0.mk hr1
  have HC1 := Aside0.mk hc1
  clear hr1 hc1
  have H : (if (l0.length : Int) = (l1.length : Int) then (api_Piece.l0 k l0 l1 (l0.length : Int) 0) else (some false)) = some r := h
  clear h
  by_cases c3 : (l0.length : Int) = (l1.length : Int)
  · rw [if_pos c3] at H
    have c3b0 : ((l0.length : Int) == (l1.length : Int)) = true := beq_iff_eq.mpr c3
    have c3b1 : ((l0.length : Int) != (l1.length : Int)) = false := bne_eq_false_iff_eq.mpr c3
    have c3b2 : (l0.length == l1.length) = true := by first | simpa using c3 | (simp at c3 ⊢; omega)
    clear c3
    have H' := Aside0.mk H
    clear H
    go_enter Try.func102, Try.ntmps102
    go_wp2
    repeat (go_quiet (fail); try go_wp2)
    go_loopg [13] k (fun kq v13 w' => ∃ (x13_1 : Int), v13 = .int .i64 x13_1 ∧ Aside0 (api_Piece.l0 kq l0 l1 (l0.length : Int) x13_1 = some r) ∧ Aside0 (kq ≤ k) ∧ Drawn0 w w')
    case atStart => exact ⟨(0), (by first | rfl | (simp; done) | (simp [*]; done)), H', ⟨Nat.le_refl _⟩, by repeat (first | exact Drawn0.refl _ | apply Drawn0.step)⟩
    case round =>
      clear H'
      try clear c1
      try clear p2
      try clear c3
      try clear c3b0
      try clear c3b1
      try clear c3b2
      obtain ⟨x13_1, rfl, HA, HK1, ⟨m1, rfl⟩⟩ := hrel
      cases gk with
      | zero => exact absurd HA.out (by simp [api_Piece.l0])
      | succ k1 =>
        have H := HA.out
        clear HA
        simp only [api_Piece.l0] at H
        by_cases c4 : x13_1 < (l0.length : Int)
        · rw [if_pos c4] at H
          have c4b0 : decide (x13_1 < (l0.length : Int)) = true := decide_eq_true c4
          clear c4
          by_cases c5 : 0 ≤ x13_1
          · rw [if_pos c5] at H
            have c5b0 : decide (0 ≤ x13_1) = true := decide_eq_true c5
            clear c5
            by_cases c6 : x13_1 < (l0.length : Int)
            · rw [if_pos c6] at H
              have c6b0 : decide (x13_1 < (l0.length : Int)) = true := decide_eq_true c6
              clear c6
              by_cases c7 : x13_1 < (l1.length : Int)
              · rw [if_pos c7] at H
                have c7b0 : decide (x13_1 < (l1.length : Int)) = true := decide_eq_true c7
                clear c7
                by_cases c8 : (!(((rd_T67 l0 x13_1).f0) == ((rd_T67 l1 x13_1).f0)) || (!(((rd_T67 l0 x13_1).f1) == ((rd_T67 l1 x13_1).f1)) || (!(((rd_T67 l0 x13_1).f2) == ((rd_T67 l1 x13_1).f2)) || (!((((rd_T67 l0 x13_1).f3).toList) == (((rd_T67 l1 x13_1).f3).toList)))))) = true
                · rw [if_pos c8] at H
                  have c8b0 : (!(((rd_T67 l0 x13_1).f0) == ((rd_T67 l1 x13_1).f0)) || (!(((rd_T67 l0 x13_1).f1) == ((rd_T67 l1 x13_1).f1)) || (!(((rd_T67 l0 x13_1).f2) == ((rd_T67 l1 x13_1).f2)) || (!((((rd_T67 l0 x13_1).f3).toList) == (((rd_T67 l1 x13_1).f3).toList)))))) = true := c8
                  clear c8
                  obtain rfl := Option.some.inj H
                  have p578 : 0 ≤ (x13_1 : Int) := of_decide_eq_true (by first | (with_reducible assumption) | assumption)
                  have q578 : x13_1 < (l0.length : Int) := of_decide_eq_true (by first | (with_reducible assumption) | assumption)
                  obtain ⟨ad578, e578, hx578_0, hx578_1, hx578_2, hx578_3⟩ := at_T67 HR0.out x13_1 p578 q578
                  cases e578
                  replace p578 := eq_true p578
                  replace q578 := eq_true q578
                  have p579 : 0 ≤ (x13_1 : Int) := of_decide_eq_true (by first | (with_reducible assumption) | assumption)
                  have q579 : x13_1 < (l1.length : Int) := of_decide_eq_true (by first | (with_reducible assumption) | assumption)
                  obtain ⟨ad579, e579, hx579_0, hx579_1, hx579_2, hx579_3⟩ := at_T67 HR1.out x13_1 p579 q579
                  cases e579
                  replace p579 := eq_true p579
                  replace q579 := eq_true q579
                  go_wp2
                  repeat (go_quiet (fail); try go_wp2)
                  go_ret
                  exact ⟨by first | rfl | (simp; done) | (simp [*]; done), by repeat (first | exact Drawn0.refl _ | apply Drawn0.step)⟩
                · rw [if_neg c8] at H
                  have c8b0 : (!(((rd_T67 l0 x13_1).f0) == ((rd_T67 l1 x13_1).f0)) || (!(((rd_T67 l0 x13_1).f1) == ((rd_T67 l1 x13_1).f1)) || (!(((rd_T67 l0 x13_1).f2) == ((rd_T67 l1 x13_1).f2)) || (!((((rd_T67 l0 x13_1).f3).toList) == (((rd_T67 l1 x13_1).f3).toList)))))) = false := by simpa using c8
                  clear c8
                  have H' := Aside0.mk H
                  clear H
                  have p578 : 0 ≤ (x13_1 : Int) := of_decide_eq_true (by first | (with_reducible assumption) | assumption)
                  have q578 : x13_1 < (l0.length : Int) := of_decide_eq_true (by first | (with_reducible assumption) | assumption)
                  obtain ⟨ad578, e578, hx578_0, hx578_1, hx578_2, hx578_3⟩ := at_T67 HR0.out x13_1 p578 q578
                  cases e578
                  replace p578 := eq_true p578
                  replace q578 := eq_true q578
                  have p579 : 0 ≤ (x13_1 : Int) := of_decide_eq_true (by first | (with_reducible assumption) | assumption)
                  have q579 : x13_1 < (l1.length : Int) := of_decide_eq_true (by first | (with_reducible assumption) | assumption)
                  obtain ⟨ad579, e579, hx579_0, hx579_1, hx579_2, hx579_3⟩ := at_T67 HR1.out x13_1 p579 q579
                  cases e579
                  replace p579 := eq_true p579
                  replace q579 := eq_true q579
                  go_wp2
                  repeat (go_quiet (fail); try go_wp2)
                  go_roundg k1
                  case measure => have := HK1.out; omega
                  case rel => exact ⟨(wrap64 (x13_1 + 1)), (by first | rfl | (simp; done) | (simp [*]; done)), H', ⟨by have := HK1.out; omega⟩, by repeat (first | exact Drawn0.refl _ | apply Drawn0.step)⟩
              · rw [if_neg c7] at H
                exact absurd H (by simp)
            · rw [if_neg c6] at H
              exact absurd H (by simp)
          · rw [if_neg c5] at H
            exact absurd H (by simp)
        · rw [if_neg c4] at H
          have c4b0 : decide (x13_1 < (l0.length : Int)) = false := decide_eq_false c4
          clear c4
          obtain rfl := Option.some.inj H
          go_wp2
          repeat (go_quiet (fail); try go_wp2)
          go_ret
          exact ⟨by first | rfl | (simp; done) | (simp [*]; done), by repeat (first | exact Drawn0.refl _ | apply Drawn0.step)⟩
  · rw [if_neg c3] at H
    have c3b0 : ((l0.length : Int) == (l1.length : Int)) = false := beq_eq_false_iff_ne.mpr c3
    have c3b1 : ((l0.length : Int) != (l1.length : Int)) = true := bne_iff_ne.mpr c3
    have c3b2 : (l0.length == l1.length) = false := by first | simpa using c3 | (simp at c3 ⊢; omega)
    obtain rfl := Option.some.inj H
    go_enter Try.func102, Try.ntmps102
    go_wp2
    repeat (go_quiet (fail); try go_wp2)
    go_ret
    exact ⟨by first | rfl | (simp; done) | (simp [*]; done), by repeat (first | exact Drawn0.refl _ | apply Drawn0.step)⟩

end Go.Proofs.Ytchaegfdcdlfaaa.X

namespace Go.Proofs.Ytchaegfdcdlfaaa.X
open Go.RowKit Go.Proofs.YtchaegfdcdlfaaaW.PrintWords Go.Proofs.YtchaegfdcdlfaaaW.PrintLast Go.Proofs.YtchaegfdcdlfaaaW.PrintMore
attribute [local go_sem] max2_int min2_int max_two min_two max_three min_three max_four min_four   -- for this text's walks alone
set_option linter.unusedVariables false
set_option linter.unusedSimpArgs false

/-! ### delta_Same: function 61 -/
def delta_Same.f (k : Nat) (l0 : List (S67)) (l1 : List (S67)) : Option (Bool) := (api_Piece.f k l0 l1).bind fun t580 => (some t580)
theorem delta_Same.mono : ∀ a0 a1 k, LeO (delta_Same.f k a0 a1) (delta_Same.f (k + 1) a0 a1) := by
  intro a0 a1 k
  unfold delta_Same.f
  repeat' first
      | (with_reducible exact api_Piece.mono _ _ _)
      | (with_reducible exact LeO.refl _)
      | (with_reducible exact LeO.none _)
      | (with_reducible refine LeO.ite ?_ ?_)
      | (with_reducible refine LeO.bind ?_ (fun _ => ?_))
      | exact api_Piece.mono _ _ _
      | exact LeO.none _
      | refine LeO.ite ?_ ?_
      | refine LeO.bind ?_ (fun _ => ?_)
set_option maxHeartbeats 8000000 in
set_option maxRecDepth 100000 in
theorem delta_Same.calls (k : Nat) (A0 : Option Addr) (c0 : Nat) (l0 : List (S67)) (A1 : Option Addr) (c1 : Nat) (l1 : List (S67)) (r : Bool) (w : World) (hr0 : Kd.C k67 w A0 l0.length l0) (hc0 : l0.length ≤ c0) (hr1 : Kd.C k67 w A1 l1.length l1) (hc1 : l1.length ≤ c1) (h : delta_Same.f k l0 l1 = some r) :
    Calls Try.prog 61 #[.slice A0 l0.length c0, .slice A1 l1.length c1] w fun e w' => e = .returned (.bool r) ∧ Drawn0 w w' := by
  have HR0 := Aside0.mk hr0
  have HC0 := Aside0.mk hc0
  clear hr0 hc0
  have HR1 := Aside0.mk hr1
  have HC1 := Aside0.mk hc1
  clear hr1 hc1
  have H : ((api_Piece.f k l0 l1).bind fun t580 => (some t580)) = some r := h
  clear h
  replace H := Option.bind_eq_some_iff.mp H
  obtain ⟨t580, A30, H⟩ := H
  replace H : (some t580) = some r := H
  have A3 := Aside0.mk A30
  clear A30
  obtain rfl := Option.some.inj H
  go_enter Try.func61, Try.ntmps61
  go_wp2_with (first | ((with_reducible refine gate_callee (f := 102) rfl ?_); refine goesL_ (some 7) rfl rfl Try.func102 (by kernel_rfl) rfl #[.slice A0 l0.length c0, .slice A1 l1.length c1] rfl (by (try simp only [List.map_toArray, List.map_cons, List.map_nil]); first | done | rfl | (simp only [List.length_drop, List.length_take]; rfl)) ?_; (with_reducible refine (api_Piece.calls k _ _ l0 _ _ l1 t580 _ ?side1 ?side2 ?side3 ?side4 A3.out).mono ?_); (case side1 => repeat (first | exact HR0.out | (with_reducible refine Kd.C_alloc ?_ _) | (with_reducible refine Kd.C_drewN ?_ _) | (with_reducible refine Kd.C_drew ?_))); (case side2 => exact HC0.out); (case side3 => repeat (first | exact HR1.out | (with_reducible refine Kd.C_alloc ?_ _) | (with_reducible refine Kd.C_drewN ?_ _) | (with_reducible refine Kd.C_drew ?_))); (case side4 => exact HC1.out); rintro e w' ⟨rfl, ⟨nd, rfl⟩⟩; refine ⟨_, rfl, ?_⟩))
  go_ret
  exact ⟨by first | rfl | (simp; done) | (simp [*]; done), by repeat (first | exact Drawn0.refl _ | apply Drawn0.step)⟩

end Go.Proofs.Ytchaegfdcdlfaaa.X

/- Whether pieces are the same: in words of lists. -/
namespace Go.Proofs.Ytchaegfdcdlfaaa.X
set_option linter.unusedVariables false
set_option linter.unusedSimpArgs false
open Go.RowKit Go.Maps Go.Proofs.YtchaegfdcdlfaaaW.PrintWords Go.Proofs.YtchaegfdcdlfaaaW.PrintLast Go.Proofs.YtchaegfdcdlfaaaW.PrintMore

theorem RMay_eq (l : List S67) (hl : l.length ≤ 1000000000) (k : Nat) : rolodexref11_May.f k l = some (mayL l) := by
  unfold rolodexref11_May.f
  rw [if_pos hl]
/-- The same piece; the same pieces. -/
def sameP (p q : S67) : Bool := p.f0 == q.f0 && (p.f1 == q.f1 && (p.f2 == q.f2 && (p.f3.toList == q.f3.toList)))
def sameL : List S67 → List S67 → Bool
  | [], [] => true
  | p :: l, q :: m => sameP p q && sameL l m
  | _, _ => false
theorem sameP_not (p q : S67) : (!(p.f0 == q.f0) || (!(p.f1 == q.f1) || (!(p.f2 == q.f2) || (!(p.f3.toList == q.f3.toList))))) = !sameP p q := by
  unfold sameP
  rw [Bool.not_and, Bool.not_and, Bool.not_and]
theorem sameP_refl (p : S67) : sameP p p = true := by simp [sameP]
theorem sameL_refl : ∀ l : List S67, sameL l l = true
  | [] => rfl
  | p :: l => by
    show (sameP p p && sameL l l) = true
    rw [sameP_refl, sameL_refl l]
    rfl
theorem sameL_len : ∀ {l m : List S67}, l.length ≠ m.length → sameL l m = false
  | [], [], h => absurd rfl h
  | [], q :: m, _ => rfl
  | p :: l, [], _ => rfl
  | p :: l, q :: m, h => by
    show (sameP p q && sameL l m) = false
    rw [sameL_len (l := l) (m := m) (fun e => h (by simp [e])), Bool.and_false]
theorem psame_l0 (l m : List S67) (hl : l.length ≤ 1000000) (hm : l.length = m.length) : ∀ (d i k : Nat), l.length = i + d → d < k → api_Piece.l0 k l m (l.length : Int) (i : Int) = some (sameL (l.drop i) (m.drop i)) := by
  intro d
  induction d with
  | zero =>
    intro i k hi hk
    obtain ⟨k, rfl⟩ : ∃ k', k = k' + 1 := ⟨k - 1, by omega⟩
    rw [api_Piece.l0, if_neg (by omega), List.drop_eq_nil_of_le (by omega), List.drop_eq_nil_of_le (by omega)]
    rfl
  | succ d ih =>
    intro i k hi hk
    obtain ⟨k, rfl⟩ : ∃ k', k = k' + 1 := ⟨k - 1, by omega⟩
    have hil : i < l.length := by omega
    have him : i < m.length := by omega
    rw [api_Piece.l0, if_pos (by omega), if_pos (by omega), if_pos (by omega), if_pos (by omega), sameP_not, rd_next hil, rd_next him]
    show _ = some (sameP (rd_T67 l (i : Int)) (rd_T67 m (i : Int)) && sameL (l.drop (i + 1)) (m.drop (i + 1)))
    cases sameP (rd_T67 l (i : Int)) (rd_T67 m (i : Int))
    · rfl
    · rw [if_neg (by simp), wrap_next i (by omega), ih (i + 1) k (by omega) (by omega), Bool.true_and]
theorem DSame_eq (l m : List S67) (hl : l.length ≤ 1000000) (k : Nat) (hk : l.length < k) : delta_Same.f k l m = some (sameL l m) := by
  unfold delta_Same.f api_Piece.f
  by_cases h : l.length = m.length
  · rw [if_pos (by omega), show (0 : Int) = ((0 : Nat) : Int) from rfl, psame_l0 l m hl h l.length 0 k (by omega) (by omega), List.drop_zero, List.drop_zero, Option.bind_some]
  · rw [if_neg (by omega), sameL_len h, Option.bind_some]
theorem rsame_l0 (l m : List S67) (hl : l.length ≤ 1000000) (hm : l.length = m.length) : ∀ (d i k : Nat), l.length = i + d → d < k → rolodexref11_Same.l0 k l m (i : Int) = some (sameL (l.drop i) (m.drop i)) := by
  intro d
  induction d with
  | zero =>
    intro i k hi hk
    obtain ⟨k, rfl⟩ : ∃ k', k = k' + 1 := ⟨k - 1, by omega⟩
    rw [rolodexref11_Same.l0, if_neg (by omega), List.drop_eq_nil_of_le (by omega), List.drop_eq_nil_of_le (by omega)]
    rfl
  | succ d ih =>
    intro i k hi hk
    obtain ⟨k, rfl⟩ : ∃ k', k = k' + 1 := ⟨k - 1, by omega⟩
    have hil : i < l.length := by omega
    have him : i < m.length := by omega
    rw [rolodexref11_Same.l0, if_pos (by omega), if_pos (by omega), if_pos (by omega), sameP_not, rd_next hil, rd_next him]
    show _ = some (sameP (rd_T67 l (i : Int)) (rd_T67 m (i : Int)) && sameL (l.drop (i + 1)) (m.drop (i + 1)))
    cases sameP (rd_T67 l (i : Int)) (rd_T67 m (i : Int))
    · rfl
    · rw [if_neg (by simp), wrap_next i (by omega), ih (i + 1) k (by omega) (by omega), Bool.true_and]
theorem RSame_eq (l m : List S67) (hl : l.length ≤ 1000000) (k : Nat) (hk : l.length < k) : rolodexref11_Same.f k l m = some (sameL l m) := by
  unfold rolodexref11_Same.f
  by_cases h : l.length = m.length
  · rw [if_pos (by omega), show (0 : Int) = ((0 : Nat) : Int) from rfl, rsame_l0 l m hl h l.length 0 k (by omega) (by omega), List.drop_zero, List.drop_zero]
  · rw [if_neg (by omega), sameL_len h]
end Go.Proofs.Ytchaegfdcdlfaaa.X

-- Printed for this session by a program of its own over an edited copy of the translation's print.

namespace Go.Proofs.Ytchaegfdcdlfaaa.X
open Go.RowKit Go.Proofs.YtchaegfdcdlfaaaW.PrintWords Go.Proofs.YtchaegfdcdlfaaaW.PrintLast Go.Proofs.YtchaegfdcdlfaaaW.PrintMore
attribute [local go_sem] max2_int min2_int max_two min_two max_three min_three max_four min_four   -- for this text's walks alone
set_option linter.unusedVariables false
set_option linter.unusedSimpArgs false

/-! ### rolodexref11_Apply: function 58 -/
def rolodexref11_Apply.l0 : Nat → ByteArray → List (S67) → ByteArray → Int → Option (ByteArray × Bool)
  | 0, _, _, _, _ => none
  | k + 1, x0, x1, x7, x8 => if x8 < (x1.length : Int) then (if 0 ≤ x8 then (if (rd_T67 x1 x8).f0 = true then (if (wrap64 (((rd_T67 x1 x8).f1) + ((rd_T67 x1 x8).f2))) > (x0.size : Int) then (some ((⟨#[]⟩ : ByteArray), false)) else (if 0 ≤ ((rd_T67 x1 x8).f1) then (if ((rd_T67 x1 x8).f1) ≤ (wrap64 (((rd_T67 x1 x8).f1) + ((rd_T67 x1 x8).f2))) then (if (wrap64 (((rd_T67 x1 x8).f1) + ((rd_T67 x1 x8).f2))) ≤ (x0.size : Int) then (if x7.size + (x0.extract (((rd_T67 x1 x8).f1) : Int).toNat ((wrap64 (((rd_T67 x1 x8).f1) + ((rd_T67 x1 x8).f2))) : Int).toNat).size ≤ 9223372036854775807 then (rolodexref11_Apply.l0 k x0 x1 (x7 ++ (x0.extract (((rd_T67 x1 x8).f1) : Int).toNat ((wrap64 (((rd_T67 x1 x8).f1) + ((rd_T67 x1 x8).f2))) : Int).toNat)) (wrap64 (x8 + 1))) else (none)) else (none)) else (none)) else (none))) else (if x7.size + ((rd_T67 x1 x8).f3).size ≤ 9223372036854775807 then (rolodexref11_Apply.l0 k x0 x1 (x7 ++ ((rd_T67 x1 x8).f3)) (wrap64 (x8 + 1))) else (none))) else (none)) else (some (x7, true))
def rolodexref11_Apply.f (k : Nat) (a0 : ByteArray) (l1 : List (S67)) : Option (ByteArray × Bool) := (rolodexref11_May.f k l1).bind fun t575 => (if t575 = true then (rolodexref11_Apply.l0 k a0 l1 (⟨#[]⟩ : ByteArray) 0) else (some ((⟨#[]⟩ : ByteArray), false)))
theorem rolodexref11_Apply.mono_l : ∀ k, (∀ y0 y1 y2 y3, LeO (rolodexref11_Apply.l0 k y0 y1 y2 y3) (rolodexref11_Apply.l0 (k + 1) y0 y1 y2 y3))
  | 0 => fun _ _ _ _ r h => by simp [rolodexref11_Apply.l0] at h
  | k + 1 => by
    have ih0 := rolodexref11_Apply.mono_l k
    · intro y0 y1 y2 y3
      unfold rolodexref11_Apply.l0
      repeat' first
      | (with_reducible exact ih0 _ _ _ _)
      | (with_reducible exact rolodexref11_May.mono _ _)
      | (with_reducible exact LeO.refl _)
      | (with_reducible exact LeO.none _)
      | (with_reducible refine LeO.ite ?_ ?_)
      | (with_reducible refine LeO.bind ?_ (fun _ => ?_))
      | exact ih0 _ _ _ _
      | exact rolodexref11_May.mono _ _
      | exact LeO.none _
      | refine LeO.ite ?_ ?_
      | refine LeO.bind ?_ (fun _ => ?_)
theorem rolodexref11_Apply.mono : ∀ a0 a1 k, LeO (rolodexref11_Apply.f k a0 a1) (rolodexref11_Apply.f (k + 1) a0 a1) := by
  intro a0 a1 k
  have ih0 := rolodexref11_Apply.mono_l k
  unfold rolodexref11_Apply.f
  repeat' first
      | (with_reducible exact ih0 _ _ _ _)
      | (with_reducible exact rolodexref11_May.mono _ _)
      | (with_reducible exact LeO.refl _)
      | (with_reducible exact LeO.none _)
      | (with_reducible refine LeO.ite ?_ ?_)
      | (with_reducible refine LeO.bind ?_ (fun _ => ?_))
      | exact ih0 _ _ _ _
      | exact rolodexref11_May.mono _ _
      | exact LeO.none _
      | refine LeO.ite ?_ ?_
      | refine LeO.bind ?_ (fun _ => ?_)
set_option maxHeartbeats 8000000 in
set_option maxRecDepth 100000 in
theorem rolodexref11_Apply.calls (k : Nat) (a0 : ByteArray) (A1 : Option Addr) (c1 : Nat) (l1 : List (S67)) (r1 : ByteArray) (r2 : Bool) (w : World) (hr1 : Kd.C k67 w A1 l1.length l1) (hc1 : l1.length ≤ c1) (h : rolodexref11_Apply.f k a0 l1 = some (r1, r2)) :
    Calls Try.prog 58 #[.string a0, .slice A1 l1.length c1] w fun e w' => e = .returned (.tuple #[.string r1, .bool r2]) ∧ Below w.heap.size w w' := by
  have hu67 := Try.underlying67
  have HR1 := Aside0.mk hr1
  have HC1 := Aside0.mk hc1
  clear hr1 hc1
  have HB := Aside0.mk (Below.refl w.heap.size w)
  have H : ((rolodexref11_May.f k l1).bind fun t575 => (if t575 = true then (rolodexref11_Apply.l0 k a0 l1 (⟨#[]⟩ : ByteArray) 0) else (some ((⟨#[]⟩ : ByteArray), false)))) = some (r1, r2) := h
  clear h
  replace H := Option.bind_eq_some_iff.mp H
  obtain ⟨t575, A30, H⟩ := H
  replace H : (if t575 = true then (rolodexref11_Apply.l0 k a0 l1 (⟨#[]⟩ : ByteArray) 0) else (some ((⟨#[]⟩ : ByteArray), false))) = some (r1, r2) := H
  have A3 := Aside0.mk A30
  clear A30
  by_cases c4 : t575 = true
  · subst c4
    have H1 : (rolodexref11_Apply.l0 k a0 l1 (⟨#[]⟩ : ByteArray) 0) = some (r1, r2) := by rw [if_pos rfl] at H; exact H
    clear H
    have H := H1
    clear H1
    have H' := Aside0.mk H
    clear H
    go_enter Try.func58, Try.ntmps58
    go_wp2_with (first | ((with_reducible refine gate_callee (f := 60) rfl ?_); refine goesL_ (some 11) rfl rfl Try.func60 (by kernel_rfl) rfl #[.slice A1 l1.length c1] rfl (by (try simp only [List.map_toArray, List.map_cons, List.map_nil]); first | done | rfl | (simp only [List.length_drop, List.length_take]; rfl)) ?_; (with_reducible refine (rolodexref11_May.calls k _ _ l1 true _ ?side1 ?side2 A3.out).mono ?_); (case side1 => repeat (first | exact HR1.out | (with_reducible refine Kd.C_alloc ?_ _) | (with_reducible refine Kd.C_drewN ?_ _) | (with_reducible refine Kd.C_drew ?_))); (case side2 => exact HC1.out); rintro e w5 ⟨rfl, hb⟩; refine ⟨_, rfl, ?_⟩; have n0_ := Aside0.mk (below_step (by repeat (first | (with_reducible first | exact HB.out | apply below_alloc | apply pw_below_drewN | apply below_drew1) | exact HB.out)) hb); clear HB; have HB := n0_; clear n0_; (try clear hb); (try clear hb2); (try clear hk); (try clear hi)))
    go_loopg [7, 8] k (fun kq v7 v8 w' => ∃ (x7_1 : ByteArray) (x8_1 : Int), v7 = .string x7_1 ∧ v8 = .int .i64 x8_1 ∧ Aside0 (rolodexref11_Apply.l0 kq a0 l1 x7_1 x8_1 = some (r1, r2)) ∧ Aside0 (kq ≤ k) ∧ Aside0 (Below w.heap.size w w'))
    case atStart => exact ⟨((⟨#[]⟩ : ByteArray)), (0), (by first | rfl | (simp; done) | (simp [*]; done)), (by first | rfl | (simp; done) | (simp [*]; done)), H', ⟨Nat.le_refl _⟩, ⟨by repeat (first | (with_reducible first | exact HB.out | apply below_alloc | apply pw_below_drewN | apply below_drew1) | exact HB.out)⟩⟩
    case round =>
      clear H'
      try clear c1
      try clear p2
      try clear c4
      try clear c5
      obtain ⟨x7_1, x8_1, rfl, rfl, HA, HK1, HB⟩ := hrel
      cases gk with
      | zero => exact absurd HA.out (by simp [rolodexref11_Apply.l0])
      | succ k1 =>
        have H := HA.out
        clear HA
        simp only [rolodexref11_Apply.l0] at H
        by_cases c6 : x8_1 < (l1.length : Int)
        · rw [if_pos c6] at H
          have c6b0 : decide (x8_1 < (l1.length : Int)) = true := decide_eq_true c6
          clear c6
          by_cases c7 : 0 ≤ x8_1
          · rw [if_pos c7] at H
            have c7b0 : decide (0 ≤ x8_1) = true := decide_eq_true c7
            clear c7
            obtain ⟨bq8, hbq8⟩ : ∃ b_ : Bool, b_ = ((rd_T67 l1 x8_1).f0) := ⟨_, rfl⟩
            replace H : (if bq8 = true then (if (wrap64 (((rd_T67 l1 x8_1).f1) + ((rd_T67 l1 x8_1).f2))) > (a0.size : Int) then (some ((⟨#[]⟩ : ByteArray), false)) else (if 0 ≤ ((rd_T67 l1 x8_1).f1) then (if ((rd_T67 l1 x8_1).f1) ≤ (wrap64 (((rd_T67 l1 x8_1).f1) + ((rd_T67 l1 x8_1).f2))) then (if (wrap64 (((rd_T67 l1 x8_1).f1) + ((rd_T67 l1 x8_1).f2))) ≤ (a0.size : Int) then (if x7_1.size + (a0.extract (((rd_T67 l1 x8_1).f1) : Int).toNat ((wrap64 (((rd_T67 l1 x8_1).f1) + ((rd_T67 l1 x8_1).f2))) : Int).toNat).size ≤ 9223372036854775807 then (rolodexref11_Apply.l0 k1 a0 l1 (x7_1 ++ (a0.extract (((rd_T67 l1 x8_1).f1) : Int).toNat ((wrap64 (((rd_T67 l1 x8_1).f1) + ((rd_T67 l1 x8_1).f2))) : Int).toNat)) (wrap64 (x8_1 + 1))) else (none)) else (none)) else (none)) else (none))) else (if x7_1.size + ((rd_T67 l1 x8_1).f3).size ≤ 9223372036854775807 then (rolodexref11_Apply.l0 k1 a0 l1 (x7_1 ++ ((rd_T67 l1 x8_1).f3)) (wrap64 (x8_1 + 1))) else (none))) = some (r1, r2) := by rw [← hbq8] at H; exact H
            have Nbq8 := Aside0.mk hbq8
            clear hbq8
            by_cases c9 : bq8 = true
            · subst c9
              have H1 : (if (wrap64 (((rd_T67 l1 x8_1).f1) + ((rd_T67 l1 x8_1).f2))) > (a0.size : Int) then (some ((⟨#[]⟩ : ByteArray), false)) else (if 0 ≤ ((rd_T67 l1 x8_1).f1) then (if ((rd_T67 l1 x8_1).f1) ≤ (wrap64 (((rd_T67 l1 x8_1).f1) + ((rd_T67 l1 x8_1).f2))) then (if (wrap64 (((rd_T67 l1 x8_1).f1) + ((rd_T67 l1 x8_1).f2))) ≤ (a0.size : Int) then (if x7_1.size + (a0.extract (((rd_T67 l1 x8_1).f1) : Int).toNat ((wrap64 (((rd_T67 l1 x8_1).f1) + ((rd_T67 l1 x8_1).f2))) : Int).toNat).size ≤ 9223372036854775807 then (rolodexref11_Apply.l0 k1 a0 l1 (x7_1 ++ (a0.extract (((rd_T67 l1 x8_1).f1) : Int).toNat ((wrap64 (((rd_T67 l1 x8_1).f1) + ((rd_T67 l1 x8_1).f2))) : Int).toNat)) (wrap64 (x8_1 + 1))) else (none)) else (none)) else (none)) else (none))) = some (r1, r2) := by rw [if_pos rfl] at H; exact H
              clear H
              have H := H1
              clear H1
              by_cases c10 : (wrap64 (((rd_T67 l1 x8_1).f1) + ((rd_T67 l1 x8_1).f2))) > (a0.size : Int)
              · rw [if_pos c10] at H
                have c10b0 : decide ((a0.size : Int) < (wrap64 (((rd_T67 l1 x8_1).f1) + ((rd_T67 l1 x8_1).f2)))) = true := decide_eq_true c10
                clear c10
                simp only [Option.some.injEq, Prod.mk.injEq] at H
                obtain ⟨rfl, rfl⟩ := H
                have p576 : 0 ≤ (x8_1 : Int) := of_decide_eq_true (by first | (with_reducible assumption) | assumption)
                have q576 : x8_1 < (l1.length : Int) := of_decide_eq_true (by first | (with_reducible assumption) | assumption)
                obtain ⟨ad576, e576, hx576_0, hx576_1, hx576_2, hx576_3⟩ := at_T67 HR1.out x8_1 p576 q576
                (try rw [← Nbq8.out] at hx576_0)
                cases e576
                replace hx576_0 := (HB.out.cell (World.block_lt_of_cell? w _ hx576_0)).trans hx576_0
                replace hx576_1 := (HB.out.cell (World.block_lt_of_cell? w _ hx576_1)).trans hx576_1
                replace hx576_2 := (HB.out.cell (World.block_lt_of_cell? w _ hx576_2)).trans hx576_2
                replace hx576_3 := (HB.out.cell (World.block_lt_of_cell? w _ hx576_3)).trans hx576_3
                replace p576 := eq_true p576
                replace q576 := eq_true q576
                go_wp2_with (first | ((with_reducible refine gate_dst (N := 9) rfl ?_); refine box_event ?hg (N := 9) ?hd (cs := #[.bool false, .int .i64 0, .int .i64 0, .string (⟨#[]⟩ : ByteArray)]) (t := 67) ?hr ?_; (case hd => rfl); (case hg => rfl); (case hr => first | (go_simp; done) | (go_simp; rfl)); intro gb577 hg w11 hbox hb; have n0_ := Aside0.mk (below_step (by repeat (first | (with_reducible first | exact HB.out | apply below_alloc | apply pw_below_drewN | apply below_drew1) | exact HB.out)) hb); have n1_ := Aside0.mk (hbox); have n2_ := Aside0.mk ((by rw [hg]; exact (below_size (by repeat (first | (with_reducible first | exact HB.out | apply below_alloc | apply pw_below_drewN | apply below_drew1) | exact HB.out))) : w.heap.size ≤ gb577)); have n3_ := Aside0.mk ((by rw [hg]; exact (below_size (by repeat (first | (with_reducible first | exact HB.out | apply below_alloc | apply pw_below_drewN | apply below_drew1) | exact HB.out))) : w.heap.size ≤ gb577)); clear HB; have HB := n0_; have BK577 := n1_; have GW577 := n2_; have GE577 := n3_; clear n0_ n1_ n2_ n3_; clear hb hbox hg; have hcz12_0 : w11.cell? ⟨gb577, 0, none⟩ = some (.bool false) := (blk_cell BK577.out 0).trans rfl; have hcz12_1 : w11.cell? ⟨gb577, 1, none⟩ = some (.int .i64 0) := (blk_cell BK577.out 1).trans rfl; have hcz12_2 : w11.cell? ⟨gb577, 2, none⟩ = some (.int .i64 0) := (blk_cell BK577.out 2).trans rfl; have hcz12_3 : w11.cell? ⟨gb577, 3, none⟩ = some (.string (⟨#[]⟩ : ByteArray)) := (blk_cell BK577.out 3).trans rfl; have hfz12_0 := blk_frozen BK577.out 0; have hfz12_1 := blk_frozen BK577.out 1; have hfz12_2 := blk_frozen BK577.out 2; have hfz12_3 := blk_frozen BK577.out 3))
                go_ret2
                exact ⟨by first | rfl | (simp [errW_none, errW_some] <;> rfl) | (simp [*, errW_none, errW_some] <;> rfl), by repeat (first | (with_reducible first | exact HB.out | apply below_alloc | apply pw_below_drewN | apply below_drew1 | refine below_set ?_ GE577.out) | exact HB.out)⟩
              · rw [if_neg c10] at H
                have c10b0 : decide ((a0.size : Int) < (wrap64 (((rd_T67 l1 x8_1).f1) + ((rd_T67 l1 x8_1).f2)))) = false := decide_eq_false c10
                clear c10
                by_cases c13 : 0 ≤ ((rd_T67 l1 x8_1).f1)
                · rw [if_pos c13] at H
                  have c13b0 := eq_true c13
                  have c13b1 : decide (0 ≤ ((rd_T67 l1 x8_1).f1)) = true := decide_eq_true c13
                  clear c13
                  by_cases c14 : ((rd_T67 l1 x8_1).f1) ≤ (wrap64 (((rd_T67 l1 x8_1).f1) + ((rd_T67 l1 x8_1).f2)))
                  · rw [if_pos c14] at H
                    have c14b0 := eq_true c14
                    have c14b1 : decide (((rd_T67 l1 x8_1).f1) ≤ (wrap64 (((rd_T67 l1 x8_1).f1) + ((rd_T67 l1 x8_1).f2)))) = true := decide_eq_true c14
                    by_cases c15 : (wrap64 (((rd_T67 l1 x8_1).f1) + ((rd_T67 l1 x8_1).f2))) ≤ (a0.size : Int)
                    · rw [if_pos c15] at H
                      have c15b0 := eq_true c15
                      have c15b1 : decide ((wrap64 (((rd_T67 l1 x8_1).f1) + ((rd_T67 l1 x8_1).f2))) ≤ (a0.size : Int)) = true := decide_eq_true c15
                      by_cases c16 : x7_1.size + (a0.extract (((rd_T67 l1 x8_1).f1) : Int).toNat ((wrap64 (((rd_T67 l1 x8_1).f1) + ((rd_T67 l1 x8_1).f2))) : Int).toNat).size ≤ 9223372036854775807
                      · rw [if_pos c16] at H
                        have c16b0 := eq_true c16
                        have c16b1 : decide (x7_1.size + (a0.extract (((rd_T67 l1 x8_1).f1) : Int).toNat ((wrap64 (((rd_T67 l1 x8_1).f1) + ((rd_T67 l1 x8_1).f2))) : Int).toNat).size ≤ 9223372036854775807) = true := decide_eq_true c16
                        try have c16b2 : (9223372036854775807 < x7_1.size + (a0.extract (((rd_T67 l1 x8_1).f1) : Int).toNat ((wrap64 (((rd_T67 l1 x8_1).f1) + ((rd_T67 l1 x8_1).f2))) : Int).toNat).size) = False := eq_false (Nat.not_lt.2 c16)
                        have H' := Aside0.mk H
                        clear H
                        have p576 : 0 ≤ (x8_1 : Int) := of_decide_eq_true (by first | (with_reducible assumption) | assumption)
                        have q576 : x8_1 < (l1.length : Int) := of_decide_eq_true (by first | (with_reducible assumption) | assumption)
                        obtain ⟨ad576, e576, hx576_0, hx576_1, hx576_2, hx576_3⟩ := at_T67 HR1.out x8_1 p576 q576
                        (try rw [← Nbq8.out] at hx576_0)
                        cases e576
                        replace hx576_0 := (HB.out.cell (World.block_lt_of_cell? w _ hx576_0)).trans hx576_0
                        replace hx576_1 := (HB.out.cell (World.block_lt_of_cell? w _ hx576_1)).trans hx576_1
                        replace hx576_2 := (HB.out.cell (World.block_lt_of_cell? w _ hx576_2)).trans hx576_2
                        replace hx576_3 := (HB.out.cell (World.block_lt_of_cell? w _ hx576_3)).trans hx576_3
                        replace p576 := eq_true p576
                        replace q576 := eq_true q576
                        go_wp2_with (first | ((with_reducible refine gate_dst (N := 9) rfl ?_); refine box_event ?hg (N := 9) ?hd (cs := #[.bool false, .int .i64 0, .int .i64 0, .string (⟨#[]⟩ : ByteArray)]) (t := 67) ?hr ?_; (case hd => rfl); (case hg => rfl); (case hr => first | (go_simp; done) | (go_simp; rfl)); intro gb577 hg w17 hbox hb; have n0_ := Aside0.mk (below_step (by repeat (first | (with_reducible first | exact HB.out | apply below_alloc | apply pw_below_drewN | apply below_drew1) | exact HB.out)) hb); have n1_ := Aside0.mk (hbox); have n2_ := Aside0.mk ((by rw [hg]; exact (below_size (by repeat (first | (with_reducible first | exact HB.out | apply below_alloc | apply pw_below_drewN | apply below_drew1) | exact HB.out))) : w.heap.size ≤ gb577)); have n3_ := Aside0.mk ((by rw [hg]; exact (below_size (by repeat (first | (with_reducible first | exact HB.out | apply below_alloc | apply pw_below_drewN | apply below_drew1) | exact HB.out))) : w.heap.size ≤ gb577)); clear HB; have HB := n0_; have BK577 := n1_; have GW577 := n2_; have GE577 := n3_; clear n0_ n1_ n2_ n3_; clear hb hbox hg; have hcz18_0 : w17.cell? ⟨gb577, 0, none⟩ = some (.bool false) := (blk_cell BK577.out 0).trans rfl; have hcz18_1 : w17.cell? ⟨gb577, 1, none⟩ = some (.int .i64 0) := (blk_cell BK577.out 1).trans rfl; have hcz18_2 : w17.cell? ⟨gb577, 2, none⟩ = some (.int .i64 0) := (blk_cell BK577.out 2).trans rfl; have hcz18_3 : w17.cell? ⟨gb577, 3, none⟩ = some (.string (⟨#[]⟩ : ByteArray)) := (blk_cell BK577.out 3).trans rfl; have hfz18_0 := blk_frozen BK577.out 0; have hfz18_1 := blk_frozen BK577.out 1; have hfz18_2 := blk_frozen BK577.out 2; have hfz18_3 := blk_frozen BK577.out 3))
                        go_roundg k1
                        case measure => have := HK1.out; omega
                        case rel => exact ⟨(x7_1 ++ (a0.extract (((rd_T67 l1 x8_1).f1) : Int).toNat ((wrap64 (((rd_T67 l1 x8_1).f1) + ((rd_T67 l1 x8_1).f2))) : Int).toNat)), (wrap64 (x8_1 + 1)), (by first | rfl | (simp; done) | (simp [*]; done)), (by first | rfl | (simp; done) | (simp [*]; done)), H', ⟨by have := HK1.out; omega⟩, ⟨by repeat (first | (with_reducible first | exact HB.out | apply below_alloc | apply pw_below_drewN | apply below_drew1 | refine below_set ?_ GE577.out) | exact HB.out)⟩⟩
                      · rw [if_neg c16] at H
                        exact absurd H (by simp)
                    · rw [if_neg c15] at H
                      exact absurd H (by simp)
                  · rw [if_neg c14] at H
                    exact absurd H (by simp)
                · rw [if_neg c13] at H
                  exact absurd H (by simp)
            · replace c9 := Bool.eq_false_iff.mpr c9
              subst c9
              have H1 : (if x7_1.size + ((rd_T67 l1 x8_1).f3).size ≤ 9223372036854775807 then (rolodexref11_Apply.l0 k1 a0 l1 (x7_1 ++ ((rd_T67 l1 x8_1).f3)) (wrap64 (x8_1 + 1))) else (none)) = some (r1, r2) := by rw [if_neg (show ¬ (false = true) by decide)] at H; exact H
              clear H
              have H := H1
              clear H1
              by_cases c19 : x7_1.size + ((rd_T67 l1 x8_1).f3).size ≤ 9223372036854775807
              · rw [if_pos c19] at H
                have c19b0 := eq_true c19
                have c19b1 : decide (x7_1.size + ((rd_T67 l1 x8_1).f3).size ≤ 9223372036854775807) = true := decide_eq_true c19
                try have c19b2 : (9223372036854775807 < x7_1.size + ((rd_T67 l1 x8_1).f3).size) = False := eq_false (Nat.not_lt.2 c19)
                have H' := Aside0.mk H
                clear H
                have p576 : 0 ≤ (x8_1 : Int) := of_decide_eq_true (by first | (with_reducible assumption) | assumption)
                have q576 : x8_1 < (l1.length : Int) := of_decide_eq_true (by first | (with_reducible assumption) | assumption)
                obtain ⟨ad576, e576, hx576_0, hx576_1, hx576_2, hx576_3⟩ := at_T67 HR1.out x8_1 p576 q576
                (try rw [← Nbq8.out] at hx576_0)
                cases e576
                replace hx576_0 := (HB.out.cell (World.block_lt_of_cell? w _ hx576_0)).trans hx576_0
                replace hx576_1 := (HB.out.cell (World.block_lt_of_cell? w _ hx576_1)).trans hx576_1
                replace hx576_2 := (HB.out.cell (World.block_lt_of_cell? w _ hx576_2)).trans hx576_2
                replace hx576_3 := (HB.out.cell (World.block_lt_of_cell? w _ hx576_3)).trans hx576_3
                replace p576 := eq_true p576
                replace q576 := eq_true q576
                go_wp2_with (first | ((with_reducible refine gate_dst (N := 9) rfl ?_); refine box_event ?hg (N := 9) ?hd (cs := #[.bool false, .int .i64 0, .int .i64 0, .string (⟨#[]⟩ : ByteArray)]) (t := 67) ?hr ?_; (case hd => rfl); (case hg => rfl); (case hr => first | (go_simp; done) | (go_simp; rfl)); intro gb577 hg w20 hbox hb; have n0_ := Aside0.mk (below_step (by repeat (first | (with_reducible first | exact HB.out | apply below_alloc | apply pw_below_drewN | apply below_drew1) | exact HB.out)) hb); have n1_ := Aside0.mk (hbox); have n2_ := Aside0.mk ((by rw [hg]; exact (below_size (by repeat (first | (with_reducible first | exact HB.out | apply below_alloc | apply pw_below_drewN | apply below_drew1) | exact HB.out))) : w.heap.size ≤ gb577)); have n3_ := Aside0.mk ((by rw [hg]; exact (below_size (by repeat (first | (with_reducible first | exact HB.out | apply below_alloc | apply pw_below_drewN | apply below_drew1) | exact HB.out))) : w.heap.size ≤ gb577)); clear HB; have HB := n0_; have BK577 := n1_; have GW577 := n2_; have GE577 := n3_; clear n0_ n1_ n2_ n3_; clear hb hbox hg; have hcz21_0 : w20.cell? ⟨gb577, 0, none⟩ = some (.bool false) := (blk_cell BK577.out 0).trans rfl; have hcz21_1 : w20.cell? ⟨gb577, 1, none⟩ = some (.int .i64 0) := (blk_cell BK577.out 1).trans rfl; have hcz21_2 : w20.cell? ⟨gb577, 2, none⟩ = some (.int .i64 0) := (blk_cell BK577.out 2).trans rfl; have hcz21_3 : w20.cell? ⟨gb577, 3, none⟩ = some (.string (⟨#[]⟩ : ByteArray)) := (blk_cell BK577.out 3).trans rfl; have hfz21_0 := blk_frozen BK577.out 0; have hfz21_1 := blk_frozen BK577.out 1; have hfz21_2 := blk_frozen BK577.out 2; have hfz21_3 := blk_frozen BK577.out 3))
                go_roundg k1
                case measure => have := HK1.out; omega
                case rel => exact ⟨(x7_1 ++ ((rd_T67 l1 x8_1).f3)), (wrap64 (x8_1 + 1)), (by first | rfl | (simp; done) | (simp [*]; done)), (by first | rfl | (simp; done) | (simp [*]; done)), H', ⟨by have := HK1.out; omega⟩, ⟨by repeat (first | (with_reducible first | exact HB.out | apply below_alloc | apply pw_below_drewN | apply below_drew1 | refine below_set ?_ GE577.out) | exact HB.out)⟩⟩
              · rw [if_neg c19] at H
                exact absurd H (by simp)
          · rw [if_neg c7] at H
            exact absurd H (by simp)
        · rw [if_neg c6] at H
          have c6b0 : decide (x8_1 < (l1.length : Int)) = false := decide_eq_false c6
          clear c6
          simp only [Option.some.injEq, Prod.mk.injEq] at H
          obtain ⟨rfl, rfl⟩ := H
          go_wp2
          go_ret2
          exact ⟨by first | rfl | (simp [errW_none, errW_some] <;> rfl) | (simp [*, errW_none, errW_some] <;> rfl), by repeat (first | (with_reducible first | exact HB.out | apply below_alloc | apply pw_below_drewN | apply below_drew1) | exact HB.out)⟩
  · replace c4 := Bool.eq_false_iff.mpr c4
    subst c4
    have H1 : (some ((⟨#[]⟩ : ByteArray), false)) = some (r1, r2) := by rw [if_neg (show ¬ (false = true) by decide)] at H; exact H
    clear H
    have H := H1
    clear H1
    simp only [Option.some.injEq, Prod.mk.injEq] at H
    obtain ⟨rfl, rfl⟩ := H
    go_enter Try.func58, Try.ntmps58
    go_wp2_with (first | ((with_reducible refine gate_callee (f := 60) rfl ?_); refine goesL_ (some 11) rfl rfl Try.func60 (by kernel_rfl) rfl #[.slice A1 l1.length c1] rfl (by (try simp only [List.map_toArray, List.map_cons, List.map_nil]); first | done | rfl | (simp only [List.length_drop, List.length_take]; rfl)) ?_; (with_reducible refine (rolodexref11_May.calls k _ _ l1 false _ ?side1 ?side2 A3.out).mono ?_); (case side1 => repeat (first | exact HR1.out | (with_reducible refine Kd.C_alloc ?_ _) | (with_reducible refine Kd.C_drewN ?_ _) | (with_reducible refine Kd.C_drew ?_))); (case side2 => exact HC1.out); rintro e w22 ⟨rfl, hb⟩; refine ⟨_, rfl, ?_⟩; have n0_ := Aside0.mk (below_step (by repeat (first | (with_reducible first | exact HB.out | apply below_alloc | apply pw_below_drewN | apply below_drew1) | exact HB.out)) hb); clear HB; have HB := n0_; clear n0_; (try clear hb); (try clear hb2); (try clear hk); (try clear hi)))
    go_ret2
    exact ⟨by first | rfl | (simp [errW_none, errW_some] <;> rfl) | (simp [*, errW_none, errW_some] <;> rfl), by repeat (first | (with_reducible first | exact HB.out | apply below_alloc | apply pw_below_drewN | apply below_drew1) | exact HB.out)⟩

end Go.Proofs.Ytchaegfdcdlfaaa.X
