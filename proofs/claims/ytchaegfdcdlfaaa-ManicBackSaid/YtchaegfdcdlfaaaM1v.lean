/- Texts of this claim, what it reaches. -/
import Derived.RowKit
import Derived.Test.YtchaegfdcdlfaaaProg
import Derived.Below
import Derived.Deep.Draws
import Derived.Deep.AppendLies
import Derived.Maps.AppendAt
import Derived.OwnWalk
import Derived.Laws.BytesArg
import Derived.Laws.MakeOwn
import Derived.Laws.OwnMore
import Derived.Deep.OwnRows
import Derived.Tactics
import Derived.Lib.ConvBytes
import Derived.Laws.Slices
import Derived.WalkKit
import Derived.KernelRfl
import Derived.RowKit3
import Derived.Deep.LoopGhost
import Derived.Deep.QuietTactic
import Derived.BigQuiet
import Derived.WideLaws
import Derived.Deep.DeepCutAuto
import Derived.Deep.CutBlock
import Derived.Deep.RegionHeld3
import Derived.Laws.Rows
import Derived.Lib.AppendStr
import Derived.ArgAppend
import Derived.Laws.IdiomCopy
import Derived.OrdersHeld
import Derived.Laws.BitsLemmas
import Derived.WalkMore
import Derived.Test.YtchaegfdcdlfaaaVWords
import Derived.Test.YtchaegfdcdlfaaaVLast
import Derived.Test.YtchaegfdcdlfaaaVTab
import Derived.Test.YtchaegfdcdlfaaaVFour
import Derived.Test.YtchaegfdcdlfaaaVQPut
import Derived.Test.YtchaegfdcdlfaaaVApart
import Derived.Test.YtchaegfdcdlfaaaVArr
import Derived.Test.YtchaegfdcdlfaaaVZeros
import Derived.Test.YtchaegfdcdlfaaaVFoot
import Derived.Test.YtchaegfdcdlfaaaVKept
import Derived.Test.YtchaegfdcdlfaaaVShare
import Derived.Test.YtchaegfdcdlfaaaVN
import Derived.Test.YtchaegfdcdlfaaaVFootNe
import Derived.Test.YtchaegfdcdlfaaaVAt
import Derived.Test.YtchaegfdcdlfaaaVEqStruct
import Derived.Test.YtchaegfdcdlfaaaVRepsOne
import Derived.Test.YtchaegfdcdlfaaaVInv
import Derived.Test.YtchaegfdcdlfaaaVInvWords
import Derived.Test.YtchaegfdcdlfaaaVGuard
import Derived.Test.YtchaegfdcdlfaaaVNEv
import Derived.Test.YtchaegfdcdlfaaaVMore
import Derived.Laws.Tables
import Derived.StillTailTactics
import Derived.Deep.RegionHeld

namespace Go.Proofs.Ytchaegfdcdlfaaa.Y
set_option linter.unusedVariables false
set_option linter.unusedSimpArgs false

def more (n : Nat) : List Int := if n < 128 then [(n : Int) + 128] else more (n / 128) ++ [((n % 128 : Nat) : Int) + 128]
termination_by n
decreasing_by omega
def put (n : Nat) : List Int := if n < 128 then [(n : Int)] else more (n / 128) ++ [((n % 128 : Nat) : Int)]

def V (l : List Int) : Nat := l.foldl (fun a x => a * 128 + (x % 128).toNat) 0
theorem V_snoc (l : List Int) (x : Int) : V (l ++ [x]) = V l * 128 + (x % 128).toNat := by simp [V]
theorem V_nil : V [] = 0 := rfl

theorem more_small {n : Nat} (h : n < 128) : more n = [(n : Int) + 128] := by rw [more, if_pos h]
theorem more_big {n : Nat} (h : ¬ n < 128) : more n = more (n / 128) ++ [((n % 128 : Nat) : Int) + 128] := by rw [more, if_neg h]

theorem V_more (n : Nat) : V (more n) = n := by
  induction n using Nat.strongRecOn with
  | _ n ih =>
    by_cases h : n < 128
    · rw [more_small h]; simp [V]; omega
    · rw [more_big h, V_snoc, ih _ (by omega)]; omega
theorem V_put (n : Nat) : V (put n) = n := by
  unfold put
  by_cases h : n < 128
  · rw [if_pos h]; simp [V]; omega
  · rw [if_neg h, V_snoc, V_more]; omega

def Marks (q : List Int) : Prop := (∀ x ∈ q, 128 ≤ x ∧ x ≤ 255) ∧ q.head? ≠ some 128
theorem Marks.nil : Marks [] := ⟨by simp, by simp⟩
theorem Marks.snoc {q : List Int} {c : Int} (h : Marks q) (h0 : 128 ≤ c) (h1 : c ≤ 255) (hc : q = [] → c ≠ 128) : Marks (q ++ [c]) := by
  refine ⟨fun x hx => ?_, ?_⟩
  · rcases List.mem_append.1 hx with hx | hx
    · exact h.1 x hx
    · simp at hx; omega
  · cases q with
    | nil => simpa using hc rfl
    | cons a q => simpa using h.2
theorem Marks.init {q : List Int} {c : Int} (h : Marks (q ++ [c])) : Marks q := by
  refine ⟨fun x hx => h.1 x (List.mem_append_left _ hx), ?_⟩
  cases q with
  | nil => simp
  | cons a q => simpa using h.2

theorem more_marks (n : Nat) (hn : 1 ≤ n) : Marks (more n) := by
  induction n using Nat.strongRecOn with
  | _ n ih =>
    by_cases h : n < 128
    · rw [more_small h]
      exact ⟨fun x hx => by simp at hx; omega, by simp; omega⟩
    · rw [more_big h]
      refine (ih _ (by omega) (by omega)).snoc (by omega) (by omega) (fun e => ?_)
      exfalso
      have : V (more (n / 128)) = 0 := by rw [e]; rfl
      rw [V_more] at this; omega
theorem snoc_cases {α : Type} (l : List α) : l = [] ∨ ∃ q c, l = q ++ [c] := by
  rcases List.eq_nil_or_concat l with h | ⟨q, c, h⟩
  · exact .inl h
  · exact .inr ⟨q, c, by simpa [List.concat_eq_append] using h⟩
theorem marks_V_pos (q : List Int) (h : Marks q) (hne : q ≠ []) : 1 ≤ V q := by
  induction hL : q.length generalizing q with
  | zero => exact absurd (List.eq_nil_of_length_eq_zero hL) hne
  | succ k ih =>
    obtain ⟨q', c, rfl⟩ := (snoc_cases q).resolve_left hne
    rw [V_snoc]
    by_cases e : q' = []
    · subst e
      have h1 := h.1 c (by simp)
      have h2 := h.2
      simp at h2
      rw [V_nil]; omega
    · have := ih q' h.init e (by simpa using hL)
      omega
theorem more_of_marks (q : List Int) (h : Marks q) (hne : q ≠ []) : more (V q) = q := by
  induction hL : q.length generalizing q with
  | zero => exact absurd (List.eq_nil_of_length_eq_zero hL) hne
  | succ k ih =>
    obtain ⟨q', c, rfl⟩ := (snoc_cases q).resolve_left hne
    have h1 := h.1 c (by simp)
    by_cases e : q' = []
    · subst e
      rw [V_snoc, V_nil, more_small (by omega)]
      simp; omega
    · have h2 := ih q' h.init e (by simpa using hL)
      have h3 := marks_V_pos q' h.init e
      rw [V_snoc, more_big (by omega), show (V q' * 128 + (c % 128).toNat) / 128 = V q' by omega, h2]
      congr 2
      omega
theorem put_form (n : Nat) : ∃ q c, put n = q ++ [c] ∧ Marks q ∧ 0 ≤ c ∧ c < 128 := by
  unfold put
  by_cases h : n < 128
  · rw [if_pos h]; exact ⟨[], _, rfl, Marks.nil, by omega, by omega⟩
  · rw [if_neg h]; exact ⟨_, _, rfl, more_marks _ (by omega), by omega, by omega⟩
theorem put_of (q : List Int) (c : Int) (h : Marks q) (h0 : 0 ≤ c) (h1 : c < 128) : put (V (q ++ [c])) = q ++ [c] := by
  rw [V_snoc]
  by_cases e : q = []
  · subst e
    rw [V_nil]
    unfold put
    rw [if_pos (by omega)]
    simp; omega
  · have h3 := marks_V_pos q h e
    unfold put
    rw [if_neg (by omega), show (V q * 128 + (c % 128).toNat) / 128 = V q by omega, more_of_marks q h e]
    congr 2
    omega
theorem put_range (n : Nat) : ∀ x ∈ put n, 0 ≤ x ∧ x ≤ 255 := by
  obtain ⟨q, c, e, hq, h0, h1⟩ := put_form n
  intro x hx
  rw [e] at hx
  rcases List.mem_append.1 hx with hx | hx
  · have := hq.1 x hx; omega
  · simp at hx; omega
theorem put_ne (n : Nat) : put n ≠ [] := by
  obtain ⟨q, c, e, _⟩ := put_form n
  rw [e]; simp
theorem put_head (n : Nat) : (put n).head? ≠ some 128 := by
  obtain ⟨q, c, e, hq, h0, h1⟩ := put_form n
  rw [e]
  cases q with
  | nil => simp; omega
  | cons a q => simpa using hq.2

theorem V_lt (q : List Int) : V q < 128 ^ q.length := by
  induction hL : q.length generalizing q with
  | zero => rw [List.eq_nil_of_length_eq_zero hL]; simp [V]
  | succ k ih =>
    rcases snoc_cases q with rfl | ⟨q', c, rfl⟩
    · simp at hL
    · have h := ih q' (by simpa using hL)
      rw [V_snoc, Nat.pow_succ]
      omega
theorem marks_V_ge (q : List Int) (h : Marks q) (hne : q ≠ []) : 128 ^ (q.length - 1) ≤ V q := by
  induction hL : q.length generalizing q with
  | zero => exact absurd (List.eq_nil_of_length_eq_zero hL) hne
  | succ k ih =>
    obtain ⟨q', c, rfl⟩ := (snoc_cases q).resolve_left hne
    by_cases e : q' = []
    · subst e
      have := marks_V_pos _ h (by simp)
      simp at hL
      subst hL
      simpa using this
    · have hl : 0 < q'.length := List.length_pos_iff.2 e
      have h2 := ih q' h.init e (by simpa using hL)
      have hk : k = q'.length := by simpa using hL.symm
      rw [V_snoc]
      obtain ⟨j, hj⟩ : ∃ j, k = j + 1 := ⟨k - 1, by omega⟩
      subst hj
      simp only [Nat.add_sub_cancel] at h2 ⊢
      rw [Nat.pow_succ]
      omega
theorem put_length (n : Nat) (h : n < 18446744073709551616) : (put n).length ≤ 10 := by
  obtain ⟨q, c, e, hq, h0, h1⟩ := put_form n
  have hv := V_put n
  rw [e, V_snoc] at hv
  rw [e, List.length_append]
  by_cases hne : q = []
  · subst hne; simp
  · have hg := marks_V_ge q hq hne
    rcases Nat.lt_or_ge q.length 10 with h2 | h2
    · simp; omega
    · have : 128 ^ 9 ≤ 128 ^ (q.length - 1) := Nat.pow_le_pow_right (by decide) (by omega)
      have e9 : 128 ^ 9 = 9223372036854775808 := by decide
      omega
theorem put_length_pos (n : Nat) : 1 ≤ (put n).length := by
  have := put_ne n
  have := List.length_pos_iff.2 this
  omega

theorem pre_cases {α : Type} {a b l : List α} (ha : a <+: l) (hb : b <+: l) : a <+: b ∨ b <+: a := List.prefix_or_prefix_of_prefix ha hb

theorem put_not_marks (n : Nat) (q : List Int) (hq : ∀ x ∈ q, 128 ≤ x) : ¬ put n <+: q := by
  obtain ⟨q', c, e, _, h0, h1⟩ := put_form n
  rintro ⟨t, ht⟩
  have : c ∈ q := by rw [← ht, e]; simp
  have := hq c this
  omega
theorem put_exact (n : Nat) (q : List Int) (c : Int) (s : List Int) (hq : ∀ x ∈ q, 128 ≤ x) (hc : c < 128) (h : put n <+: q ++ c :: s) : put n = q ++ [c] := by
  have h2 : q ++ [c] <+: q ++ c :: s := ⟨s, by simp⟩
  rcases pre_cases h h2 with h3 | h3
  · obtain ⟨t, ht⟩ := h3
    rcases snoc_cases t with rfl | ⟨t', d, rfl⟩
    · simpa using ht
    · exfalso
      have ht2 : put n ++ t' ++ [d] = q ++ [c] := by rw [← ht]; simp
      have := (List.append_inj' ht2 rfl).1
      exact put_not_marks n q hq ⟨t', this⟩
  · obtain ⟨q', d, e, hq', h0, h1⟩ := put_form n
    obtain ⟨t, ht⟩ := h3
    rw [e] at ht ⊢
    rcases snoc_cases t with rfl | ⟨t', d', rfl⟩
    · simpa using ht.symm
    · exfalso
      have ht2 : (q ++ [c] ++ t') ++ [d'] = q' ++ [d] := by rw [← ht]; simp
      have h5 := (List.append_inj' ht2 rfl).1
      have : c ∈ q' := by rw [← h5]; simp
      have := hq'.1 c this
      omega
theorem put_unique {n m : Nat} {l : List Int} (h : put n <+: l) (h2 : put m <+: l) : n = m := by
  obtain ⟨q, c, e, hq, h0, h1⟩ := put_form n
  obtain ⟨t, ht⟩ := h
  have h3 : put m <+: q ++ c :: t := by rw [show q ++ c :: t = put n ++ t by rw [e]; simp, ht]; exact h2
  have h4 := put_exact m q c t (fun x hx => (hq.1 x hx).1) h1 h3
  rw [← V_put n, ← V_put m, e, h4]

def IsGet (l : List Int) (r : Int × Int × Bool) : Prop :=
  (∃ m, m < 18446744073709551616 ∧ put m <+: l ∧ r = ((m : Int), ((put m).length : Int), true)) ∨ ((∀ m, m < 18446744073709551616 → ¬ put m <+: l) ∧ r = (0, 0, false))
theorem IsGet.unique {l : List Int} {r r' : Int × Int × Bool} (h : IsGet l r) (h' : IsGet l r') : r = r' := by
  rcases h with ⟨m, hm, hp, rfl⟩ | ⟨hn, rfl⟩
  · rcases h' with ⟨m', hm', hp', rfl⟩ | ⟨hn', rfl⟩
    · obtain rfl := put_unique hp hp'; rfl
    · exact absurd hp (hn' m hm)
  · rcases h' with ⟨m', hm', hp', rfl⟩ | ⟨hn', rfl⟩
    · exact absurd hp' (hn m' hm')
    · rfl
theorem isGet_put (m : Nat) (hm : m < 18446744073709551616) (s : List Int) : IsGet (put m ++ s) ((m : Int), ((put m).length : Int), true) := .inl ⟨m, hm, ⟨s, rfl⟩, rfl⟩

end Go.Proofs.Ytchaegfdcdlfaaa.Y

namespace Go.Proofs.Ytchaegfdcdlfaaa.X
open Go.RowKit Go.Proofs.YtchaegfdcdlfaaaW.PrintWords Go.Proofs.YtchaegfdcdlfaaaW.PrintLast Go.Proofs.YtchaegfdcdlfaaaW.PrintMore
attribute [local go_sem] max2_int min2_int max_two min_two max_three min_three max_four min_four   -- for this text's walks alone
set_option linter.unusedVariables false
set_option linter.unusedSimpArgs false

def errW : Option Int → Value
  | none => .nilIface
  | some c => .iface 0 (.int .i64 c)
theorem errW_none : errW none = .nilIface := rfl
theorem errW_some (c : Int) : errW (some c) = .iface 0 (.int .i64 c) := rfl

theorem info5 : (Try.prog.info? 5).map (fun i => (i.zero, i.size, i.bytes)) = some (some (.int .u8 0), 1, 1) := by kernel_rfl
def rd_L2 (xs : List (List Int)) (i : Int) : (List Int) := xs.getD i.toNat ([] : List Int)
theorem at_L2 {w : World} {A : Option Addr} {n : Nat} {xs : List (List Int)} (h : Kd.C (Kd.slice 5 (Kd.int .u8)) w A n xs) (i : Int) (h0 : 0 ≤ i) (h1 : i < n) : ∃ ad A0 c0, A = some ad ∧ w.cell? (ad.add i.toNat) = some (.slice A0 (rd_L2 xs i).length c0) ∧ (rd_L2 xs i).length ≤ c0 ∧ (Kd.int .u8).C w A0 (rd_L2 xs i).length (rd_L2 xs i) := by
  obtain ⟨ad, c, e, _, hK, hc0⟩ := Kd.C_get h ([] : List Int) i h0 h1
  have hc : ∀ j u, c[j]? = some u → w.cell? (ad.add (i.toNat * 1 + j)) = some u := hc0
  obtain ⟨A0, c0, rfl, l0, g0⟩ := hK
  exact ⟨ad, A0, c0, e, by have hq := hc 0 _ rfl; rwa [Nat.mul_one, Nat.add_zero] at hq, l0, g0⟩

end Go.Proofs.Ytchaegfdcdlfaaa.X

namespace Go.Proofs.Ytchaegfdcdlfaaa.X
open Go.RowKit Go.Proofs.YtchaegfdcdlfaaaW.PrintWords Go.Proofs.YtchaegfdcdlfaaaW.PrintLast Go.Proofs.YtchaegfdcdlfaaaW.PrintMore
attribute [local go_sem] max2_int min2_int max_two min_two max_three min_three max_four min_four   -- for this text's walks alone
set_option linter.unusedVariables false
set_option linter.unusedSimpArgs false

def wire_groups.l0 : Nat → Int → Int → Option (Int)
  | 0, _, _ => none
  | k + 1, x0, x3 => if x0 > 0 then (wire_groups.l0 k (x0 / 128) (wrap64 (x3 + 1))) else (some x3)
def wire_groups.f (k : Nat) (a0 : Int) : Option (Int) := wire_groups.l0 k (a0 / 128) 1
theorem wire_groups.mono_l : ∀ k, (∀ y0 y1, LeO (wire_groups.l0 k y0 y1) (wire_groups.l0 (k + 1) y0 y1))
  | 0 => fun _ _ r h => by simp [wire_groups.l0] at h
  | k + 1 => by
    have ih0 := wire_groups.mono_l k
    · intro y0 y1
      unfold wire_groups.l0
      repeat' first
      | (with_reducible exact ih0 _ _)
      | (with_reducible exact LeO.refl _)
      | (with_reducible exact LeO.none _)
      | (with_reducible refine LeO.ite ?_ ?_)
      | (with_reducible refine LeO.bind ?_ (fun _ => ?_))
      | exact ih0 _ _
      | exact LeO.none _
      | refine LeO.ite ?_ ?_
      | refine LeO.bind ?_ (fun _ => ?_)
theorem wire_groups.mono : ∀ a0 k, LeO (wire_groups.f k a0) (wire_groups.f (k + 1) a0) := by
  intro a0 k
  have ih0 := wire_groups.mono_l k
  unfold wire_groups.f
  repeat' first
      | (with_reducible exact ih0 _ _)
      | (with_reducible exact LeO.refl _)
      | (with_reducible exact LeO.none _)
      | (with_reducible refine LeO.ite ?_ ?_)
      | (with_reducible refine LeO.bind ?_ (fun _ => ?_))
      | exact ih0 _ _
      | exact LeO.none _
      | refine LeO.ite ?_ ?_
      | refine LeO.bind ?_ (fun _ => ?_)
set_option maxHeartbeats 8000000 in
set_option maxRecDepth 100000 in
theorem wire_groups.calls (k : Nat) (a0 : Int) (r : Int) (w : World) (h : wire_groups.f k a0 = some r) :
    Calls Try.prog 141 #[.int .u64 a0] w fun e w' => e = .returned (.int .i64 r) ∧ Drawn0 w w' := by
  have H : (wire_groups.l0 k (a0 / 128) 1) = some r := h
  clear h
  have H' := Aside0.mk H
  clear H
  go_enter Try.func141, Try.ntmps141
  go_wp2
  go_loopg [0, 3] k (fun kq v0 v3 w' => ∃ (x0_1 : Int) (x3_1 : Int), v0 = .int .u64 x0_1 ∧ v3 = .int .i64 x3_1 ∧ Aside0 (wire_groups.l0 kq x0_1 x3_1 = some r) ∧ Aside0 (kq ≤ k) ∧ Drawn0 w w')
  case atStart => exact ⟨(a0 / 128), (1), (by first | rfl | (simp; done) | (simp [*]; done)), (by first | rfl | (simp; done) | (simp [*]; done)), H', ⟨Nat.le_refl _⟩, by repeat (first | exact Drawn0.refl _ | apply Drawn0.step)⟩
  case round =>
    clear H'
    try clear c1
    obtain ⟨x0_1, x3_1, rfl, rfl, HA, HK1, ⟨m1, rfl⟩⟩ := hrel
    cases gk with
    | zero => exact absurd HA.out (by simp [wire_groups.l0])
    | succ k1 =>
      have H := HA.out
      clear HA
      simp only [wire_groups.l0] at H
      by_cases c2 : x0_1 > 0
      · rw [if_pos c2] at H
        have c2b0 : decide (0 < x0_1) = true := decide_eq_true c2
        clear c2
        have H' := Aside0.mk H
        clear H
        go_wp2
        go_roundg k1
        case measure => have := HK1.out; omega
        case rel => exact ⟨(x0_1 / 128), (wrap64 (x3_1 + 1)), (by first | rfl | (simp; done) | (simp [*]; done)), (by first | rfl | (simp; done) | (simp [*]; done)), H', ⟨by have := HK1.out; omega⟩, by repeat (first | exact Drawn0.refl _ | apply Drawn0.step)⟩
      · rw [if_neg c2] at H
        have c2b0 : decide (0 < x0_1) = false := decide_eq_false c2
        clear c2
        obtain rfl := Option.some.inj H
        go_wp2
        go_ret
        exact ⟨by first | rfl | (simp; done) | (simp [*]; done), by repeat (first | exact Drawn0.refl _ | apply Drawn0.step)⟩

end Go.Proofs.Ytchaegfdcdlfaaa.X

namespace Go.Proofs.Ytchaegfdcdlfaaa.X
open Go.RowKit Go.Proofs.YtchaegfdcdlfaaaW.PrintWords Go.Proofs.YtchaegfdcdlfaaaW.PrintLast Go.Proofs.YtchaegfdcdlfaaaW.PrintMore
attribute [local go_sem] max2_int min2_int max_two min_two max_three min_three max_four min_four   -- for this text's walks alone
set_option linter.unusedVariables false
set_option linter.unusedSimpArgs false

def wire_Put.l0 : Nat → Int → Int → List Int → Int → Int → Option (List Int)
  | 0, _, _, _, _, _ => none
  | k + 1, x0, x3, x4, x10, x11 => if x11 < x10 then (if 0 ≤ (wrap64 (7 * x11)) then (if 0 ≤ (wrap64 ((wrap64 (x3 - 1)) - x11)) then (if (wrap64 ((wrap64 (x3 - 1)) - x11)) < (x4.length : Int) then (wire_Put.l0 k x0 x3 (x4.set ((wrap64 ((wrap64 (x3 - 1)) - x11)) : Int).toNat (Go.bits .or .u8 ((shr .u64 x0 (wrap64 (7 * x11))) % 256) 128)) x10 (wrap64 (x11 + 1))) else (none)) else (none)) else (none)) else (if 0 ≤ (wrap64 (x3 - 1)) then (if (wrap64 (x3 - 1)) < (x4.length : Int) then (some (x4.set ((wrap64 (x3 - 1)) : Int).toNat (Go.bits .andNot .u8 (rd x4 (wrap64 (x3 - 1))) 128))) else (none)) else (none))
def wire_Put.f (k : Nat) (a0 : Int) : Option (List Int) := (wire_groups.f k a0).bind fun t148 => (if 0 ≤ t148 then (if (t148 : Int).toNat ≤ 281474976710656 then (wire_Put.l0 k a0 t148 (List.replicate (t148 : Int).toNat 0) t148 0) else (none)) else (none))
theorem wire_Put.mono_l : ∀ k, (∀ y0 y1 y2 y3 y4, LeO (wire_Put.l0 k y0 y1 y2 y3 y4) (wire_Put.l0 (k + 1) y0 y1 y2 y3 y4))
  | 0 => fun _ _ _ _ _ r h => by simp [wire_Put.l0] at h
  | k + 1 => by
    have ih0 := wire_Put.mono_l k
    · intro y0 y1 y2 y3 y4
      unfold wire_Put.l0
      repeat' first
      | (with_reducible exact ih0 _ _ _ _ _)
      | (with_reducible exact wire_groups.mono _ _)
      | (with_reducible exact LeO.refl _)
      | (with_reducible exact LeO.none _)
      | (with_reducible refine LeO.ite ?_ ?_)
      | (with_reducible refine LeO.bind ?_ (fun _ => ?_))
      | exact ih0 _ _ _ _ _
      | exact wire_groups.mono _ _
      | exact LeO.none _
      | refine LeO.ite ?_ ?_
      | refine LeO.bind ?_ (fun _ => ?_)
theorem wire_Put.mono : ∀ a0 k, LeO (wire_Put.f k a0) (wire_Put.f (k + 1) a0) := by
  intro a0 k
  have ih0 := wire_Put.mono_l k
  unfold wire_Put.f
  repeat' first
      | (with_reducible exact ih0 _ _ _ _ _)
      | (with_reducible exact wire_groups.mono _ _)
      | (with_reducible exact LeO.refl _)
      | (with_reducible exact LeO.none _)
      | (with_reducible refine LeO.ite ?_ ?_)
      | (with_reducible refine LeO.bind ?_ (fun _ => ?_))
      | exact ih0 _ _ _ _ _
      | exact wire_groups.mono _ _
      | exact LeO.none _
      | refine LeO.ite ?_ ?_
      | refine LeO.bind ?_ (fun _ => ?_)
set_option maxHeartbeats 8000000 in
set_option maxRecDepth 100000 in
theorem wire_Put.calls (k : Nat) (a0 : Int) (r : List Int) (w : World) (h : wire_Put.f k a0 = some r) :
    Calls Try.prog 84 #[.int .u64 a0] w fun e w' => ∃ v0_ : Value, e = .returned (v0_) ∧ Kd.R (Kd.int .u8) 5 w' w.heap.size (fun _ => True) v0_ r ∧ Below w.heap.size w w' := by
  have HB := Aside0.mk (Below.refl w.heap.size w)
  have H : ((wire_groups.f k a0).bind fun t148 => (if 0 ≤ t148 then (if (t148 : Int).toNat ≤ 281474976710656 then (wire_Put.l0 k a0 t148 (List.replicate (t148 : Int).toNat 0) t148 0) else (none)) else (none))) = some r := h
  clear h
  replace H := Option.bind_eq_some_iff.mp H
  obtain ⟨t148, A20, H⟩ := H
  replace H : (if 0 ≤ t148 then (if (t148 : Int).toNat ≤ 281474976710656 then (wire_Put.l0 k a0 t148 (List.replicate (t148 : Int).toNat 0) t148 0) else (none)) else (none)) = some r := H
  have A2 := Aside0.mk A20
  clear A20
  by_cases c3 : 0 ≤ t148
  · rw [if_pos c3] at H
    have c3b0 := eq_true c3
    have c3b1 : decide (0 ≤ t148) = true := decide_eq_true c3
    clear c3
    by_cases c4 : (t148 : Int).toNat ≤ 281474976710656
    · rw [if_pos c4] at H
      have c4b0 := eq_true c4
      have c4b1 : decide ((t148 : Int).toNat ≤ 281474976710656) = true := decide_eq_true c4
      clear c4
      obtain ⟨y149, hy149⟩ : ∃ y_ : List Int, y_ = (List.replicate (t148 : Int).toNat 0) := ⟨_, rfl⟩
      replace H : (wire_Put.l0 k a0 t148 y149 t148 0) = some r := by first | (rw [hy149]; with_reducible exact H) | (have H2_ := (Option.bind_some _ _).symm.trans H; rw [hy149]; with_reducible exact H2_) | (have H2_ := (Option.bind_some _ _).symm.trans H; with_reducible exact H2_) | with_reducible exact H | (rw [hy149]; exact H) | exact H
      have Ny149 := Aside0.mk hy149
      clear hy149
      have H' := Aside0.mk H
      clear H
      go_enter Try.func84, Try.ntmps84
      go_wp2_with (first | ((with_reducible refine gate_callee (f := 141) rfl ?_); refine goesL_ (some 7) rfl rfl Try.func141 (by kernel_rfl) rfl #[.int .u64 a0] rfl (by (try simp only [List.map_toArray, List.map_cons, List.map_nil]); first | done | rfl | (simp only [List.length_drop, List.length_take]; rfl)) ?_; (with_reducible refine (wire_groups.calls k a0 t148 _ A2.out).mono ?_); rintro e w' ⟨rfl, ⟨nd, rfl⟩⟩; refine ⟨_, rfl, ?_⟩) | ((with_reducible refine gate_dst (N := 9) rfl ?_); refine Kd.R_make (Kd.int .u8) _ 5 rfl (N := 9) rfl 40 _ _ rfl t148 rfl rfl Try.underlying40 (.int .u8 0) 1 info5 rfl (by decide) (by omega) 0 (ok := fun _ => True) (okp := fun _ => True) rfl (fun _ hk => hk) trivial (of_decide_eq_true (by first | (with_reducible assumption) | assumption)) (Nat.le_trans (Nat.mul_le_mul_right _ (of_decide_eq_true (by first | (with_reducible assumption) | assumption) : t148.toNat ≤ 281474976710656)) (by omega)) (Below.refl _ _) (Nat.le_refl _) ?_; intro v150 w5 ho6 hb hg_ hnew_; clear hg_ hnew_; (first | rw [← Ny149.out] at ho6 | (simp only [Int.reduceToNat] at ho6; rw [← Ny149.out] at ho6)); have n0_ := Aside0.mk (Kd.R_lower ho6 (below_size (by repeat (first | (with_reducible first | exact HB.out | apply below_alloc | apply pw_below_drewN | apply below_drew1) | exact HB.out)))); have n1_ := Aside0.mk (below_step (by repeat (first | (with_reducible first | exact HB.out | apply below_alloc | apply pw_below_drewN | apply below_drew1) | exact HB.out)) hb); clear HB; have HO151 := n0_; have HB := n1_; clear n0_ n1_; clear hb ho6))
      go_loopg [11] k (fun kq v11 w' => ∃ (x4_1 : List Int) (x11_1 : Int), v11 = .int .i64 x11_1 ∧ Aside0 (wire_Put.l0 kq a0 t148 x4_1 t148 x11_1 = some r) ∧ Aside0 (kq ≤ k) ∧ Aside0 (Kd.R (Kd.int .u8) 5 w' w.heap.size (fun _ => True) v150 x4_1) ∧ Aside0 (Below w.heap.size w w'))
      case atStart => exact ⟨(y149), (0), (by first | rfl | (simp; done) | (simp [*]; done)), H', ⟨Nat.le_refl _⟩, ⟨by (with_reducible repeat (first | apply Kd.R_alloc | apply Kd.R_drewN | apply Kd.R_drew)); exact HO151.out⟩, ⟨by repeat (first | (with_reducible first | exact HB.out | apply below_alloc | apply pw_below_drewN | apply below_drew1) | exact HB.out)⟩⟩
      case round =>
        clear H'
        try clear c1
        try clear p2
        try clear c3
        try clear c3b0
        try clear c3b1
        try clear c4
        try clear c4b0
        try clear c4b1
        obtain ⟨x4_1, x11_1, rfl, HA, HK1, HO_4, HB⟩ := hrel
        cases gk with
        | zero => exact absurd HA.out (by simp [wire_Put.l0])
        | succ k1 =>
          have H := HA.out
          clear HA
          simp only [wire_Put.l0] at H
          by_cases c7 : x11_1 < t148
          · rw [if_pos c7] at H
            have c7b0 : decide (x11_1 < t148) = true := decide_eq_true c7
            clear c7
            obtain ⟨ji8, hji8⟩ : ∃ j_ : Int, (wrap64 (7 * x11_1)) = j_ := ⟨_, rfl⟩
            replace H : (if 0 ≤ (ji8) then (if 0 ≤ (wrap64 ((wrap64 (t148 - 1)) - x11_1)) then (if (wrap64 ((wrap64 (t148 - 1)) - x11_1)) < (x4_1.length : Int) then (wire_Put.l0 k1 a0 t148 (x4_1.set ((wrap64 ((wrap64 (t148 - 1)) - x11_1)) : Int).toNat (Go.bits .or .u8 ((shr .u64 a0 (ji8)) % 256) 128)) t148 (wrap64 (x11_1 + 1))) else (none)) else (none)) else (none)) = some r := by first | (rw [hji8] at H; exact H) | (simp only [hji8] at H ⊢; exact H)
            have hji8w : (IntKind.i64.wrap (7 * x11_1)) = ji8 := (i64_w _).trans hji8
            by_cases c9 : 0 ≤ (ji8)
            · rw [if_pos c9] at H
              have c9b0 := eq_true c9
              have c9b1 : decide (0 ≤ (ji8)) = true := decide_eq_true c9
              clear c9
              obtain ⟨ji10, hji10⟩ : ∃ j_ : Int, (shr .u64 a0 (ji8)) = j_ := ⟨_, rfl⟩
              replace H : (if 0 ≤ (wrap64 ((wrap64 (t148 - 1)) - x11_1)) then (if (wrap64 ((wrap64 (t148 - 1)) - x11_1)) < (x4_1.length : Int) then (wire_Put.l0 k1 a0 t148 (x4_1.set ((wrap64 ((wrap64 (t148 - 1)) - x11_1)) : Int).toNat (Go.bits .or .u8 ((ji10) % 256) 128)) t148 (wrap64 (x11_1 + 1))) else (none)) else (none)) = some r := by first | (rw [hji10] at H; exact H) | (simp only [hji10] at H ⊢; exact H)
              have hji10_ : (a0 / 2 ^ min (ji8).toNat 64) = ji10 := hji10
              have hji10z : (ji8) ≤ 64 → (a0 / 2 ^ (ji8).toNat) = ji10 := shr_small hji10
              obtain ⟨ji11, hji11⟩ : ∃ j_ : Int, (wrap64 ((wrap64 (t148 - 1)) - x11_1)) = j_ := ⟨_, rfl⟩
              replace H : (if 0 ≤ (ji11) then (if (ji11) < (x4_1.length : Int) then (wire_Put.l0 k1 a0 t148 (x4_1.set ((ji11) : Int).toNat (Go.bits .or .u8 ((ji10) % 256) 128)) t148 (wrap64 (x11_1 + 1))) else (none)) else (none)) = some r := by first | (rw [hji11] at H; exact H) | (simp only [hji11] at H ⊢; exact H)
              have hji11w : (IntKind.i64.wrap ((wrap64 (t148 - 1)) - x11_1)) = ji11 := (i64_w _).trans hji11
              by_cases c12 : 0 ≤ (ji11)
              · rw [if_pos c12] at H
                have c12b0 : decide (0 ≤ (ji11)) = true := decide_eq_true c12
                clear c12
                by_cases c13 : (ji11) < (x4_1.length : Int)
                · rw [if_pos c13] at H
                  have c13b0 : decide ((ji11) < (x4_1.length : Int)) = true := decide_eq_true c13
                  clear c13
                  obtain ⟨y152, hy152⟩ : ∃ y_ : List Int, y_ = (x4_1.set ((ji11) : Int).toNat (Go.bits .or .u8 ((ji10) % 256) 128)) := ⟨_, rfl⟩
                  replace H : (wire_Put.l0 k1 a0 t148 y152 t148 (wrap64 (x11_1 + 1))) = some r := by first | (rw [hy152]; with_reducible exact H) | (have H2_ := (Option.bind_some _ _).symm.trans H; rw [hy152]; with_reducible exact H2_) | (have H2_ := (Option.bind_some _ _).symm.trans H; with_reducible exact H2_) | with_reducible exact H | (rw [hy152]; exact H) | exact H
                  have Ny152 := Aside0.mk hy152
                  clear hy152
                  have H' := Aside0.mk H
                  clear H
                  have p14 : 0 ≤ ((ji11) : Int) := of_decide_eq_true (by first | (with_reducible assumption) | assumption)
                  have q14 : ((ji11) : Int) < ((x4_1.length : Int) : Int) := of_decide_eq_true (by first | (with_reducible assumption) | assumption)
                  obtain ⟨go14, co14, eo14, gb14, gl14, cl14, HG14⟩ := Kd.R_form HO_4.out (by omega)
                  (first | cases eo14 | (injection eo14 with ea_ en_ ec_; (first | subst ea_ | (injection ea_ with ea_; subst ea_)); subst ec_; clear en_))
                  have GB14 := Aside0.mk gb14
                  have GG14 := Aside0.mk HG14
                  clear gb14 gl14 HG14
                  obtain ⟨hx14_0, hf14_0⟩ := Kd.R_celln 0 HO_4.out ((ji11) : Int) p14 q14
                  replace p14 := eq_true p14
                  replace q14 := eq_true q14
                  have HP15 := Kd.R_putg HO_4.out ((ji11) : Int) (Go.bits .or .u8 ((ji10) % 256) 128)
                  go_wp2_with (first | ((with_reducible refine gate_store (t := 5) (p := 25) rfl ?_); refine store_event (t := 5) (p := 25) (v := ?vo_w16) (w1 := (wr.setCell ⟨go14, ((ji11) : Int).toNat, none⟩ (.int .u8 (Go.bits .or .u8 ((ji10) % 256) 128)))) ?hg ?ho ?hn ?hr ?_; (case ho => rfl); (case hg => rfl); (case hn => rfl); (case hr => first | (go_simp; done) | (go_simp; rfl)); intro w16 hw; have hg : wr.grownBy w16 (some go14) := (by rw [hw]; exact HP15.2); have hp_ : Kd.R (Kd.int .u8) 5 w16 w.heap.size (fun _ => True) (.slice (some ⟨go14, 0, none⟩) x4_1.length co14) y152 := (by rw [hw, Ny152.out]; exact HP15.1); clear HP15; have n0_ := Aside0.mk (hp_); have n1_ := Aside0.mk ((by rw [hw]; exact below_set (HB.out) GB14.out : Below w.heap.size w w16)); clear HO_4; clear HB; have HO_4 := n0_; have HB := n1_; clear n0_ n1_; clear hg hw hp_))
                  go_roundg k1
                  case measure => have := HK1.out; omega
                  case rel => exact ⟨(y152), (wrap64 (x11_1 + 1)), (by first | rfl | (simp; done) | (simp [*]; done)), H', ⟨by have := HK1.out; omega⟩, ⟨by (with_reducible repeat (first | apply Kd.R_alloc | apply Kd.R_drewN | apply Kd.R_drew)); exact HO_4.out⟩, ⟨by repeat (first | (with_reducible first | exact HB.out | apply below_alloc | apply pw_below_drewN | apply below_drew1) | exact HB.out)⟩⟩
                · rw [if_neg c13] at H
                  exact absurd H (by simp)
              · rw [if_neg c12] at H
                exact absurd H (by simp)
            · rw [if_neg c9] at H
              exact absurd H (by simp)
          · rw [if_neg c7] at H
            have c7b0 : decide (x11_1 < t148) = false := decide_eq_false c7
            clear c7
            obtain ⟨ji17, hji17⟩ : ∃ j_ : Int, (wrap64 (t148 - 1)) = j_ := ⟨_, rfl⟩
            replace H : (if 0 ≤ (ji17) then (if (ji17) < (x4_1.length : Int) then (some (x4_1.set ((ji17) : Int).toNat (Go.bits .andNot .u8 (rd x4_1 (ji17)) 128))) else (none)) else (none)) = some r := by first | (rw [hji17] at H; exact H) | (simp only [hji17] at H ⊢; exact H)
            have hji17w : (IntKind.i64.wrap (t148 - 1)) = ji17 := (i64_w _).trans hji17
            by_cases c18 : 0 ≤ (ji17)
            · rw [if_pos c18] at H
              have c18b0 : decide (0 ≤ (ji17)) = true := decide_eq_true c18
              clear c18
              by_cases c19 : (ji17) < (x4_1.length : Int)
              · rw [if_pos c19] at H
                have c19b0 : decide ((ji17) < (x4_1.length : Int)) = true := decide_eq_true c19
                clear c19
                obtain ⟨y154, hy154⟩ : ∃ y_ : List Int, y_ = (x4_1.set ((ji17) : Int).toNat (Go.bits .andNot .u8 (rd x4_1 (ji17)) 128)) := ⟨_, rfl⟩
                replace H : (some y154) = some r := by first | (rw [hy154]; with_reducible exact H) | (have H2_ := (Option.bind_some _ _).symm.trans H; rw [hy154]; with_reducible exact H2_) | (have H2_ := (Option.bind_some _ _).symm.trans H; with_reducible exact H2_) | with_reducible exact H | (rw [hy154]; exact H) | exact H
                have Ny154 := Aside0.mk hy154
                clear hy154
                obtain rfl := Option.some.inj H
                obtain ⟨Ao21, co21, eo21⟩ := Kd.R_slice HO_4.out
                subst eo21
                have p153 : 0 ≤ ((ji17) : Int) := of_decide_eq_true (by first | (with_reducible assumption) | assumption)
                have q153 : (ji17) < (x4_1.length : Int) := of_decide_eq_true (by first | (with_reducible assumption) | assumption)
                obtain ⟨ad153, e153, hx153_0⟩ := Kd.at_int (Kd.R_reads' HO_4.out).2.2 (ji17) p153 q153
                cases e153
                replace p153 := eq_true p153
                replace q153 := eq_true q153
                have p20 : 0 ≤ ((ji17) : Int) := of_decide_eq_true (by first | (with_reducible assumption) | assumption)
                have q20 : ((ji17) : Int) < ((x4_1.length : Int) : Int) := of_decide_eq_true (by first | (with_reducible assumption) | assumption)
                obtain ⟨go20, co20, eo20, gb20, gl20, cl20, HG20⟩ := Kd.R_form HO_4.out (by omega)
                (first | cases eo20 | (injection eo20 with ea_ en_ ec_; (first | subst ea_ | (injection ea_ with ea_; subst ea_)); subst ec_; clear en_))
                have GB20 := Aside0.mk gb20
                have GG20 := Aside0.mk HG20
                clear gb20 gl20 HG20
                (first | simp only [add_plain] at hx153_0 | skip)
                obtain ⟨hx20_0, hf20_0⟩ := Kd.R_celln 0 HO_4.out ((ji17) : Int) p20 q20
                replace p20 := eq_true p20
                replace q20 := eq_true q20
                have HP22 := Kd.R_putg HO_4.out ((ji17) : Int) (Go.bits .andNot .u8 (rd x4_1 (ji17)) 128)
                go_wp2_with (first | ((with_reducible refine gate_store (t := 5) (p := 33) rfl ?_); refine store_event (t := 5) (p := 33) (v := ?vo_w23) (w1 := (wr.setCell ⟨go20, ((ji17) : Int).toNat, none⟩ (.int .u8 (Go.bits .andNot .u8 (rd x4_1 (ji17)) 128)))) ?hg ?ho ?hn ?hr ?_; (case ho => rfl); (case hg => rfl); (case hn => rfl); (case hr => first | (go_simp; done) | (go_simp; rfl)); intro w23 hw; have hg : wr.grownBy w23 (some go20) := (by rw [hw]; exact HP22.2); have hp_ : Kd.R (Kd.int .u8) 5 w23 w.heap.size (fun _ => True) (.slice (some ⟨go20, 0, none⟩) x4_1.length co21) y154 := (by rw [hw, Ny154.out]; exact HP22.1); clear HP22; have n0_ := Aside0.mk (hp_); have n1_ := Aside0.mk ((by rw [hw]; exact below_set (HB.out) GB20.out : Below w.heap.size w w23)); clear HO_4; clear HB; have HO_4 := n0_; have HB := n1_; clear n0_ n1_; clear hg hw hp_))
                go_ret
                exact ⟨_, by first | rfl | (simp [errW_none, errW_some] <;> rfl) | (simp only [← hji17]; first | rfl | (simp [errW_none, errW_some] <;> rfl)) | (simp [*, errW_none, errW_some] <;> rfl), by (with_reducible repeat (first | apply Kd.R_alloc | apply Kd.R_drewN | apply Kd.R_drew)); exact HO_4.out, by repeat (first | (with_reducible first | exact HB.out | apply below_alloc | apply pw_below_drewN | apply below_drew1) | exact HB.out)⟩
              · rw [if_neg c19] at H
                exact absurd H (by simp)
            · rw [if_neg c18] at H
              exact absurd H (by simp)
    · rw [if_neg c4] at H
      exact absurd H (by simp)
  · rw [if_neg c3] at H
    exact absurd H (by simp)

end Go.Proofs.Ytchaegfdcdlfaaa.X

namespace Go.Proofs.Ytchaegfdcdlfaaa.X
open Go.RowKit Go.Proofs.YtchaegfdcdlfaaaW.PrintWords Go.Proofs.YtchaegfdcdlfaaaW.PrintLast Go.Proofs.YtchaegfdcdlfaaaW.PrintMore
attribute [local go_sem] max2_int min2_int max_two min_two max_three min_three max_four min_four   -- for this text's walks alone
set_option linter.unusedVariables false
set_option linter.unusedSimpArgs false

def wire_Word.l0 : Nat → Int → List Int → Int → Option (List Int)
  | 0, _, _, _ => none
  | k + 1, x0, x3, x6 => if x6 < 4 then (if 0 ≤ (wrap64 (8 * x6)) then (if 0 ≤ (wrap64 (3 - x6)) then (if (wrap64 (3 - x6)) < (x3.length : Int) then (wire_Word.l0 k x0 (x3.set ((wrap64 (3 - x6)) : Int).toNat ((shr .u32 x0 (wrap64 (8 * x6))) % 256)) (wrap64 (x6 + 1))) else (none)) else (none)) else (none)) else (some x3)
def wire_Word.f (k : Nat) (a0 : Int) : Option (List Int) := if 4 ≤ 281474976710656 then (wire_Word.l0 k a0 (List.replicate 4 0) 0) else (none)
theorem wire_Word.mono_l : ∀ k, (∀ y0 y1 y2, LeO (wire_Word.l0 k y0 y1 y2) (wire_Word.l0 (k + 1) y0 y1 y2))
  | 0 => fun _ _ _ r h => by simp [wire_Word.l0] at h
  | k + 1 => by
    have ih0 := wire_Word.mono_l k
    · intro y0 y1 y2
      unfold wire_Word.l0
      repeat' first
      | (with_reducible exact ih0 _ _ _)
      | (with_reducible exact LeO.refl _)
      | (with_reducible exact LeO.none _)
      | (with_reducible refine LeO.ite ?_ ?_)
      | (with_reducible refine LeO.bind ?_ (fun _ => ?_))
      | exact ih0 _ _ _
      | exact LeO.none _
      | refine LeO.ite ?_ ?_
      | refine LeO.bind ?_ (fun _ => ?_)
theorem wire_Word.mono : ∀ a0 k, LeO (wire_Word.f k a0) (wire_Word.f (k + 1) a0) := by
  intro a0 k
  have ih0 := wire_Word.mono_l k
  unfold wire_Word.f
  repeat' first
      | (with_reducible exact ih0 _ _ _)
      | (with_reducible exact LeO.refl _)
      | (with_reducible exact LeO.none _)
      | (with_reducible refine LeO.ite ?_ ?_)
      | (with_reducible refine LeO.bind ?_ (fun _ => ?_))
      | exact ih0 _ _ _
      | exact LeO.none _
      | refine LeO.ite ?_ ?_
      | refine LeO.bind ?_ (fun _ => ?_)
set_option maxHeartbeats 8000000 in
set_option maxRecDepth 100000 in
theorem wire_Word.calls (k : Nat) (a0 : Int) (r : List Int) (w : World) (h : wire_Word.f k a0 = some r) :
    Calls Try.prog 85 #[.int .u32 a0] w fun e w' => ∃ v0_ : Value, e = .returned (v0_) ∧ Kd.R (Kd.int .u8) 5 w' w.heap.size (fun _ => True) v0_ r ∧ Below w.heap.size w w' := by
  have HB := Aside0.mk (Below.refl w.heap.size w)
  have H : (if 4 ≤ 281474976710656 then (wire_Word.l0 k a0 (List.replicate 4 0) 0) else (none)) = some r := h
  clear h
  by_cases c2 : 4 ≤ 281474976710656
  · rw [if_pos c2] at H
    have c2b0 := eq_true c2
    have c2b1 : decide (4 ≤ 281474976710656) = true := decide_eq_true c2
    clear c2
    obtain ⟨y155, hy155⟩ : ∃ y_ : List Int, y_ = (List.replicate 4 0) := ⟨_, rfl⟩
    replace H : (wire_Word.l0 k a0 y155 0) = some r := by first | (rw [hy155]; with_reducible exact H) | (have H2_ := (Option.bind_some _ _).symm.trans H; rw [hy155]; with_reducible exact H2_) | (have H2_ := (Option.bind_some _ _).symm.trans H; with_reducible exact H2_) | with_reducible exact H | (rw [hy155]; exact H) | exact H
    have Ny155 := Aside0.mk hy155
    clear hy155
    have H' := Aside0.mk H
    clear H
    go_enter Try.func85, Try.ntmps85
    go_wp2_with (first | ((with_reducible refine gate_dst (N := 5) rfl ?_); refine Kd.R_make (Kd.int .u8) _ 5 rfl (N := 5) rfl 40 _ _ rfl 4 rfl rfl Try.underlying40 (.int .u8 0) 1 info5 rfl (by decide) (by omega) 0 (ok := fun _ => True) (okp := fun _ => True) rfl (fun _ hk => hk) trivial (by omega) (by omega) (Below.refl _ _) (Nat.le_refl _) ?_; intro v156 w3 ho4 hb hg_ hnew_; clear hg_ hnew_; (first | rw [← Ny155.out] at ho4 | (simp only [Int.reduceToNat] at ho4; rw [← Ny155.out] at ho4)); have n0_ := Aside0.mk (Kd.R_lower ho4 (below_size (by repeat (first | (with_reducible first | exact HB.out | apply below_alloc | apply pw_below_drewN | apply below_drew1) | exact HB.out)))); have n1_ := Aside0.mk (below_step (by repeat (first | (with_reducible first | exact HB.out | apply below_alloc | apply pw_below_drewN | apply below_drew1) | exact HB.out)) hb); clear HB; have HO157 := n0_; have HB := n1_; clear n0_ n1_; clear hb ho4))
    go_loopg [6] k (fun kq v6 w' => ∃ (x3_1 : List Int) (x6_1 : Int), v6 = .int .i64 x6_1 ∧ Aside0 (wire_Word.l0 kq a0 x3_1 x6_1 = some r) ∧ Aside0 (kq ≤ k) ∧ Aside0 (Kd.R (Kd.int .u8) 5 w' w.heap.size (fun _ => True) v156 x3_1) ∧ Aside0 (Below w.heap.size w w'))
    case atStart => exact ⟨(y155), (0), (by first | rfl | (simp; done) | (simp [*]; done)), H', ⟨Nat.le_refl _⟩, ⟨by (with_reducible repeat (first | apply Kd.R_alloc | apply Kd.R_drewN | apply Kd.R_drew)); exact HO157.out⟩, ⟨by repeat (first | (with_reducible first | exact HB.out | apply below_alloc | apply pw_below_drewN | apply below_drew1) | exact HB.out)⟩⟩
    case round =>
      clear H'
      try clear c2
      try clear c2b0
      try clear c2b1
      try clear p2
      obtain ⟨x3_1, x6_1, rfl, HA, HK1, HO_3, HB⟩ := hrel
      cases gk with
      | zero => exact absurd HA.out (by simp [wire_Word.l0])
      | succ k1 =>
        have H := HA.out
        clear HA
        simp only [wire_Word.l0] at H
        by_cases c5 : x6_1 < 4
        · rw [if_pos c5] at H
          have c5b0 : decide (x6_1 < 4) = true := decide_eq_true c5
          clear c5
          obtain ⟨ji6, hji6⟩ : ∃ j_ : Int, (wrap64 (8 * x6_1)) = j_ := ⟨_, rfl⟩
          replace H : (if 0 ≤ (ji6) then (if 0 ≤ (wrap64 (3 - x6_1)) then (if (wrap64 (3 - x6_1)) < (x3_1.length : Int) then (wire_Word.l0 k1 a0 (x3_1.set ((wrap64 (3 - x6_1)) : Int).toNat ((shr .u32 a0 (ji6)) % 256)) (wrap64 (x6_1 + 1))) else (none)) else (none)) else (none)) = some r := by first | (rw [hji6] at H; exact H) | (simp only [hji6] at H ⊢; exact H)
          have hji6w : (IntKind.i64.wrap (8 * x6_1)) = ji6 := (i64_w _).trans hji6
          by_cases c7 : 0 ≤ (ji6)
          · rw [if_pos c7] at H
            have c7b0 := eq_true c7
            have c7b1 : decide (0 ≤ (ji6)) = true := decide_eq_true c7
            clear c7
            obtain ⟨ji8, hji8⟩ : ∃ j_ : Int, (shr .u32 a0 (ji6)) = j_ := ⟨_, rfl⟩
            replace H : (if 0 ≤ (wrap64 (3 - x6_1)) then (if (wrap64 (3 - x6_1)) < (x3_1.length : Int) then (wire_Word.l0 k1 a0 (x3_1.set ((wrap64 (3 - x6_1)) : Int).toNat ((ji8) % 256)) (wrap64 (x6_1 + 1))) else (none)) else (none)) = some r := by first | (rw [hji8] at H; exact H) | (simp only [hji8] at H ⊢; exact H)
            have hji8_ : (a0 / 2 ^ min (ji6).toNat 32) = ji8 := hji8
            have hji8z : (ji6) ≤ 32 → (a0 / 2 ^ (ji6).toNat) = ji8 := shr_small hji8
            obtain ⟨ji9, hji9⟩ : ∃ j_ : Int, (wrap64 (3 - x6_1)) = j_ := ⟨_, rfl⟩
            replace H : (if 0 ≤ (ji9) then (if (ji9) < (x3_1.length : Int) then (wire_Word.l0 k1 a0 (x3_1.set ((ji9) : Int).toNat ((ji8) % 256)) (wrap64 (x6_1 + 1))) else (none)) else (none)) = some r := by first | (rw [hji9] at H; exact H) | (simp only [hji9] at H ⊢; exact H)
            have hji9w : (IntKind.i64.wrap (3 - x6_1)) = ji9 := (i64_w _).trans hji9
            by_cases c10 : 0 ≤ (ji9)
            · rw [if_pos c10] at H
              have c10b0 : decide (0 ≤ (ji9)) = true := decide_eq_true c10
              clear c10
              by_cases c11 : (ji9) < (x3_1.length : Int)
              · rw [if_pos c11] at H
                have c11b0 : decide ((ji9) < (x3_1.length : Int)) = true := decide_eq_true c11
                clear c11
                obtain ⟨y158, hy158⟩ : ∃ y_ : List Int, y_ = (x3_1.set ((ji9) : Int).toNat ((ji8) % 256)) := ⟨_, rfl⟩
                replace H : (wire_Word.l0 k1 a0 y158 (wrap64 (x6_1 + 1))) = some r := by first | (rw [hy158]; with_reducible exact H) | (have H2_ := (Option.bind_some _ _).symm.trans H; rw [hy158]; with_reducible exact H2_) | (have H2_ := (Option.bind_some _ _).symm.trans H; with_reducible exact H2_) | with_reducible exact H | (rw [hy158]; exact H) | exact H
                have Ny158 := Aside0.mk hy158
                clear hy158
                have H' := Aside0.mk H
                clear H
                have p12 : 0 ≤ ((ji9) : Int) := of_decide_eq_true (by first | (with_reducible assumption) | assumption)
                have q12 : ((ji9) : Int) < ((x3_1.length : Int) : Int) := of_decide_eq_true (by first | (with_reducible assumption) | assumption)
                obtain ⟨go12, co12, eo12, gb12, gl12, cl12, HG12⟩ := Kd.R_form HO_3.out (by omega)
                (first | cases eo12 | (injection eo12 with ea_ en_ ec_; (first | subst ea_ | (injection ea_ with ea_; subst ea_)); subst ec_; clear en_))
                have GB12 := Aside0.mk gb12
                have GG12 := Aside0.mk HG12
                clear gb12 gl12 HG12
                obtain ⟨hx12_0, hf12_0⟩ := Kd.R_celln 0 HO_3.out ((ji9) : Int) p12 q12
                replace p12 := eq_true p12
                replace q12 := eq_true q12
                have HP13 := Kd.R_putg HO_3.out ((ji9) : Int) ((ji8) % 256)
                go_wp2_with (first | ((with_reducible refine gate_store (t := 5) (p := 17) rfl ?_); refine store_event (t := 5) (p := 17) (v := ?vo_w14) (w1 := (wr.setCell ⟨go12, ((ji9) : Int).toNat, none⟩ (.int .u8 ((ji8) % 256)))) ?hg ?ho ?hn ?hr ?_; (case ho => rfl); (case hg => rfl); (case hn => rfl); (case hr => first | (go_simp; done) | (go_simp; rfl)); intro w14 hw; have hg : wr.grownBy w14 (some go12) := (by rw [hw]; exact HP13.2); have hp_ : Kd.R (Kd.int .u8) 5 w14 w.heap.size (fun _ => True) (.slice (some ⟨go12, 0, none⟩) x3_1.length co12) y158 := (by rw [hw, Ny158.out]; exact HP13.1); clear HP13; have n0_ := Aside0.mk (hp_); have n1_ := Aside0.mk ((by rw [hw]; exact below_set (HB.out) GB12.out : Below w.heap.size w w14)); clear HO_3; clear HB; have HO_3 := n0_; have HB := n1_; clear n0_ n1_; clear hg hw hp_))
                go_roundg k1
                case measure => have := HK1.out; omega
                case rel => exact ⟨(y158), (wrap64 (x6_1 + 1)), (by first | rfl | (simp; done) | (simp [*]; done)), H', ⟨by have := HK1.out; omega⟩, ⟨by (with_reducible repeat (first | apply Kd.R_alloc | apply Kd.R_drewN | apply Kd.R_drew)); exact HO_3.out⟩, ⟨by repeat (first | (with_reducible first | exact HB.out | apply below_alloc | apply pw_below_drewN | apply below_drew1) | exact HB.out)⟩⟩
              · rw [if_neg c11] at H
                exact absurd H (by simp)
            · rw [if_neg c10] at H
              exact absurd H (by simp)
          · rw [if_neg c7] at H
            exact absurd H (by simp)
        · rw [if_neg c5] at H
          have c5b0 : decide (x6_1 < 4) = false := decide_eq_false c5
          clear c5
          obtain rfl := Option.some.inj H
          go_wp2
          go_ret
          exact ⟨_, by first | rfl | (simp [errW_none, errW_some] <;> rfl) | (simp [*, errW_none, errW_some] <;> rfl), by (with_reducible repeat (first | apply Kd.R_alloc | apply Kd.R_drewN | apply Kd.R_drew)); exact HO_3.out, by repeat (first | (with_reducible first | exact HB.out | apply below_alloc | apply pw_below_drewN | apply below_drew1) | exact HB.out)⟩
  · rw [if_neg c2] at H
    exact absurd H (by simp)

end Go.Proofs.Ytchaegfdcdlfaaa.X

namespace Go.Proofs.Ytchaegfdcdlfaaa.X
open Go.RowKit Go.Proofs.YtchaegfdcdlfaaaW.PrintWords Go.Proofs.YtchaegfdcdlfaaaW.PrintLast Go.Proofs.YtchaegfdcdlfaaaW.PrintMore
attribute [local go_sem] max2_int min2_int max_two min_two max_three min_three max_four min_four   -- for this text's walks alone
set_option linter.unusedVariables false
set_option linter.unusedSimpArgs false

mutual
def wire_Get.l0 : Nat → Int → Int → List Int → Int → Int → Option (Int × Int × Bool)
  | 0, _, _, _, _, _ => none
  | k + 1, x5, x6, x9, x10, x11 => if x11 < x10 then (if 0 ≤ x11 then (if x11 < (x9.length : Int) then (if x11 = 10 then (wire_Get.j1 k x5 x6 x11 (rd x9 x11) x9 x10 x11 (x11 == 10)) else (if x11 = 9 then (if (x5 / 144115188075855872) > 0 then (wire_Get.j1 k x5 x6 x11 (rd x9 x11) x9 x10 x11 (decide ((x5 / 144115188075855872) > 0))) else (if x11 = 0 then (wire_Get.j1 k x5 x6 x11 (rd x9 x11) x9 x10 x11 ((rd x9 x11) == 128)) else (wire_Get.j1 k x5 x6 x11 (rd x9 x11) x9 x10 x11 false))) else (if x11 = 0 then (wire_Get.j1 k x5 x6 x11 (rd x9 x11) x9 x10 x11 ((rd x9 x11) == 128)) else (wire_Get.j1 k x5 x6 x11 (rd x9 x11) x9 x10 x11 false)))) else (none)) else (none)) else (if x6 = 0 then (some (0, 0, false)) else (some (x5, x6, true)))
def wire_Get.j1 : Nat → Int → Int → Int → Int → List Int → Int → Int → Bool → Option (Int × Int × Bool)
  | 0, _, _, _, _, _, _, _, _ => none
  | k + 1, x5, x6, x7, x8, x9, x10, x11, x16 => if x16 = true then (if x6 = 0 then (some (0, 0, false)) else (some (x5, x6, true))) else (if x8 < 128 then (if (wrap64 (x7 + 1)) = 0 then (some (0, 0, false)) else (some (Go.bits .or .u64 (IntKind.u64.wrap (x5 * 128)) (IntKind.u64.wrap (Go.bits .andNot .u8 x8 128)), wrap64 (x7 + 1), true))) else (wire_Get.l0 k (Go.bits .or .u64 (IntKind.u64.wrap (x5 * 128)) (IntKind.u64.wrap (Go.bits .andNot .u8 x8 128))) x6 x9 x10 (wrap64 (x11 + 1))))
end
def wire_Get.f (k : Nat) (l0 : List Int) : Option (Int × Int × Bool) := wire_Get.l0 k 0 0 l0 (l0.length : Int) 0
theorem wire_Get.mono_l : ∀ k, (∀ y0 y1 y2 y3 y4, LeO (wire_Get.l0 k y0 y1 y2 y3 y4) (wire_Get.l0 (k + 1) y0 y1 y2 y3 y4)) ∧ (∀ y0 y1 y2 y3 y4 y5 y6 y7, LeO (wire_Get.j1 k y0 y1 y2 y3 y4 y5 y6 y7) (wire_Get.j1 (k + 1) y0 y1 y2 y3 y4 y5 y6 y7))
  | 0 => ⟨fun _ _ _ _ _ r h => by simp [wire_Get.l0] at h, fun _ _ _ _ _ _ _ _ r h => by simp [wire_Get.j1] at h⟩
  | k + 1 => by
    obtain ⟨ih0, ih1⟩ := wire_Get.mono_l k
    refine ⟨?_, ?_⟩
    · intro y0 y1 y2 y3 y4
      unfold wire_Get.l0
      repeat' first
      | (with_reducible exact ih0 _ _ _ _ _)
      | (with_reducible exact ih1 _ _ _ _ _ _ _ _)
      | (with_reducible exact LeO.refl _)
      | (with_reducible exact LeO.none _)
      | (with_reducible refine LeO.ite ?_ ?_)
      | (with_reducible refine LeO.bind ?_ (fun _ => ?_))
      | exact ih0 _ _ _ _ _
      | exact ih1 _ _ _ _ _ _ _ _
      | exact LeO.none _
      | refine LeO.ite ?_ ?_
      | refine LeO.bind ?_ (fun _ => ?_)
    · intro y0 y1 y2 y3 y4 y5 y6 y7
      unfold wire_Get.j1
      repeat' first
      | (with_reducible exact ih0 _ _ _ _ _)
      | (with_reducible exact ih1 _ _ _ _ _ _ _ _)
      | (with_reducible exact LeO.refl _)
      | (with_reducible exact LeO.none _)
      | (with_reducible refine LeO.ite ?_ ?_)
      | (with_reducible refine LeO.bind ?_ (fun _ => ?_))
      | exact ih0 _ _ _ _ _
      | exact ih1 _ _ _ _ _ _ _ _
      | exact LeO.none _
      | refine LeO.ite ?_ ?_
      | refine LeO.bind ?_ (fun _ => ?_)
theorem wire_Get.mono : ∀ a0 k, LeO (wire_Get.f k a0) (wire_Get.f (k + 1) a0) := by
  intro a0 k
  obtain ⟨ih0, ih1⟩ := wire_Get.mono_l k
  unfold wire_Get.f
  repeat' first
      | (with_reducible exact ih0 _ _ _ _ _)
      | (with_reducible exact ih1 _ _ _ _ _ _ _ _)
      | (with_reducible exact LeO.refl _)
      | (with_reducible exact LeO.none _)
      | (with_reducible refine LeO.ite ?_ ?_)
      | (with_reducible refine LeO.bind ?_ (fun _ => ?_))
      | exact ih0 _ _ _ _ _
      | exact ih1 _ _ _ _ _ _ _ _
      | exact LeO.none _
      | refine LeO.ite ?_ ?_
      | refine LeO.bind ?_ (fun _ => ?_)
set_option maxHeartbeats 8000000 in
set_option maxRecDepth 100000 in
theorem wire_Get.calls (k : Nat) (A0 : Option Addr) (c0 : Nat) (l0 : List Int) (r1 : Int) (r2 : Int) (r3 : Bool) (w : World) (hr0 : Kd.C (Kd.int .u8) w A0 l0.length l0) (hc0 : l0.length ≤ c0) (h : wire_Get.f k l0 = some (r1, r2, r3)) :
    Calls Try.prog 88 #[.slice A0 l0.length c0] w fun e w' => e = .returned (.tuple #[.int .u64 r1, .int .i64 r2, .bool r3]) ∧ Drawn0 w w' := by
  have HR0 := Aside0.mk hr0
  have HC0 := Aside0.mk hc0
  clear hr0 hc0
  have H : (wire_Get.l0 k 0 0 l0 (l0.length : Int) 0) = some (r1, r2, r3) := h
  clear h
  have H' := Aside0.mk H
  clear H
  go_enter Try.func88, Try.ntmps88
  go_wp2
  go_step3
  go_wp2
  go_step3
  go_wp2
  go_loopg [5, 6, 11] k (fun kq v5 v6 v11 w' => ∃ (x5_1 : Int) (x6_1 : Int) (x11_1 : Int), v5 = .int .u64 x5_1 ∧ v6 = .int .i64 x6_1 ∧ v11 = .int .i64 x11_1 ∧ Aside0 (wire_Get.l0 kq x5_1 x6_1 l0 (l0.length : Int) x11_1 = some (r1, r2, r3)) ∧ Aside0 (kq ≤ k) ∧ Drawn0 w w')
  case atStart => exact ⟨(0), (0), (0), (by first | rfl | (simp; done) | (simp [*]; done)), (by first | rfl | (simp; done) | (simp [*]; done)), (by first | rfl | (simp; done) | (simp [*]; done)), H', ⟨Nat.le_refl _⟩, by repeat (first | exact Drawn0.refl _ | apply Drawn0.step)⟩
  case round =>
    clear H'
    obtain ⟨x5_1, x6_1, x11_1, rfl, rfl, rfl, HA, HK1, ⟨m1, rfl⟩⟩ := hrel
    cases gk with
    | zero => exact absurd HA.out (by simp [wire_Get.l0])
    | succ k1 =>
      have H := HA.out
      clear HA
      simp only [wire_Get.l0] at H
      by_cases c2 : x11_1 < (l0.length : Int)
      · rw [if_pos c2] at H
        have c2b0 : decide (x11_1 < (l0.length : Int)) = true := decide_eq_true c2
        clear c2
        by_cases c3 : 0 ≤ x11_1
        · rw [if_pos c3] at H
          have c3b0 : decide (0 ≤ x11_1) = true := decide_eq_true c3
          clear c3
          by_cases c4 : x11_1 < (l0.length : Int)
          · rw [if_pos c4] at H
            have c4b0 : decide (x11_1 < (l0.length : Int)) = true := decide_eq_true c4
            clear c4
            have HC5 := Aside0.mk H
            clear H
            have p178 : 0 ≤ (x11_1 : Int) := of_decide_eq_true (by first | (with_reducible assumption) | assumption)
            have q178 : x11_1 < (l0.length : Int) := of_decide_eq_true (by first | (with_reducible assumption) | assumption)
            obtain ⟨ad178, e178, hx178_0⟩ := Kd.at_int HR0.out x11_1 p178 q178
            cases e178
            replace p178 := eq_true p178
            replace q178 := eq_true q178
            go_upto_if 16 with (fail)
            go_cut [16] (fun v16 wc => ∃ (kq : Nat) (x16_4 : Bool), v16 = .bool x16_4 ∧ Aside0 (wire_Get.j1 kq x5_1 x6_1 x11_1 (rd l0 x11_1) l0 (l0.length : Int) x11_1 x16_4 = some (r1, r2, r3)) ∧ Aside0 (kq ≤ k1) ∧ Drawn0 w wc)
            case first =>
              have H := HC5.out
              clear HC5
              by_cases c6 : x11_1 = 10
              · rw [if_pos c6] at H
                have c6b0 : (x11_1 == 10) = true := beq_iff_eq.mpr c6
                have c6b1 : (x11_1 != 10) = false := bne_eq_false_iff_eq.mpr c6
                clear c6
                (first | rw [c6b0] | (simp only [i64_w, i32_w]; rw [c6b0]) | skip)
                have H' := Aside0.mk H
                clear H
                go_wp2
                go_meet
                case rel => exact ⟨_, ((x11_1 == 10)), (by first | rfl | (simp; done) | (simp [*]; done)), H', ⟨by have := HK1.out; first | omega | exact Nat.le_refl _⟩, by repeat (first | exact Drawn0.refl _ | apply Drawn0.step)⟩
              · rw [if_neg c6] at H
                have c6b0 : (x11_1 == 10) = false := beq_eq_false_iff_ne.mpr c6
                have c6b1 : (x11_1 != 10) = true := bne_iff_ne.mpr c6
                (first | rw [c6b0] | (simp only [i64_w, i32_w]; rw [c6b0]) | skip)
                by_cases c7 : x11_1 = 9
                · rw [if_pos c7] at H
                  have c7b0 : (x11_1 == 9) = true := beq_iff_eq.mpr c7
                  have c7b1 : (x11_1 != 9) = false := bne_eq_false_iff_eq.mpr c7
                  clear c7
                  by_cases c8 : (x5_1 / 144115188075855872) > 0
                  · rw [if_pos c8] at H
                    have c8b0 : decide (0 < (x5_1 / 144115188075855872)) = true := decide_eq_true c8
                    clear c8
                    have H' := Aside0.mk H
                    clear H
                    go_wp2
                    go_meet
                    case rel => exact ⟨_, (decide ((x5_1 / 144115188075855872) > 0)), (by first | rfl | (simp; done) | (simp [*]; done)), H', ⟨by have := HK1.out; first | omega | exact Nat.le_refl _⟩, by repeat (first | exact Drawn0.refl _ | apply Drawn0.step)⟩
                  · rw [if_neg c8] at H
                    have c8b0 : decide (0 < (x5_1 / 144115188075855872)) = false := decide_eq_false c8
                    clear c8
                    by_cases c9 : x11_1 = 0
                    · rw [if_pos c9] at H
                      have c9b0 : (x11_1 == 0) = true := beq_iff_eq.mpr c9
                      have c9b1 : (x11_1 != 0) = false := bne_eq_false_iff_eq.mpr c9
                      clear c9
                      have H' := Aside0.mk H
                      clear H
                      go_wp2
                      go_meet
                      case rel => exact ⟨_, (((rd l0 x11_1) == 128)), (by first | rfl | (simp; done) | (simp [*]; done)), H', ⟨by have := HK1.out; first | omega | exact Nat.le_refl _⟩, by repeat (first | exact Drawn0.refl _ | apply Drawn0.step)⟩
                    · rw [if_neg c9] at H
                      have c9b0 : (x11_1 == 0) = false := beq_eq_false_iff_ne.mpr c9
                      have c9b1 : (x11_1 != 0) = true := bne_iff_ne.mpr c9
                      have H' := Aside0.mk H
                      clear H
                      go_wp2
                      go_meet
                      case rel => exact ⟨_, (false), (by first | rfl | (simp; done) | (simp [*]; done)), H', ⟨by have := HK1.out; first | omega | exact Nat.le_refl _⟩, by repeat (first | exact Drawn0.refl _ | apply Drawn0.step)⟩
                · rw [if_neg c7] at H
                  have c7b0 : (x11_1 == 9) = false := beq_eq_false_iff_ne.mpr c7
                  have c7b1 : (x11_1 != 9) = true := bne_iff_ne.mpr c7
                  by_cases c10 : x11_1 = 0
                  · rw [if_pos c10] at H
                    have c10b0 : (x11_1 == 0) = true := beq_iff_eq.mpr c10
                    have c10b1 : (x11_1 != 0) = false := bne_eq_false_iff_eq.mpr c10
                    clear c10
                    have H' := Aside0.mk H
                    clear H
                    go_wp2
                    go_meet
                    case rel => exact ⟨_, (((rd l0 x11_1) == 128)), (by first | rfl | (simp; done) | (simp [*]; done)), H', ⟨by have := HK1.out; first | omega | exact Nat.le_refl _⟩, by repeat (first | exact Drawn0.refl _ | apply Drawn0.step)⟩
                  · rw [if_neg c10] at H
                    have c10b0 : (x11_1 == 0) = false := beq_eq_false_iff_ne.mpr c10
                    have c10b1 : (x11_1 != 0) = true := bne_iff_ne.mpr c10
                    have H' := Aside0.mk H
                    clear H
                    go_wp2
                    go_meet
                    case rel => exact ⟨_, (false), (by first | rfl | (simp; done) | (simp [*]; done)), H', ⟨by have := HK1.out; first | omega | exact Nat.le_refl _⟩, by repeat (first | exact Drawn0.refl _ | apply Drawn0.step)⟩
            case rest =>
              clear HC5
              try clear c1
              try clear p1
              try clear q1
              try clear hx1
              try clear c2
              try clear c2b0
              try clear p2
              try clear c3
              try clear c3b0
              try clear c4
              try clear c4b0
              try clear c6
              try clear c6b0
              try clear c6b1
              try clear c7
              try clear c7b0
              try clear c7b1
              try clear c8
              try clear c8b0
              try clear c9
              try clear c9b0
              try clear c9b1
              try clear c10
              try clear c10b0
              try clear c10b1
              try clear hx178_0
              try clear p178
              try clear q178
              obtain ⟨kq, x16_4, rfl, HA, HJ4, ⟨mc4, rfl⟩⟩ := hcut
              cases kq with
              | zero => exact absurd HA.out (by simp [wire_Get.j1])
              | succ kj4 =>
                have H := HA.out
                clear HA
                simp only [wire_Get.j1] at H
                by_cases c11 : x16_4 = true
                · subst c11
                  have H1 : (if x6_1 = 0 then (some (0, 0, false)) else (some (x5_1, x6_1, true))) = some (r1, r2, r3) := by rw [if_pos rfl] at H; exact H
                  clear H
                  have H := H1
                  clear H1
                  by_cases c12 : x6_1 = 0
                  · rw [if_pos c12] at H
                    have c12b0 : (x6_1 == 0) = true := beq_iff_eq.mpr c12
                    have c12b1 : (x6_1 != 0) = false := bne_eq_false_iff_eq.mpr c12
                    clear c12
                    simp only [Option.some.injEq, Prod.mk.injEq] at H
                    obtain ⟨rfl, rfl, rfl⟩ := H
                    go_wp2
                    (try rw [Exit.noGoto_ret])
                    go_ret3
                    exact ⟨by first | rfl | (simp; done) | (simp [*]; done), by repeat (first | exact Drawn0.refl _ | apply Drawn0.step)⟩
                  · rw [if_neg c12] at H
                    have c12b0 : (x6_1 == 0) = false := beq_eq_false_iff_ne.mpr c12
                    have c12b1 : (x6_1 != 0) = true := bne_iff_ne.mpr c12
                    simp only [Option.some.injEq, Prod.mk.injEq] at H
                    obtain ⟨rfl, rfl, rfl⟩ := H
                    go_wp2
                    (try rw [Exit.noGoto_ret])
                    go_ret3
                    exact ⟨by first | rfl | (simp; done) | (simp [*]; done), by repeat (first | exact Drawn0.refl _ | apply Drawn0.step)⟩
                · replace c11 := Bool.eq_false_iff.mpr c11
                  subst c11
                  have H1 : (if (rd l0 x11_1) < 128 then (if (wrap64 (x11_1 + 1)) = 0 then (some (0, 0, false)) else (some (Go.bits .or .u64 (IntKind.u64.wrap (x5_1 * 128)) (IntKind.u64.wrap (Go.bits .andNot .u8 (rd l0 x11_1) 128)), wrap64 (x11_1 + 1), true))) else (wire_Get.l0 kj4 (Go.bits .or .u64 (IntKind.u64.wrap (x5_1 * 128)) (IntKind.u64.wrap (Go.bits .andNot .u8 (rd l0 x11_1) 128))) x6_1 l0 (l0.length : Int) (wrap64 (x11_1 + 1)))) = some (r1, r2, r3) := by rw [if_neg (show ¬ (false = true) by decide)] at H; exact H
                  clear H
                  have H := H1
                  clear H1
                  by_cases c13 : (rd l0 x11_1) < 128
                  · rw [if_pos c13] at H
                    have c13b0 : decide ((rd l0 x11_1) < 128) = true := decide_eq_true c13
                    clear c13
                    by_cases c14 : (wrap64 (x11_1 + 1)) = 0
                    · rw [if_pos c14] at H
                      have c14b0 : ((wrap64 (x11_1 + 1)) == 0) = true := beq_iff_eq.mpr c14
                      have c14b1 : ((wrap64 (x11_1 + 1)) != 0) = false := bne_eq_false_iff_eq.mpr c14
                      clear c14
                      simp only [Option.some.injEq, Prod.mk.injEq] at H
                      obtain ⟨rfl, rfl, rfl⟩ := H
                      go_wp2
                      (try rw [Exit.noGoto_ret])
                      go_ret3
                      exact ⟨by first | rfl | (simp; done) | (simp [*]; done), by repeat (first | exact Drawn0.refl _ | apply Drawn0.step)⟩
                    · rw [if_neg c14] at H
                      have c14b0 : ((wrap64 (x11_1 + 1)) == 0) = false := beq_eq_false_iff_ne.mpr c14
                      have c14b1 : ((wrap64 (x11_1 + 1)) != 0) = true := bne_iff_ne.mpr c14
                      simp only [Option.some.injEq, Prod.mk.injEq] at H
                      obtain ⟨rfl, rfl, rfl⟩ := H
                      go_wp2
                      (try rw [Exit.noGoto_ret])
                      go_ret3
                      exact ⟨by first | rfl | (simp; done) | (simp [*]; done), by repeat (first | exact Drawn0.refl _ | apply Drawn0.step)⟩
                  · rw [if_neg c13] at H
                    have c13b0 : decide ((rd l0 x11_1) < 128) = false := decide_eq_false c13
                    clear c13
                    have H' := Aside0.mk H
                    clear H
                    go_wp2
                    go_roundg kj4
                    case measure => have := HK1.out; have := HJ4.out; omega
                    case rel => exact ⟨(Go.bits .or .u64 (IntKind.u64.wrap (x5_1 * 128)) (IntKind.u64.wrap (Go.bits .andNot .u8 (rd l0 x11_1) 128))), (x6_1), (wrap64 (x11_1 + 1)), (by first | rfl | (simp; done) | (simp [*]; done)), (by first | rfl | (simp; done) | (simp [*]; done)), (by first | rfl | (simp; done) | (simp [*]; done)), H', ⟨by have := HK1.out; have := HJ4.out; omega⟩, by repeat (first | exact Drawn0.refl _ | apply Drawn0.step)⟩
          · rw [if_neg c4] at H
            exact absurd H (by simp)
        · rw [if_neg c3] at H
          exact absurd H (by simp)
      · rw [if_neg c2] at H
        have c2b0 : decide (x11_1 < (l0.length : Int)) = false := decide_eq_false c2
        clear c2
        by_cases c15 : x6_1 = 0
        · rw [if_pos c15] at H
          have c15b0 : (x6_1 == 0) = true := beq_iff_eq.mpr c15
          have c15b1 : (x6_1 != 0) = false := bne_eq_false_iff_eq.mpr c15
          clear c15
          simp only [Option.some.injEq, Prod.mk.injEq] at H
          obtain ⟨rfl, rfl, rfl⟩ := H
          go_wp2
          (try rw [Exit.noGoto_ret])
          go_ret3
          exact ⟨by first | rfl | (simp; done) | (simp [*]; done), by repeat (first | exact Drawn0.refl _ | apply Drawn0.step)⟩
        · rw [if_neg c15] at H
          have c15b0 : (x6_1 == 0) = false := beq_eq_false_iff_ne.mpr c15
          have c15b1 : (x6_1 != 0) = true := bne_iff_ne.mpr c15
          simp only [Option.some.injEq, Prod.mk.injEq] at H
          obtain ⟨rfl, rfl, rfl⟩ := H
          go_wp2
          (try rw [Exit.noGoto_ret])
          go_ret3
          exact ⟨by first | rfl | (simp; done) | (simp [*]; done), by repeat (first | exact Drawn0.refl _ | apply Drawn0.step)⟩

end Go.Proofs.Ytchaegfdcdlfaaa.X

namespace Go.Proofs.Ytchaegfdcdlfaaa.X
open Go.RowKit Go.Proofs.YtchaegfdcdlfaaaW.PrintWords Go.Proofs.YtchaegfdcdlfaaaW.PrintLast Go.Proofs.YtchaegfdcdlfaaaW.PrintMore
attribute [local go_sem] max2_int min2_int max_two min_two max_three min_three max_four min_four   -- for this text's walks alone
set_option linter.unusedVariables false
set_option linter.unusedSimpArgs false

def wire_Four.l0 : Nat → Int → List Int → Int → Int → Option (Int × Bool)
  | 0, _, _, _, _ => none
  | k + 1, x4, x10, x11, x12 => if x12 < x11 then (if 0 ≤ x12 then (if x12 < (x10.length : Int) then (wire_Four.l0 k (Go.bits .or .u32 ((x4 * 256) % 4294967296) ((rd x10 x12) % 4294967296)) x10 x11 (wrap64 (x12 + 1))) else (none)) else (none)) else (some (x4, true))
def wire_Four.f (k : Nat) (l0 : List Int) : Option (Int × Bool) := if (l0.length : Int) = 4 then (wire_Four.l0 k 0 l0 (l0.length : Int) 0) else (some (0, false))
theorem wire_Four.mono_l : ∀ k, (∀ y0 y1 y2 y3, LeO (wire_Four.l0 k y0 y1 y2 y3) (wire_Four.l0 (k + 1) y0 y1 y2 y3))
  | 0 => fun _ _ _ _ r h => by simp [wire_Four.l0] at h
  | k + 1 => by
    have ih0 := wire_Four.mono_l k
    · intro y0 y1 y2 y3
      unfold wire_Four.l0
      repeat' first
      | (with_reducible exact ih0 _ _ _ _)
      | (with_reducible exact LeO.refl _)
      | (with_reducible exact LeO.none _)
      | (with_reducible refine LeO.ite ?_ ?_)
      | (with_reducible refine LeO.bind ?_ (fun _ => ?_))
      | exact ih0 _ _ _ _
      | exact LeO.none _
      | refine LeO.ite ?_ ?_
      | refine LeO.bind ?_ (fun _ => ?_)
theorem wire_Four.mono : ∀ a0 k, LeO (wire_Four.f k a0) (wire_Four.f (k + 1) a0) := by
  intro a0 k
  have ih0 := wire_Four.mono_l k
  unfold wire_Four.f
  repeat' first
      | (with_reducible exact ih0 _ _ _ _)
      | (with_reducible exact LeO.refl _)
      | (with_reducible exact LeO.none _)
      | (with_reducible refine LeO.ite ?_ ?_)
      | (with_reducible refine LeO.bind ?_ (fun _ => ?_))
      | exact ih0 _ _ _ _
      | exact LeO.none _
      | refine LeO.ite ?_ ?_
      | refine LeO.bind ?_ (fun _ => ?_)
set_option maxHeartbeats 8000000 in
set_option maxRecDepth 100000 in
theorem wire_Four.calls (k : Nat) (A0 : Option Addr) (c0 : Nat) (l0 : List Int) (r1 : Int) (r2 : Bool) (w : World) (hr0 : Kd.C (Kd.int .u8) w A0 l0.length l0) (hc0 : l0.length ≤ c0) (h : wire_Four.f k l0 = some (r1, r2)) :
    Calls Try.prog 89 #[.slice A0 l0.length c0] w fun e w' => e = .returned (.tuple #[.int .u32 r1, .bool r2]) ∧ Drawn0 w w' := by
  have HR0 := Aside0.mk hr0
  have HC0 := Aside0.mk hc0
  clear hr0 hc0
  have H : (if (l0.length : Int) = 4 then (wire_Four.l0 k 0 l0 (l0.length : Int) 0) else (some (0, false))) = some (r1, r2) := h
  clear h
  by_cases c2 : (l0.length : Int) = 4
  · rw [if_pos c2] at H
    have c2b0 : ((l0.length : Int) == 4) = true := beq_iff_eq.mpr c2
    have c2b1 : ((l0.length : Int) != 4) = false := bne_eq_false_iff_eq.mpr c2
    clear c2
    have H' := Aside0.mk H
    clear H
    go_enter Try.func89, Try.ntmps89
    go_wp2
    go_loopg [4, 12] k (fun kq v4 v12 w' => ∃ (x4_1 : Int) (x12_1 : Int), v4 = .int .u32 x4_1 ∧ v12 = .int .i64 x12_1 ∧ Aside0 (wire_Four.l0 kq x4_1 l0 (l0.length : Int) x12_1 = some (r1, r2)) ∧ Aside0 (kq ≤ k) ∧ Drawn0 w w')
    case atStart => exact ⟨(0), (0), (by first | rfl | (simp; done) | (simp [*]; done)), (by first | rfl | (simp; done) | (simp [*]; done)), H', ⟨Nat.le_refl _⟩, by repeat (first | exact Drawn0.refl _ | apply Drawn0.step)⟩
    case round =>
      clear H'
      try clear c2
      try clear c2b0
      try clear c2b1
      try clear p2
      obtain ⟨x4_1, x12_1, rfl, rfl, HA, HK1, ⟨m1, rfl⟩⟩ := hrel
      cases gk with
      | zero => exact absurd HA.out (by simp [wire_Four.l0])
      | succ k1 =>
        have H := HA.out
        clear HA
        simp only [wire_Four.l0] at H
        by_cases c3 : x12_1 < (l0.length : Int)
        · rw [if_pos c3] at H
          have c3b0 : decide (x12_1 < (l0.length : Int)) = true := decide_eq_true c3
          clear c3
          by_cases c4 : 0 ≤ x12_1
          · rw [if_pos c4] at H
            have c4b0 : decide (0 ≤ x12_1) = true := decide_eq_true c4
            clear c4
            by_cases c5 : x12_1 < (l0.length : Int)
            · rw [if_pos c5] at H
              have c5b0 : decide (x12_1 < (l0.length : Int)) = true := decide_eq_true c5
              clear c5
              have H' := Aside0.mk H
              clear H
              have p179 : 0 ≤ (x12_1 : Int) := of_decide_eq_true (by first | (with_reducible assumption) | assumption)
              have q179 : x12_1 < (l0.length : Int) := of_decide_eq_true (by first | (with_reducible assumption) | assumption)
              obtain ⟨ad179, e179, hx179_0⟩ := Kd.at_int HR0.out x12_1 p179 q179
              cases e179
              replace p179 := eq_true p179
              replace q179 := eq_true q179
              go_wp2
              go_roundg k1
              case measure => have := HK1.out; omega
              case rel => exact ⟨(Go.bits .or .u32 ((x4_1 * 256) % 4294967296) ((rd l0 x12_1) % 4294967296)), (wrap64 (x12_1 + 1)), (by first | rfl | (simp; done) | (simp [*]; done)), (by first | rfl | (simp; done) | (simp [*]; done)), H', ⟨by have := HK1.out; omega⟩, by repeat (first | exact Drawn0.refl _ | apply Drawn0.step)⟩
            · rw [if_neg c5] at H
              exact absurd H (by simp)
          · rw [if_neg c4] at H
            exact absurd H (by simp)
        · rw [if_neg c3] at H
          have c3b0 : decide (x12_1 < (l0.length : Int)) = false := decide_eq_false c3
          clear c3
          simp only [Option.some.injEq, Prod.mk.injEq] at H
          obtain ⟨rfl, rfl⟩ := H
          go_wp2
          go_ret2
          exact ⟨by first | rfl | (simp; done) | (simp [*]; done), by repeat (first | exact Drawn0.refl _ | apply Drawn0.step)⟩
  · rw [if_neg c2] at H
    have c2b0 : ((l0.length : Int) == 4) = false := beq_eq_false_iff_ne.mpr c2
    have c2b1 : ((l0.length : Int) != 4) = true := bne_iff_ne.mpr c2
    simp only [Option.some.injEq, Prod.mk.injEq] at H
    obtain ⟨rfl, rfl⟩ := H
    go_enter Try.func89, Try.ntmps89
    go_wp2
    go_ret2
    exact ⟨by first | rfl | (simp; done) | (simp [*]; done), by repeat (first | exact Drawn0.refl _ | apply Drawn0.step)⟩

end Go.Proofs.Ytchaegfdcdlfaaa.X

namespace Go.Proofs.Ytchaegfdcdlfaaa.X
open Go.RowKit Go.Proofs.YtchaegfdcdlfaaaW.PrintWords Go.Proofs.YtchaegfdcdlfaaaW.PrintLast Go.Proofs.YtchaegfdcdlfaaaW.PrintMore
attribute [local go_sem] max2_int min2_int max_two min_two max_three min_three max_four min_four   -- for this text's walks alone
set_option linter.unusedVariables false
set_option linter.unusedSimpArgs false

def wire_Text.f (k : Nat) (a0 : ByteArray) : Option (List Int) := (wire_Put.f k (IntKind.u64.wrap ((a0.size : Int)))).bind fun t372 => (if t372.length + a0.size < 140737488355328 then (some (t372 ++ bytesOf a0)) else (none))
theorem wire_Text.mono : ∀ a0 k, LeO (wire_Text.f k a0) (wire_Text.f (k + 1) a0) := by
  intro a0 k
  unfold wire_Text.f
  repeat' first
      | (with_reducible exact wire_Put.mono _ _)
      | (with_reducible exact LeO.refl _)
      | (with_reducible exact LeO.none _)
      | (with_reducible refine LeO.ite ?_ ?_)
      | (with_reducible refine LeO.bind ?_ (fun _ => ?_))
      | exact wire_Put.mono _ _
      | exact LeO.none _
      | refine LeO.ite ?_ ?_
      | refine LeO.bind ?_ (fun _ => ?_)
set_option maxHeartbeats 8000000 in
set_option maxRecDepth 100000 in
theorem wire_Text.calls (k : Nat) (a0 : ByteArray) (r : List Int) (w : World) (h : wire_Text.f k a0 = some r) :
    Calls Try.prog 93 #[.string a0] w fun e w' => ∃ v0_ : Value, e = .returned (v0_) ∧ Kd.R (Kd.int .u8) 5 w' w.heap.size (fun _ => True) v0_ r ∧ Below w.heap.size w w' := by
  have HB := Aside0.mk (Below.refl w.heap.size w)
  have H : ((wire_Put.f k (IntKind.u64.wrap ((a0.size : Int)))).bind fun t372 => (if t372.length + a0.size < 140737488355328 then (some (t372 ++ bytesOf a0)) else (none))) = some r := h
  clear h
  replace H := Option.bind_eq_some_iff.mp H
  obtain ⟨t372, A20, H⟩ := H
  replace H : (if t372.length + a0.size < 140737488355328 then (some (t372 ++ bytesOf a0)) else (none)) = some r := H
  have A2 := Aside0.mk A20
  clear A20
  by_cases c3 : t372.length + a0.size < 140737488355328
  · rw [if_pos c3] at H
    have LMc3 := Aside0.mk c3
    clear c3
    obtain ⟨y375, hy375⟩ : ∃ y_ : List Int, y_ = (t372 ++ bytesOf a0) := ⟨_, rfl⟩
    replace H : (some y375) = some r := by first | (rw [hy375]; with_reducible exact H) | (have H2_ := (Option.bind_some _ _).symm.trans H; rw [hy375]; with_reducible exact H2_) | (have H2_ := (Option.bind_some _ _).symm.trans H; with_reducible exact H2_) | with_reducible exact H | (rw [hy375]; exact H) | exact H
    have Ny375 := Aside0.mk hy375
    clear hy375
    obtain rfl := Option.some.inj H
    go_enter Try.func93, Try.ntmps93
    go_wp2_with (first | ((with_reducible refine gate_callee (f := 84) rfl ?_); refine goesL_ (some 6) rfl rfl Try.func84 (by kernel_rfl) rfl #[.int .u64 (IntKind.u64.wrap ((a0.size : Int)))] rfl (by (try simp only [List.map_toArray, List.map_cons, List.map_nil]); first | done | rfl | (simp only [List.length_drop, List.length_take]; rfl)) ?_; (with_reducible refine (wire_Put.calls k (IntKind.u64.wrap ((a0.size : Int))) t372 _ A2.out).mono ?_); rintro e w4 ⟨v373, rfl, ho0, hb⟩; refine ⟨_, rfl, ?_⟩; have n0_ := Aside0.mk (Kd.R_lower ho0 (below_size (by repeat (first | (with_reducible first | exact HB.out | apply below_alloc | apply pw_below_drewN | apply below_drew1) | exact HB.out)))); have n1_ := Aside0.mk (below_step (by repeat (first | (with_reducible first | exact HB.out | apply below_alloc | apply pw_below_drewN | apply below_drew1) | exact HB.out)) hb); clear HB; have HO374 := n0_; have HB := n1_; clear n0_ n1_; (try clear hb); (try clear hb2); (try clear hk); (try clear hi); (try clear ho0)) | (at_builtin; refine print_append_str (w0 := w) w.heap.size rfl (.tmp 6) _ 40 9 5 rfl Try.underlying40 Try.underlying9 info5 v373 t372 a0 rfl rfl ?aO ?aB ?aS ?aL ?_; (case aB => exact (by repeat (first | (with_reducible first | exact HB.out | apply below_alloc | apply pw_below_drewN | apply below_drew1) | exact HB.out))); (case aO => exact (Kd.own_of_R (by (with_reducible repeat (first | apply Kd.R_alloc | apply Kd.R_drewN | apply Kd.R_drew)); exact HO374.out))); (case aS => exact (below_size (by repeat (first | (with_reducible first | exact HB.out | apply below_alloc | apply pw_below_drewN | apply below_drew1) | exact HB.out)))); (case aL => have := LMc3.out; omega); intro v376 w5 ho0 hb hg; have ho := Kd.R_of_own (h1 := fun _ => rfl) (ok := fun _ => True) ho0 (fun _ _ => trivial); clear ho0; have hat := True.intro; rw [← Ny375.out] at ho; change Kd.R (Kd.int .u8) 5 w5 w.heap.size (fun _ => True) v376 y375 at ho; have n0_ := Aside0.mk (hb); have n1_ := Aside0.mk (ho); clear HB; clear HO374; have HB := n0_; have HO377 := n1_; clear n0_ n1_; clear ho hb hg hat))
    go_ret
    exact ⟨_, by first | rfl | (simp [errW_none, errW_some] <;> rfl) | (simp [*, errW_none, errW_some] <;> rfl), by (with_reducible repeat (first | apply Kd.R_alloc | apply Kd.R_drewN | apply Kd.R_drew)); exact HO377.out, by repeat (first | (with_reducible first | exact HB.out | apply below_alloc | apply pw_below_drewN | apply below_drew1) | exact HB.out)⟩
  · rw [if_neg c3] at H
    exact absurd H (by simp)

end Go.Proofs.Ytchaegfdcdlfaaa.X

namespace Go.Proofs.Ytchaegfdcdlfaaa.X
set_option linter.unusedVariables false
set_option linter.unusedSimpArgs false
open Go.RowKit Go.Proofs.YtchaegfdcdlfaaaW.PrintWords Go.Proofs.YtchaegfdcdlfaaaW.PrintLast Go.Proofs.YtchaegfdcdlfaaaW.PrintMore
attribute [local go_sem] max2_int min2_int max_two min_two max_three min_three max_four min_four

def wire_Read.f (k : Nat) (l0 : List Int) (a1 : Int) : Option (ByteArray × Int × Bool) :=
  (wire_Get.f k l0).bind fun r => if 0 ≤ r.2.1 ∧ r.2.1 ≤ l0.length ∧ 0 ≤ r.1 ∧ l0.length ≤ 4611686018427387904 then
    (if r.2.2 = true ∧ 0 ≤ a1 ∧ r.1 ≤ a1 ∧ r.1 ≤ (l0.length : Int) - r.2.1 then some (strOfNums ((l0.drop r.2.1.toNat).take r.1.toNat), r.2.1 + r.1, true) else some (⟨#[]⟩, 0, false)) else none
theorem wire_Read.mono : ∀ a0 a1 k, LeO (wire_Read.f k a0 a1) (wire_Read.f (k + 1) a0 a1) := by
  intro a0 a1 k
  unfold wire_Read.f
  exact LeO.bind (wire_Get.mono _ _) fun _ => LeO.refl _

set_option maxHeartbeats 4000000 in
set_option maxRecDepth 100000 in
theorem read_no (k : Nat) (A0 : Option Addr) (c0 : Nat) (l0 : List Int) (a1 : Int) (n u : Nat) (w : World) (hr0 : Kd.C (Kd.int .u8) w A0 l0.length l0) (hc0 : l0.length ≤ c0)
    (h : wire_Get.f k l0 = some ((n : Int), (u : Int), false)) (hu : u ≤ l0.length) (hl : l0.length ≤ 4611686018427387904) :
    Calls Try.prog 143 #[.slice A0 l0.length c0, .int .i64 a1] w fun e w' => e = .returned (.tuple #[.string ⟨#[]⟩, .int .i64 0, .bool false]) ∧ Below w.heap.size w w' := by
  obtain ⟨i0, hi0, _, hsz0, _⟩ := info_parts info5
  obtain ⟨A', hcut, hA, hC⟩ := print_drop_of (P := Try.prog) (Value.int .u8) 0 40 5 .i64 Try.underlying40 hi0 hsz0 A0 c0 l0 (u : Int) (by omega) (by omega) hc0
  simp only [Int.toNat_natCast, List.length_drop] at hcut
  clear hA hC hi0 hsz0
  have HG := Aside0.mk h
  have HR := Aside0.mk hr0
  clear h hr0
  go_enter Try.func143, Try.ntmps143
  go_wp2_with (go_at_call 88; refine (wire_Get.calls k _ _ l0 n u false _ HR.out hc0 HG.out).mono ?_; rintro e w' ⟨rfl, ⟨nd, rfl⟩⟩)
  go_ret3
  exact ⟨rfl, pw_below_drewN (Below.refl _ _) _⟩

set_option maxHeartbeats 4000000 in
set_option maxRecDepth 100000 in
theorem read_neg (k : Nat) (A0 : Option Addr) (c0 : Nat) (l0 : List Int) (a1 : Int) (n u : Nat) (w : World) (hr0 : Kd.C (Kd.int .u8) w A0 l0.length l0) (hc0 : l0.length ≤ c0)
    (h : wire_Get.f k l0 = some ((n : Int), (u : Int), true)) (hu : u ≤ l0.length) (hl : l0.length ≤ 4611686018427387904) (ha : a1 < 0) :
    Calls Try.prog 143 #[.slice A0 l0.length c0, .int .i64 a1] w fun e w' => e = .returned (.tuple #[.string ⟨#[]⟩, .int .i64 0, .bool false]) ∧ Below w.heap.size w w' := by
  obtain ⟨i0, hi0, _, hsz0, _⟩ := info_parts info5
  obtain ⟨A', hcut, hA, hC⟩ := print_drop_of (P := Try.prog) (Value.int .u8) 0 40 5 .i64 Try.underlying40 hi0 hsz0 A0 c0 l0 (u : Int) (by omega) (by omega) hc0
  simp only [Int.toNat_natCast, List.length_drop] at hcut
  clear hA hC hi0 hsz0
  have HG := Aside0.mk h
  have HR := Aside0.mk hr0
  clear h hr0
  have c1 : decide (0 ≤ a1) = false := decide_eq_false (by omega)
  go_enter Try.func143, Try.ntmps143
  go_wp2_with (go_at_call 88; refine (wire_Get.calls k _ _ l0 n u true _ HR.out hc0 HG.out).mono ?_; rintro e w' ⟨rfl, ⟨nd, rfl⟩⟩)
  go_ret3
  exact ⟨rfl, pw_below_drewN (Below.refl _ _) _⟩

set_option maxHeartbeats 4000000 in
set_option maxRecDepth 100000 in
theorem read_far (k : Nat) (A0 : Option Addr) (c0 : Nat) (l0 : List Int) (m : Nat) (n u : Nat) (w : World) (hr0 : Kd.C (Kd.int .u8) w A0 l0.length l0) (hc0 : l0.length ≤ c0)
    (h : wire_Get.f k l0 = some ((n : Int), (u : Int), true)) (hu : u ≤ l0.length) (hl : l0.length ≤ 4611686018427387904) (hm : m < n ∨ l0.length - u < n) :
    Calls Try.prog 143 #[.slice A0 l0.length c0, .int .i64 m] w fun e w' => e = .returned (.tuple #[.string ⟨#[]⟩, .int .i64 0, .bool false]) ∧ Below w.heap.size w w' := by
  obtain ⟨i0, hi0, _, hsz0, _⟩ := info_parts info5
  obtain ⟨A', hcut, hA, hC⟩ := print_drop_of (P := Try.prog) (Value.int .u8) 0 40 5 .i64 Try.underlying40 hi0 hsz0 A0 c0 l0 (u : Int) (by omega) (by omega) hc0
  simp only [Int.toNat_natCast, List.length_drop] at hcut
  clear hA hC hi0 hsz0
  have HG := Aside0.mk h
  have HR := Aside0.mk hr0
  clear h hr0
  obtain ⟨z, hz⟩ : ∃ z, l0.length - u = z := ⟨_, rfl⟩
  have hzl : z ≤ 4611686018427387904 := by omega
  rw [hz] at hcut hm
  have w1 : IntKind.u64.wrap (z : Int) = (z : Int) := by simp [IntKind.wrap, IntKind.bits, IntKind.signed]; omega
  by_cases hc : z < m
  · have c1 : decide (z < m) = true := decide_eq_true hc
    have c2 : decide (n ≤ z) = false := decide_eq_false (by omega)
    clear hz hm
    go_enter Try.func143, Try.ntmps143
    go_wp2_with (go_at_call 88; refine (wire_Get.calls k _ _ l0 n u true _ HR.out hc0 HG.out).mono ?_; rintro e w' ⟨rfl, ⟨nd, rfl⟩⟩)
    go_ret3
    exact ⟨rfl, pw_below_drewN (Below.refl _ _) _⟩
  · have c1 : decide (z < m) = false := decide_eq_false hc
    have c2 : decide (n ≤ m) = false := decide_eq_false (by omega)
    have w2 : IntKind.u64.wrap (m : Int) = (m : Int) := by simp [IntKind.wrap, IntKind.bits, IntKind.signed]; omega
    clear hz hm
    go_enter Try.func143, Try.ntmps143
    go_wp2_with (go_at_call 88; refine (wire_Get.calls k _ _ l0 n u true _ HR.out hc0 HG.out).mono ?_; rintro e w' ⟨rfl, ⟨nd, rfl⟩⟩)
    go_ret3
    exact ⟨rfl, pw_below_drewN (Below.refl _ _) _⟩

set_option maxHeartbeats 4000000 in
set_option maxRecDepth 100000 in
theorem read_yes (k : Nat) (A0 : Option Addr) (c0 : Nat) (l0 : List Int) (m : Nat) (n u : Nat) (w : World) (hr0 : Kd.C (Kd.int .u8) w A0 l0.length l0) (hc0 : l0.length ≤ c0)
    (h : wire_Get.f k l0 = some ((n : Int), (u : Int), true)) (hu : u ≤ l0.length) (hl : l0.length ≤ 4611686018427387904) (hm : n ≤ m) (hn : n ≤ l0.length - u) :
    Calls Try.prog 143 #[.slice A0 l0.length c0, .int .i64 m] w fun e w' => e = .returned (.tuple #[.string (strOfNums ((l0.drop u).take n)), .int .i64 (u + n), .bool true]) ∧ Below w.heap.size w w' := by
  obtain ⟨i0, hi0, _, hsz0, _⟩ := info_parts info5
  obtain ⟨A', hcut, hA, hC⟩ := print_drop_of (P := Try.prog) (Value.int .u8) 0 40 5 .i64 Try.underlying40 hi0 hsz0 A0 c0 l0 (u : Int) (by omega) (by omega) hc0
  simp only [Int.toNat_natCast] at hcut hA hC
  have hr1 := hA w (Kd.reads_of_C hr0)
  obtain ⟨hcut2, hA2, hC2⟩ := print_take_of (P := Try.prog) (Value.int .u8) 0 40 5 .i64 Try.underlying40 hi0 hsz0 A' (c0 - u) (l0.drop u) (n : Int) (by omega) (by rw [List.length_drop]; omega) hC
  have hr2 := hA2 w hr1
  simp only [Int.toNat_natCast] at hcut2 hr2 hC2
  have hln : ((l0.drop u).take n).length = n := by rw [List.length_take, List.length_drop]; omega
  rw [hln] at hcut2 hr2
  simp only [List.length_drop] at hcut hcut2
  have hcv : ∀ q, (convert 40 9 (.slice A' n (c0 - u))).run Try.prog (w.drewN q) = .ok (.string (strOfNums ((l0.drop u).take n))) (w.drewN q) := fun q =>
    Kd.C_string (P := Try.prog) Try.underlying40 Try.underlying5 Try.underlying9 (Kd.C_drewN (Kd.C_of_reads (h1 := fun _ => rfl) hr2) q)
  clear hA hC hi0 hsz0 hA2 hC2 hr1 hr2 hln
  have HG := Aside0.mk h
  have HR := Aside0.mk hr0
  clear h hr0
  obtain ⟨z, hz⟩ : ∃ z, l0.length - u = z := ⟨_, rfl⟩
  have hzl : z ≤ 4611686018427387904 := by omega
  have hzu : (u : Int) + n ≤ 4611686018427387904 := by omega
  rw [hz] at hcut hcut2 hn
  have w1 : IntKind.u64.wrap (z : Int) = (z : Int) := by simp [IntKind.wrap, IntKind.bits, IntKind.signed]; omega
  have w3 : IntKind.i64.wrap (n : Int) = (n : Int) := IntWalk.i64_in _ (by omega)
  have w4 : wrap64 (n : Int) = (n : Int) := by unfold wrap64; omega
  by_cases hc : z < m
  · have c1 : decide (z < m) = true := decide_eq_true hc
    have c2 : decide (n ≤ z) = true := decide_eq_true (by omega)
    clear hz
    go_enter Try.func143, Try.ntmps143
    go_wp2_with (go_at_call 88; refine (wire_Get.calls k _ _ l0 n u true _ HR.out hc0 HG.out).mono ?_; rintro e w' ⟨rfl, ⟨nd, rfl⟩⟩)
    go_ret3
    exact ⟨rfl, pw_below_drewN (Below.refl _ _) _⟩
  · have c1 : decide (z < m) = false := decide_eq_false hc
    have c2 : decide (n ≤ m) = true := decide_eq_true (by omega)
    have w2 : IntKind.u64.wrap (m : Int) = (m : Int) := by simp [IntKind.wrap, IntKind.bits, IntKind.signed]; omega
    clear hz
    go_enter Try.func143, Try.ntmps143
    go_wp2_with (go_at_call 88; refine (wire_Get.calls k _ _ l0 n u true _ HR.out hc0 HG.out).mono ?_; rintro e w' ⟨rfl, ⟨nd, rfl⟩⟩)
    go_ret3
    exact ⟨rfl, pw_below_drewN (Below.refl _ _) _⟩

theorem wire_Read.calls (k : Nat) (A0 : Option Addr) (c0 : Nat) (l0 : List Int) (a1 : Int) (r1 : ByteArray) (r2 : Int) (r3 : Bool) (w : World) (hr0 : Kd.C (Kd.int .u8) w A0 l0.length l0) (hc0 : l0.length ≤ c0) (h : wire_Read.f k l0 a1 = some (r1, r2, r3)) :
    Calls Try.prog 143 #[.slice A0 l0.length c0, .int .i64 a1] w fun e w' => e = .returned (.tuple #[.string r1, .int .i64 r2, .bool r3]) ∧ Below w.heap.size w w' := by
  unfold wire_Read.f at h
  obtain ⟨⟨n, u, is⟩, hg, h⟩ := Option.bind_eq_some_iff.mp h
  by_cases hc : 0 ≤ u ∧ u ≤ l0.length ∧ 0 ≤ n ∧ l0.length ≤ 4611686018427387904
  · rw [if_pos hc] at h
    obtain ⟨h1, h2, h3, h4⟩ := hc
    obtain ⟨n, rfl⟩ := Int.eq_ofNat_of_zero_le h3
    obtain ⟨u, rfl⟩ := Int.eq_ofNat_of_zero_le h1
    simp only at h hg
    cases is with
    | false =>
      rw [if_neg (by simp)] at h
      cases h
      exact read_no k A0 c0 l0 a1 n u w hr0 hc0 hg (by omega) h4
    | true =>
      by_cases ha : a1 < 0
      · rw [if_neg (by omega)] at h
        cases h
        exact read_neg k A0 c0 l0 a1 n u w hr0 hc0 hg (by omega) h4 ha
      · obtain ⟨m, rfl⟩ := Int.eq_ofNat_of_zero_le (show 0 ≤ a1 by omega)
        by_cases hn : n ≤ m ∧ n ≤ l0.length - u
        · rw [if_pos ⟨rfl, by omega, by omega, by omega⟩] at h
          cases h
          exact read_yes k A0 c0 l0 m n u w hr0 hc0 hg (by omega) h4 hn.1 hn.2
        · rw [if_neg (by omega)] at h
          cases h
          exact read_far k A0 c0 l0 m n u w hr0 hc0 hg (by omega) h4 (by omega)
  · rw [if_neg hc] at h
    cases h

end Go.Proofs.Ytchaegfdcdlfaaa.X

namespace Go.Proofs.Ytchaegfdcdlfaaa.Y
set_option linter.unusedVariables false
set_option linter.unusedSimpArgs false
open Go.Proofs.Ytchaegfdcdlfaaa.X Go.RowKit Go.Proofs.YtchaegfdcdlfaaaW.PrintWords Go.Proofs.YtchaegfdcdlfaaaW.PrintLast Go.Proofs.YtchaegfdcdlfaaaW.PrintMore

theorem wrap64_small (n : Int) (h0 : -9223372036854775808 ≤ n) (h1 : n ≤ 9223372036854775807) : wrap64 n = n := by unfold wrap64; omega
theorem wrap_u64 (n : Int) : IntKind.u64.wrap n = n % 18446744073709551616 := by simp [IntKind.wrap, IntKind.bits, IntKind.signed]
theorem wraps_u64 (n : Int) (h₀ : 0 ≤ n) (h₁ : n < 2 ^ 64) : IntKind.u64.wrap n = n := by rw [wrap_u64]; omega

theorem or128 (x : Nat) (h : x < 256) : Go.bits .or .u8 (x : Int) 128 = ((x % 128 + 128 : Nat) : Int) := by
  have : ∀ x : Fin 256, Go.bits .or .u8 (x.val : Int) 128 = ((x.val % 128 + 128 : Nat) : Int) := by decide +kernel
  exact this ⟨x, h⟩
theorem andNot128 (x : Nat) (h : x < 256) : Go.bits .andNot .u8 (x : Int) 128 = ((x % 128 : Nat) : Int) := by
  have : ∀ x : Fin 256, Go.bits .andNot .u8 (x.val : Int) 128 = ((x.val % 128 : Nat) : Int) := by decide +kernel
  exact this ⟨x, h⟩

theorem groups_l0 (d : Nat) : ∀ (m k : Nat) (x : Int), m < 128 ^ d → d < k → 0 ≤ x → x + d ≤ 1000000 →
    wire_groups.l0 k (m : Int) x = some (x + (if m = 0 then 0 else (more m).length : Nat)) := by
  induction d with
  | zero =>
    intro m k x hm hk h0 h1
    obtain ⟨k, rfl⟩ : ∃ q, k = q + 1 := ⟨k - 1, by omega⟩
    obtain rfl : m = 0 := by simpa using hm
    simp only [wire_groups.l0]
    rw [if_neg (by omega)]; simp
  | succ d ih =>
    intro m k x hm hk h0 h1
    obtain ⟨k, rfl⟩ : ∃ q, k = q + 1 := ⟨k - 1, by omega⟩
    simp only [wire_groups.l0]
    by_cases hz : m = 0
    · subst hz
      rw [if_neg (by omega)]; simp
    · rw [Nat.pow_succ] at hm
      rw [if_pos (by omega), show (m : Int) / 128 = ((m / 128 : Nat) : Int) by omega, wrap64_small _ (by omega) (by omega), ih (m / 128) k (x + 1) (by omega) (by omega) (by omega) (by omega), if_neg hz]
      congr 1
      by_cases hb : m < 128
      · rw [if_pos (by omega), more_small hb]; simp
      · rw [if_neg (by omega), more_big hb]; simp; omega

theorem put_more_length (n : Nat) : (put n).length = (more n).length := by
  unfold put
  by_cases h : n < 128
  · rw [if_pos h, more_small h]; rfl
  · rw [if_neg h, more_big h]; simp
theorem put_more (n : Nat) : ∃ (q : List Int) (d : Nat), d < 128 ∧ more n = q ++ [(d : Int) + 128] ∧ put n = q ++ [(d : Int)] := by
  unfold put
  by_cases h : n < 128
  · rw [if_pos h, more_small h]; exact ⟨[], n, h, rfl, rfl⟩
  · rw [if_neg h, more_big h]; exact ⟨_, n % 128, by omega, rfl, rfl⟩

theorem groups_eq (n : Nat) (hn : n < 18446744073709551616) (k : Nat) (hk : 12 < k) : wire_groups.f k (n : Int) = some ((put n).length : Int) := by
  unfold wire_groups.f
  have e : (128 : Nat) ^ 10 = 1180591620717411303424 := by decide
  rw [show (n : Int) / 128 = ((n / 128 : Nat) : Int) by omega, groups_l0 10 (n / 128) k 1 (by omega) (by omega) (by omega) (by omega)]
  congr 1
  rw [put_more_length]
  by_cases h : n < 128
  · rw [if_pos (by omega), more_small h]; simp
  · rw [if_neg (by omega), more_big h]; simp; omega

theorem more_get (n : Nat) : ∀ i, i < (more n).length → (more n)[(more n).length - 1 - i]? = some (((n / 128 ^ i % 128 + 128 : Nat)) : Int) := by
  induction n using Nat.strongRecOn with
  | _ n ih =>
    intro i hi
    by_cases h : n < 128
    · rw [more_small h] at hi ⊢
      obtain rfl : i = 0 := by simpa using hi
      simp; omega
    · rw [more_big h] at hi ⊢
      simp only [List.length_append, List.length_cons, List.length_nil] at hi ⊢
      cases i with
      | zero =>
        rw [List.getElem?_append_right (by omega)]
        simp
      | succ i =>
        rw [List.getElem?_append_left (by omega), show (more (n / 128)).length + 1 - 1 - (i + 1) = (more (n / 128)).length - 1 - i by omega, ih (n / 128) (by omega) i (by omega)]
        rw [Nat.div_div_eq_div_mul, Nat.pow_succ, Nat.mul_comm]

theorem put_l0 (n : Nat) (hn : n < 18446744073709551616) (d : Nat) : ∀ (k i : Nat), i ≤ (put n).length → (put n).length - i = d → d < k →
    wire_Put.l0 k (n : Int) ((put n).length : Int) (List.replicate ((put n).length - i) 0 ++ (more n).drop ((put n).length - i)) ((put n).length : Int) (i : Int) = some (put n) := by
  have hlen := put_length n hn
  have hpos := put_length_pos n
  induction d with
  | zero =>
    intro k i h0 hd hk
    obtain ⟨k, rfl⟩ : ∃ m, k = m + 1 := ⟨k - 1, by omega⟩
    obtain rfl : i = (put n).length := by omega
    obtain ⟨q, e, he, hm, hp⟩ := put_more n
    simp only [wire_Put.l0]
    rw [if_neg (by omega), wrap64_small _ (by omega) (by omega), if_pos (by omega), Nat.sub_self]
    simp only [List.replicate_zero, List.nil_append, List.drop_zero]
    have hl : (put n).length = q.length + 1 := by rw [hp]; simp
    rw [if_pos (by rw [← put_more_length]; omega), show (((put n).length : Int) - 1).toNat = q.length by omega]
    have hrd : rd (more n) (((put n).length : Int) - 1) = ((e + 128 : Nat) : Int) := by
      unfold rd
      rw [show (((put n).length : Int) - 1).toNat = q.length by omega, hm]
      simp
    rw [hrd, andNot128 _ (by omega), hm, hp, List.set_append_right _ _ (by omega)]
    simp
    omega
  | succ d ih =>
    intro k i h0 hd hk
    obtain ⟨k, rfl⟩ : ∃ m, k = m + 1 := ⟨k - 1, by omega⟩
    simp only [wire_Put.l0]
    obtain ⟨j, hj⟩ : ∃ j, (put n).length - i = j + 1 := ⟨(put n).length - i - 1, by omega⟩
    have hml : (more n).length = (put n).length := (put_more_length n).symm
    rw [if_pos (by omega), wrap64_small (7 * (i : Int)) (by omega) (by omega), if_pos (by omega), wrap64_small (((put n).length : Int) - 1) (by omega) (by omega), wrap64_small (((put n).length : Int) - 1 - i) (by omega) (by omega), if_pos (by omega),
      if_pos (by simp only [List.length_append, List.length_replicate, List.length_drop]; omega), wrap64_small ((i : Int) + 1) (by omega) (by omega)]
    have hs : shr .u64 (n : Int) (7 * (i : Int)) = ((n / 128 ^ i : Nat) : Int) := by
      unfold shr
      rw [show min (7 * (i : Int)).toNat IntKind.u64.bits = 7 * i by show min (7 * (i : Int)).toNat 64 = _; omega, show (2 : Int) ^ (7 * i) = ((128 ^ i : Nat) : Int) by rw [Int.pow_mul]; norm_cast]
      norm_cast
    have hv : (more n)[j]? = some (((n / 128 ^ i % 128 + 128 : Nat)) : Int) := by
      have := more_get n i (by omega)
      rwa [show (more n).length - 1 - i = j by omega] at this
    rw [hs, show ((n / 128 ^ i : Nat) : Int) % 256 = ((n / 128 ^ i % 256 : Nat) : Int) by omega, or128 _ (by omega), show n / 128 ^ i % 256 % 128 = n / 128 ^ i % 128 by omega]
    have e := ih k (i + 1) (by omega) (by omega) (by omega)
    rw [show ((i + 1 : Nat) : Int) = (i : Int) + 1 by simp] at e
    rw [← e]
    congr 1
    rw [hj, show (put n).length - (i + 1) = j by omega, show (((put n).length : Int) - 1 - i).toNat = j by omega, List.replicate_succ', List.append_assoc, List.set_append_right _ _ (by simp)]
    congr 1
    rw [List.drop_eq_getElem_cons (show j < (more n).length by omega)]
    rw [List.getElem?_eq_getElem (show j < (more n).length by omega)] at hv
    have hv' := Option.some.inj hv
    simp [hv']

theorem Put_eq (n : Nat) (hn : n < 18446744073709551616) (k : Nat) (hk : 12 < k) : wire_Put.f k (n : Int) = some (put n) := by
  unfold wire_Put.f
  have hlen := put_length n hn
  rw [groups_eq n hn k hk]
  simp only [Option.bind_some]
  rw [if_pos (by omega), Int.toNat_natCast, if_pos (by omega)]
  have e := put_l0 n hn (put n).length k 0 (by omega) (by omega) (by omega)
  rw [Nat.sub_zero, put_more_length, List.drop_length, List.append_nil, ← put_more_length] at e
  exact e

def Bytes (l : List Int) : Prop := ∀ x ∈ l, 0 ≤ x ∧ x ≤ 255

theorem step_or (n : Nat) (c : Int) (hn : n * 128 < 18446744073709551616) (h0 : 0 ≤ c) (h1 : c ≤ 255) :
    Go.bits .or .u64 (IntKind.u64.wrap ((n : Int) * 128)) (IntKind.u64.wrap (Go.bits .andNot .u8 c 128)) = ((n * 128 + (c % 128).toNat : Nat) : Int) := by
  obtain ⟨c, rfl⟩ := Int.eq_ofNat_of_zero_le h0
  rw [andNot128 c (by omega), wrap_u64, wrap_u64, show (n : Int) * 128 % 18446744073709551616 = (n : Int) * 128 by omega, show ((c % 128 : Nat) : Int) % 18446744073709551616 = ((c % 128 : Nat) : Int) by omega]
  rw [bits_join .u64 64 (by decide) wraps_u64 7 _ _ (by omega) (by omega) (by omega) (by omega) (by omega) (by omega)]
  omega

theorem get_l0 (l s : List Int) : ∀ (q : List Int) (k : Nat), l = q ++ s → Marks q → q.length ≤ 10 → V q < 18446744073709551616 → Bytes s → l.length ≤ 4611686018427387904 → 2 * s.length + 2 < k →
    ∃ r, wire_Get.l0 k (V q : Int) 0 l (l.length : Int) (q.length : Int) = some r ∧ IsGet l r := by
  induction s with
  | nil =>
    intro q k hl hq h10 hv hb hll hk
    obtain ⟨k, rfl⟩ : ∃ m, k = m + 1 := ⟨k - 1, by omega⟩
    rw [List.append_nil] at hl
    subst hl
    simp only [wire_Get.l0]
    rw [if_neg (by omega)]
    refine ⟨_, rfl, .inr ⟨fun m _ hp => put_not_marks m _ (fun x hx => (hq.1 x hx).1) hp, rfl⟩⟩
  | cons c s ih =>
    intro q k hl hq h10 hv hb hll hk
    obtain ⟨k, rfl⟩ : ∃ m, k = m + 1 + 1 := ⟨k - 2, by simp at hk; omega⟩
    have hlen : l.length = q.length + (s.length + 1) := by rw [hl]; simp
    have hc := hb c (by simp)
    have hrd : rd l (q.length : Int) = c := by
      unfold rd
      rw [hl]
      simp
    have hlt := V_lt q
    simp only [wire_Get.l0]
    rw [if_pos (by omega), if_pos (by omega), if_pos (by omega), hrd]
    -- what is left of a round that goes on
    have goes : V q * 128 < 18446744073709551616 → (q = [] → c ≠ 128) → ∃ r, wire_Get.j1 (k + 1) (V q : Int) 0 (q.length : Int) c l (l.length : Int) (q.length : Int) false = some r ∧ IsGet l r := by
      intro hov hne
      simp only [wire_Get.j1]
      rw [if_neg (by simp)]
      by_cases hcc : c < 128
      · have hvv : V (q ++ [c]) < 18446744073709551616 := by rw [V_snoc]; omega
        rw [if_pos hcc, wrap64_small _ (by omega) (by omega), if_neg (by omega), step_or _ _ hov hc.1 hc.2, ← V_snoc]
        have hp := put_of q c hq hc.1 hcc
        refine ⟨_, rfl, .inl ⟨V (q ++ [c]), hvv, ?_, ?_⟩⟩
        · rw [hp, hl]; exact ⟨s, by simp⟩
        · rw [hp]; simp
      · have h9 : q.length ≤ 9 := by
          rcases Nat.lt_or_ge q.length 10 with h | h
          · omega
          · exfalso
            have hg := marks_V_ge q hq (by intro e; rw [e] at h; simp at h)
            have : 128 ^ 9 ≤ 128 ^ (q.length - 1) := Nat.pow_le_pow_right (by decide) (by omega)
            have e9 : 128 ^ 9 = 9223372036854775808 := by decide
            omega
        rw [if_neg hcc, wrap64_small _ (by omega) (by omega), step_or _ _ hov hc.1 hc.2, ← V_snoc]
        have e := ih (q ++ [c]) k (by rw [hl]; simp) (hq.snoc (by omega) hc.2 hne) (by simp; omega) (by rw [V_snoc]; omega) (fun x hx => hb x (by simp [hx])) hll (by simp at hk; omega)
        rw [show (((q ++ [c]).length : Nat) : Int) = (q.length : Int) + 1 by simp] at e
        exact e
    have stops : ∀ b : Bool, b = true → (∀ m, m < 18446744073709551616 → ¬ put m <+: l) → ∃ r, wire_Get.j1 (k + 1) (V q : Int) 0 (q.length : Int) c l (l.length : Int) (q.length : Int) b = some r ∧ IsGet l r := by
      intro b hb' hno
      subst hb'
      simp only [wire_Get.j1, if_true]
      exact ⟨_, rfl, .inr ⟨hno, rfl⟩⟩
    have exact_ : ∀ m, put m <+: l → c < 128 → put m = q ++ [c] := fun m hp hcc => put_exact m q c s (fun x hx => (hq.1 x hx).1) hcc (by rw [← hl]; exact hp)
    have longer : ∀ m, put m <+: l → q.length < (put m).length := fun m hp => by
      rcases Nat.lt_or_ge q.length (put m).length with h | h
      · exact h
      · exact absurd (List.prefix_of_prefix_length_le hp ⟨c :: s, hl.symm⟩ h) (put_not_marks m q (fun x hx => (hq.1 x hx).1))
    by_cases e10 : (q.length : Int) = 10
    · rw [if_pos e10]
      refine stops _ (by simpa using e10) fun m hm hp => ?_
      have := longer m hp
      have := put_length m hm
      omega
    · rw [if_neg e10]
      by_cases e9 : (q.length : Int) = 9
      · rw [if_pos e9]
        have hd : (V q : Int) / 144115188075855872 = ((V q / 144115188075855872 : Nat) : Int) := by omega
        by_cases eo : (V q : Int) / 144115188075855872 > 0
        · rw [if_pos eo]
          refine stops _ (by simpa using eo) fun m hm hp => ?_
          have h1 := longer m hp
          have h2 := put_length m hm
          obtain ⟨q', d, e, hq', h0, h3⟩ := put_form m
          have hl1 : (put m).length = q.length + 1 := by omega
          have hpre : put m = q ++ [c] := by
            have := List.prefix_of_prefix_length_le hp (show q ++ [c] <+: l by rw [hl]; exact ⟨s, by simp⟩) (by simp; omega)
            exact this.eq_of_length (by simp; omega)
          have := V_put m
          rw [hpre, V_snoc] at this
          omega
        · rw [if_neg eo, if_neg (by omega)]
          exact goes (by omega) (fun e => by rw [e] at e9; simp at e9)
      · rw [if_neg e9]
        by_cases e0 : (q.length : Int) = 0
        · rw [if_pos e0]
          have hq0 : q = [] := List.eq_nil_of_length_eq_zero (by omega)
          by_cases ec : c = 128
          · refine stops _ (by simpa using ec) fun m hm hp => ?_
            obtain ⟨t, ht⟩ := hp
            have h5 := put_head m
            cases hpm : put m with
            | nil => exact put_ne m hpm
            | cons a r =>
              rw [hpm] at ht h5
              rw [hl, hq0] at ht
              simp at ht h5
              omega
          · have := goes (by rw [hq0, V_nil]; omega) (fun _ => ec)
            rwa [show (c == 128) = false by simpa using ec]
        · rw [if_neg e0]
          refine goes ?_ (fun e => by rw [e] at e0; simp at e0)
          have h128 : 128 ^ q.length ≤ 128 ^ 8 := Nat.pow_le_pow_right (by decide) (by omega)
          have e8 : 128 ^ 8 = 72057594037927936 := by decide
          omega

theorem Get_is (l : List Int) (hb : Bytes l) (hl : l.length ≤ 4611686018427387904) (k : Nat) (hk : 2 * l.length + 2 < k) : ∃ r, wire_Get.f k l = some r ∧ IsGet l r := by
  unfold wire_Get.f
  exact get_l0 l l [] k rfl Marks.nil (by simp) (by rw [V_nil]; omega) hb hl hk
theorem Get_eq {l : List Int} {r : Int × Int × Bool} (h : IsGet l r) (hb : Bytes l) (hl : l.length ≤ 4611686018427387904) (k : Nat) (hk : 2 * l.length + 2 < k) : wire_Get.f k l = some r := by
  obtain ⟨r', hr, hi⟩ := Get_is l hb hl k hk
  rw [hr, h.unique hi]
theorem Text_eq (s : ByteArray) (hs : s.size ≤ 140737488351232) (k : Nat) (hk : 12 < k) : wire_Text.f k s = some (put s.size ++ bytesOf s) := by
  unfold wire_Text.f
  have h10 := put_length s.size (by omega)
  rw [wrap_u64, show (s.size : Int) % 18446744073709551616 = (s.size : Int) by omega, Put_eq s.size (by omega) k hk]
  simp only [Option.bind_some]
  rw [if_pos (by omega)]

end Go.Proofs.Ytchaegfdcdlfaaa.Y

namespace Go.Proofs.Ytchaegfdcdlfaaa.X
open Go.RowKit Go.Proofs.YtchaegfdcdlfaaaW.PrintWords Go.Proofs.YtchaegfdcdlfaaaW.PrintLast Go.Proofs.YtchaegfdcdlfaaaW.PrintMore
attribute [local go_sem] max2_int min2_int max_two min_two max_three min_three max_four min_four   -- for this text's walks alone
set_option linter.unusedVariables false
set_option linter.unusedSimpArgs false

theorem eqA96 (d : Nat) (w : World) (x0 y0 : Int) (x1 y1 : Int) :
    (Op.equalIn (d + 2) 96 (.agg #[.int .i64 x0, .int .i64 x1]) (.agg #[.int .i64 y0, .int .i64 y1])).run Try.prog w = .ok (x0 == y0 && (x1 == y1)) w := by
  refine eqA_of Try.underlying96 (by kernel_rfl) ?_
  refine eqf_cons (by rfl) (by go_simp; rfl) (by go_simp; rfl) (by go_simp) ?_
  exact eqf_last (by rfl) (by go_simp; rfl) (by go_simp; rfl) (by go_simp)
end Go.Proofs.Ytchaegfdcdlfaaa.X

namespace Go.Proofs.Ytchaegfdcdlfaaa.X
open Go.RowKit Go.Proofs.YtchaegfdcdlfaaaW.PrintWords Go.Proofs.YtchaegfdcdlfaaaW.PrintLast Go.Proofs.YtchaegfdcdlfaaaW.PrintMore
attribute [local go_sem] max2_int min2_int max_two min_two max_three min_three max_four min_four   -- for this text's walks alone
set_option linter.unusedVariables false
set_option linter.unusedSimpArgs false

attribute [local go_sem high] eqA96
def stamp_May.f (a0_0 : Int) (a0_1 : Int) : Option (Bool) := if (a0_0 == 0 && (a0_1 == 0)) = true then (some true) else (if a0_0 > 0 then (if a0_0 ≤ 1099511627776 then (if a0_1 ≥ 0 then (some (decide (a0_1 < 8))) else (some false)) else (some false)) else (some false))
set_option maxHeartbeats 8000000 in
set_option maxRecDepth 100000 in
theorem stamp_May.calls (a0_0 : Int) (a0_1 : Int) (r : Bool) (w : World) (h : stamp_May.f a0_0 a0_1 = some r) :
    Calls Try.prog 149 #[.agg #[.int .i64 a0_0, .int .i64 a0_1]] w fun e w' => e = .returned (.bool r) ∧ Below w.heap.size w w' := by
  have hu96 := Try.underlying96
  have HB := Aside0.mk (Below.refl w.heap.size w)
  have H : (if (a0_0 == 0 && (a0_1 == 0)) = true then (some true) else (if a0_0 > 0 then (if a0_0 ≤ 1099511627776 then (if a0_1 ≥ 0 then (some (decide (a0_1 < 8))) else (some false)) else (some false)) else (some false))) = some r := h
  clear h
  by_cases c2 : (a0_0 == 0 && (a0_1 == 0)) = true
  · rw [if_pos c2] at H
    have c2b0 : (a0_0 == 0 && (a0_1 == 0)) = true := c2
    (try (have c2b1 : decide (a0_0 = 0 && (a0_1 == 0)) = true := by simpa using c2))
    (try (have c2b2 : (a0_0 == 0 && (a0_1 == 0)) = true := by simpa using c2))
    clear c2
    obtain rfl := Option.some.inj H
    go_enter Try.func149, Try.ntmps149
    go_wp2_with (first | ((with_reducible refine gate_dst (N := 1) rfl ?_); refine box_event ?hg (N := 1) ?hd (cs := #[.int .i64 a0_0, .int .i64 a0_1]) (t := 96) ?hr ?_; (case hd => rfl); (case hg => rfl); (case hr => first | (go_simp; done) | (go_simp; rfl)); intro gb610 hg w3 hbox hb; have n0_ := Aside0.mk (below_step (by repeat (first | (with_reducible first | exact HB.out | apply below_alloc | apply pw_below_drewN | apply below_drew1) | exact HB.out)) hb); have n1_ := Aside0.mk (hbox); have n2_ := Aside0.mk ((by rw [hg]; exact (below_size (by repeat (first | (with_reducible first | exact HB.out | apply below_alloc | apply pw_below_drewN | apply below_drew1) | exact HB.out))) : w.heap.size ≤ gb610)); have n3_ := Aside0.mk ((by rw [hg]; exact (below_size (by repeat (first | (with_reducible first | exact HB.out | apply below_alloc | apply pw_below_drewN | apply below_drew1) | exact HB.out))) : w.heap.size ≤ gb610)); clear HB; have HB := n0_; have BK610 := n1_; have GW610 := n2_; have GE610 := n3_; clear n0_ n1_ n2_ n3_; clear hb hbox hg; have hcz4_0 : w3.cell? ⟨gb610, 0, none⟩ = some (.int .i64 a0_0) := (blk_cell BK610.out 0).trans rfl; have hcz4_1 : w3.cell? ⟨gb610, 1, none⟩ = some (.int .i64 a0_1) := (blk_cell BK610.out 1).trans rfl; have hfz4_0 := blk_frozen BK610.out 0; have hfz4_1 := blk_frozen BK610.out 1))
    go_ret
    exact ⟨by first | rfl | (simp [errW_none, errW_some] <;> rfl) | (simp [*, errW_none, errW_some] <;> rfl), by repeat (first | (with_reducible first | exact HB.out | apply below_alloc | apply pw_below_drewN | apply below_drew1 | refine below_set ?_ GE610.out) | exact HB.out)⟩
  · rw [if_neg c2] at H
    have c2b0 : (a0_0 == 0 && (a0_1 == 0)) = false := by simpa using c2
    (try (have c2b1 : decide (a0_0 = 0 && (a0_1 == 0)) = false := by simpa using c2))
    (try (have c2b2 : (a0_0 == 0 && (a0_1 == 0)) = false := by simpa using c2))
    (try (have c2b3 : ¬ (a0_0 = 0 && (a0_1 == 0)) := by simpa using c2))
    clear c2
    by_cases c5 : a0_0 > 0
    · rw [if_pos c5] at H
      have c5b0 : decide (0 < a0_0) = true := decide_eq_true c5
      clear c5
      by_cases c6 : a0_0 ≤ 1099511627776
      · rw [if_pos c6] at H
        have c6b0 : decide (a0_0 ≤ 1099511627776) = true := decide_eq_true c6
        clear c6
        by_cases c7 : a0_1 ≥ 0
        · rw [if_pos c7] at H
          have c7b0 : decide (0 ≤ a0_1) = true := decide_eq_true c7
          clear c7
          obtain rfl := Option.some.inj H
          go_enter Try.func149, Try.ntmps149
          go_wp2_with (first | ((with_reducible refine gate_dst (N := 1) rfl ?_); refine box_event ?hg (N := 1) ?hd (cs := #[.int .i64 a0_0, .int .i64 a0_1]) (t := 96) ?hr ?_; (case hd => rfl); (case hg => rfl); (case hr => first | (go_simp; done) | (go_simp; rfl)); intro gb610 hg w8 hbox hb; have n0_ := Aside0.mk (below_step (by repeat (first | (with_reducible first | exact HB.out | apply below_alloc | apply pw_below_drewN | apply below_drew1) | exact HB.out)) hb); have n1_ := Aside0.mk (hbox); have n2_ := Aside0.mk ((by rw [hg]; exact (below_size (by repeat (first | (with_reducible first | exact HB.out | apply below_alloc | apply pw_below_drewN | apply below_drew1) | exact HB.out))) : w.heap.size ≤ gb610)); have n3_ := Aside0.mk ((by rw [hg]; exact (below_size (by repeat (first | (with_reducible first | exact HB.out | apply below_alloc | apply pw_below_drewN | apply below_drew1) | exact HB.out))) : w.heap.size ≤ gb610)); clear HB; have HB := n0_; have BK610 := n1_; have GW610 := n2_; have GE610 := n3_; clear n0_ n1_ n2_ n3_; clear hb hbox hg; have hcz9_0 : w8.cell? ⟨gb610, 0, none⟩ = some (.int .i64 a0_0) := (blk_cell BK610.out 0).trans rfl; have hcz9_1 : w8.cell? ⟨gb610, 1, none⟩ = some (.int .i64 a0_1) := (blk_cell BK610.out 1).trans rfl; have hfz9_0 := blk_frozen BK610.out 0; have hfz9_1 := blk_frozen BK610.out 1))
          go_ret
          exact ⟨by first | rfl | (simp [errW_none, errW_some] <;> rfl) | (simp [*, errW_none, errW_some] <;> rfl), by repeat (first | (with_reducible first | exact HB.out | apply below_alloc | apply pw_below_drewN | apply below_drew1 | refine below_set ?_ GE610.out) | exact HB.out)⟩
        · rw [if_neg c7] at H
          have c7b0 : decide (0 ≤ a0_1) = false := decide_eq_false c7
          clear c7
          obtain rfl := Option.some.inj H
          go_enter Try.func149, Try.ntmps149
          go_wp2_with (first | ((with_reducible refine gate_dst (N := 1) rfl ?_); refine box_event ?hg (N := 1) ?hd (cs := #[.int .i64 a0_0, .int .i64 a0_1]) (t := 96) ?hr ?_; (case hd => rfl); (case hg => rfl); (case hr => first | (go_simp; done) | (go_simp; rfl)); intro gb610 hg w10 hbox hb; have n0_ := Aside0.mk (below_step (by repeat (first | (with_reducible first | exact HB.out | apply below_alloc | apply pw_below_drewN | apply below_drew1) | exact HB.out)) hb); have n1_ := Aside0.mk (hbox); have n2_ := Aside0.mk ((by rw [hg]; exact (below_size (by repeat (first | (with_reducible first | exact HB.out | apply below_alloc | apply pw_below_drewN | apply below_drew1) | exact HB.out))) : w.heap.size ≤ gb610)); have n3_ := Aside0.mk ((by rw [hg]; exact (below_size (by repeat (first | (with_reducible first | exact HB.out | apply below_alloc | apply pw_below_drewN | apply below_drew1) | exact HB.out))) : w.heap.size ≤ gb610)); clear HB; have HB := n0_; have BK610 := n1_; have GW610 := n2_; have GE610 := n3_; clear n0_ n1_ n2_ n3_; clear hb hbox hg; have hcz11_0 : w10.cell? ⟨gb610, 0, none⟩ = some (.int .i64 a0_0) := (blk_cell BK610.out 0).trans rfl; have hcz11_1 : w10.cell? ⟨gb610, 1, none⟩ = some (.int .i64 a0_1) := (blk_cell BK610.out 1).trans rfl; have hfz11_0 := blk_frozen BK610.out 0; have hfz11_1 := blk_frozen BK610.out 1))
          go_ret
          exact ⟨by first | rfl | (simp [errW_none, errW_some] <;> rfl) | (simp [*, errW_none, errW_some] <;> rfl), by repeat (first | (with_reducible first | exact HB.out | apply below_alloc | apply pw_below_drewN | apply below_drew1 | refine below_set ?_ GE610.out) | exact HB.out)⟩
      · rw [if_neg c6] at H
        have c6b0 : decide (a0_0 ≤ 1099511627776) = false := decide_eq_false c6
        clear c6
        obtain rfl := Option.some.inj H
        go_enter Try.func149, Try.ntmps149
        go_wp2_with (first | ((with_reducible refine gate_dst (N := 1) rfl ?_); refine box_event ?hg (N := 1) ?hd (cs := #[.int .i64 a0_0, .int .i64 a0_1]) (t := 96) ?hr ?_; (case hd => rfl); (case hg => rfl); (case hr => first | (go_simp; done) | (go_simp; rfl)); intro gb610 hg w12 hbox hb; have n0_ := Aside0.mk (below_step (by repeat (first | (with_reducible first | exact HB.out | apply below_alloc | apply pw_below_drewN | apply below_drew1) | exact HB.out)) hb); have n1_ := Aside0.mk (hbox); have n2_ := Aside0.mk ((by rw [hg]; exact (below_size (by repeat (first | (with_reducible first | exact HB.out | apply below_alloc | apply pw_below_drewN | apply below_drew1) | exact HB.out))) : w.heap.size ≤ gb610)); have n3_ := Aside0.mk ((by rw [hg]; exact (below_size (by repeat (first | (with_reducible first | exact HB.out | apply below_alloc | apply pw_below_drewN | apply below_drew1) | exact HB.out))) : w.heap.size ≤ gb610)); clear HB; have HB := n0_; have BK610 := n1_; have GW610 := n2_; have GE610 := n3_; clear n0_ n1_ n2_ n3_; clear hb hbox hg; have hcz13_0 : w12.cell? ⟨gb610, 0, none⟩ = some (.int .i64 a0_0) := (blk_cell BK610.out 0).trans rfl; have hcz13_1 : w12.cell? ⟨gb610, 1, none⟩ = some (.int .i64 a0_1) := (blk_cell BK610.out 1).trans rfl; have hfz13_0 := blk_frozen BK610.out 0; have hfz13_1 := blk_frozen BK610.out 1))
        go_ret
        exact ⟨by first | rfl | (simp [errW_none, errW_some] <;> rfl) | (simp [*, errW_none, errW_some] <;> rfl), by repeat (first | (with_reducible first | exact HB.out | apply below_alloc | apply pw_below_drewN | apply below_drew1 | refine below_set ?_ GE610.out) | exact HB.out)⟩
    · rw [if_neg c5] at H
      have c5b0 : decide (0 < a0_0) = false := decide_eq_false c5
      clear c5
      obtain rfl := Option.some.inj H
      go_enter Try.func149, Try.ntmps149
      go_wp2_with (first | ((with_reducible refine gate_dst (N := 1) rfl ?_); refine box_event ?hg (N := 1) ?hd (cs := #[.int .i64 a0_0, .int .i64 a0_1]) (t := 96) ?hr ?_; (case hd => rfl); (case hg => rfl); (case hr => first | (go_simp; done) | (go_simp; rfl)); intro gb610 hg w14 hbox hb; have n0_ := Aside0.mk (below_step (by repeat (first | (with_reducible first | exact HB.out | apply below_alloc | apply pw_below_drewN | apply below_drew1) | exact HB.out)) hb); have n1_ := Aside0.mk (hbox); have n2_ := Aside0.mk ((by rw [hg]; exact (below_size (by repeat (first | (with_reducible first | exact HB.out | apply below_alloc | apply pw_below_drewN | apply below_drew1) | exact HB.out))) : w.heap.size ≤ gb610)); have n3_ := Aside0.mk ((by rw [hg]; exact (below_size (by repeat (first | (with_reducible first | exact HB.out | apply below_alloc | apply pw_below_drewN | apply below_drew1) | exact HB.out))) : w.heap.size ≤ gb610)); clear HB; have HB := n0_; have BK610 := n1_; have GW610 := n2_; have GE610 := n3_; clear n0_ n1_ n2_ n3_; clear hb hbox hg; have hcz15_0 : w14.cell? ⟨gb610, 0, none⟩ = some (.int .i64 a0_0) := (blk_cell BK610.out 0).trans rfl; have hcz15_1 : w14.cell? ⟨gb610, 1, none⟩ = some (.int .i64 a0_1) := (blk_cell BK610.out 1).trans rfl; have hfz15_0 := blk_frozen BK610.out 0; have hfz15_1 := blk_frozen BK610.out 1))
      go_ret
      exact ⟨by first | rfl | (simp [errW_none, errW_some] <;> rfl) | (simp [*, errW_none, errW_some] <;> rfl), by repeat (first | (with_reducible first | exact HB.out | apply below_alloc | apply pw_below_drewN | apply below_drew1 | refine below_set ?_ GE610.out) | exact HB.out)⟩

end Go.Proofs.Ytchaegfdcdlfaaa.X

namespace Go.Proofs.Ytchaegfdcdlfaaa.X
open Go.RowKit Go.Proofs.YtchaegfdcdlfaaaW.PrintWords Go.Proofs.YtchaegfdcdlfaaaW.PrintLast Go.Proofs.YtchaegfdcdlfaaaW.PrintMore
attribute [local go_sem] max2_int min2_int max_two min_two max_three min_three max_four min_four   -- for this text's walks alone
set_option linter.unusedVariables false
set_option linter.unusedSimpArgs false

def manifest_blocks.f (a0 : Int) : Option (Int) := if a0 < 24 then (some 0) else (some (wrap64 (Int.tdiv a0 8)))
set_option maxHeartbeats 8000000 in
set_option maxRecDepth 100000 in
theorem manifest_blocks.calls (a0 : Int) (r : Int) (w : World) (h : manifest_blocks.f a0 = some r) :
    Calls Try.prog 173 #[.int .i64 a0] w fun e w' => e = .returned (.int .i64 r) ∧ Drawn0 w w' := by
  have H : (if a0 < 24 then (some 0) else (some (wrap64 (Int.tdiv a0 8)))) = some r := h
  clear h
  by_cases c2 : a0 < 24
  · rw [if_pos c2] at H
    have c2b0 : decide (a0 < 24) = true := decide_eq_true c2
    clear c2
    obtain rfl := Option.some.inj H
    go_enter Try.func173, Try.ntmps173
    go_wp2
    go_ret
    exact ⟨by first | rfl | (simp; done) | (simp [*]; done), by repeat (first | exact Drawn0.refl _ | apply Drawn0.step)⟩
  · rw [if_neg c2] at H
    have c2b0 : decide (a0 < 24) = false := decide_eq_false c2
    clear c2
    obtain rfl := Option.some.inj H
    go_enter Try.func173, Try.ntmps173
    go_wp2
    go_ret
    exact ⟨by first | rfl | (simp; done) | (simp [*]; done), by repeat (first | exact Drawn0.refl _ | apply Drawn0.step)⟩

end Go.Proofs.Ytchaegfdcdlfaaa.X

namespace Go.Proofs.Ytchaegfdcdlfaaa.X
open Go.RowKit Go.Proofs.YtchaegfdcdlfaaaW.PrintWords Go.Proofs.YtchaegfdcdlfaaaW.PrintLast Go.Proofs.YtchaegfdcdlfaaaW.PrintMore
attribute [local go_sem] max2_int min2_int max_two min_two max_three min_three max_four min_four   -- for this text's walks alone
set_option linter.unusedVariables false
set_option linter.unusedSimpArgs false

def cmp_Or_int.l0 : Nat → Int → List Int → Int → Int → Option (Int)
  | 0, _, _, _, _ => none
  | k + 1, x3, x6, x7, x8 => if x8 < x7 then (if 0 ≤ x8 then (if x8 < (x6.length : Int) then (if (rd x6 x8) = x3 then (cmp_Or_int.l0 k x3 x6 x7 (wrap64 (x8 + 1))) else (some (rd x6 x8))) else (none)) else (none)) else (some x3)
def cmp_Or_int.f (k : Nat) (l0 : List Int) : Option (Int) := cmp_Or_int.l0 k 0 l0 (l0.length : Int) 0
theorem cmp_Or_int.mono_l : ∀ k, (∀ y0 y1 y2 y3, LeO (cmp_Or_int.l0 k y0 y1 y2 y3) (cmp_Or_int.l0 (k + 1) y0 y1 y2 y3))
  | 0 => fun _ _ _ _ r h => by simp [cmp_Or_int.l0] at h
  | k + 1 => by
    have ih0 := cmp_Or_int.mono_l k
    · intro y0 y1 y2 y3
      unfold cmp_Or_int.l0
      repeat' first
      | (with_reducible exact ih0 _ _ _ _)
      | (with_reducible exact LeO.refl _)
      | (with_reducible exact LeO.none _)
      | (with_reducible refine LeO.ite ?_ ?_)
      | (with_reducible refine LeO.bind ?_ (fun _ => ?_))
      | exact ih0 _ _ _ _
      | exact LeO.none _
      | refine LeO.ite ?_ ?_
      | refine LeO.bind ?_ (fun _ => ?_)
theorem cmp_Or_int.mono : ∀ a0 k, LeO (cmp_Or_int.f k a0) (cmp_Or_int.f (k + 1) a0) := by
  intro a0 k
  have ih0 := cmp_Or_int.mono_l k
  unfold cmp_Or_int.f
  repeat' first
      | (with_reducible exact ih0 _ _ _ _)
      | (with_reducible exact LeO.refl _)
      | (with_reducible exact LeO.none _)
      | (with_reducible refine LeO.ite ?_ ?_)
      | (with_reducible refine LeO.bind ?_ (fun _ => ?_))
      | exact ih0 _ _ _ _
      | exact LeO.none _
      | refine LeO.ite ?_ ?_
      | refine LeO.bind ?_ (fun _ => ?_)
set_option maxHeartbeats 8000000 in
set_option maxRecDepth 100000 in
theorem cmp_Or_int.calls (k : Nat) (A0 : Option Addr) (c0 : Nat) (l0 : List Int) (r : Int) (w : World) (hr0 : Kd.C (Kd.int .i64) w A0 l0.length l0) (hc0 : l0.length ≤ c0) (h : cmp_Or_int.f k l0 = some r) :
    Calls Try.prog 184 #[.slice A0 l0.length c0] w fun e w' => e = .returned (.int .i64 r) ∧ Drawn0 w w' := by
  have HR0 := Aside0.mk hr0
  have HC0 := Aside0.mk hc0
  clear hr0 hc0
  have H : (cmp_Or_int.l0 k 0 l0 (l0.length : Int) 0) = some r := h
  clear h
  have H' := Aside0.mk H
  clear H
  go_enter Try.func184, Try.ntmps184
  go_wp2
  go_loopg [8] k (fun kq v8 w' => ∃ (x8_1 : Int), v8 = .int .i64 x8_1 ∧ Aside0 (cmp_Or_int.l0 kq 0 l0 (l0.length : Int) x8_1 = some r) ∧ Aside0 (kq ≤ k) ∧ Drawn0 w w')
  case atStart => exact ⟨(0), (by first | rfl | (simp; done) | (simp [*]; done)), H', ⟨Nat.le_refl _⟩, by repeat (first | exact Drawn0.refl _ | apply Drawn0.step)⟩
  case round =>
    clear H'
    try clear c1
    obtain ⟨x8_1, rfl, HA, HK1, ⟨m1, rfl⟩⟩ := hrel
    cases gk with
    | zero => exact absurd HA.out (by simp [cmp_Or_int.l0])
    | succ k1 =>
      have H := HA.out
      clear HA
      simp only [cmp_Or_int.l0] at H
      by_cases c2 : x8_1 < (l0.length : Int)
      · rw [if_pos c2] at H
        have c2b0 : decide (x8_1 < (l0.length : Int)) = true := decide_eq_true c2
        clear c2
        by_cases c3 : 0 ≤ x8_1
        · rw [if_pos c3] at H
          have c3b0 : decide (0 ≤ x8_1) = true := decide_eq_true c3
          clear c3
          by_cases c4 : x8_1 < (l0.length : Int)
          · rw [if_pos c4] at H
            have c4b0 : decide (x8_1 < (l0.length : Int)) = true := decide_eq_true c4
            clear c4
            by_cases c5 : (rd l0 x8_1) = 0
            · rw [if_pos c5] at H
              have c5b0 : ((rd l0 x8_1) == 0) = true := beq_iff_eq.mpr c5
              have c5b1 : ((rd l0 x8_1) != 0) = false := bne_eq_false_iff_eq.mpr c5
              clear c5
              have H' := Aside0.mk H
              clear H
              have p611 : 0 ≤ (x8_1 : Int) := of_decide_eq_true (by first | (with_reducible assumption) | assumption)
              have q611 : x8_1 < (l0.length : Int) := of_decide_eq_true (by first | (with_reducible assumption) | assumption)
              obtain ⟨ad611, e611, hx611_0⟩ := Kd.at_int HR0.out x8_1 p611 q611
              cases e611
              replace p611 := eq_true p611
              replace q611 := eq_true q611
              go_wp2
              go_roundg k1
              case measure => have := HK1.out; omega
              case rel => exact ⟨(wrap64 (x8_1 + 1)), (by first | rfl | (simp; done) | (simp [*]; done)), H', ⟨by have := HK1.out; omega⟩, by repeat (first | exact Drawn0.refl _ | apply Drawn0.step)⟩
            · rw [if_neg c5] at H
              have c5b0 : ((rd l0 x8_1) == 0) = false := beq_eq_false_iff_ne.mpr c5
              have c5b1 : ((rd l0 x8_1) != 0) = true := bne_iff_ne.mpr c5
              obtain rfl := Option.some.inj H
              have p611 : 0 ≤ (x8_1 : Int) := of_decide_eq_true (by first | (with_reducible assumption) | assumption)
              have q611 : x8_1 < (l0.length : Int) := of_decide_eq_true (by first | (with_reducible assumption) | assumption)
              obtain ⟨ad611, e611, hx611_0⟩ := Kd.at_int HR0.out x8_1 p611 q611
              cases e611
              replace p611 := eq_true p611
              replace q611 := eq_true q611
              go_wp2
              go_ret
              exact ⟨by first | rfl | (simp; done) | (simp [*]; done), by repeat (first | exact Drawn0.refl _ | apply Drawn0.step)⟩
          · rw [if_neg c4] at H
            exact absurd H (by simp)
        · rw [if_neg c3] at H
          exact absurd H (by simp)
      · rw [if_neg c2] at H
        have c2b0 : decide (x8_1 < (l0.length : Int)) = false := decide_eq_false c2
        clear c2
        obtain rfl := Option.some.inj H
        go_wp2
        go_ret
        exact ⟨by first | rfl | (simp; done) | (simp [*]; done), by repeat (first | exact Drawn0.refl _ | apply Drawn0.step)⟩

end Go.Proofs.Ytchaegfdcdlfaaa.X

namespace Go.Proofs.Ytchaegfdcdlfaaa.X
open Go.RowKit Go.Proofs.YtchaegfdcdlfaaaW.PrintWords Go.Proofs.YtchaegfdcdlfaaaW.PrintLast Go.Proofs.YtchaegfdcdlfaaaW.PrintMore
attribute [local go_sem] max2_int min2_int max_two min_two max_three min_three max_four min_four   -- for this text's walks alone
set_option linter.unusedVariables false
set_option linter.unusedSimpArgs false

def cmp_isNaN_int.f (a0 : Int) : Option (Bool) := some (a0 != a0)
set_option maxHeartbeats 8000000 in
set_option maxRecDepth 100000 in
theorem cmp_isNaN_int.calls (a0 : Int) (r : Bool) (w : World) (h : cmp_isNaN_int.f a0 = some r) :
    Calls Try.prog 186 #[.int .i64 a0] w fun e w' => e = .returned (.bool r) ∧ Drawn0 w w' := by
  have H : (some (a0 != a0)) = some r := h
  clear h
  obtain rfl := Option.some.inj H
  go_enter Try.func186, Try.ntmps186
  go_wp2
  go_ret
  exact ⟨by first | rfl | (simp; done) | (simp [*]; done), by repeat (first | exact Drawn0.refl _ | apply Drawn0.step)⟩

end Go.Proofs.Ytchaegfdcdlfaaa.X

namespace Go.Proofs.Ytchaegfdcdlfaaa.X
open Go.RowKit Go.Proofs.YtchaegfdcdlfaaaW.PrintWords Go.Proofs.YtchaegfdcdlfaaaW.PrintLast Go.Proofs.YtchaegfdcdlfaaaW.PrintMore
attribute [local go_sem] max2_int min2_int max_two min_two max_three min_three max_four min_four   -- for this text's walks alone
set_option linter.unusedVariables false
set_option linter.unusedSimpArgs false

def cmp_Compare_int.f (a0 : Int) (a1 : Int) : Option (Int) := (cmp_isNaN_int.f a0).bind fun t612 => ((cmp_isNaN_int.f a1).bind fun t613 => (if t612 = true then (if t613 = true then (some 0) else (some (-1))) else (if t613 = true then (some 1) else (if a0 < a1 then (some (-1)) else (if a0 > a1 then (some 1) else (some 0))))))
set_option maxHeartbeats 8000000 in
set_option maxRecDepth 100000 in
theorem cmp_Compare_int.calls (a0 : Int) (a1 : Int) (r : Int) (w : World) (h : cmp_Compare_int.f a0 a1 = some r) :
    Calls Try.prog 185 #[.int .i64 a0, .int .i64 a1] w fun e w' => e = .returned (.int .i64 r) ∧ Drawn0 w w' := by
  have H : ((cmp_isNaN_int.f a0).bind fun t612 => ((cmp_isNaN_int.f a1).bind fun t613 => (if t612 = true then (if t613 = true then (some 0) else (some (-1))) else (if t613 = true then (some 1) else (if a0 < a1 then (some (-1)) else (if a0 > a1 then (some 1) else (some 0))))))) = some r := h
  clear h
  replace H := Option.bind_eq_some_iff.mp H
  obtain ⟨t612, A30, H⟩ := H
  replace H : ((cmp_isNaN_int.f a1).bind fun t613 => (if t612 = true then (if t613 = true then (some 0) else (some (-1))) else (if t613 = true then (some 1) else (if a0 < a1 then (some (-1)) else (if a0 > a1 then (some 1) else (some 0)))))) = some r := H
  have A3 := Aside0.mk A30
  clear A30
  replace H := Option.bind_eq_some_iff.mp H
  obtain ⟨t613, A40, H⟩ := H
  replace H : (if t612 = true then (if t613 = true then (some 0) else (some (-1))) else (if t613 = true then (some 1) else (if a0 < a1 then (some (-1)) else (if a0 > a1 then (some 1) else (some 0))))) = some r := H
  have A4 := Aside0.mk A40
  clear A40
  by_cases c5 : t612 = true
  · subst c5
    have H1 : (if t613 = true then (some 0) else (some (-1))) = some r := by rw [if_pos rfl] at H; exact H
    clear H
    have H := H1
    clear H1
    by_cases c6 : t613 = true
    · subst c6
      have H1 : (some 0) = some r := by rw [if_pos rfl] at H; exact H
      clear H
      have H := H1
      clear H1
      obtain rfl := Option.some.inj H
      go_enter Try.func185, Try.ntmps185
      go_wp2_with (first | ((with_reducible refine gate_callee (f := 186) rfl ?_); refine goesL_ (some 8) rfl rfl Try.func186 (by kernel_rfl) rfl #[.int .i64 a0] rfl (by (try simp only [List.map_toArray, List.map_cons, List.map_nil]); first | done | rfl | (simp only [List.length_drop, List.length_take]; rfl)) ?_; (with_reducible refine (cmp_isNaN_int.calls a0 true _ A3.out).mono ?_); rintro e w' ⟨rfl, ⟨nd, rfl⟩⟩; refine ⟨_, rfl, ?_⟩) | ((with_reducible refine gate_callee (f := 186) rfl ?_); refine goesL_ (some 10) rfl rfl Try.func186 (by kernel_rfl) rfl #[.int .i64 a1] rfl (by (try simp only [List.map_toArray, List.map_cons, List.map_nil]); first | done | rfl | (simp only [List.length_drop, List.length_take]; rfl)) ?_; (with_reducible refine (cmp_isNaN_int.calls a1 true _ A4.out).mono ?_); rintro e w' ⟨rfl, ⟨nd, rfl⟩⟩; refine ⟨_, rfl, ?_⟩))
      go_ret
      exact ⟨by first | rfl | (simp; done) | (simp [*]; done), by repeat (first | exact Drawn0.refl _ | apply Drawn0.step)⟩
    · replace c6 := Bool.eq_false_iff.mpr c6
      subst c6
      have H1 : (some (-1)) = some r := by rw [if_neg (show ¬ (false = true) by decide)] at H; exact H
      clear H
      have H := H1
      clear H1
      obtain rfl := Option.some.inj H
      go_enter Try.func185, Try.ntmps185
      go_wp2_with (first | ((with_reducible refine gate_callee (f := 186) rfl ?_); refine goesL_ (some 8) rfl rfl Try.func186 (by kernel_rfl) rfl #[.int .i64 a0] rfl (by (try simp only [List.map_toArray, List.map_cons, List.map_nil]); first | done | rfl | (simp only [List.length_drop, List.length_take]; rfl)) ?_; (with_reducible refine (cmp_isNaN_int.calls a0 true _ A3.out).mono ?_); rintro e w' ⟨rfl, ⟨nd, rfl⟩⟩; refine ⟨_, rfl, ?_⟩) | ((with_reducible refine gate_callee (f := 186) rfl ?_); refine goesL_ (some 10) rfl rfl Try.func186 (by kernel_rfl) rfl #[.int .i64 a1] rfl (by (try simp only [List.map_toArray, List.map_cons, List.map_nil]); first | done | rfl | (simp only [List.length_drop, List.length_take]; rfl)) ?_; (with_reducible refine (cmp_isNaN_int.calls a1 false _ A4.out).mono ?_); rintro e w' ⟨rfl, ⟨nd, rfl⟩⟩; refine ⟨_, rfl, ?_⟩))
      go_ret
      exact ⟨by first | rfl | (simp; done) | (simp [*]; done), by repeat (first | exact Drawn0.refl _ | apply Drawn0.step)⟩
  · replace c5 := Bool.eq_false_iff.mpr c5
    subst c5
    have H1 : (if t613 = true then (some 1) else (if a0 < a1 then (some (-1)) else (if a0 > a1 then (some 1) else (some 0)))) = some r := by rw [if_neg (show ¬ (false = true) by decide)] at H; exact H
    clear H
    have H := H1
    clear H1
    by_cases c7 : t613 = true
    · subst c7
      have H1 : (some 1) = some r := by rw [if_pos rfl] at H; exact H
      clear H
      have H := H1
      clear H1
      obtain rfl := Option.some.inj H
      go_enter Try.func185, Try.ntmps185
      go_wp2_with (first | ((with_reducible refine gate_callee (f := 186) rfl ?_); refine goesL_ (some 8) rfl rfl Try.func186 (by kernel_rfl) rfl #[.int .i64 a0] rfl (by (try simp only [List.map_toArray, List.map_cons, List.map_nil]); first | done | rfl | (simp only [List.length_drop, List.length_take]; rfl)) ?_; (with_reducible refine (cmp_isNaN_int.calls a0 false _ A3.out).mono ?_); rintro e w' ⟨rfl, ⟨nd, rfl⟩⟩; refine ⟨_, rfl, ?_⟩) | ((with_reducible refine gate_callee (f := 186) rfl ?_); refine goesL_ (some 10) rfl rfl Try.func186 (by kernel_rfl) rfl #[.int .i64 a1] rfl (by (try simp only [List.map_toArray, List.map_cons, List.map_nil]); first | done | rfl | (simp only [List.length_drop, List.length_take]; rfl)) ?_; (with_reducible refine (cmp_isNaN_int.calls a1 true _ A4.out).mono ?_); rintro e w' ⟨rfl, ⟨nd, rfl⟩⟩; refine ⟨_, rfl, ?_⟩))
      go_ret
      exact ⟨by first | rfl | (simp; done) | (simp [*]; done), by repeat (first | exact Drawn0.refl _ | apply Drawn0.step)⟩
    · replace c7 := Bool.eq_false_iff.mpr c7
      subst c7
      have H1 : (if a0 < a1 then (some (-1)) else (if a0 > a1 then (some 1) else (some 0))) = some r := by rw [if_neg (show ¬ (false = true) by decide)] at H; exact H
      clear H
      have H := H1
      clear H1
      by_cases c8 : a0 < a1
      · rw [if_pos c8] at H
        have c8b0 : decide (a0 < a1) = true := decide_eq_true c8
        clear c8
        obtain rfl := Option.some.inj H
        go_enter Try.func185, Try.ntmps185
        go_wp2_with (first | ((with_reducible refine gate_callee (f := 186) rfl ?_); refine goesL_ (some 8) rfl rfl Try.func186 (by kernel_rfl) rfl #[.int .i64 a0] rfl (by (try simp only [List.map_toArray, List.map_cons, List.map_nil]); first | done | rfl | (simp only [List.length_drop, List.length_take]; rfl)) ?_; (with_reducible refine (cmp_isNaN_int.calls a0 false _ A3.out).mono ?_); rintro e w' ⟨rfl, ⟨nd, rfl⟩⟩; refine ⟨_, rfl, ?_⟩) | ((with_reducible refine gate_callee (f := 186) rfl ?_); refine goesL_ (some 10) rfl rfl Try.func186 (by kernel_rfl) rfl #[.int .i64 a1] rfl (by (try simp only [List.map_toArray, List.map_cons, List.map_nil]); first | done | rfl | (simp only [List.length_drop, List.length_take]; rfl)) ?_; (with_reducible refine (cmp_isNaN_int.calls a1 false _ A4.out).mono ?_); rintro e w' ⟨rfl, ⟨nd, rfl⟩⟩; refine ⟨_, rfl, ?_⟩))
        go_ret
        exact ⟨by first | rfl | (simp; done) | (simp [*]; done), by repeat (first | exact Drawn0.refl _ | apply Drawn0.step)⟩
      · rw [if_neg c8] at H
        have c8b0 : decide (a0 < a1) = false := decide_eq_false c8
        clear c8
        by_cases c9 : a0 > a1
        · rw [if_pos c9] at H
          have c9b0 : decide (a1 < a0) = true := decide_eq_true c9
          clear c9
          obtain rfl := Option.some.inj H
          go_enter Try.func185, Try.ntmps185
          go_wp2_with (first | ((with_reducible refine gate_callee (f := 186) rfl ?_); refine goesL_ (some 8) rfl rfl Try.func186 (by kernel_rfl) rfl #[.int .i64 a0] rfl (by (try simp only [List.map_toArray, List.map_cons, List.map_nil]); first | done | rfl | (simp only [List.length_drop, List.length_take]; rfl)) ?_; (with_reducible refine (cmp_isNaN_int.calls a0 false _ A3.out).mono ?_); rintro e w' ⟨rfl, ⟨nd, rfl⟩⟩; refine ⟨_, rfl, ?_⟩) | ((with_reducible refine gate_callee (f := 186) rfl ?_); refine goesL_ (some 10) rfl rfl Try.func186 (by kernel_rfl) rfl #[.int .i64 a1] rfl (by (try simp only [List.map_toArray, List.map_cons, List.map_nil]); first | done | rfl | (simp only [List.length_drop, List.length_take]; rfl)) ?_; (with_reducible refine (cmp_isNaN_int.calls a1 false _ A4.out).mono ?_); rintro e w' ⟨rfl, ⟨nd, rfl⟩⟩; refine ⟨_, rfl, ?_⟩))
          go_ret
          exact ⟨by first | rfl | (simp; done) | (simp [*]; done), by repeat (first | exact Drawn0.refl _ | apply Drawn0.step)⟩
        · rw [if_neg c9] at H
          have c9b0 : decide (a1 < a0) = false := decide_eq_false c9
          clear c9
          obtain rfl := Option.some.inj H
          go_enter Try.func185, Try.ntmps185
          go_wp2_with (first | ((with_reducible refine gate_callee (f := 186) rfl ?_); refine goesL_ (some 8) rfl rfl Try.func186 (by kernel_rfl) rfl #[.int .i64 a0] rfl (by (try simp only [List.map_toArray, List.map_cons, List.map_nil]); first | done | rfl | (simp only [List.length_drop, List.length_take]; rfl)) ?_; (with_reducible refine (cmp_isNaN_int.calls a0 false _ A3.out).mono ?_); rintro e w' ⟨rfl, ⟨nd, rfl⟩⟩; refine ⟨_, rfl, ?_⟩) | ((with_reducible refine gate_callee (f := 186) rfl ?_); refine goesL_ (some 10) rfl rfl Try.func186 (by kernel_rfl) rfl #[.int .i64 a1] rfl (by (try simp only [List.map_toArray, List.map_cons, List.map_nil]); first | done | rfl | (simp only [List.length_drop, List.length_take]; rfl)) ?_; (with_reducible refine (cmp_isNaN_int.calls a1 false _ A4.out).mono ?_); rintro e w' ⟨rfl, ⟨nd, rfl⟩⟩; refine ⟨_, rfl, ?_⟩))
          go_ret
          exact ⟨by first | rfl | (simp; done) | (simp [*]; done), by repeat (first | exact Drawn0.refl _ | apply Drawn0.step)⟩

end Go.Proofs.Ytchaegfdcdlfaaa.X

namespace Go.Proofs.Ytchaegfdcdlfaaa.X
open Go.RowKit Go.Proofs.YtchaegfdcdlfaaaW.PrintWords Go.Proofs.YtchaegfdcdlfaaaW.PrintLast Go.Proofs.YtchaegfdcdlfaaaW.PrintMore
attribute [local go_sem] max2_int min2_int max_two min_two max_three min_three max_four min_four   -- for this text's walks alone
set_option linter.unusedVariables false
set_option linter.unusedSimpArgs false

attribute [local go_sem high] eqA96
def stamp_Less.f (k : Nat) (a0_0 : Int) (a0_1 : Int) (a1_0 : Int) (a1_1 : Int) : Option (Bool) := if (!(a0_0 == a1_0) || (!(a0_1 == a1_1))) = true then ((cmp_Compare_int.f a0_0 a1_0).bind fun t616 => ((cmp_Compare_int.f a0_1 a1_1).bind fun t617 => ((cmp_Or_int.f k (([t616, t617] : List Int))).bind fun t621 => (some (decide (t621 < 0)))))) else (some false)
theorem stamp_Less.mono : ∀ a0 a1 a2 a3 k, LeO (stamp_Less.f k a0 a1 a2 a3) (stamp_Less.f (k + 1) a0 a1 a2 a3) := by
  intro a0 a1 a2 a3 k
  unfold stamp_Less.f
  repeat' first
      | (with_reducible exact cmp_Or_int.mono _ _)
      | (with_reducible exact LeO.refl _)
      | (with_reducible exact LeO.none _)
      | (with_reducible refine LeO.ite ?_ ?_)
      | (with_reducible refine LeO.bind ?_ (fun _ => ?_))
      | exact cmp_Or_int.mono _ _
      | exact LeO.none _
      | refine LeO.ite ?_ ?_
      | refine LeO.bind ?_ (fun _ => ?_)
def stamp_Less.T1 : Bool × List (List Nat × List Nat) := (true, [([], []), ([], []), ([0, 1], [0, 1]), ([2], [2]), ([3], [3]), ([4, 3], [3, 4]), ([3], [3]), ([6, 3], [3, 6]), ([5, 7, 3, 3], [3, 5, 7]), ([3], [3]), ([9, 3], [3, 9]), ([3], [3]), ([11, 3], [3, 11]), ([10, 12, 8, 3], [3, 10, 12]), ([8, 13, 3], [3, 8, 13]), ([14, 13, 3], [3, 14]), ([15, 3], [3, 15]), ([3, 16], [3, 16]), ([17, 15, 0, 1, 2, 3, 4, 5, 6, 7, 8, 9, 10, 11, 12, 13, 14, 15, 16, 17], [17])])
def stamp_Less.B1 : List Nat := [0, 0, 3, 7, 15, 31, 15, 79, 255, 15, 527, 15, 2063, 8191, 16383, 32767, 65535, 131071, 262143]
theorem stamp_Less.tab1 : rtab .any (opsOf Try.f174 1) = stamp_Less.T1 := by kernel_rfl
theorem stamp_Less.bits1 : waitsOk stamp_Less.T1.2 stamp_Less.B1 = true := by kernel_rfl
set_option maxHeartbeats 8000000 in
set_option maxRecDepth 100000 in
theorem stamp_Less.calls (k : Nat) (a0_0 : Int) (a0_1 : Int) (a1_0 : Int) (a1_1 : Int) (r : Bool) (w : World) (h : stamp_Less.f k a0_0 a0_1 a1_0 a1_1 = some r) :
    Calls Try.prog 174 #[.agg #[.int .i64 a0_0, .int .i64 a0_1], .agg #[.int .i64 a1_0, .int .i64 a1_1]] w fun e w' => e = .returned (.bool r) ∧ Below w.heap.size w w' := by
  have hu96 := Try.underlying96
  have HB := Aside0.mk (Below.refl w.heap.size w)
  have H : (if (!(a0_0 == a1_0) || (!(a0_1 == a1_1))) = true then ((cmp_Compare_int.f a0_0 a1_0).bind fun t616 => ((cmp_Compare_int.f a0_1 a1_1).bind fun t617 => ((cmp_Or_int.f k (([t616, t617] : List Int))).bind fun t621 => (some (decide (t621 < 0)))))) else (some false)) = some r := h
  clear h
  by_cases c3 : (!(a0_0 == a1_0) || (!(a0_1 == a1_1))) = true
  · rw [if_pos c3] at H
    have c3b0 : (!(a0_0 == a1_0) || (!(a0_1 == a1_1))) = true := c3
    clear c3
    replace H := Option.bind_eq_some_iff.mp H
    obtain ⟨t616, A40, H⟩ := H
    replace H : ((cmp_Compare_int.f a0_1 a1_1).bind fun t617 => ((cmp_Or_int.f k (([t616, t617] : List Int))).bind fun t621 => (some (decide (t621 < 0))))) = some r := H
    have A4 := Aside0.mk A40
    clear A40
    replace H := Option.bind_eq_some_iff.mp H
    obtain ⟨t617, A50, H⟩ := H
    replace H : ((cmp_Or_int.f k (([t616, t617] : List Int))).bind fun t621 => (some (decide (t621 < 0)))) = some r := H
    have A5 := Aside0.mk A50
    clear A50
    obtain ⟨y618, hy618⟩ : ∃ y_ : List Int, y_ = (([t616, t617] : List Int)) := ⟨_, rfl⟩
    replace H : ((cmp_Or_int.f k y618).bind fun t621 => (some (decide (t621 < 0)))) = some r := by first | (rw [hy618]; with_reducible exact H) | (have H2_ := (Option.bind_some _ _).symm.trans H; rw [hy618]; with_reducible exact H2_) | (have H2_ := (Option.bind_some _ _).symm.trans H; with_reducible exact H2_) | with_reducible exact H | (rw [hy618]; exact H) | exact H
    have Ny618 := Aside0.mk hy618
    clear hy618
    replace H := Option.bind_eq_some_iff.mp H
    obtain ⟨t621, A60, H⟩ := H
    replace H : (some (decide (t621 < 0))) = some r := H
    have A6 := Aside0.mk A60
    clear A60
    obtain rfl := Option.some.inj H
    go_enter Try.func174, Try.ntmps174
    try go_wp2_with (first | ((with_reducible refine gate_dst (N := 2) rfl ?_); (try (refine gate_guard (by rfl) ?_; dsimp only)); refine box_event ?hg (N := 2) ?hd (cs := #[.int .i64 a0_0, .int .i64 a0_1]) (t := 96) ?hr ?_; (case hd => rfl); (case hg => rfl); (case hr => first | (go_simp; done) | (go_simp; rfl)); intro gb614 hg w7 hbox hb; have n0_ := Aside0.mk (below_step (by repeat (first | (with_reducible first | exact HB.out | apply below_alloc | apply pw_below_drewN | apply below_drew1) | exact HB.out)) hb); have n1_ := Aside0.mk (hbox); have n2_ := Aside0.mk ((by rw [hg]; exact (below_size (by repeat (first | (with_reducible first | exact HB.out | apply below_alloc | apply pw_below_drewN | apply below_drew1) | exact HB.out))) : w.heap.size ≤ gb614)); have n3_ := Aside0.mk ((by rw [hg]; exact (below_size (by repeat (first | (with_reducible first | exact HB.out | apply below_alloc | apply pw_below_drewN | apply below_drew1) | exact HB.out))) : w.heap.size ≤ gb614)); clear HB; have HB := n0_; have BK614 := n1_; have GW614 := n2_; have GE614 := n3_; clear n0_ n1_ n2_ n3_; clear hb hbox hg) | ((with_reducible refine gate_dst (N := 3) rfl ?_); (try (refine gate_guard (by rfl) ?_; dsimp only)); refine box_event ?hg (N := 3) ?hd (cs := #[.int .i64 a1_0, .int .i64 a1_1]) (t := 96) ?hr ?_; (case hd => rfl); (case hg => rfl); (case hr => first | (go_simp; done) | (go_simp; rfl)); intro gb615 hg w8 hbox hb; have n0_ := Aside0.mk (blk_below (g := gb614) (o := .cells #[.int .i64 a0_0, .int .i64 a0_1] 96 (0, 0)) (by (with_reducible repeat (first | refine blk_drewN ?_ _ | refine blk_drew ?_ | refine blk_alloc ?_ _)); exact BK614.out) hb); have n1_ := Aside0.mk (below_step (by repeat (first | (with_reducible first | exact HB.out | apply below_alloc | apply pw_below_drewN | apply below_drew1 | refine below_set ?_ GE614.out) | exact HB.out)) hb); have n2_ := Aside0.mk (hbox); have n3_ := Aside0.mk ((by rw [hg]; exact (below_size (by repeat (first | (with_reducible first | exact HB.out | apply below_alloc | apply pw_below_drewN | apply below_drew1 | refine below_set ?_ GE614.out) | exact HB.out))) : w.heap.size ≤ gb615)); have n4_ := Aside0.mk ((by rw [hg]; exact (below_size (by repeat (first | (with_reducible first | exact HB.out | apply below_alloc | apply pw_below_drewN | apply below_drew1 | refine below_set ?_ GE614.out) | exact HB.out))) : w.heap.size ≤ gb615)); have n5_ := Aside0.mk ((by rw [hg]; exact Nat.ne_of_lt (blk_lt (g := gb614) (o := .cells #[.int .i64 a0_0, .int .i64 a0_1] 96 (0, 0)) (by (with_reducible repeat (first | refine blk_drewN ?_ _ | refine blk_drew ?_ | refine blk_alloc ?_ _)); exact BK614.out)) : gb614 ≠ gb615)); have n6_ := Aside0.mk ((by rw [hg]; exact Nat.ne_of_gt (blk_lt (g := gb614) (o := .cells #[.int .i64 a0_0, .int .i64 a0_1] 96 (0, 0)) (by (with_reducible repeat (first | refine blk_drewN ?_ _ | refine blk_drew ?_ | refine blk_alloc ?_ _)); exact BK614.out)) : gb615 ≠ gb614)); clear BK614; clear HB; have BK614 := n0_; have HB := n1_; have BK615 := n2_; have GW615 := n3_; have GE615 := n4_; have NB614_615 := n5_; have NB615_614 := n6_; clear n0_ n1_ n2_ n3_ n4_ n5_ n6_; clear hb hbox hg))
    have n0_ := Aside0.mk (blk_drew BK614.out)
    have n1_ := Aside0.mk (blk_drew BK615.out)
    have n2_ := Aside0.mk (below_drew1 HB.out)
    clear BK614
    clear BK615
    clear HB
    have BK614 := n0_
    have BK615 := n1_
    have HB := n2_
    clear n0_ n1_ n2_
    refine start_ (n := 19) (S := fun w' => w'.cell? ⟨gb614, 0, none⟩ = some (.int .i64 a0_0) ∧ w'.cell? ⟨gb614, 1, none⟩ = some (.int .i64 a0_1) ∧ w'.cell? ⟨gb615, 0, none⟩ = some (.int .i64 a1_0) ∧ w'.cell? ⟨gb615, 1, none⟩ = some (.int .i64 a1_1)) (ds := []) #[false, false, false, false, false, false, false, false, false, false, false, false, false, false, false, false, false, false, false] (by kernel_rfl) rfl rfl ⟨(blk_cell BK614.out 0).trans rfl, (blk_cell BK614.out 1).trans rfl, (blk_cell BK615.out 0).trans rfl, (blk_cell BK615.out 1).trans rfl⟩ (fun hHeld => ?_); refine with_tabW stamp_Less.tab1 stamp_Less.bits1 (fun HT_ HW_ => ?_)
    generalize w8.drew = w9 at BK614 BK615 HB hHeld ⊢
    refine take_ (i := 0) (N := some 5) (v := ?_) (a' := ?_) #[true, false, false, false, false, false, false, false, false, false, false, false, false, false, false, false, false, false, false] rfl rfl (take_ofW HT_.out HW_.out (by kernel_rfl)) (fun _ _ _ h => h) (Or.inl ⟨by rfl, ?_⟩) hHeld ?_ ?_
    rotate_left
    · rintro w' ⟨s0, s1, s2, s3⟩
      go_simp
      with_reducible rfl
    rotate_left
    · simp only [Act.put, List.setIfInBounds_toArray, List.set_cons_zero, List.set_cons_succ, i64_w, i32_w]
      rfl
    refine take_ (i := 1) (N := some 6) (v := ?_) (a' := ?_) #[true, true, false, false, false, false, false, false, false, false, false, false, false, false, false, false, false, false, false] rfl rfl (take_ofW HT_.out HW_.out (by kernel_rfl)) (fun _ _ _ h => h) (Or.inl ⟨by rfl, ?_⟩) hHeld ?_ ?_
    rotate_left
    · rintro w' ⟨s0, s1, s2, s3⟩
      go_simp
      with_reducible rfl
    rotate_left
    · simp only [Act.put, List.setIfInBounds_toArray, List.set_cons_zero, List.set_cons_succ, i64_w, i32_w]
      rfl
    refine pure_ (i := 2) (N := some 7) (v := ?_) (a' := ?_) #[true, true, true, false, false, false, false, false, false, false, false, false, false, false, false, false, false, false, false] rfl rfl (any_of HT_.out (by kernel_rfl)) (fun _ _ _ h => h) (Or.inl ⟨by rfl, ?_⟩) ?_ ?_
    rotate_left
    · intro w'
      go_simp
      with_reducible rfl
    rotate_left
    · simp only [Act.put, List.setIfInBounds_toArray, List.set_cons_zero, List.set_cons_succ, i64_w, i32_w]
      rfl
    refine pure_ (i := 3) (N := some 8) (v := ?_) (a' := ?_) #[true, true, true, true, false, false, false, false, false, false, false, false, false, false, false, false, false, false, false] rfl rfl (any_of HT_.out (by kernel_rfl)) (fun _ _ _ h => h) (Or.inl ⟨by rfl, ?_⟩) ?_ ?_
    rotate_left
    · intro w'
      go_simp
      with_reducible rfl
    rotate_left
    · simp only [Act.put, List.setIfInBounds_toArray, List.set_cons_zero, List.set_cons_succ, i64_w, i32_w]
      rfl
    refine pure_ (i := 4) (N := some 9) (v := ?_) (a' := ?_) #[true, true, true, true, true, false, false, false, false, false, false, false, false, false, false, false, false, false, false] rfl rfl (any_of HT_.out (by kernel_rfl)) (fun _ _ _ h => h) (Or.inl ⟨by rfl, ?_⟩) ?_ ?_
    rotate_left
    · intro w'
      go_simp
      with_reducible rfl
    rotate_left
    · simp only [Act.put, List.setIfInBounds_toArray, List.set_cons_zero, List.set_cons_succ, i64_w, i32_w]
      rfl
    refine pure_ (i := 6) (N := some 11) (v := ?_) (a' := ?_) #[true, true, true, true, true, false, true, false, false, false, false, false, false, false, false, false, false, false, false] rfl rfl (any_of HT_.out (by kernel_rfl)) (fun _ _ _ h => h) (Or.inl ⟨by rfl, ?_⟩) ?_ ?_
    rotate_left
    · intro w'
      go_simp
      with_reducible rfl
    rotate_left
    · simp only [Act.put, List.setIfInBounds_toArray, List.set_cons_zero, List.set_cons_succ, i64_w, i32_w]
      rfl
    refine pure_ (i := 9) (N := some 14) (v := ?_) (a' := ?_) #[true, true, true, true, true, false, true, false, false, true, false, false, false, false, false, false, false, false, false] rfl rfl (any_of HT_.out (by kernel_rfl)) (fun _ _ _ h => h) (Or.inl ⟨by rfl, ?_⟩) ?_ ?_
    rotate_left
    · intro w'
      go_simp
      with_reducible rfl
    rotate_left
    · simp only [Act.put, List.setIfInBounds_toArray, List.set_cons_zero, List.set_cons_succ, i64_w, i32_w]
      rfl
    refine pure_ (i := 11) (N := some 16) (v := ?_) (a' := ?_) #[true, true, true, true, true, false, true, false, false, true, false, true, false, false, false, false, false, false, false] rfl rfl (any_of HT_.out (by kernel_rfl)) (fun _ _ _ h => h) (Or.inl ⟨by rfl, ?_⟩) ?_ ?_
    rotate_left
    · intro w'
      go_simp
      with_reducible rfl
    rotate_left
    · simp only [Act.put, List.setIfInBounds_toArray, List.set_cons_zero, List.set_cons_succ, i64_w, i32_w]
      rfl
    refine take_ (i := 5) (N := some 10) (v := ?_) (a' := ?_) #[true, true, true, true, true, true, true, false, false, true, false, true, false, false, false, false, false, false, false] rfl rfl (take_ofW HT_.out HW_.out (by kernel_rfl)) (fun _ _ _ h => h) (Or.inl ⟨by rfl, ?_⟩) hHeld ?_ ?_
    rotate_left
    · rintro w' ⟨s0, s1, s2, s3⟩
      go_simp
      with_reducible rfl
    rotate_left
    · simp only [Act.put, List.setIfInBounds_toArray, List.set_cons_zero, List.set_cons_succ, i64_w, i32_w]
      rfl
    refine take_ (i := 7) (N := some 12) (v := ?_) (a' := ?_) #[true, true, true, true, true, true, true, true, false, true, false, true, false, false, false, false, false, false, false] rfl rfl (take_ofW HT_.out HW_.out (by kernel_rfl)) (fun _ _ _ h => h) (Or.inl ⟨by rfl, ?_⟩) hHeld ?_ ?_
    rotate_left
    · rintro w' ⟨s0, s1, s2, s3⟩
      go_simp
      with_reducible rfl
    rotate_left
    · simp only [Act.put, List.setIfInBounds_toArray, List.set_cons_zero, List.set_cons_succ, i64_w, i32_w]
      rfl
    refine take_ (i := 10) (N := some 15) (v := ?_) (a' := ?_) #[true, true, true, true, true, true, true, true, false, true, true, true, false, false, false, false, false, false, false] rfl rfl (take_ofW HT_.out HW_.out (by kernel_rfl)) (fun _ _ _ h => h) (Or.inl ⟨by rfl, ?_⟩) hHeld ?_ ?_
    rotate_left
    · rintro w' ⟨s0, s1, s2, s3⟩
      go_simp
      with_reducible rfl
    rotate_left
    · simp only [Act.put, List.setIfInBounds_toArray, List.set_cons_zero, List.set_cons_succ, i64_w, i32_w]
      rfl
    refine take_ (i := 12) (N := some 17) (v := ?_) (a' := ?_) #[true, true, true, true, true, true, true, true, false, true, true, true, true, false, false, false, false, false, false] rfl rfl (take_ofW HT_.out HW_.out (by kernel_rfl)) (fun _ _ _ h => h) (Or.inl ⟨by rfl, ?_⟩) hHeld ?_ ?_
    rotate_left
    · rintro w' ⟨s0, s1, s2, s3⟩
      go_simp
      with_reducible rfl
    rotate_left
    · simp only [Act.put, List.setIfInBounds_toArray, List.set_cons_zero, List.set_cons_succ, i64_w, i32_w]
      rfl
    refine one_ (i := 8) (N := some 13) #[true, true, true, true, true, true, true, true, true, true, true, true, true, false, false, false, false, false, false] rfl rfl (one_of HT_.out (by kernel_rfl)) (by decide) (fun K hK => ?_)
    refine goes_ Try.func185 (by kernel_rfl) rfl #[.int .i64 a0_0, .int .i64 a1_0] (by rfl) rfl rfl (by (try simp only [List.map_toArray, List.map_cons, List.map_nil]); first | done | rfl | (simp only [List.length_drop, List.length_take]; rfl)) ?_
    with_reducible refine (cmp_Compare_int.calls a0_0 a1_0 t616 _ A4.out).mono ?_
    rintro e w' ⟨rfl, ⟨nd, rfl⟩⟩
    refine ⟨_, rfl, ?_⟩
    refine hK.out _ _ ⟨(blk_cell BK614.out 0).trans rfl, (blk_cell BK614.out 1).trans rfl, (blk_cell BK615.out 0).trans rfl, (blk_cell BK615.out 1).trans rfl⟩ (fun hHeld => ?_)
    clear hK K
    refine norm_ (a' := ?_) ?_ ?_
    rotate_left
    · show Act.put _ (some 13) _ = _
      simp only [Act.put, List.setIfInBounds_toArray, List.set_cons_zero, List.set_cons_succ, i64_w, i32_w]
      rfl
    refine one_ (i := 13) (N := some 18) #[true, true, true, true, true, true, true, true, true, true, true, true, true, true, false, false, false, false, false] rfl rfl (one_of HT_.out (by kernel_rfl)) (by decide) (fun K hK => ?_)
    refine goes_ Try.func185 (by kernel_rfl) rfl #[.int .i64 a0_1, .int .i64 a1_1] (by rfl) rfl rfl (by (try simp only [List.map_toArray, List.map_cons, List.map_nil]); first | done | rfl | (simp only [List.length_drop, List.length_take]; rfl)) ?_
    with_reducible refine (cmp_Compare_int.calls a0_1 a1_1 t617 _ A5.out).mono ?_
    rintro e w' ⟨rfl, ⟨nd, rfl⟩⟩
    refine ⟨_, rfl, ?_⟩
    refine hK.out _ _ ⟨(blk_cell BK614.out 0).trans rfl, (blk_cell BK614.out 1).trans rfl, (blk_cell BK615.out 0).trans rfl, (blk_cell BK615.out 1).trans rfl⟩ (fun hHeld => ?_)
    clear hK K
    refine norm_ (a' := ?_) ?_ ?_
    rotate_left
    · show Act.put _ (some 18) _ = _
      simp only [Act.put, List.setIfInBounds_toArray, List.set_cons_zero, List.set_cons_succ, i64_w, i32_w]
      rfl
    refine one_ (i := 14) (N := some 19) #[true, true, true, true, true, true, true, true, true, true, true, true, true, true, true, false, false, false, false] rfl rfl (one_of HT_.out (by kernel_rfl)) (by decide) (fun K hK => ?_)
    refine Kd.R_lit_step (Kd.int .i64) _ 3 ?hg (N := 19) ?hd (xs := ([t616, t617] : List Int)) (inner := [.int .i64 t616, .int .i64 t617]) (ok := fun _ => True) (okp := fun _ => True) ?hr ?hp (fun _ hk => hk) trivial (Below.refl _ _) (Nat.le_refl _) (by simp) ?_; (case hd => rfl); (case hg => rfl); (case hr => first | (go_simp; done) | (go_simp; rfl)); (case hp => exact (Reps.one (show Kd.M (Kd.int .i64) _ _ _ t616 [.int .i64 t616] from rfl) (Reps.one (show Kd.M (Kd.int .i64) _ _ _ t617 [.int .i64 t617] from rfl) (Reps.none _ _))))
    intro v619 w10 ho11 hb hg_ hnew_
    clear hg_ hnew_
    (first | rw [← Ny618.out] at ho11 | (simp only [Int.reduceToNat] at ho11; rw [← Ny618.out] at ho11))
    have n0_ := Aside0.mk (Kd.R_lower ho11 (below_size (by repeat (first | (with_reducible first | exact HB.out | apply below_alloc | apply pw_below_drewN | apply below_drew1 | refine below_set ?_ GE614.out | refine below_set ?_ GE615.out) | exact HB.out))))
    have n1_ := Aside0.mk (blk_below (g := gb614) (o := .cells #[.int .i64 a0_0, .int .i64 a0_1] 96 (0, 0)) (by (with_reducible repeat (first | refine blk_drewN ?_ _ | refine blk_drew ?_ | refine blk_alloc ?_ _)); exact BK614.out) hb)
    have n2_ := Aside0.mk (blk_below (g := gb615) (o := .cells #[.int .i64 a1_0, .int .i64 a1_1] 96 (0, 0)) (by (with_reducible repeat (first | refine blk_drewN ?_ _ | refine blk_drew ?_ | refine blk_alloc ?_ _)); exact BK615.out) hb)
    have n3_ := Aside0.mk (below_step (by repeat (first | (with_reducible first | exact HB.out | apply below_alloc | apply pw_below_drewN | apply below_drew1 | refine below_set ?_ GE614.out | refine below_set ?_ GE615.out) | exact HB.out)) hb)
    clear BK614
    clear BK615
    clear HB
    have HO620 := n0_
    have BK614 := n1_
    have BK615 := n2_
    have HB := n3_
    clear n0_ n1_ n2_ n3_
    clear hb ho11
    obtain ⟨Ao12, co12, eo12⟩ := Kd.R_slice HO620.out
    (first | subst eo12 | (injection eo12 with f1_ f2_ f3_; have f4_ := f1_.symm; have f5_ := f3_.symm; clear f1_ f2_ f3_; subst f4_; subst f5_))
    refine hK.out _ _ ⟨(blk_cell BK614.out 0).trans rfl, (blk_cell BK614.out 1).trans rfl, (blk_cell BK615.out 0).trans rfl, (blk_cell BK615.out 1).trans rfl⟩ (fun hHeld => ?_)
    clear hK K
    refine norm_ (a' := ?_) ?_ ?_
    rotate_left
    · show Act.put _ (some 19) _ = _
      simp only [Act.put, List.setIfInBounds_toArray, List.set_cons_zero, List.set_cons_succ, i64_w, i32_w]
      rfl
    refine one_ (i := 15) (N := some 20) #[true, true, true, true, true, true, true, true, true, true, true, true, true, true, true, true, false, false, false] rfl rfl (one_of HT_.out (by kernel_rfl)) (by decide) (fun K hK => ?_)
    refine goes_ Try.func184 (by kernel_rfl) rfl #[.slice Ao12 y618.length co12] (by rfl) rfl rfl (by (try simp only [List.map_toArray, List.map_cons, List.map_nil]); first | done | rfl | (simp only [List.length_drop, List.length_take]; rfl)) ?_
    with_reducible refine (cmp_Or_int.calls k _ _ y618 t621 _ ?side1 ?side2 A6.out).mono ?_
    (case side1 => repeat (first | exact (Kd.R_reads' HO620.out).2.2 | (with_reducible refine Kd.C_alloc ?_ _) | (with_reducible refine Kd.C_drewN ?_ _) | (with_reducible refine Kd.C_drew ?_)))
    (case side2 => exact (Kd.R_reads' HO620.out).2.1)
    rintro e w' ⟨rfl, ⟨nd, rfl⟩⟩
    refine ⟨_, rfl, ?_⟩
    refine hK.out _ _ ⟨(blk_cell BK614.out 0).trans rfl, (blk_cell BK614.out 1).trans rfl, (blk_cell BK615.out 0).trans rfl, (blk_cell BK615.out 1).trans rfl⟩ (fun hHeld => ?_)
    clear hK K
    refine norm_ (a' := ?_) ?_ ?_
    rotate_left
    · show Act.put _ (some 20) _ = _
      simp only [Act.put, List.setIfInBounds_toArray, List.set_cons_zero, List.set_cons_succ, i64_w, i32_w]
      rfl
    refine pure_ (i := 16) (N := some 21) (v := ?_) (a' := ?_) #[true, true, true, true, true, true, true, true, true, true, true, true, true, true, true, true, true, false, false] rfl rfl (any_of HT_.out (by kernel_rfl)) (fun _ _ _ h => h) (Or.inl ⟨by rfl, ?_⟩) ?_ ?_
    rotate_left
    · intro w'
      go_simp
      with_reducible rfl
    rotate_left
    · simp only [Act.put, List.setIfInBounds_toArray, List.set_cons_zero, List.set_cons_succ, i64_w, i32_w]
      rfl
    refine pure_ (i := 17) (N := some 22) (v := ?_) (a' := ?_) #[true, true, true, true, true, true, true, true, true, true, true, true, true, true, true, true, true, true, false] rfl rfl (any_of HT_.out (by kernel_rfl)) (fun _ _ _ h => h) (Or.inl ⟨by rfl, ?_⟩) ?_ ?_
    rotate_left
    · intro w'
      go_simp
      with_reducible rfl
    rotate_left
    · simp only [Act.put, List.setIfInBounds_toArray, List.set_cons_zero, List.set_cons_succ, i64_w, i32_w]
      rfl
    refine pure_ (i := 18) (N := some 4) (v := ?_) (a' := ?_) #[true, true, true, true, true, true, true, true, true, true, true, true, true, true, true, true, true, true, true] rfl rfl (any_of HT_.out (by kernel_rfl)) (fun _ _ _ h => h) (Or.inl ⟨by rfl, ?_⟩) ?_ ?_
    rotate_left
    · intro w'
      go_simp
      with_reducible rfl
    rotate_left
    · simp only [Act.put, List.setIfInBounds_toArray, List.set_cons_zero, List.set_cons_succ, i64_w, i32_w]
      rfl
    refine done_ (done_of HT_.out (by kernel_rfl)) ?_
    try go_wp2
    go_ret
    exact ⟨by first | rfl | (simp [errW_none, errW_some] <;> rfl) | (simp [*, errW_none, errW_some] <;> rfl), by repeat (first | (with_reducible first | exact HB.out | apply below_alloc | apply pw_below_drewN | apply below_drew1 | refine below_set ?_ GE614.out | refine below_set ?_ GE615.out) | exact HB.out)⟩
  · rw [if_neg c3] at H
    have c3b0 : (!(a0_0 == a1_0) || (!(a0_1 == a1_1))) = false := by simpa using c3
    clear c3
    obtain rfl := Option.some.inj H
    go_enter Try.func174, Try.ntmps174
    try go_wp2_with (first | ((with_reducible refine gate_dst (N := 2) rfl ?_); (try (refine gate_guard (by rfl) ?_; dsimp only)); refine box_event ?hg (N := 2) ?hd (cs := #[.int .i64 a0_0, .int .i64 a0_1]) (t := 96) ?hr ?_; (case hd => rfl); (case hg => rfl); (case hr => first | (go_simp; done) | (go_simp; rfl)); intro gb614 hg w13 hbox hb; have n0_ := Aside0.mk (below_step (by repeat (first | (with_reducible first | exact HB.out | apply below_alloc | apply pw_below_drewN | apply below_drew1) | exact HB.out)) hb); have n1_ := Aside0.mk (hbox); have n2_ := Aside0.mk ((by rw [hg]; exact (below_size (by repeat (first | (with_reducible first | exact HB.out | apply below_alloc | apply pw_below_drewN | apply below_drew1) | exact HB.out))) : w.heap.size ≤ gb614)); have n3_ := Aside0.mk ((by rw [hg]; exact (below_size (by repeat (first | (with_reducible first | exact HB.out | apply below_alloc | apply pw_below_drewN | apply below_drew1) | exact HB.out))) : w.heap.size ≤ gb614)); clear HB; have HB := n0_; have BK614 := n1_; have GW614 := n2_; have GE614 := n3_; clear n0_ n1_ n2_ n3_; clear hb hbox hg) | ((with_reducible refine gate_dst (N := 3) rfl ?_); (try (refine gate_guard (by rfl) ?_; dsimp only)); refine box_event ?hg (N := 3) ?hd (cs := #[.int .i64 a1_0, .int .i64 a1_1]) (t := 96) ?hr ?_; (case hd => rfl); (case hg => rfl); (case hr => first | (go_simp; done) | (go_simp; rfl)); intro gb615 hg w14 hbox hb; have n0_ := Aside0.mk (blk_below (g := gb614) (o := .cells #[.int .i64 a0_0, .int .i64 a0_1] 96 (0, 0)) (by (with_reducible repeat (first | refine blk_drewN ?_ _ | refine blk_drew ?_ | refine blk_alloc ?_ _)); exact BK614.out) hb); have n1_ := Aside0.mk (below_step (by repeat (first | (with_reducible first | exact HB.out | apply below_alloc | apply pw_below_drewN | apply below_drew1 | refine below_set ?_ GE614.out) | exact HB.out)) hb); have n2_ := Aside0.mk (hbox); have n3_ := Aside0.mk ((by rw [hg]; exact (below_size (by repeat (first | (with_reducible first | exact HB.out | apply below_alloc | apply pw_below_drewN | apply below_drew1 | refine below_set ?_ GE614.out) | exact HB.out))) : w.heap.size ≤ gb615)); have n4_ := Aside0.mk ((by rw [hg]; exact (below_size (by repeat (first | (with_reducible first | exact HB.out | apply below_alloc | apply pw_below_drewN | apply below_drew1 | refine below_set ?_ GE614.out) | exact HB.out))) : w.heap.size ≤ gb615)); have n5_ := Aside0.mk ((by rw [hg]; exact Nat.ne_of_lt (blk_lt (g := gb614) (o := .cells #[.int .i64 a0_0, .int .i64 a0_1] 96 (0, 0)) (by (with_reducible repeat (first | refine blk_drewN ?_ _ | refine blk_drew ?_ | refine blk_alloc ?_ _)); exact BK614.out)) : gb614 ≠ gb615)); have n6_ := Aside0.mk ((by rw [hg]; exact Nat.ne_of_gt (blk_lt (g := gb614) (o := .cells #[.int .i64 a0_0, .int .i64 a0_1] 96 (0, 0)) (by (with_reducible repeat (first | refine blk_drewN ?_ _ | refine blk_drew ?_ | refine blk_alloc ?_ _)); exact BK614.out)) : gb615 ≠ gb614)); clear BK614; clear HB; have BK614 := n0_; have HB := n1_; have BK615 := n2_; have GW615 := n3_; have GE615 := n4_; have NB614_615 := n5_; have NB615_614 := n6_; clear n0_ n1_ n2_ n3_ n4_ n5_ n6_; clear hb hbox hg))
    have n0_ := Aside0.mk (blk_drew BK614.out)
    have n1_ := Aside0.mk (blk_drew BK615.out)
    have n2_ := Aside0.mk (below_drew1 HB.out)
    clear BK614
    clear BK615
    clear HB
    have BK614 := n0_
    have BK615 := n1_
    have HB := n2_
    clear n0_ n1_ n2_
    refine start_ (n := 19) (S := fun w' => w'.cell? ⟨gb614, 0, none⟩ = some (.int .i64 a0_0) ∧ w'.cell? ⟨gb614, 1, none⟩ = some (.int .i64 a0_1) ∧ w'.cell? ⟨gb615, 0, none⟩ = some (.int .i64 a1_0) ∧ w'.cell? ⟨gb615, 1, none⟩ = some (.int .i64 a1_1)) (ds := []) #[false, false, false, false, false, false, false, false, false, false, false, false, false, false, false, false, false, false, false] (by kernel_rfl) rfl rfl ⟨(blk_cell BK614.out 0).trans rfl, (blk_cell BK614.out 1).trans rfl, (blk_cell BK615.out 0).trans rfl, (blk_cell BK615.out 1).trans rfl⟩ (fun hHeld => ?_); refine with_tabW stamp_Less.tab1 stamp_Less.bits1 (fun HT_ HW_ => ?_)
    generalize w14.drew = w15 at BK614 BK615 HB hHeld ⊢
    refine take_ (i := 0) (N := some 5) (v := ?_) (a' := ?_) #[true, false, false, false, false, false, false, false, false, false, false, false, false, false, false, false, false, false, false] rfl rfl (take_ofW HT_.out HW_.out (by kernel_rfl)) (fun _ _ _ h => h) (Or.inl ⟨by rfl, ?_⟩) hHeld ?_ ?_
    rotate_left
    · rintro w' ⟨s0, s1, s2, s3⟩
      go_simp
      with_reducible rfl
    rotate_left
    · simp only [Act.put, List.setIfInBounds_toArray, List.set_cons_zero, List.set_cons_succ, i64_w, i32_w]
      rfl
    refine take_ (i := 1) (N := some 6) (v := ?_) (a' := ?_) #[true, true, false, false, false, false, false, false, false, false, false, false, false, false, false, false, false, false, false] rfl rfl (take_ofW HT_.out HW_.out (by kernel_rfl)) (fun _ _ _ h => h) (Or.inl ⟨by rfl, ?_⟩) hHeld ?_ ?_
    rotate_left
    · rintro w' ⟨s0, s1, s2, s3⟩
      go_simp
      with_reducible rfl
    rotate_left
    · simp only [Act.put, List.setIfInBounds_toArray, List.set_cons_zero, List.set_cons_succ, i64_w, i32_w]
      rfl
    refine pure_ (i := 2) (N := some 7) (v := ?_) (a' := ?_) #[true, true, true, false, false, false, false, false, false, false, false, false, false, false, false, false, false, false, false] rfl rfl (any_of HT_.out (by kernel_rfl)) (fun _ _ _ h => h) (Or.inl ⟨by rfl, ?_⟩) ?_ ?_
    rotate_left
    · intro w'
      go_simp
      with_reducible rfl
    rotate_left
    · simp only [Act.put, List.setIfInBounds_toArray, List.set_cons_zero, List.set_cons_succ, i64_w, i32_w]
      rfl
    refine pure_ (i := 3) (N := some 8) (v := ?_) (a' := ?_) #[true, true, true, true, false, false, false, false, false, false, false, false, false, false, false, false, false, false, false] rfl rfl (any_of HT_.out (by kernel_rfl)) (fun _ _ _ h => h) (Or.inl ⟨by rfl, ?_⟩) ?_ ?_
    rotate_left
    · intro w'
      go_simp
      with_reducible rfl
    rotate_left
    · simp only [Act.put, List.setIfInBounds_toArray, List.set_cons_zero, List.set_cons_succ, i64_w, i32_w]
      rfl
    refine pure_ (i := 4) (N := some 9) (v := undef) (a' := ?_) #[true, true, true, true, true, false, false, false, false, false, false, false, false, false, false, false, false, false, false] rfl rfl (any_of HT_.out (by kernel_rfl)) (fun _ _ _ h => h) (Or.inr ⟨by rfl, rfl⟩) ?_ ?_
    rotate_left
    · simp only [Act.put, List.setIfInBounds_toArray, List.set_cons_zero, List.set_cons_succ, i64_w, i32_w]
      rfl
    refine pure_ (i := 5) (N := some 10) (v := undef) (a' := ?_) #[true, true, true, true, true, true, false, false, false, false, false, false, false, false, false, false, false, false, false] rfl rfl (any_of HT_.out (by kernel_rfl)) (fun _ _ _ h => h) (Or.inr ⟨by rfl, rfl⟩) ?_ ?_
    rotate_left
    · simp only [Act.put, List.setIfInBounds_toArray, List.set_cons_zero, List.set_cons_succ, i64_w, i32_w]
      rfl
    refine pure_ (i := 6) (N := some 11) (v := undef) (a' := ?_) #[true, true, true, true, true, true, true, false, false, false, false, false, false, false, false, false, false, false, false] rfl rfl (any_of HT_.out (by kernel_rfl)) (fun _ _ _ h => h) (Or.inr ⟨by rfl, rfl⟩) ?_ ?_
    rotate_left
    · simp only [Act.put, List.setIfInBounds_toArray, List.set_cons_zero, List.set_cons_succ, i64_w, i32_w]
      rfl
    refine pure_ (i := 7) (N := some 12) (v := undef) (a' := ?_) #[true, true, true, true, true, true, true, true, false, false, false, false, false, false, false, false, false, false, false] rfl rfl (any_of HT_.out (by kernel_rfl)) (fun _ _ _ h => h) (Or.inr ⟨by rfl, rfl⟩) ?_ ?_
    rotate_left
    · simp only [Act.put, List.setIfInBounds_toArray, List.set_cons_zero, List.set_cons_succ, i64_w, i32_w]
      rfl
    refine pure_ (i := 8) (N := some 13) (v := undef) (a' := ?_) #[true, true, true, true, true, true, true, true, true, false, false, false, false, false, false, false, false, false, false] rfl rfl (any_of HT_.out (by kernel_rfl)) (fun _ _ _ h => h) (Or.inr ⟨by rfl, rfl⟩) ?_ ?_
    rotate_left
    · simp only [Act.put, List.setIfInBounds_toArray, List.set_cons_zero, List.set_cons_succ, i64_w, i32_w]
      rfl
    refine pure_ (i := 9) (N := some 14) (v := undef) (a' := ?_) #[true, true, true, true, true, true, true, true, true, true, false, false, false, false, false, false, false, false, false] rfl rfl (any_of HT_.out (by kernel_rfl)) (fun _ _ _ h => h) (Or.inr ⟨by rfl, rfl⟩) ?_ ?_
    rotate_left
    · simp only [Act.put, List.setIfInBounds_toArray, List.set_cons_zero, List.set_cons_succ, i64_w, i32_w]
      rfl
    refine pure_ (i := 10) (N := some 15) (v := undef) (a' := ?_) #[true, true, true, true, true, true, true, true, true, true, true, false, false, false, false, false, false, false, false] rfl rfl (any_of HT_.out (by kernel_rfl)) (fun _ _ _ h => h) (Or.inr ⟨by rfl, rfl⟩) ?_ ?_
    rotate_left
    · simp only [Act.put, List.setIfInBounds_toArray, List.set_cons_zero, List.set_cons_succ, i64_w, i32_w]
      rfl
    refine pure_ (i := 11) (N := some 16) (v := undef) (a' := ?_) #[true, true, true, true, true, true, true, true, true, true, true, true, false, false, false, false, false, false, false] rfl rfl (any_of HT_.out (by kernel_rfl)) (fun _ _ _ h => h) (Or.inr ⟨by rfl, rfl⟩) ?_ ?_
    rotate_left
    · simp only [Act.put, List.setIfInBounds_toArray, List.set_cons_zero, List.set_cons_succ, i64_w, i32_w]
      rfl
    refine pure_ (i := 12) (N := some 17) (v := undef) (a' := ?_) #[true, true, true, true, true, true, true, true, true, true, true, true, true, false, false, false, false, false, false] rfl rfl (any_of HT_.out (by kernel_rfl)) (fun _ _ _ h => h) (Or.inr ⟨by rfl, rfl⟩) ?_ ?_
    rotate_left
    · simp only [Act.put, List.setIfInBounds_toArray, List.set_cons_zero, List.set_cons_succ, i64_w, i32_w]
      rfl
    refine pure_ (i := 13) (N := some 18) (v := undef) (a' := ?_) #[true, true, true, true, true, true, true, true, true, true, true, true, true, true, false, false, false, false, false] rfl rfl (any_of HT_.out (by kernel_rfl)) (fun _ _ _ h => h) (Or.inr ⟨by rfl, rfl⟩) ?_ ?_
    rotate_left
    · simp only [Act.put, List.setIfInBounds_toArray, List.set_cons_zero, List.set_cons_succ, i64_w, i32_w]
      rfl
    refine pure_ (i := 14) (N := some 19) (v := undef) (a' := ?_) #[true, true, true, true, true, true, true, true, true, true, true, true, true, true, true, false, false, false, false] rfl rfl (any_of HT_.out (by kernel_rfl)) (fun _ _ _ h => h) (Or.inr ⟨by rfl, rfl⟩) ?_ ?_
    rotate_left
    · simp only [Act.put, List.setIfInBounds_toArray, List.set_cons_zero, List.set_cons_succ, i64_w, i32_w]
      rfl
    refine pure_ (i := 15) (N := some 20) (v := undef) (a' := ?_) #[true, true, true, true, true, true, true, true, true, true, true, true, true, true, true, true, false, false, false] rfl rfl (any_of HT_.out (by kernel_rfl)) (fun _ _ _ h => h) (Or.inr ⟨by rfl, rfl⟩) ?_ ?_
    rotate_left
    · simp only [Act.put, List.setIfInBounds_toArray, List.set_cons_zero, List.set_cons_succ, i64_w, i32_w]
      rfl
    refine pure_ (i := 16) (N := some 21) (v := undef) (a' := ?_) #[true, true, true, true, true, true, true, true, true, true, true, true, true, true, true, true, true, false, false] rfl rfl (any_of HT_.out (by kernel_rfl)) (fun _ _ _ h => h) (Or.inr ⟨by rfl, rfl⟩) ?_ ?_
    rotate_left
    · simp only [Act.put, List.setIfInBounds_toArray, List.set_cons_zero, List.set_cons_succ, i64_w, i32_w]
      rfl
    refine pure_ (i := 17) (N := some 22) (v := ?_) (a' := ?_) #[true, true, true, true, true, true, true, true, true, true, true, true, true, true, true, true, true, true, false] rfl rfl (any_of HT_.out (by kernel_rfl)) (fun _ _ _ h => h) (Or.inl ⟨by rfl, ?_⟩) ?_ ?_
    rotate_left
    · intro w'
      go_simp
      with_reducible rfl
    rotate_left
    · simp only [Act.put, List.setIfInBounds_toArray, List.set_cons_zero, List.set_cons_succ, i64_w, i32_w]
      rfl
    refine pure_ (i := 18) (N := some 4) (v := ?_) (a' := ?_) #[true, true, true, true, true, true, true, true, true, true, true, true, true, true, true, true, true, true, true] rfl rfl (any_of HT_.out (by kernel_rfl)) (fun _ _ _ h => h) (Or.inl ⟨by rfl, ?_⟩) ?_ ?_
    rotate_left
    · intro w'
      go_simp
      with_reducible rfl
    rotate_left
    · simp only [Act.put, List.setIfInBounds_toArray, List.set_cons_zero, List.set_cons_succ, i64_w, i32_w]
      rfl
    refine done_ (done_of HT_.out (by kernel_rfl)) ?_
    try go_wp2
    go_ret
    exact ⟨by first | rfl | (simp [errW_none, errW_some] <;> rfl) | (simp [*, errW_none, errW_some] <;> rfl), by repeat (first | (with_reducible first | exact HB.out | apply below_alloc | apply pw_below_drewN | apply below_drew1 | refine below_set ?_ GE614.out | refine below_set ?_ GE615.out) | exact HB.out)⟩

end Go.Proofs.Ytchaegfdcdlfaaa.X

namespace Go.Proofs.Ytchaegfdcdlfaaa.X
open Go.RowKit Go.Proofs.YtchaegfdcdlfaaaW.PrintWords Go.Proofs.YtchaegfdcdlfaaaW.PrintLast Go.Proofs.YtchaegfdcdlfaaaW.PrintMore
attribute [local go_sem] max2_int min2_int max_two min_two max_three min_three max_four min_four   -- for this text's walks alone
set_option linter.unusedVariables false
set_option linter.unusedSimpArgs false

def stamp_Put.f (k : Nat) (a0_0 : Int) (a0_1 : Int) : Option (List Int × Bool) := (stamp_May.f a0_0 a0_1).bind fun t623 => (if t623 = true then ((wire_Put.f k (Go.bits .or .u64 (IntKind.u64.wrap ((IntKind.u64.wrap (a0_0)) * 8)) (IntKind.u64.wrap (a0_1)))).bind fun t624 => (some (t624, true))) else (some (([] : List Int), false)))
theorem stamp_Put.mono : ∀ a0 a1 k, LeO (stamp_Put.f k a0 a1) (stamp_Put.f (k + 1) a0 a1) := by
  intro a0 a1 k
  unfold stamp_Put.f
  repeat' first
      | (with_reducible exact wire_Put.mono _ _)
      | (with_reducible exact LeO.refl _)
      | (with_reducible exact LeO.none _)
      | (with_reducible refine LeO.ite ?_ ?_)
      | (with_reducible refine LeO.bind ?_ (fun _ => ?_))
      | exact wire_Put.mono _ _
      | exact LeO.none _
      | refine LeO.ite ?_ ?_
      | refine LeO.bind ?_ (fun _ => ?_)
set_option maxHeartbeats 8000000 in
set_option maxRecDepth 100000 in
theorem stamp_Put.calls (k : Nat) (a0_0 : Int) (a0_1 : Int) (r1 : List Int) (r2 : Bool) (w : World) (h : stamp_Put.f k a0_0 a0_1 = some (r1, r2)) :
    Calls Try.prog 104 #[.agg #[.int .i64 a0_0, .int .i64 a0_1]] w fun e w' => ∃ v0_ : Value, e = .returned (.tuple #[v0_, .bool r2]) ∧ Kd.R (Kd.int .u8) 5 w' w.heap.size (fun _ => True) v0_ r1 ∧ Below w.heap.size w w' := by
  have hu96 := Try.underlying96
  have HB := Aside0.mk (Below.refl w.heap.size w)
  have H : ((stamp_May.f a0_0 a0_1).bind fun t623 => (if t623 = true then ((wire_Put.f k (Go.bits .or .u64 (IntKind.u64.wrap ((IntKind.u64.wrap (a0_0)) * 8)) (IntKind.u64.wrap (a0_1)))).bind fun t624 => (some (t624, true))) else (some (([] : List Int), false)))) = some (r1, r2) := h
  clear h
  replace H := Option.bind_eq_some_iff.mp H
  obtain ⟨t623, A20, H⟩ := H
  replace H : (if t623 = true then ((wire_Put.f k (Go.bits .or .u64 (IntKind.u64.wrap ((IntKind.u64.wrap (a0_0)) * 8)) (IntKind.u64.wrap (a0_1)))).bind fun t624 => (some (t624, true))) else (some (([] : List Int), false))) = some (r1, r2) := H
  have A2 := Aside0.mk A20
  clear A20
  by_cases c3 : t623 = true
  · subst c3
    have H1 : ((wire_Put.f k (Go.bits .or .u64 (IntKind.u64.wrap ((IntKind.u64.wrap (a0_0)) * 8)) (IntKind.u64.wrap (a0_1)))).bind fun t624 => (some (t624, true))) = some (r1, r2) := by rw [if_pos rfl] at H; exact H
    clear H
    have H := H1
    clear H1
    replace H := Option.bind_eq_some_iff.mp H
    obtain ⟨t624, A40, H⟩ := H
    replace H : (some (t624, true)) = some (r1, r2) := H
    have A4 := Aside0.mk A40
    clear A40
    simp only [Option.some.injEq, Prod.mk.injEq] at H
    obtain ⟨rfl, rfl⟩ := H
    go_enter Try.func104, Try.ntmps104
    go_wp2_with (first | ((with_reducible refine gate_dst (N := 1) rfl ?_); refine box_event ?hg (N := 1) ?hd (cs := #[.int .i64 a0_0, .int .i64 a0_1]) (t := 96) ?hr ?_; (case hd => rfl); (case hg => rfl); (case hr => first | (go_simp; done) | (go_simp; rfl)); intro gb622 hg w5 hbox hb; have n0_ := Aside0.mk (below_step (by repeat (first | (with_reducible first | exact HB.out | apply below_alloc | apply pw_below_drewN | apply below_drew1) | exact HB.out)) hb); have n1_ := Aside0.mk (hbox); have n2_ := Aside0.mk ((by rw [hg]; exact (below_size (by repeat (first | (with_reducible first | exact HB.out | apply below_alloc | apply pw_below_drewN | apply below_drew1) | exact HB.out))) : w.heap.size ≤ gb622)); have n3_ := Aside0.mk ((by rw [hg]; exact (below_size (by repeat (first | (with_reducible first | exact HB.out | apply below_alloc | apply pw_below_drewN | apply below_drew1) | exact HB.out))) : w.heap.size ≤ gb622)); clear HB; have HB := n0_; have BK622 := n1_; have GW622 := n2_; have GE622 := n3_; clear n0_ n1_ n2_ n3_; clear hb hbox hg; have hcz6_0 : w5.cell? ⟨gb622, 0, none⟩ = some (.int .i64 a0_0) := (blk_cell BK622.out 0).trans rfl; have hcz6_1 : w5.cell? ⟨gb622, 1, none⟩ = some (.int .i64 a0_1) := (blk_cell BK622.out 1).trans rfl; have hfz6_0 := blk_frozen BK622.out 0; have hfz6_1 := blk_frozen BK622.out 1) | ((with_reducible refine gate_callee (f := 149) rfl ?_); refine goesL_ (some 5) rfl rfl Try.func149 (by kernel_rfl) rfl #[.agg #[.int .i64 a0_0, .int .i64 a0_1]] rfl (by (try simp only [List.map_toArray, List.map_cons, List.map_nil]); first | done | rfl | (simp only [List.length_drop, List.length_take]; rfl)) ?_; (with_reducible refine (stamp_May.calls a0_0 a0_1 true _ A2.out).mono ?_); rintro e w7 ⟨rfl, hb⟩; refine ⟨_, rfl, ?_⟩; have n0_ := Aside0.mk (blk_below (g := gb622) (o := .cells #[.int .i64 a0_0, .int .i64 a0_1] 96 (0, 0)) (by (with_reducible repeat (first | refine blk_drewN ?_ _ | refine blk_drew ?_ | refine blk_alloc ?_ _)); exact BK622.out) hb); have n1_ := Aside0.mk (below_step (by repeat (first | (with_reducible first | exact HB.out | apply below_alloc | apply pw_below_drewN | apply below_drew1 | refine below_set ?_ GE622.out) | exact HB.out)) hb); clear BK622; clear HB; have BK622 := n0_; have HB := n1_; clear n0_ n1_; (try clear hb); (try clear hb2); (try clear hk); (try clear hi); have hcz8_0 : w7.cell? ⟨gb622, 0, none⟩ = some (.int .i64 a0_0) := (blk_cell BK622.out 0).trans rfl; have hcz8_1 : w7.cell? ⟨gb622, 1, none⟩ = some (.int .i64 a0_1) := (blk_cell BK622.out 1).trans rfl; have hfz8_0 := blk_frozen BK622.out 0; have hfz8_1 := blk_frozen BK622.out 1) | ((with_reducible refine gate_callee (f := 84) rfl ?_); refine goesL_ (some 15) rfl rfl Try.func84 (by kernel_rfl) rfl #[.int .u64 (Go.bits .or .u64 (IntKind.u64.wrap ((IntKind.u64.wrap (a0_0)) * 8)) (IntKind.u64.wrap (a0_1)))] rfl (by (try simp only [List.map_toArray, List.map_cons, List.map_nil]); first | done | rfl | (simp only [List.length_drop, List.length_take]; rfl)) ?_; (with_reducible refine (wire_Put.calls k (Go.bits .or .u64 (IntKind.u64.wrap ((IntKind.u64.wrap (a0_0)) * 8)) (IntKind.u64.wrap (a0_1))) t624 _ A4.out).mono ?_); rintro e w9 ⟨v625, rfl, ho0, hb⟩; refine ⟨_, rfl, ?_⟩; have n0_ := Aside0.mk (Kd.R_lower ho0 (below_size (by repeat (first | (with_reducible first | exact HB.out | apply below_alloc | apply pw_below_drewN | apply below_drew1 | refine below_set ?_ GE622.out) | exact HB.out)))); have n1_ := Aside0.mk (blk_below (g := gb622) (o := .cells #[.int .i64 a0_0, .int .i64 a0_1] 96 (0, 0)) (by (with_reducible repeat (first | refine blk_drewN ?_ _ | refine blk_drew ?_ | refine blk_alloc ?_ _)); exact BK622.out) hb); have n2_ := Aside0.mk (below_step (by repeat (first | (with_reducible first | exact HB.out | apply below_alloc | apply pw_below_drewN | apply below_drew1 | refine below_set ?_ GE622.out) | exact HB.out)) hb); clear BK622; clear HB; have HO626 := n0_; have BK622 := n1_; have HB := n2_; clear n0_ n1_ n2_; (try clear hb); (try clear hb2); (try clear hk); (try clear hi); (try clear ho0)))
    go_ret2
    exact ⟨_, by first | rfl | (simp [errW_none, errW_some] <;> rfl) | (simp [*, errW_none, errW_some] <;> rfl), by (with_reducible repeat (first | apply Kd.R_alloc | apply Kd.R_drewN | apply Kd.R_drew)); exact HO626.out, by repeat (first | (with_reducible first | exact HB.out | apply below_alloc | apply pw_below_drewN | apply below_drew1 | refine below_set ?_ GE622.out) | exact HB.out)⟩
  · replace c3 := Bool.eq_false_iff.mpr c3
    subst c3
    have H1 : (some (([] : List Int), false)) = some (r1, r2) := by rw [if_neg (show ¬ (false = true) by decide)] at H; exact H
    clear H
    have H := H1
    clear H1
    simp only [Option.some.injEq, Prod.mk.injEq] at H
    obtain ⟨rfl, rfl⟩ := H
    go_enter Try.func104, Try.ntmps104
    go_wp2_with (first | ((with_reducible refine gate_dst (N := 1) rfl ?_); refine box_event ?hg (N := 1) ?hd (cs := #[.int .i64 a0_0, .int .i64 a0_1]) (t := 96) ?hr ?_; (case hd => rfl); (case hg => rfl); (case hr => first | (go_simp; done) | (go_simp; rfl)); intro gb622 hg w10 hbox hb; have n0_ := Aside0.mk (below_step (by repeat (first | (with_reducible first | exact HB.out | apply below_alloc | apply pw_below_drewN | apply below_drew1) | exact HB.out)) hb); have n1_ := Aside0.mk (hbox); have n2_ := Aside0.mk ((by rw [hg]; exact (below_size (by repeat (first | (with_reducible first | exact HB.out | apply below_alloc | apply pw_below_drewN | apply below_drew1) | exact HB.out))) : w.heap.size ≤ gb622)); have n3_ := Aside0.mk ((by rw [hg]; exact (below_size (by repeat (first | (with_reducible first | exact HB.out | apply below_alloc | apply pw_below_drewN | apply below_drew1) | exact HB.out))) : w.heap.size ≤ gb622)); clear HB; have HB := n0_; have BK622 := n1_; have GW622 := n2_; have GE622 := n3_; clear n0_ n1_ n2_ n3_; clear hb hbox hg; have hcz11_0 : w10.cell? ⟨gb622, 0, none⟩ = some (.int .i64 a0_0) := (blk_cell BK622.out 0).trans rfl; have hcz11_1 : w10.cell? ⟨gb622, 1, none⟩ = some (.int .i64 a0_1) := (blk_cell BK622.out 1).trans rfl; have hfz11_0 := blk_frozen BK622.out 0; have hfz11_1 := blk_frozen BK622.out 1) | ((with_reducible refine gate_callee (f := 149) rfl ?_); refine goesL_ (some 5) rfl rfl Try.func149 (by kernel_rfl) rfl #[.agg #[.int .i64 a0_0, .int .i64 a0_1]] rfl (by (try simp only [List.map_toArray, List.map_cons, List.map_nil]); first | done | rfl | (simp only [List.length_drop, List.length_take]; rfl)) ?_; (with_reducible refine (stamp_May.calls a0_0 a0_1 false _ A2.out).mono ?_); rintro e w12 ⟨rfl, hb⟩; refine ⟨_, rfl, ?_⟩; have n0_ := Aside0.mk (blk_below (g := gb622) (o := .cells #[.int .i64 a0_0, .int .i64 a0_1] 96 (0, 0)) (by (with_reducible repeat (first | refine blk_drewN ?_ _ | refine blk_drew ?_ | refine blk_alloc ?_ _)); exact BK622.out) hb); have n1_ := Aside0.mk (below_step (by repeat (first | (with_reducible first | exact HB.out | apply below_alloc | apply pw_below_drewN | apply below_drew1 | refine below_set ?_ GE622.out) | exact HB.out)) hb); clear BK622; clear HB; have BK622 := n0_; have HB := n1_; clear n0_ n1_; (try clear hb); (try clear hb2); (try clear hk); (try clear hi)))
    go_ret2
    exact ⟨_, by first | rfl | (simp [errW_none, errW_some] <;> rfl) | (simp [*, errW_none, errW_some] <;> rfl), by first | exact Kd.R_nil _ _ _ _ _ | exact Kd.N_nil _ _ _ _ _ | exact Kd.V_nil _ _ _ _ _ | exact Kd.Q_nil _ _ _ _ _ | exact Kd.S_nil _ _ _ _ _, by repeat (first | (with_reducible first | exact HB.out | apply below_alloc | apply pw_below_drewN | apply below_drew1 | refine below_set ?_ GE622.out) | exact HB.out)⟩

end Go.Proofs.Ytchaegfdcdlfaaa.X

namespace Go.Proofs.Ytchaegfdcdlfaaa.X
set_option linter.unusedVariables false
set_option linter.unusedSimpArgs false
open Go.Proofs.Ytchaegfdcdlfaaa.Y (put put_range put_length Put_eq wraps_u64)
open Go.RowKit Go.Proofs.YtchaegfdcdlfaaaW.PrintWords Go.Proofs.YtchaegfdcdlfaaaW.PrintLast Go.Proofs.YtchaegfdcdlfaaaW.PrintMore

def stMay (n r : Int) : Bool := (n == 0 && r == 0) || (decide (0 < n) && (decide (n ≤ 1099511627776) && (decide (0 ≤ r) && decide (r < 8))))
def stLess (n r m q : Int) : Bool := decide (n < m ∨ n = m ∧ r < q)
theorem StMay_eq (n r : Int) : stamp_May.f n r = some (stMay n r) := by
  unfold stamp_May.f stMay
  by_cases h : (n == 0 && (r == 0)) = true
  · rw [if_pos h, h, Bool.true_or]
  · rw [if_neg h, Bool.eq_false_iff.2 h, Bool.false_or]
    by_cases h1 : n > 0
    · rw [if_pos h1, decide_eq_true (show 0 < n from h1), Bool.true_and]
      by_cases h2 : n ≤ 1099511627776
      · rw [if_pos h2, decide_eq_true h2, Bool.true_and]
        by_cases h3 : r ≥ 0
        · rw [if_pos h3, decide_eq_true (show 0 ≤ r from h3), Bool.true_and]
        · rw [if_neg h3, decide_eq_false (show ¬ 0 ≤ r from h3), Bool.false_and]
      · rw [if_neg h2, decide_eq_false h2, Bool.false_and]
    · rw [if_neg h1, decide_eq_false (show ¬ 0 < n from h1), Bool.false_and]
theorem Cmp_eq (a b : Int) : cmp_Compare_int.f a b = some (if a < b then -1 else if a > b then 1 else 0) := by
  unfold cmp_Compare_int.f
  have hn : ∀ x, cmp_isNaN_int.f x = some false := fun x => by unfold cmp_isNaN_int.f; simp
  rw [hn, hn]
  simp only [Option.bind_some, Bool.false_eq_true, if_false]
  split
  · rfl
  · split <;> rfl
theorem Or_eq (a b : Int) (k : Nat) (hk : 3 < k) : cmp_Or_int.f k [a, b] = some (if a = 0 then b else a) := by
  obtain ⟨k, rfl⟩ : ∃ k', k = k' + 3 := ⟨k - 3, by omega⟩
  unfold cmp_Or_int.f
  have e0 : rd [a, b] 0 = a := rfl
  have e1 : rd [a, b] 1 = b := rfl
  have w0 : wrap64 ((0 : Int) + 1) = 1 := by unfold wrap64; omega
  have w1 : wrap64 ((1 : Int) + 1) = 2 := by unfold wrap64; omega
  have hl : (([a, b] : List Int).length : Int) = 2 := rfl
  rw [cmp_Or_int.l0, hl, if_pos (by omega), if_pos (by omega), if_pos (by omega), e0]
  by_cases ha : a = 0
  · rw [if_pos ha, w0, if_pos ha, cmp_Or_int.l0, hl, if_pos (by omega), if_pos (by omega), if_pos (by omega), e1]
    by_cases hb : b = 0
    · rw [if_pos hb, w1, cmp_Or_int.l0, if_neg (by omega), hb]
    · rw [if_neg hb]
  · rw [if_neg ha, if_neg ha]
theorem StLess_eq (n r m q : Int) (k : Nat) (hk : 3 < k) : stamp_Less.f k n r m q = some (stLess n r m q) := by
  unfold stamp_Less.f stLess
  rw [Cmp_eq, Cmp_eq]
  simp only [Option.bind_some]
  rw [Or_eq _ _ k hk]
  simp only [Option.bind_some]
  by_cases h : (!(n == m) || (!(r == q))) = true
  · rw [if_pos h]
    congr 1
    apply decide_eq_decide.2
    simp at h
    by_cases h1 : n < m
    · rw [if_pos h1, if_neg (by omega)]; omega
    · rw [if_neg h1]
      by_cases h2 : n > m
      · rw [if_pos h2, if_neg (by omega)]; omega
      · rw [if_neg h2, if_pos rfl]
        by_cases h3 : r < q
        · rw [if_pos h3]; omega
        · rw [if_neg h3]
          split <;> omega
  · rw [if_neg h]
    have h' : n = m ∧ r = q := by
      simp at h
      exact h
    rw [decide_eq_false (by omega)]
def stNum (n r : Int) : Nat := n.toNat * 8 + r.toNat
theorem StPut_eq {n r : Int} (h : stMay n r = true) (k : Nat) (hk : 12 < k) : stamp_Put.f k n r = some (put (stNum n r), true) := by
  unfold stamp_Put.f
  rw [StMay_eq, h, Option.bind_some, if_pos rfl]
  have hb : 0 ≤ n ∧ n ≤ 1099511627776 ∧ 0 ≤ r ∧ r < 8 := by
    unfold stMay at h
    simp at h
    omega
  obtain ⟨a, rfl⟩ := Int.eq_ofNat_of_zero_le hb.1
  obtain ⟨b, rfl⟩ := Int.eq_ofNat_of_zero_le hb.2.2.1
  have e : Go.bits .or .u64 (IntKind.u64.wrap ((IntKind.u64.wrap (a : Int)) * 8)) (IntKind.u64.wrap (b : Int)) = ((a * 8 + b : Nat) : Int) := by
    rw [wraps_u64 (a : Int) (by omega) (by omega), wraps_u64 ((a : Int) * 8) (by omega) (by omega), wraps_u64 (b : Int) (by omega) (by omega)]
    rw [bits_join .u64 64 (by decide) wraps_u64 3 _ _ (by omega) (by omega) (by omega) (by omega) (by omega) (by omega)]
    omega
  rw [e, Put_eq _ (by omega) k hk, Option.bind_some]
  unfold stNum
  rw [Int.toNat_natCast, Int.toNat_natCast]
end Go.Proofs.Ytchaegfdcdlfaaa.X

namespace Go.Proofs.Ytchaegfdcdlfaaa.X
set_option linter.unusedVariables false
set_option linter.unusedSimpArgs false
open Go.RowKit Go.Proofs.YtchaegfdcdlfaaaW.PrintWords Go.Proofs.YtchaegfdcdlfaaaW.PrintLast Go.Proofs.YtchaegfdcdlfaaaW.PrintMore

def begunL : List Int := [1779033703, 3144134277, 1013904242, 2773480762, 1359893119, 2600822924, 528734635, 1541459225]
def rootsL : List Int := [1116352408, 1899447441, 3049323471, 3921009573, 961987163, 1508970993, 2453635748, 2870763221, 3624381080, 310598401, 607225278, 1426881987, 1925078388, 2162078206, 2614888103, 3248222580, 3835390401, 4022224774, 264347078, 604807628, 770255983, 1249150122, 1555081692, 1996064986, 2554220882, 2821834349, 2952996808, 3210313671, 3336571891, 3584528711, 113926993, 338241895, 666307205, 773529912, 1294757372, 1396182291, 1695183700, 1986661051, 2177026350, 2456956037, 2730485921, 2820302411, 3259730800, 3345764771, 3516065817, 3600352804, 4094571909, 275423344, 430227734, 506948616, 659060556, 883997877, 958139571, 1322822218, 1537002063, 1747873779, 1955562222, 2024104815, 2227730452, 2361852424, 2428436474, 2756734187, 3204031479, 3329325298]
def wordsV (l : List Int) : Value := .agg (l.map (Value.int .u32)).toArray

def rootsA : Array Value := (rootsL.map (Value.int .u32)).toArray
theorem results_one {P : Program} {fn : Func} {p : Tmp} {ty : TypeId} (h : fn.results = #[.cell p ty]) (tmps : Array Value) (w : World) :
    (results fn tmps).run P w = ((asAddr (tmps.getD p undef)).run P w).andThen fun a w₁ => (loadVar ty a).run P w₁ := by
  simp only [results, h]
  simp [Sem.run_bind, Result.andThen]
theorem setRow_alloc (w : World) (old cs : Array Value) (t : TypeId) : (w.alloc (.cells old t (0, 0))).setRow w.heap.size cs = w.alloc (.cells cs t (0, 0)) := by
  unfold World.setRow World.alloc
  congr 1
  apply Array.ext
  · simp
  · intro k h1 h2
    simp only [Array.getElem_modify, Array.getElem_push]
    simp at h1
    by_cases hk : k < w.heap.size
    · rw [if_neg (by omega), dif_pos hk, dif_pos hk]
    · rw [if_pos (by omega), dif_neg hk, dif_neg hk]
theorem store_new (w : World) (old cs : Array Value) (t : TypeId) (hs : old.size = cs.size) (h1 : cs.all (·.oneCell') = true) :
    (storeCells ⟨w.heap.size, 0, none⟩ cs.toList).run Try.prog (w.alloc (.cells old t (0, 0))) = .ok () (w.alloc (.cells cs t (0, 0))) := by
  have := run_storeCells_from (P := Try.prog) w.heap.size t cs.toList 0 old (w.alloc (.cells old t (0, 0))) (by show (w.heap.push _)[w.heap.size]? = _; simp) (by simp; omega) (fun v hv => (Array.all_eq_true_iff_forall_mem.1 h1) v (by simpa using hv))
  simp only [List.take_zero, List.nil_append, Array.toArray_toList] at this
  rw [setRow_alloc] at this
  exact this
set_option maxHeartbeats 1000000 in
set_option maxRecDepth 100000 in
theorem roots_call (w : World) : Calls Try.prog 138 #[] w fun e w' => e = .returned (.agg rootsA) ∧ Below w.heap.size w w' := by
  have hst := store_new w #[.int .u32 0, .int .u32 0, .int .u32 0, .int .u32 0, .int .u32 0, .int .u32 0, .int .u32 0, .int .u32 0, .int .u32 0, .int .u32 0, .int .u32 0, .int .u32 0, .int .u32 0, .int .u32 0, .int .u32 0, .int .u32 0, .int .u32 0, .int .u32 0, .int .u32 0, .int .u32 0, .int .u32 0, .int .u32 0, .int .u32 0, .int .u32 0, .int .u32 0, .int .u32 0, .int .u32 0, .int .u32 0, .int .u32 0, .int .u32 0, .int .u32 0, .int .u32 0, .int .u32 0, .int .u32 0, .int .u32 0, .int .u32 0, .int .u32 0, .int .u32 0, .int .u32 0, .int .u32 0, .int .u32 0, .int .u32 0, .int .u32 0, .int .u32 0, .int .u32 0, .int .u32 0, .int .u32 0, .int .u32 0, .int .u32 0, .int .u32 0, .int .u32 0, .int .u32 0, .int .u32 0, .int .u32 0, .int .u32 0, .int .u32 0, .int .u32 0, .int .u32 0, .int .u32 0, .int .u32 0, .int .u32 0, .int .u32 0, .int .u32 0, .int .u32 0] rootsA 189 (by kernel_rfl) (by kernel_rfl)
  go_enter Try.func138, Try.ntmps138
  go_wp2_with (first
    | ((with_reducible refine gate_dst (N := 1) rfl ?_); refine wpList_build rfl 189 _ rfl (by kernel_rfl) ?_; generalize hX : (Program.built _ _ _).getD #[] = X; obtain rfl : X = rootsA := hX.symm.trans (by kernel_rfl); clear hX)
    | fail)
  go_wp2_with fail
  refine bodyPost_ret (v := .agg rootsA) ?_ rfl ⟨rfl, ?_⟩
  · have hl := run_loadVar_row (P := Try.prog) (w.alloc (.cells rootsA 189)) w.heap.size 189 189 rootsA (0, 0) _ (by show (w.heap.push _)[w.heap.size]? = _; simp) (by rfl) (by kernel_rfl) (by kernel_rfl)
    rw [results_one (P := Try.prog) Try.results138]
    exact hl
  · exact below_alloc (Below.refl _ _) _

set_option maxHeartbeats 4000000 in
set_option maxRecDepth 100000 in
theorem begun_call (w : World) : Calls Try.prog 137 #[] w fun e w' => e = .returned (wordsV begunL) ∧ Below w.heap.size w w' := by
  go_enter Try.func137, Try.ntmps137
  go_wp2_with fail
  refine bodyPost_ret (v := wordsV begunL) ?_ rfl ⟨rfl, ?_⟩
  · simp [results, Try.results137, go_sem, wordsV, begunL]
  · exact below_alloc (Below.refl _ _) _

end Go.Proofs.Ytchaegfdcdlfaaa.X

namespace Go.Proofs.Ytchaegfdcdlfaaa.X
open Go.RowKit Go.Proofs.YtchaegfdcdlfaaaW.PrintWords Go.Proofs.YtchaegfdcdlfaaaW.PrintLast Go.Proofs.YtchaegfdcdlfaaaW.PrintMore
attribute [local go_sem] max2_int min2_int max_two min_two max_three min_three max_four min_four   -- for this text's walks alone
set_option linter.unusedVariables false
set_option linter.unusedSimpArgs false

def bits_RotateLeft32.f (a0 : Int) (a1 : Int) : Option (Int) := if 0 ≤ (Go.bits .and .u64 (IntKind.u64.wrap (a1)) 31) then (if 0 ≤ (IntKind.u64.wrap (32 - (Go.bits .and .u64 (IntKind.u64.wrap (a1)) 31))) then (some (Go.bits .or .u32 (shl .u32 a0 (Go.bits .and .u64 (IntKind.u64.wrap (a1)) 31)) (shr .u32 a0 (IntKind.u64.wrap (32 - (Go.bits .and .u64 (IntKind.u64.wrap (a1)) 31)))))) else (none)) else (none)
set_option maxHeartbeats 8000000 in
set_option maxRecDepth 100000 in
theorem bits_RotateLeft32.calls (a0 : Int) (a1 : Int) (r : Int) (w : World) (h : bits_RotateLeft32.f a0 a1 = some r) :
    Calls Try.prog 181 #[.int .u32 a0, .int .i64 a1] w fun e w' => e = .returned (.int .u32 r) ∧ Drawn0 w w' := by
  have H : (if 0 ≤ (Go.bits .and .u64 (IntKind.u64.wrap (a1)) 31) then (if 0 ≤ (IntKind.u64.wrap (32 - (Go.bits .and .u64 (IntKind.u64.wrap (a1)) 31))) then (some (Go.bits .or .u32 (shl .u32 a0 (Go.bits .and .u64 (IntKind.u64.wrap (a1)) 31)) (shr .u32 a0 (IntKind.u64.wrap (32 - (Go.bits .and .u64 (IntKind.u64.wrap (a1)) 31)))))) else (none)) else (none)) = some r := h
  clear h
  obtain ⟨ji3, hji3⟩ : ∃ j_ : Int, (Go.bits .and .u64 (IntKind.u64.wrap (a1)) 31) = j_ := ⟨_, rfl⟩
  replace H : (if 0 ≤ (ji3) then (if 0 ≤ (IntKind.u64.wrap (32 - (ji3))) then (some (Go.bits .or .u32 (shl .u32 a0 (ji3)) (shr .u32 a0 (IntKind.u64.wrap (32 - (ji3)))))) else (none)) else (none)) = some r := by first | (rw [hji3] at H; exact H) | (simp only [hji3] at H ⊢; exact H)
  by_cases c4 : 0 ≤ (ji3)
  · rw [if_pos c4] at H
    have c4b0 := eq_true c4
    have c4b1 : decide (0 ≤ (ji3)) = true := decide_eq_true c4
    clear c4
    obtain ⟨ji5, hji5⟩ : ∃ j_ : Int, (shl .u32 a0 (ji3)) = j_ := ⟨_, rfl⟩
    replace H : (if 0 ≤ (IntKind.u64.wrap (32 - (ji3))) then (some (Go.bits .or .u32 (ji5) (shr .u32 a0 (IntKind.u64.wrap (32 - (ji3)))))) else (none)) = some r := by first | (rw [hji5] at H; exact H) | (simp only [hji5] at H ⊢; exact H)
    have hji5_ : (IntKind.u32.wrap (a0 * 2 ^ min (ji3).toNat 32)) = ji5 := hji5
    have hji5z : (ji3) ≤ 32 → (IntKind.u32.wrap (a0 * 2 ^ (ji3).toNat)) = ji5 := shl_small hji5
    obtain ⟨ji6, hji6⟩ : ∃ j_ : Int, (IntKind.u64.wrap (32 - (ji3))) = j_ := ⟨_, rfl⟩
    replace H : (if 0 ≤ (ji6) then (some (Go.bits .or .u32 (ji5) (shr .u32 a0 (ji6)))) else (none)) = some r := by first | (rw [hji6] at H; exact H) | (simp only [hji6] at H ⊢; exact H)
    by_cases c7 : 0 ≤ (ji6)
    · rw [if_pos c7] at H
      have c7b0 := eq_true c7
      have c7b1 : decide (0 ≤ (ji6)) = true := decide_eq_true c7
      clear c7
      obtain ⟨ji8, hji8⟩ : ∃ j_ : Int, (shr .u32 a0 (ji6)) = j_ := ⟨_, rfl⟩
      replace H : (some (Go.bits .or .u32 (ji5) (ji8))) = some r := by first | (rw [hji8] at H; exact H) | (simp only [hji8] at H ⊢; exact H)
      have hji8_ : (a0 / 2 ^ min (ji6).toNat 32) = ji8 := hji8
      have hji8z : (ji6) ≤ 32 → (a0 / 2 ^ (ji6).toNat) = ji8 := shr_small hji8
      obtain rfl := Option.some.inj H
      go_enter Try.func181, Try.ntmps181
      go_wp2
      go_ret
      exact ⟨by first | rfl | (simp; done) | (simp only [← hji3, ← hji5, ← hji6, ← hji8] <;> (first | rfl | simp)) | (simp [*]; done), by repeat (first | exact Drawn0.refl _ | apply Drawn0.step)⟩
    · rw [if_neg c7] at H
      exact absurd H (by simp)
  · rw [if_neg c4] at H
    exact absurd H (by simp)

end Go.Proofs.Ytchaegfdcdlfaaa.X

namespace Go.Proofs.Ytchaegfdcdlfaaa.X
open Go.RowKit Go.Proofs.YtchaegfdcdlfaaaW.PrintWords Go.Proofs.YtchaegfdcdlfaaaW.PrintLast Go.Proofs.YtchaegfdcdlfaaaW.PrintMore
attribute [local go_sem] max2_int min2_int max_two min_two max_three min_three max_four min_four   -- for this text's walks alone
set_option linter.unusedVariables false
set_option linter.unusedSimpArgs false

def sha_right.f (a0 : Int) (a1 : Int) : Option (Int) := (bits_RotateLeft32.f a0 (wrap64 (-a1))).bind fun t105 => (some t105)
set_option maxHeartbeats 8000000 in
set_option maxRecDepth 100000 in
theorem sha_right.calls (a0 : Int) (a1 : Int) (r : Int) (w : World) (h : sha_right.f a0 a1 = some r) :
    Calls Try.prog 169 #[.int .u32 a0, .int .i64 a1] w fun e w' => e = .returned (.int .u32 r) ∧ Drawn0 w w' := by
  have H : ((bits_RotateLeft32.f a0 (wrap64 (-a1))).bind fun t105 => (some t105)) = some r := h
  clear h
  replace H := Option.bind_eq_some_iff.mp H
  obtain ⟨t105, A30, H⟩ := H
  replace H : (some t105) = some r := H
  have A3 := Aside0.mk A30
  clear A30
  obtain rfl := Option.some.inj H
  go_enter Try.func169, Try.ntmps169
  go_wp2_with (first | ((with_reducible refine gate_callee (f := 181) rfl ?_); refine goesL_ (some 8) rfl rfl Try.func181 (by kernel_rfl) rfl #[.int .u32 a0, .int .i64 (wrap64 (-a1))] rfl (by (try simp only [List.map_toArray, List.map_cons, List.map_nil]); first | done | rfl | (simp only [List.length_drop, List.length_take]; rfl)) ?_; (with_reducible refine (bits_RotateLeft32.calls a0 (wrap64 (-a1)) t105 _ A3.out).mono ?_); rintro e w' ⟨rfl, ⟨nd, rfl⟩⟩; refine ⟨_, rfl, ?_⟩))
  go_ret
  exact ⟨by first | rfl | (simp; done) | (simp [*]; done), by repeat (first | exact Drawn0.refl _ | apply Drawn0.step)⟩

end Go.Proofs.Ytchaegfdcdlfaaa.X

namespace Go.Proofs.Ytchaegfdcdlfaaa.X
set_option linter.unusedVariables false
set_option linter.unusedSimpArgs false
open Go.RowKit Go.Proofs.YtchaegfdcdlfaaaW.PrintWords Go.Proofs.YtchaegfdcdlfaaaW.PrintLast Go.Proofs.YtchaegfdcdlfaaaW.PrintMore

def rotr (x n : Int) : Int := Go.bits .or .u32 (shl .u32 x (32 - n)) (shr .u32 x n)
theorem right_2 (x : Int) : sha_right.f x 2 = some (rotr x 2) := by
  unfold sha_right.f bits_RotateLeft32.f rotr
  have h1 : Go.bits .and .u64 (IntKind.u64.wrap (wrap64 (-2))) 31 = 30 := by decide +kernel
  have h2 : IntKind.u64.wrap (32 - 30) = 2 := by decide +kernel
  rw [h1, h2, if_pos (by decide), if_pos (by decide)]
  rfl
theorem right_6 (x : Int) : sha_right.f x 6 = some (rotr x 6) := by
  unfold sha_right.f bits_RotateLeft32.f rotr
  have h1 : Go.bits .and .u64 (IntKind.u64.wrap (wrap64 (-6))) 31 = 26 := by decide +kernel
  have h2 : IntKind.u64.wrap (32 - 26) = 6 := by decide +kernel
  rw [h1, h2, if_pos (by decide), if_pos (by decide)]
  rfl
theorem right_7 (x : Int) : sha_right.f x 7 = some (rotr x 7) := by
  unfold sha_right.f bits_RotateLeft32.f rotr
  have h1 : Go.bits .and .u64 (IntKind.u64.wrap (wrap64 (-7))) 31 = 25 := by decide +kernel
  have h2 : IntKind.u64.wrap (32 - 25) = 7 := by decide +kernel
  rw [h1, h2, if_pos (by decide), if_pos (by decide)]
  rfl
theorem right_11 (x : Int) : sha_right.f x 11 = some (rotr x 11) := by
  unfold sha_right.f bits_RotateLeft32.f rotr
  have h1 : Go.bits .and .u64 (IntKind.u64.wrap (wrap64 (-11))) 31 = 21 := by decide +kernel
  have h2 : IntKind.u64.wrap (32 - 21) = 11 := by decide +kernel
  rw [h1, h2, if_pos (by decide), if_pos (by decide)]
  rfl
theorem right_13 (x : Int) : sha_right.f x 13 = some (rotr x 13) := by
  unfold sha_right.f bits_RotateLeft32.f rotr
  have h1 : Go.bits .and .u64 (IntKind.u64.wrap (wrap64 (-13))) 31 = 19 := by decide +kernel
  have h2 : IntKind.u64.wrap (32 - 19) = 13 := by decide +kernel
  rw [h1, h2, if_pos (by decide), if_pos (by decide)]
  rfl
theorem right_17 (x : Int) : sha_right.f x 17 = some (rotr x 17) := by
  unfold sha_right.f bits_RotateLeft32.f rotr
  have h1 : Go.bits .and .u64 (IntKind.u64.wrap (wrap64 (-17))) 31 = 15 := by decide +kernel
  have h2 : IntKind.u64.wrap (32 - 15) = 17 := by decide +kernel
  rw [h1, h2, if_pos (by decide), if_pos (by decide)]
  rfl
theorem right_18 (x : Int) : sha_right.f x 18 = some (rotr x 18) := by
  unfold sha_right.f bits_RotateLeft32.f rotr
  have h1 : Go.bits .and .u64 (IntKind.u64.wrap (wrap64 (-18))) 31 = 14 := by decide +kernel
  have h2 : IntKind.u64.wrap (32 - 14) = 18 := by decide +kernel
  rw [h1, h2, if_pos (by decide), if_pos (by decide)]
  rfl
theorem right_19 (x : Int) : sha_right.f x 19 = some (rotr x 19) := by
  unfold sha_right.f bits_RotateLeft32.f rotr
  have h1 : Go.bits .and .u64 (IntKind.u64.wrap (wrap64 (-19))) 31 = 13 := by decide +kernel
  have h2 : IntKind.u64.wrap (32 - 13) = 19 := by decide +kernel
  rw [h1, h2, if_pos (by decide), if_pos (by decide)]
  rfl
theorem right_22 (x : Int) : sha_right.f x 22 = some (rotr x 22) := by
  unfold sha_right.f bits_RotateLeft32.f rotr
  have h1 : Go.bits .and .u64 (IntKind.u64.wrap (wrap64 (-22))) 31 = 10 := by decide +kernel
  have h2 : IntKind.u64.wrap (32 - 10) = 22 := by decide +kernel
  rw [h1, h2, if_pos (by decide), if_pos (by decide)]
  rfl
theorem right_25 (x : Int) : sha_right.f x 25 = some (rotr x 25) := by
  unfold sha_right.f bits_RotateLeft32.f rotr
  have h1 : Go.bits .and .u64 (IntKind.u64.wrap (wrap64 (-25))) 31 = 7 := by decide +kernel
  have h2 : IntKind.u64.wrap (32 - 7) = 25 := by decide +kernel
  rw [h1, h2, if_pos (by decide), if_pos (by decide)]
  rfl
end Go.Proofs.Ytchaegfdcdlfaaa.X

namespace Go.Proofs.Ytchaegfdcdlfaaa.X
set_option linter.unusedVariables false
set_option linter.unusedSimpArgs false
open Go.RowKit Go.Proofs.YtchaegfdcdlfaaaW.PrintWords Go.Proofs.YtchaegfdcdlfaaaW.PrintLast Go.Proofs.YtchaegfdcdlfaaaW.PrintMore

def Blk (w : World) (g : Nat) (t : TypeId) (xs : List Int) : Prop := w.heap[g]? = some (.cells (xs.map (Value.int .u32)).toArray t (0, 0))
theorem Blk.cell {w : World} {g : Nat} {t : TypeId} {xs : List Int} (h : Blk w g t xs) {i : Nat} (hi : i < xs.length) : w.cell? ⟨g, i, none⟩ = some (.int .u32 (xs.getD i 0)) := by
  rw [cell_of_row w g i _ t (0, 0) h]
  simp [hi]
theorem Blk.set {w : World} {g : Nat} {t : TypeId} {xs : List Int} (h : Blk w g t xs) (i : Nat) (v : Int) : Blk (w.setCell ⟨g, i, none⟩ (.int .u32 v)) g t (xs.set i v) := by
  rw [setCell_eq_setRow w g i _ t (0, 0) _ h]
  unfold Blk
  rw [setRow_heap w g _ _ t (0, 0) h]
  congr 2
  simp [List.map_set]

def be4 (l : List Int) (i : Nat) : Int :=
  bits BinOp.or IntKind.u32 (bits BinOp.or IntKind.u32 (bits BinOp.or IntKind.u32 (rd l (4 * (i : Int)) % 4294967296 * 16777216 % 4294967296) (rd l (4 * (i : Int) + 1) % 4294967296 * 65536 % 4294967296))
    (rd l (4 * (i : Int) + 2) % 4294967296 * 256 % 4294967296)) (rd l (4 * (i : Int) + 3) % 4294967296)
theorem Blk.cell_set {w : World} {g : Nat} {t : TypeId} {xs : List Int} (h : Blk w g t xs) {i z : Nat} {v : Int} (hz : z < xs.length) (hne : i ≠ z) : (w.setCell ⟨g, i, none⟩ (.int .u32 v)).cell? ⟨g, z, none⟩ = some (.int .u32 (xs.getD z 0)) := by
  rw [(h.set i v).cell (by simpa using hz)]
  simp [List.getElem?_set_ne hne]
theorem Blk.drewN {w : World} {g : Nat} {t : TypeId} {xs : List Int} (h : Blk w g t xs) (n : Nat) : Blk (w.drewN n) g t xs := h
theorem Blk.drew {w : World} {g : Nat} {t : TypeId} {xs : List Int} (h : Blk w g t xs) : Blk w.drew g t xs := h
def mix0 (x : Int) : Int := bits .xor .u32 (bits .xor .u32 (rotr x 7) (rotr x 18)) (x / 8)
def mix1 (y : Int) : Int := bits .xor .u32 (bits .xor .u32 (rotr y 17) (rotr y 19)) (y / 1024)
def later (xs : List Int) (i : Nat) : Int :=
  (xs.getD (i - 16) 0 + xs.getD (i - 7) 0 + mix0 (xs.getD (i - 15) 0) + mix1 (xs.getD (i - 2) 0)) % 4294967296
def schedAt (l : List Int) : Nat → List Int
  | 0 => List.replicate 64 0
  | i + 1 => (schedAt l i).set i (if i < 16 then be4 l i else later (schedAt l i) i)
theorem schedAt_length (l : List Int) : ∀ i, (schedAt l i).length = 64
  | 0 => by simp [schedAt]
  | i + 1 => by simp [schedAt, schedAt_length l i]
theorem Blk.free {w : World} {g : Nat} {t : TypeId} {xs : List Int} (h : Blk w g t xs) (i : Nat) : w.frozen? ⟨g, i, none⟩ = false := by
  unfold Blk at h
  simp [World.frozen?, h]

set_option maxHeartbeats 1000000 in
set_option maxRecDepth 100000 in
theorem sched_call (A : Option Addr) (c : Nat) (l : List Int) (w : World) (hr : Kd.C (Kd.int .u8) w A l.length l) (hc : 64 ≤ c) (hlen : l.length = 64) :
    Calls Try.prog 168 #[.slice A 64 c] w fun e w' => e = .returned (.agg ((schedAt l 64).map (Value.int .u32)).toArray) ∧ Below w.heap.size w w' := by
  have HR := Aside0.mk hr
  have HL64 : Aside0 (l.length = 64) := ⟨hlen⟩
  clear hr hlen
  go_enter Try.func168, Try.ntmps168
  go_wp2_with fail
  go_loopg [7] 64 (fun k v7 w' => ∃ (i : Nat), v7 = .int .i64 (i : Int) ∧ Aside0 (k = 64 - i ∧ i ≤ 64) ∧ Aside0 (Blk w' (w.heap.size + 1) 189 (schedAt l i)) ∧ Aside0 (Blk w' w.heap.size 189 (List.replicate 64 0)) ∧ Aside0 (Below w.heap.size w w'))
  case atStart =>
    refine ⟨0, rfl, ⟨by omega, by omega⟩, ⟨?_⟩, ⟨?_⟩, ⟨?_⟩⟩
    · exact heap_alloc2_new w _ _
    · exact heap_alloc2_old w _ _
    · exact below_alloc (below_alloc (Below.refl _ _) _) _
  case round =>
    obtain ⟨i, rfl, HI, HB, HZ, HL⟩ := hrel
    by_cases hi : i < 64
    · have d1 : decide (i < 64) = true := decide_eq_true hi
      have d2 : decide ((i : Int) < 64) = true := decide_eq_true (by omega)
      by_cases h16 : i < 16
      · have d3 : decide (i < 16) = true := decide_eq_true h16
        have d4 : decide ((i : Int) < 16) = true := decide_eq_true (by omega)
        obtain ⟨z0, h0⟩ : ∃ z : Int, z = 4 * (i : Int) := ⟨_, rfl⟩
        have M0 : Aside0 (IntKind.i64.wrap (4 * (i : Int)) = z0) := by refine ⟨?_⟩; rw [i64_w, h0]; unfold wrap64; omega
        obtain ⟨z1, h1⟩ : ∃ z : Int, z = z0 + 1 := ⟨_, rfl⟩
        have M1 : Aside0 (IntKind.i64.wrap (z0 + 1) = z1) := by refine ⟨?_⟩; rw [i64_w, h1, h0]; unfold wrap64; omega
        obtain ⟨z2, h2⟩ : ∃ z : Int, z = z0 + 2 := ⟨_, rfl⟩
        have M2 : Aside0 (IntKind.i64.wrap (z0 + 2) = z2) := by refine ⟨?_⟩; rw [i64_w, h2, h0]; unfold wrap64; omega
        obtain ⟨z3, h3⟩ : ∃ z : Int, z = z0 + 3 := ⟨_, rfl⟩
        have M3 : Aside0 (IntKind.i64.wrap (z0 + 3) = z3) := by refine ⟨?_⟩; rw [i64_w, h3, h0]; unfold wrap64; omega
        obtain ⟨ad0, e0, x0⟩ := Kd.at_int HR.out z0 (by omega) (by rw [HL64.out]; omega)
        cases e0
        replace x0 := (HL.out.cell (World.block_lt_of_cell? w _ x0)).trans x0
        obtain ⟨b0, hb0⟩ : ∃ b, b = rd l z0 := ⟨_, rfl⟩
        rw [← hb0] at x0
        have p0 : (0 ≤ z0) = True := eq_true (by omega)
        have q0 : (z0 < 64) = True := eq_true (by omega)
        obtain ⟨ad1, e1, x1⟩ := Kd.at_int HR.out z1 (by omega) (by rw [HL64.out]; omega)
        obtain rfl : ad0 = ad1 := (by injection e1)
        replace x1 := (HL.out.cell (World.block_lt_of_cell? w _ x1)).trans x1
        obtain ⟨b1, hb1⟩ : ∃ b, b = rd l z1 := ⟨_, rfl⟩
        rw [← hb1] at x1
        have p1 : (0 ≤ z1) = True := eq_true (by omega)
        have q1 : (z1 < 64) = True := eq_true (by omega)
        obtain ⟨ad2, e2, x2⟩ := Kd.at_int HR.out z2 (by omega) (by rw [HL64.out]; omega)
        obtain rfl : ad0 = ad2 := (by injection e2)
        replace x2 := (HL.out.cell (World.block_lt_of_cell? w _ x2)).trans x2
        obtain ⟨b2, hb2⟩ : ∃ b, b = rd l z2 := ⟨_, rfl⟩
        rw [← hb2] at x2
        have p2 : (0 ≤ z2) = True := eq_true (by omega)
        have q2 : (z2 < 64) = True := eq_true (by omega)
        obtain ⟨ad3, e3, x3⟩ := Kd.at_int HR.out z3 (by omega) (by rw [HL64.out]; omega)
        obtain rfl : ad0 = ad3 := (by injection e3)
        replace x3 := (HL.out.cell (World.block_lt_of_cell? w _ x3)).trans x3
        obtain ⟨b3, hb3⟩ : ∃ b, b = rd l z3 := ⟨_, rfl⟩
        rw [← hb3] at x3
        have p3 : (0 ≤ z3) = True := eq_true (by omega)
        have q3 : (z3 < 64) = True := eq_true (by omega)
        have m0 := M0.out
        have m1 := M1.out
        have m2 := M2.out
        have m3 := M3.out
        have HE : Aside0 (bits BinOp.or IntKind.u32 (bits BinOp.or IntKind.u32 (bits BinOp.or IntKind.u32 (b0 % 4294967296 * 16777216 % 4294967296) (b1 % 4294967296 * 65536 % 4294967296)) (b2 % 4294967296 * 256 % 4294967296)) (b3 % 4294967296) = be4 l i) := ⟨by
          rw [hb0, hb1, hb2, hb3, h1, h2, h3, h0]; rfl⟩
        clear h0 h1 h2 h3 M0 M1 M2 M3 hb0 hb1 hb2 hb3
        have hwr : IntKind.i64.wrap ((i : Int) + 1) = ((i + 1 : Nat) : Int) := by rw [i64_w]; unfold wrap64; omega
        have pi : (0 ≤ (i : Int)) = True := eq_true (by omega)
        have qi : ((i : Int) < 64) = True := eq_true (by omega)
        have y1 : wr.drew.cell? ⟨w.heap.size + 1, i, none⟩ = _ := HB.out.cell (i := i) (by rw [schedAt_length]; omega)
        have y2 : wr.drew.frozen? ⟨w.heap.size + 1, i, none⟩ = false := HB.out.free i
        have y1' : wr.cell? ⟨w.heap.size + 1, i, none⟩ = _ := HB.out.cell (i := i) (by rw [schedAt_length]; omega)
        have y2' : wr.frozen? ⟨w.heap.size + 1, i, none⟩ = false := HB.out.free i
        go_wp2_with fail
        go_still_tail 35, (by kernel_rfl)
        go_wp2_with fail
        go_roundg (64 - (i + 1))
        case measure => have := HI.out; omega
        case rel =>
          refine ⟨i + 1, by simp, ⟨rfl, by omega⟩, ⟨?_⟩, ⟨?_⟩, ⟨?_⟩⟩
          · have := HB.out.set i (be4 l i)
            rw [HE.out]
            simp only [schedAt, if_pos h16]
            exact this
          · unfold Blk
            rw [heap_drew, heap_setCell_other _ _ _ _ (by simp)]
            exact HZ.out
          · exact below_drew (below_set HL.out (by omega))
      · have d3 : decide (i < 16) = false := decide_eq_false h16
        have d4 : decide ((i : Int) < 16) = false := decide_eq_false (by omega)
        obtain ⟨z16, h16'⟩ : ∃ z : Nat, z = i - 16 := ⟨_, rfl⟩
        obtain ⟨z7, h7⟩ : ∃ z : Nat, z = i - 7 := ⟨_, rfl⟩
        have m16 : IntKind.i64.wrap ((i : Int) - 16) = (z16 : Int) := by rw [i64_w, h16']; unfold wrap64; omega
        have m7 : IntKind.i64.wrap ((i : Int) - 7) = (z7 : Int) := by rw [i64_w, h7]; unfold wrap64; omega
        have p16 : ((z16 : Int) < 64) = True := eq_true (by omega)
        have p7 : ((z7 : Int) < 64) = True := eq_true (by omega)
        have n16 : (z16 < 64) = True := eq_true (by omega)
        have n7 : (z7 < 64) = True := eq_true (by omega)
        have pi : (0 ≤ (i : Int)) = True := eq_true (by omega)
        have qi : ((i : Int) < 64) = True := eq_true (by omega)
        have hwr : IntKind.i64.wrap ((i : Int) + 1) = ((i + 1 : Nat) : Int) := by rw [i64_w]; unfold wrap64; omega
        have H16 := Aside0.mk h16'
        have H7 := Aside0.mk h7
        clear h16' h7
        obtain ⟨z15, h15⟩ : ∃ z : Nat, z = i - 15 := ⟨_, rfl⟩
        obtain ⟨z2, h2⟩ : ∃ z : Nat, z = i - 2 := ⟨_, rfl⟩
        have m15 : IntKind.i64.wrap ((i : Int) - 15) = (z15 : Int) := by rw [i64_w, h15]; unfold wrap64; omega
        have m2 : IntKind.i64.wrap ((i : Int) - 2) = (z2 : Int) := by rw [i64_w, h2]; unfold wrap64; omega
        have p15 : ((z15 : Int) < 64) = True := eq_true (by omega)
        have p2 : ((z2 : Int) < 64) = True := eq_true (by omega)
        have n15 : (z15 < 64) = True := eq_true (by omega)
        have n2 : (z2 < 64) = True := eq_true (by omega)
        have y15 : wr.drew.cell? ⟨w.heap.size + 1, z15, none⟩ = _ := HB.out.cell (i := z15) (by rw [schedAt_length]; omega)
        have y2 : wr.drew.cell? ⟨w.heap.size + 1, z2, none⟩ = _ := HB.out.cell (i := z2) (by rw [schedAt_length]; omega)
        have x15 : wr.cell? ⟨w.heap.size + 1, z15, none⟩ = _ := HB.out.cell (i := z15) (by rw [schedAt_length]; omega)
        have x2 : wr.cell? ⟨w.heap.size + 1, z2, none⟩ = _ := HB.out.cell (i := z2) (by rw [schedAt_length]; omega)
        have H15 := Aside0.mk h15
        have H2 := Aside0.mk h2
        clear h15 h2
        go_wp2_with fail
        go_still_tail 9, (by kernel_rfl)
        go_wp2_with fail
        clear y15 y2 x15 x2
        refine wp_region_held_drew (S := (fun W => W.cell? ⟨w.heap.size + 1, z16, none⟩ = some (.int .u32 ((schedAt l i).getD z16 0)) ∧ W.cell? ⟨w.heap.size + 1, z7, none⟩ = some (.int .u32 ((schedAt l i).getD z7 0)))) (by kernel_rfl) (And.intro (Blk.cell HB.out (by rw [schedAt_length]; exact of_eq_true n16)) (Blk.cell HB.out (by rw [schedAt_length]; exact of_eq_true n7))) (fun hHeld => ?_)
        refine wpAnyH_take (i := 0) (v := ?_) (by simp only [List.getElem?_toArray, List.getElem?_cons_succ, List.getElem?_cons_zero]; rfl) (by kernel_rfl) (by kernel_rfl) (by kernel_rfl) (by intro _ _ _ h; exact h) (Or.inl ⟨by rfl, ?hy⟩) (by assumption) ?_
        case hy => (intro W_ hW_; go_simp; first | done | with_reducible rfl)
        try simp only [Act.put, List.setIfInBounds_toArray, List.set_cons_zero, List.set_cons_succ]
        refine wpAnyH_take (i := 1) (v := ?_) (by simp only [List.getElem?_toArray, List.getElem?_cons_succ, List.getElem?_cons_zero]; rfl) (by kernel_rfl) (by kernel_rfl) (by kernel_rfl) (by intro _ _ _ h; exact h) (Or.inl ⟨by rfl, ?hy⟩) (by assumption) ?_
        case hy => (intro W_ hW_; go_simp; first | done | with_reducible rfl)
        try simp only [Act.put, List.setIfInBounds_toArray, List.set_cons_zero, List.set_cons_succ]
        refine wpAnyH_take (i := 2) (v := ?_) (by simp only [List.getElem?_toArray, List.getElem?_cons_succ, List.getElem?_cons_zero]; rfl) (by kernel_rfl) (by kernel_rfl) (by kernel_rfl) (by intro _ _ _ h; exact h) (Or.inl ⟨by rfl, ?hy⟩) (by assumption) ?_
        case hy => (intro W_ hW_; go_simp; first | done | with_reducible rfl)
        try simp only [Act.put, List.setIfInBounds_toArray, List.set_cons_zero, List.set_cons_succ]
        refine wpAnyH_take (i := 3) (v := ?_) (by simp only [List.getElem?_toArray, List.getElem?_cons_succ, List.getElem?_cons_zero]; rfl) (by kernel_rfl) (by kernel_rfl) (by kernel_rfl) (by intro _ _ _ h; exact h) (Or.inl ⟨by rfl, ?hy⟩) (by assumption) ?_
        case hy => (intro W_ hW_; go_simp; first | done | with_reducible rfl)
        try simp only [Act.put, List.setIfInBounds_toArray, List.set_cons_zero, List.set_cons_succ]
        refine wpAnyH_take (i := 4) (v := ?_) (by simp only [List.getElem?_toArray, List.getElem?_cons_succ, List.getElem?_cons_zero]; rfl) (by kernel_rfl) (by kernel_rfl) (by kernel_rfl) (by intro _ _ _ h; exact h) (Or.inl ⟨by rfl, ?hy⟩) (by assumption) ?_
        case hy => (intro W_ hW_; have f_ := hW_.1; go_simp; first | done | with_reducible rfl)
        try simp only [Act.put, List.setIfInBounds_toArray, List.set_cons_zero, List.set_cons_succ]
        refine wpAnyH_take (i := 5) (v := ?_) (by simp only [List.getElem?_toArray, List.getElem?_cons_succ, List.getElem?_cons_zero]; rfl) (by kernel_rfl) (by kernel_rfl) (by kernel_rfl) (by intro _ _ _ h; exact h) (Or.inl ⟨by rfl, ?hy⟩) (by assumption) ?_
        case hy => (intro W_ hW_; go_simp; first | done | with_reducible rfl)
        try simp only [Act.put, List.setIfInBounds_toArray, List.set_cons_zero, List.set_cons_succ]
        refine wpAnyH_take (i := 6) (v := ?_) (by simp only [List.getElem?_toArray, List.getElem?_cons_succ, List.getElem?_cons_zero]; rfl) (by kernel_rfl) (by kernel_rfl) (by kernel_rfl) (by intro _ _ _ h; exact h) (Or.inl ⟨by rfl, ?hy⟩) (by assumption) ?_
        case hy => (intro W_ hW_; go_simp; first | done | with_reducible rfl)
        try simp only [Act.put, List.setIfInBounds_toArray, List.set_cons_zero, List.set_cons_succ]
        refine wpAnyH_take (i := 7) (v := ?_) (by simp only [List.getElem?_toArray, List.getElem?_cons_succ, List.getElem?_cons_zero]; rfl) (by kernel_rfl) (by kernel_rfl) (by kernel_rfl) (by intro _ _ _ h; exact h) (Or.inl ⟨by rfl, ?hy⟩) (by assumption) ?_
        case hy => (intro W_ hW_; go_simp; first | done | with_reducible rfl)
        try simp only [Act.put, List.setIfInBounds_toArray, List.set_cons_zero, List.set_cons_succ]
        refine wpAnyH_take (i := 8) (v := ?_) (by simp only [List.getElem?_toArray, List.getElem?_cons_succ, List.getElem?_cons_zero]; rfl) (by kernel_rfl) (by kernel_rfl) (by kernel_rfl) (by intro _ _ _ h; exact h) (Or.inl ⟨by rfl, ?hy⟩) (by assumption) ?_
        case hy => (intro W_ hW_; have f_ := hW_.2; go_simp; first | done | with_reducible rfl)
        try simp only [Act.put, List.setIfInBounds_toArray, List.set_cons_zero, List.set_cons_succ]
        refine wpAnyH_take (i := 9) (v := ?_) (by simp only [List.getElem?_toArray, List.getElem?_cons_succ, List.getElem?_cons_zero]; rfl) (by kernel_rfl) (by kernel_rfl) (by kernel_rfl) (by intro _ _ _ h; exact h) (Or.inl ⟨by rfl, ?hy⟩) (by assumption) ?_
        case hy => (intro W_ hW_; go_simp; first | done | with_reducible rfl)
        try simp only [Act.put, List.setIfInBounds_toArray, List.set_cons_zero, List.set_cons_succ]
        refine wpAnyH_take (i := 10) (v := ?_) (by simp only [List.getElem?_toArray, List.getElem?_cons_succ, List.getElem?_cons_zero]; rfl) (by kernel_rfl) (by kernel_rfl) (by kernel_rfl) (by intro _ _ _ h; exact h) (Or.inl ⟨by rfl, ?hy⟩) (by assumption) ?_
        case hy => (intro W_ hW_; go_simp; first | done | with_reducible rfl)
        try simp only [Act.put, List.setIfInBounds_toArray, List.set_cons_zero, List.set_cons_succ]
        refine wpAnyH_take (i := 12) (v := ?_) (by simp only [List.getElem?_toArray, List.getElem?_cons_succ, List.getElem?_cons_zero]; rfl) (by kernel_rfl) (by kernel_rfl) (by kernel_rfl) (by intro _ _ _ h; exact h) (Or.inl ⟨by rfl, ?hy⟩) (by assumption) ?_
        case hy => (intro W_ hW_; go_simp; first | done | with_reducible rfl)
        try simp only [Act.put, List.setIfInBounds_toArray, List.set_cons_zero, List.set_cons_succ]
        refine wpAnyH_take (i := 15) (v := ?_) (by simp only [List.getElem?_toArray, List.getElem?_cons_succ, List.getElem?_cons_zero]; rfl) (by kernel_rfl) (by kernel_rfl) (by kernel_rfl) (by intro _ _ _ h; exact h) (Or.inl ⟨by rfl, ?hy⟩) (by assumption) ?_
        case hy => (intro W_ hW_; go_simp; first | done | with_reducible rfl)
        try simp only [Act.put, List.setIfInBounds_toArray, List.set_cons_zero, List.set_cons_succ]
        refine wpAnyH_take (i := 16) (v := ?_) (by simp only [List.getElem?_toArray, List.getElem?_cons_succ, List.getElem?_cons_zero]; rfl) (by kernel_rfl) (by kernel_rfl) (by kernel_rfl) (by intro _ _ _ h; exact h) (Or.inl ⟨by rfl, ?hy⟩) (by assumption) ?_
        case hy => (intro W_ hW_; go_simp; first | done | with_reducible rfl)
        try simp only [Act.put, List.setIfInBounds_toArray, List.set_cons_zero, List.set_cons_succ]
        refine wpAnyH_take (i := 19) (v := ?_) (by simp only [List.getElem?_toArray, List.getElem?_cons_succ, List.getElem?_cons_zero]; rfl) (by kernel_rfl) (by kernel_rfl) (by kernel_rfl) (by intro _ _ _ h; exact h) (Or.inl ⟨by rfl, ?hy⟩) (by assumption) ?_
        case hy => (intro W_ hW_; go_simp; first | done | with_reducible rfl)
        try simp only [Act.put, List.setIfInBounds_toArray, List.set_cons_zero, List.set_cons_succ]
        refine wpAnyH_take (i := 21) (v := ?_) (by simp only [List.getElem?_toArray, List.getElem?_cons_succ, List.getElem?_cons_zero]; rfl) (by kernel_rfl) (by kernel_rfl) (by kernel_rfl) (by intro _ _ _ h; exact h) (Or.inl ⟨by rfl, ?hy⟩) (by assumption) ?_
        case hy => (intro W_ hW_; go_simp; first | done | with_reducible rfl)
        try simp only [Act.put, List.setIfInBounds_toArray, List.set_cons_zero, List.set_cons_succ]
        refine wpAnyH_take (i := 24) (v := ?_) (by simp only [List.getElem?_toArray, List.getElem?_cons_succ, List.getElem?_cons_zero]; rfl) (by kernel_rfl) (by kernel_rfl) (by kernel_rfl) (by intro _ _ _ h; exact h) (Or.inl ⟨by rfl, ?hy⟩) (by assumption) ?_
        case hy => (intro W_ hW_; go_simp; first | done | with_reducible rfl)
        try simp only [Act.put, List.setIfInBounds_toArray, List.set_cons_zero, List.set_cons_succ]
        refine wpAnyH_take (i := 25) (v := ?_) (by simp only [List.getElem?_toArray, List.getElem?_cons_succ, List.getElem?_cons_zero]; rfl) (by kernel_rfl) (by kernel_rfl) (by kernel_rfl) (by intro _ _ _ h; exact h) (Or.inl ⟨by rfl, ?hy⟩) (by assumption) ?_
        case hy => (intro W_ hW_; go_simp; first | done | with_reducible rfl)
        try simp only [Act.put, List.setIfInBounds_toArray, List.set_cons_zero, List.set_cons_succ]
        refine wpAnyH_ready (rs := [11]) (by kernel_rfl) (by simp) ?_
        refine AllReadyH.cons (by simp only [List.getElem?_toArray, List.getElem?_cons_succ, List.getElem?_cons_zero]; rfl) (fun K hK => ?_) AllReadyH.nil
        rw [if_pos (by rfl)]
        go_wp2_with fail
        refine (sha_right.calls _ _ _ _ (right_7 _)).mono ?_
        rintro e w2 ⟨rfl, ⟨q_, rfl⟩⟩
        refine hK.out _ _ (hHeld) (fun hHeld2 => ?_)
        clear hK K hHeld
        have hHeld := hHeld2
        clear hHeld2
        try simp only [Act.put, List.setIfInBounds_toArray, List.set_cons_zero, List.set_cons_succ]
        refine wpAnyH_ready (rs := [13]) (by kernel_rfl) (by simp) ?_
        refine AllReadyH.cons (by simp only [List.getElem?_toArray, List.getElem?_cons_succ, List.getElem?_cons_zero]; rfl) (fun K hK => ?_) AllReadyH.nil
        rw [if_pos (by rfl)]
        go_wp2_with fail
        refine (sha_right.calls _ _ _ _ (right_18 _)).mono ?_
        rintro e w2 ⟨rfl, ⟨q_, rfl⟩⟩
        refine hK.out _ _ (hHeld) (fun hHeld2 => ?_)
        clear hK K hHeld
        have hHeld := hHeld2
        clear hHeld2
        try simp only [Act.put, List.setIfInBounds_toArray, List.set_cons_zero, List.set_cons_succ]
        refine wpAnyH_take (i := 14) (v := ?_) (by simp only [List.getElem?_toArray, List.getElem?_cons_succ, List.getElem?_cons_zero]; rfl) (by kernel_rfl) (by kernel_rfl) (by kernel_rfl) (by intro _ _ _ h; exact h) (Or.inl ⟨by rfl, ?hy⟩) (by assumption) ?_
        case hy => (intro W_ hW_; go_simp; first | done | with_reducible rfl)
        try simp only [Act.put, List.setIfInBounds_toArray, List.set_cons_zero, List.set_cons_succ]
        refine wpAnyH_take (i := 17) (v := ?_) (by simp only [List.getElem?_toArray, List.getElem?_cons_succ, List.getElem?_cons_zero]; rfl) (by kernel_rfl) (by kernel_rfl) (by kernel_rfl) (by intro _ _ _ h; exact h) (Or.inl ⟨by rfl, ?hy⟩) (by assumption) ?_
        case hy => (intro W_ hW_; go_simp; first | done | with_reducible rfl)
        try simp only [Act.put, List.setIfInBounds_toArray, List.set_cons_zero, List.set_cons_succ]
        refine wpAnyH_take (i := 18) (v := ?_) (by simp only [List.getElem?_toArray, List.getElem?_cons_succ, List.getElem?_cons_zero]; rfl) (by kernel_rfl) (by kernel_rfl) (by kernel_rfl) (by intro _ _ _ h; exact h) (Or.inl ⟨by rfl, ?hy⟩) (by assumption) ?_
        case hy => (intro W_ hW_; go_simp; first | done | with_reducible rfl)
        try simp only [Act.put, List.setIfInBounds_toArray, List.set_cons_zero, List.set_cons_succ]
        refine wpAnyH_ready (rs := [20]) (by kernel_rfl) (by simp) ?_
        refine AllReadyH.cons (by simp only [List.getElem?_toArray, List.getElem?_cons_succ, List.getElem?_cons_zero]; rfl) (fun K hK => ?_) AllReadyH.nil
        rw [if_pos (by rfl)]
        go_wp2_with fail
        refine (sha_right.calls _ _ _ _ (right_17 _)).mono ?_
        rintro e w2 ⟨rfl, ⟨q_, rfl⟩⟩
        refine hK.out _ _ (hHeld) (fun hHeld2 => ?_)
        clear hK K hHeld
        have hHeld := hHeld2
        clear hHeld2
        try simp only [Act.put, List.setIfInBounds_toArray, List.set_cons_zero, List.set_cons_succ]
        refine wpAnyH_ready (rs := [22]) (by kernel_rfl) (by simp) ?_
        refine AllReadyH.cons (by simp only [List.getElem?_toArray, List.getElem?_cons_succ, List.getElem?_cons_zero]; rfl) (fun K hK => ?_) AllReadyH.nil
        rw [if_pos (by rfl)]
        go_wp2_with fail
        refine (sha_right.calls _ _ _ _ (right_19 _)).mono ?_
        rintro e w2 ⟨rfl, ⟨q_, rfl⟩⟩
        refine hK.out _ _ (hHeld) (fun hHeld2 => ?_)
        clear hK K hHeld
        have hHeld := hHeld2
        clear hHeld2
        try simp only [Act.put, List.setIfInBounds_toArray, List.set_cons_zero, List.set_cons_succ]
        refine wpAnyH_take (i := 23) (v := ?_) (by simp only [List.getElem?_toArray, List.getElem?_cons_succ, List.getElem?_cons_zero]; rfl) (by kernel_rfl) (by kernel_rfl) (by kernel_rfl) (by intro _ _ _ h; exact h) (Or.inl ⟨by rfl, ?hy⟩) (by assumption) ?_
        case hy => (intro W_ hW_; go_simp; first | done | with_reducible rfl)
        try simp only [Act.put, List.setIfInBounds_toArray, List.set_cons_zero, List.set_cons_succ]
        refine wpAnyH_take (i := 26) (v := ?_) (by simp only [List.getElem?_toArray, List.getElem?_cons_succ, List.getElem?_cons_zero]; rfl) (by kernel_rfl) (by kernel_rfl) (by kernel_rfl) (by intro _ _ _ h; exact h) (Or.inl ⟨by rfl, ?hy⟩) (by assumption) ?_
        case hy => (intro W_ hW_; go_simp; first | done | with_reducible rfl)
        try simp only [Act.put, List.setIfInBounds_toArray, List.set_cons_zero, List.set_cons_succ]
        refine wpAnyH_take (i := 27) (v := ?_) (by simp only [List.getElem?_toArray, List.getElem?_cons_succ, List.getElem?_cons_zero]; rfl) (by kernel_rfl) (by kernel_rfl) (by kernel_rfl) (by intro _ _ _ h; exact h) (Or.inl ⟨by rfl, ?hy⟩) (by assumption) ?_
        case hy => (intro W_ hW_; go_simp; first | done | with_reducible rfl)
        try simp only [Act.put, List.setIfInBounds_toArray, List.set_cons_zero, List.set_cons_succ]
        refine wpAnyH_take (i := 28) (v := ?_) (by simp only [List.getElem?_toArray, List.getElem?_cons_succ, List.getElem?_cons_zero]; rfl) (by kernel_rfl) (by kernel_rfl) (by kernel_rfl) (by intro _ _ _ h; exact h) (Or.inl ⟨by rfl, ?hy⟩) (by assumption) ?_
        case hy => (intro W_ hW_; go_simp; first | done | with_reducible rfl)
        try simp only [Act.put, List.setIfInBounds_toArray, List.set_cons_zero, List.set_cons_succ]
        refine wpAnyH_ready (rs := [29]) (by kernel_rfl) (by simp) ?_
        refine AllReadyH.cons (by simp only [List.getElem?_toArray, List.getElem?_cons_succ, List.getElem?_cons_zero]; rfl) (fun K hK => ?_) AllReadyH.nil
        rw [if_pos (by rfl)]
        have y1_ := Blk.cell HB.out (i := i) (by rw [schedAt_length]; exact hi); have y2_ := Blk.free HB.out i
        go_wp2_with fail
        refine hK.out _ _ (And.intro (by exact Blk.cell_set HB.out (by rw [schedAt_length]; exact of_eq_true n16) (by have := H16.out; omega)) (by exact Blk.cell_set HB.out (by rw [schedAt_length]; exact of_eq_true n7) (by have := H7.out; omega))) (fun hHeld2 => ?_)
        clear hK K hHeld
        have hHeld := hHeld2
        clear hHeld2
        try simp only [Act.put, List.setIfInBounds_toArray, List.set_cons_zero, List.set_cons_succ]
        refine wpAnyH_done (by kernel_rfl) ?_ _
        have HE : Aside0 (later (schedAt l i) i = ((schedAt l i)[z16]?.getD 0 + (schedAt l i)[z7]?.getD 0 + bits BinOp.xor IntKind.u32 (bits BinOp.xor IntKind.u32 (rotr ((schedAt l i)[z15]?.getD 0) 7) (rotr ((schedAt l i)[z15]?.getD 0) 18)) ((schedAt l i)[z15]?.getD 0 / 8) + bits BinOp.xor IntKind.u32 (bits BinOp.xor IntKind.u32 (rotr ((schedAt l i)[z2]?.getD 0) 17) (rotr ((schedAt l i)[z2]?.getD 0) 19)) ((schedAt l i)[z2]?.getD 0 / 1024)) % 4294967296) := ⟨by
          rw [H16.out, H7.out, H15.out, H2.out]; rfl⟩
        clear H16 H7 H15 H2
        go_wp2_with fail
        go_roundg (64 - (i + 1))
        case measure => have := HI.out; omega
        case rel =>
          refine ⟨i + 1, by simp, ⟨rfl, by omega⟩, ⟨?_⟩, ⟨?_⟩, ⟨?_⟩⟩
          · rw [← HE.out]
            simp only [schedAt, if_neg h16]
            exact Blk.set HB.out i _
          · unfold Blk
            rw [heap_setCell_other _ _ _ _ (by simp)]
            exact HZ.out
          · exact below_set (pw_below_drewN HL.out _) (by omega)
    · have d1 : decide (i < 64) = false := decide_eq_false hi
      have d2 : decide ((i : Int) < 64) = false := decide_eq_false (by omega)
      obtain rfl : i = 64 := by have := HI.out; omega
      have hsz : ((schedAt l 64).map (Value.int .u32)).toArray.size = 64 := by simp [schedAt_length]
      have hall : ((schedAt l 64).map (Value.int .u32)).toArray.all (·.oneCell') = true := by simp [Value.oneCell']
      have hB := HB.out
      unfold Blk at hB
      obtain ⟨cs, hcs⟩ : ∃ cs, cs = ((schedAt l 64).map (Value.int .u32)).toArray := ⟨_, rfl⟩
      rw [← hcs] at hB hsz hall
      have HCS := Aside0.mk hcs
      clear hcs
      have HBB := Aside0.mk hB
      have HSZ := Aside0.mk hsz
      have HALL := Aside0.mk hall
      have hst : (storeCells ⟨w.heap.size, 0, none⟩ cs.toList).run Try.prog wr = .ok () (wr.setRow w.heap.size cs) := by
        have := run_storeCells_from (P := Try.prog) w.heap.size 189 cs.toList 0 _ wr HZ.out (by simp [hsz]) (fun v hv => (Array.all_eq_true_iff_forall_mem.1 hall) v (by simpa using hv))
        simpa using this
      have HROW := Aside0.mk (setRow_heap wr w.heap.size _ cs 189 (0, 0) HZ.out)
      have HBL : Aside0 (Below w.heap.size w (wr.setRow w.heap.size cs)) := ⟨⟨HL.out.os, HL.out.tape, HL.out.output, by rw [setRow_size]; exact HL.out.size, fun k hk => by rw [setRow_other _ _ _ _ (by omega)]; exact HL.out.block k hk⟩⟩
      clear hB hall
      go_wp2_with (first
        | ((with_reducible refine gate_dst (N := 85) rfl ?_); refine wpList_load_row rfl 189 (.tmp 3) rfl (w.heap.size + 1) rfl 189 cs (0, 0) _ HBB.out rfl (by kernel_rfl) (by rw [HSZ.out]; kernel_rfl) ?_)
        | fail)
      refine bodyPost_ret (v := .agg cs) ?_ rfl ⟨by rw [HCS.out], HBL.out⟩
      exact results_cell_row (P := Try.prog) Try.results168 _ _ w.heap.size 189 cs (0, 0) _ rfl HROW.out rfl (by kernel_rfl) (by rw [hsz]; kernel_rfl)

end Go.Proofs.Ytchaegfdcdlfaaa.X
