/- Texts of this claim, one behind the other: WMath, Xx0, Xx40, Xx41, Xx42, Xx44, Xx45, Xx64, XxWire, WRead, WEq, WLaws, WTools, WWord, Xx49, Xx50, Xx52, Xx78, XxRef1, WRefM, WRefR, SArr, Xx8, Xx9, XxSha, SRot, SSch, CMath. -/
import Derived.RowKit
import Derived.Test.YtchaegfdcdlfaaaProg
import Derived.Below
import Derived.Deep.Draws
import Derived.Deep.AppendLies
import Derived.Maps.AppendAt
import Derived.OwnWalk
import Derived.Laws.BytesArg
import Derived.Laws.MakeOwn
import Derived.Laws.OwnMore
import Derived.Deep.OwnRows
import Derived.Tactics
import Derived.Lib.ConvBytes
import Derived.Laws.Slices
import Derived.WalkKit
import Derived.KernelRfl
import Derived.RowKit3
import Derived.Deep.LoopGhost
import Derived.Deep.QuietTactic
import Derived.BigQuiet
import Derived.WideLaws
import Derived.Deep.DeepCutAuto
import Derived.Deep.CutBlock
import Derived.Deep.RegionHeld3
import Derived.Laws.Rows
import Derived.Lib.AppendStr
import Derived.ArgAppend
import Derived.Laws.IdiomCopy
import Derived.OrdersHeld
import Derived.Laws.BitsLemmas
import Derived.WalkMore
import Derived.Test.YtchaegfdcdlfaaaWWords
import Derived.Test.YtchaegfdcdlfaaaWLast
import Derived.Test.YtchaegfdcdlfaaaWTab
import Derived.Test.YtchaegfdcdlfaaaWFour
import Derived.Test.YtchaegfdcdlfaaaWQPut
import Derived.Test.YtchaegfdcdlfaaaWApart
import Derived.Test.YtchaegfdcdlfaaaWArr
import Derived.Test.YtchaegfdcdlfaaaWZeros
import Derived.Test.YtchaegfdcdlfaaaWFoot
import Derived.Test.YtchaegfdcdlfaaaWKept
import Derived.Test.YtchaegfdcdlfaaaWShare
import Derived.Test.YtchaegfdcdlfaaaWN
import Derived.Test.YtchaegfdcdlfaaaWFootNe
import Derived.Test.YtchaegfdcdlfaaaWAt
import Derived.Test.YtchaegfdcdlfaaaWEqStruct
import Derived.Test.YtchaegfdcdlfaaaWRepsOne
import Derived.Test.YtchaegfdcdlfaaaWInv
import Derived.Test.YtchaegfdcdlfaaaWInvWords
import Derived.Test.YtchaegfdcdlfaaaWGuard
import Derived.Test.YtchaegfdcdlfaaaWNEv
import Derived.Test.YtchaegfdcdlfaaaWMore
import Derived.Laws.Strings
import Derived.Deep.RegionHeld
import Derived.Laws.Tables
import Derived.StillTailTactics
import Derived.Laws.BitsAllLaws

/- Numbers in groups of seven bits, as lists: what is put, and what of a list is such a number. No program in sight. -/
namespace Go.Proofs.Ytchaegfdcdlfaaa.Y
set_option linter.unusedVariables false
set_option linter.unusedSimpArgs false

/-- A number's groups, each with a mark that another one follows. -/
def more (n : Nat) : List Int := if n < 128 then [(n : Int) + 128] else more (n / 128) ++ [((n % 128 : Nat) : Int) + 128]
termination_by n
decreasing_by omega
/-- A number as bytes. -/
def put (n : Nat) : List Int := if n < 128 then [(n : Int)] else more (n / 128) ++ [((n % 128 : Nat) : Int)]

/-- The number that groups make. -/
def V (l : List Int) : Nat := l.foldl (fun a x => a * 128 + (x % 128).toNat) 0
theorem V_snoc (l : List Int) (x : Int) : V (l ++ [x]) = V l * 128 + (x % 128).toNat := by simp [V]
theorem V_nil : V [] = 0 := rfl

theorem more_small {n : Nat} (h : n < 128) : more n = [(n : Int) + 128] := by rw [more, if_pos h]
theorem more_big {n : Nat} (h : ¬ n < 128) : more n = more (n / 128) ++ [((n % 128 : Nat) : Int) + 128] := by rw [more, if_neg h]

theorem V_more (n : Nat) : V (more n) = n := by
  induction n using Nat.strongRecOn with
  | _ n ih =>
    by_cases h : n < 128
    · rw [more_small h]; simp [V]; omega
    · rw [more_big h, V_snoc, ih _ (by omega)]; omega
theorem V_put (n : Nat) : V (put n) = n := by
  unfold put
  by_cases h : n < 128
  · rw [if_pos h]; simp [V]; omega
  · rw [if_neg h, V_snoc, V_more]; omega

/-- A list of groups, each of which another one follows: no group of nothing ahead. -/
def Marks (q : List Int) : Prop := (∀ x ∈ q, 128 ≤ x ∧ x ≤ 255) ∧ q.head? ≠ some 128
theorem Marks.nil : Marks [] := ⟨by simp, by simp⟩
theorem Marks.snoc {q : List Int} {c : Int} (h : Marks q) (h0 : 128 ≤ c) (h1 : c ≤ 255) (hc : q = [] → c ≠ 128) : Marks (q ++ [c]) := by
  refine ⟨fun x hx => ?_, ?_⟩
  · rcases List.mem_append.1 hx with hx | hx
    · exact h.1 x hx
    · simp at hx; omega
  · cases q with
    | nil => simpa using hc rfl
    | cons a q => simpa using h.2
theorem Marks.init {q : List Int} {c : Int} (h : Marks (q ++ [c])) : Marks q := by
  refine ⟨fun x hx => h.1 x (List.mem_append_left _ hx), ?_⟩
  cases q with
  | nil => simp
  | cons a q => simpa using h.2

theorem more_marks (n : Nat) (hn : 1 ≤ n) : Marks (more n) := by
  induction n using Nat.strongRecOn with
  | _ n ih =>
    by_cases h : n < 128
    · rw [more_small h]
      exact ⟨fun x hx => by simp at hx; omega, by simp; omega⟩
    · rw [more_big h]
      refine (ih _ (by omega) (by omega)).snoc (by omega) (by omega) (fun e => ?_)
      exfalso
      have : V (more (n / 128)) = 0 := by rw [e]; rfl
      rw [V_more] at this; omega
theorem snoc_cases {α : Type} (l : List α) : l = [] ∨ ∃ q c, l = q ++ [c] := by
  rcases List.eq_nil_or_concat l with h | ⟨q, c, h⟩
  · exact .inl h
  · exact .inr ⟨q, c, by simpa [List.concat_eq_append] using h⟩
theorem marks_V_pos (q : List Int) (h : Marks q) (hne : q ≠ []) : 1 ≤ V q := by
  induction hL : q.length generalizing q with
  | zero => exact absurd (List.eq_nil_of_length_eq_zero hL) hne
  | succ k ih =>
    obtain ⟨q', c, rfl⟩ := (snoc_cases q).resolve_left hne
    rw [V_snoc]
    by_cases e : q' = []
    · subst e
      have h1 := h.1 c (by simp)
      have h2 := h.2
      simp at h2
      rw [V_nil]; omega
    · have := ih q' h.init e (by simpa using hL)
      omega
theorem more_of_marks (q : List Int) (h : Marks q) (hne : q ≠ []) : more (V q) = q := by
  induction hL : q.length generalizing q with
  | zero => exact absurd (List.eq_nil_of_length_eq_zero hL) hne
  | succ k ih =>
    obtain ⟨q', c, rfl⟩ := (snoc_cases q).resolve_left hne
    have h1 := h.1 c (by simp)
    by_cases e : q' = []
    · subst e
      rw [V_snoc, V_nil, more_small (by omega)]
      simp; omega
    · have h2 := ih q' h.init e (by simpa using hL)
      have h3 := marks_V_pos q' h.init e
      rw [V_snoc, more_big (by omega), show (V q' * 128 + (c % 128).toNat) / 128 = V q' by omega, h2]
      congr 2
      omega
/-- What a number's bytes are. -/
theorem put_form (n : Nat) : ∃ q c, put n = q ++ [c] ∧ Marks q ∧ 0 ≤ c ∧ c < 128 := by
  unfold put
  by_cases h : n < 128
  · rw [if_pos h]; exact ⟨[], _, rfl, Marks.nil, by omega, by omega⟩
  · rw [if_neg h]; exact ⟨_, _, rfl, more_marks _ (by omega), by omega, by omega⟩
theorem put_of (q : List Int) (c : Int) (h : Marks q) (h0 : 0 ≤ c) (h1 : c < 128) : put (V (q ++ [c])) = q ++ [c] := by
  rw [V_snoc]
  by_cases e : q = []
  · subst e
    rw [V_nil]
    unfold put
    rw [if_pos (by omega)]
    simp; omega
  · have h3 := marks_V_pos q h e
    unfold put
    rw [if_neg (by omega), show (V q * 128 + (c % 128).toNat) / 128 = V q by omega, more_of_marks q h e]
    congr 2
    omega
theorem put_range (n : Nat) : ∀ x ∈ put n, 0 ≤ x ∧ x ≤ 255 := by
  obtain ⟨q, c, e, hq, h0, h1⟩ := put_form n
  intro x hx
  rw [e] at hx
  rcases List.mem_append.1 hx with hx | hx
  · have := hq.1 x hx; omega
  · simp at hx; omega
theorem put_ne (n : Nat) : put n ≠ [] := by
  obtain ⟨q, c, e, _⟩ := put_form n
  rw [e]; simp
theorem put_head (n : Nat) : (put n).head? ≠ some 128 := by
  obtain ⟨q, c, e, hq, h0, h1⟩ := put_form n
  rw [e]
  cases q with
  | nil => simp; omega
  | cons a q => simpa using hq.2

theorem V_lt (q : List Int) : V q < 128 ^ q.length := by
  induction hL : q.length generalizing q with
  | zero => rw [List.eq_nil_of_length_eq_zero hL]; simp [V]
  | succ k ih =>
    rcases snoc_cases q with rfl | ⟨q', c, rfl⟩
    · simp at hL
    · have h := ih q' (by simpa using hL)
      rw [V_snoc, Nat.pow_succ]
      omega
theorem marks_V_ge (q : List Int) (h : Marks q) (hne : q ≠ []) : 128 ^ (q.length - 1) ≤ V q := by
  induction hL : q.length generalizing q with
  | zero => exact absurd (List.eq_nil_of_length_eq_zero hL) hne
  | succ k ih =>
    obtain ⟨q', c, rfl⟩ := (snoc_cases q).resolve_left hne
    by_cases e : q' = []
    · subst e
      have := marks_V_pos _ h (by simp)
      simp at hL
      subst hL
      simpa using this
    · have hl : 0 < q'.length := List.length_pos_iff.2 e
      have h2 := ih q' h.init e (by simpa using hL)
      have hk : k = q'.length := by simpa using hL.symm
      rw [V_snoc]
      obtain ⟨j, hj⟩ : ∃ j, k = j + 1 := ⟨k - 1, by omega⟩
      subst hj
      simp only [Nat.add_sub_cancel] at h2 ⊢
      rw [Nat.pow_succ]
      omega
theorem put_length (n : Nat) (h : n < 18446744073709551616) : (put n).length ≤ 10 := by
  obtain ⟨q, c, e, hq, h0, h1⟩ := put_form n
  have hv := V_put n
  rw [e, V_snoc] at hv
  rw [e, List.length_append]
  by_cases hne : q = []
  · subst hne; simp
  · have hg := marks_V_ge q hq hne
    rcases Nat.lt_or_ge q.length 10 with h2 | h2
    · simp; omega
    · have : 128 ^ 9 ≤ 128 ^ (q.length - 1) := Nat.pow_le_pow_right (by decide) (by omega)
      have e9 : 128 ^ 9 = 9223372036854775808 := by decide
      omega
theorem put_length_pos (n : Nat) : 1 ≤ (put n).length := by
  have := put_ne n
  have := List.length_pos_iff.2 this
  omega

/-- Of two lists that a third one begins by, one is the other's beginning. -/
theorem pre_cases {α : Type} {a b l : List α} (ha : a <+: l) (hb : b <+: l) : a <+: b ∨ b <+: a := List.prefix_or_prefix_of_prefix ha hb

/-- No number's bytes lie within marks alone. -/
theorem put_not_marks (n : Nat) (q : List Int) (hq : ∀ x ∈ q, 128 ≤ x) : ¬ put n <+: q := by
  obtain ⟨q', c, e, _, h0, h1⟩ := put_form n
  rintro ⟨t, ht⟩
  have : c ∈ q := by rw [← ht, e]; simp
  have := hq c this
  omega
/-- A number's bytes that a list begins by, which begins by marks, and one that is none: they are just these. -/
theorem put_exact (n : Nat) (q : List Int) (c : Int) (s : List Int) (hq : ∀ x ∈ q, 128 ≤ x) (hc : c < 128) (h : put n <+: q ++ c :: s) : put n = q ++ [c] := by
  have h2 : q ++ [c] <+: q ++ c :: s := ⟨s, by simp⟩
  rcases pre_cases h h2 with h3 | h3
  · obtain ⟨t, ht⟩ := h3
    rcases snoc_cases t with rfl | ⟨t', d, rfl⟩
    · simpa using ht
    · exfalso
      have ht2 : put n ++ t' ++ [d] = q ++ [c] := by rw [← ht]; simp
      have := (List.append_inj' ht2 rfl).1
      exact put_not_marks n q hq ⟨t', this⟩
  · obtain ⟨q', d, e, hq', h0, h1⟩ := put_form n
    obtain ⟨t, ht⟩ := h3
    rw [e] at ht ⊢
    rcases snoc_cases t with rfl | ⟨t', d', rfl⟩
    · simpa using ht.symm
    · exfalso
      have ht2 : (q ++ [c] ++ t') ++ [d'] = q' ++ [d] := by rw [← ht]; simp
      have h5 := (List.append_inj' ht2 rfl).1
      have : c ∈ q' := by rw [← h5]; simp
      have := hq'.1 c this
      omega
/-- A list begins by one number's bytes at most. -/
theorem put_unique {n m : Nat} {l : List Int} (h : put n <+: l) (h2 : put m <+: l) : n = m := by
  obtain ⟨q, c, e, hq, h0, h1⟩ := put_form n
  obtain ⟨t, ht⟩ := h
  have h3 : put m <+: q ++ c :: t := by rw [show q ++ c :: t = put n ++ t by rw [e]; simp, ht]; exact h2
  have h4 := put_exact m q c t (fun x hx => (hq.1 x hx).1) h1 h3
  rw [← V_put n, ← V_put m, e, h4]

/-- What is got of a list: its number, how many bytes that has, and whether there is one. -/
def IsGet (l : List Int) (r : Int × Int × Bool) : Prop :=
  (∃ m, m < 18446744073709551616 ∧ put m <+: l ∧ r = ((m : Int), ((put m).length : Int), true)) ∨ ((∀ m, m < 18446744073709551616 → ¬ put m <+: l) ∧ r = (0, 0, false))
theorem IsGet.unique {l : List Int} {r r' : Int × Int × Bool} (h : IsGet l r) (h' : IsGet l r') : r = r' := by
  rcases h with ⟨m, hm, hp, rfl⟩ | ⟨hn, rfl⟩
  · rcases h' with ⟨m', hm', hp', rfl⟩ | ⟨hn', rfl⟩
    · obtain rfl := put_unique hp hp'; rfl
    · exact absurd hp (hn' m hm)
  · rcases h' with ⟨m', hm', hp', rfl⟩ | ⟨hn', rfl⟩
    · exact absurd hp' (hn m' hm')
    · rfl
theorem isGet_put (m : Nat) (hm : m < 18446744073709551616) (s : List Int) : IsGet (put m ++ s) ((m : Int), ((put m).length : Int), true) := .inl ⟨m, hm, ⟨s, rfl⟩, rfl⟩

end Go.Proofs.Ytchaegfdcdlfaaa.Y

namespace Go.Proofs.Ytchaegfdcdlfaaa.X
open Go.RowKit Go.Proofs.YtchaegfdcdlfaaaW.PrintWords Go.Proofs.YtchaegfdcdlfaaaW.PrintLast Go.Proofs.YtchaegfdcdlfaaaW.PrintMore
attribute [local go_sem] max2_int min2_int max_two min_two max_three min_three max_four min_four   -- for this text's walks alone
set_option linter.unusedVariables false
set_option linter.unusedSimpArgs false



def errW : Option Int → Value
  | none => .nilIface
  | some c => .iface 0 (.int .i64 c)
theorem errW_none : errW none = .nilIface := rfl
theorem errW_some (c : Int) : errW (some c) = .iface 0 (.int .i64 c) := rfl

theorem info3 : (Try.prog.info? 3).map (fun i => (i.zero, i.size, i.bytes)) = some (some (.int .i64 0), 1, 8) := by kernel_rfl
theorem info5 : (Try.prog.info? 5).map (fun i => (i.zero, i.size, i.bytes)) = some (some (.int .u8 0), 1, 1) := by kernel_rfl
theorem info26 : (Try.prog.info? 26).map (fun i => (i.zero, i.size, i.bytes)) = some (some (.int .u32 0), 1, 4) := by kernel_rfl
theorem info40 : (Try.prog.info? 40).map (fun i => (i.zero, i.size, i.bytes)) = some (some (.slice none 0 0), 1, 24) := by kernel_rfl
theorem info67 : (Try.prog.info? 67).map (fun i => (i.zero, i.size, i.bytes)) = some (some (.agg #[(.bool false), (.int .i64 0), (.int .i64 0), (.string ⟨#[]⟩)]), 4, 40) := by kernel_rfl
-- the values' own types
def rd_L2 (xs : List (List Int)) (i : Int) : (List Int) := xs.getD i.toNat ([] : List Int)
theorem at_L2 {w : World} {A : Option Addr} {n : Nat} {xs : List (List Int)} (h : Kd.C (Kd.slice 5 (Kd.int .u8)) w A n xs) (i : Int) (h0 : 0 ≤ i) (h1 : i < n) : ∃ ad A0 c0, A = some ad ∧ w.cell? (ad.add i.toNat) = some (.slice A0 (rd_L2 xs i).length c0) ∧ (rd_L2 xs i).length ≤ c0 ∧ (Kd.int .u8).C w A0 (rd_L2 xs i).length (rd_L2 xs i) := by
  obtain ⟨ad, c, e, _, hK, hc0⟩ := Kd.C_get h ([] : List Int) i h0 h1
  have hc : ∀ j u, c[j]? = some u → w.cell? (ad.add (i.toNat * 1 + j)) = some u := hc0
  obtain ⟨A0, c0, rfl, l0, g0⟩ := hK
  exact ⟨ad, A0, c0, e, by have hq := hc 0 _ rfl; rwa [Nat.mul_one, Nat.add_zero] at hq, l0, g0⟩

/-! #### struct type 67 -/
structure S67 where
  f0 : Bool
  f1 : Int
  f2 : Int
  f3 : ByteArray
def z67 : S67 := ⟨false, (0 : Int), (0 : Int), (⟨#[]⟩ : ByteArray)⟩
def k67 : Kd S67 := Kd.iso (Kd.pair Kd.bool (Kd.pair (Kd.int .i64) (Kd.pair (Kd.int .i64) Kd.string))) (fun x : S67 => (x.f0, x.f1, x.f2, x.f3))
theorem k67_heap : Kd.Heap k67 := Kd.heap_iso _ (Kd.heap_pair Kd.heap_bool (Kd.heap_pair (Kd.heap_int .i64) (Kd.heap_pair (Kd.heap_int .i64) Kd.heap_string)))
theorem k67_open {w : World} {x : S67} {cs : List Value} (h : k67.K w x cs) : cs = [.bool x.f0, .int .i64 x.f1, .int .i64 x.f2, .string x.f3] := by
  obtain ⟨_, _, rfl, rfl, ⟨_, _, rfl, rfl, ⟨_, _, rfl, rfl, rfl⟩⟩⟩ := h
  exact rfl
theorem k67_openM {w : World} {base : Nat} {ok : Nat → Prop} {x : S67} {cs : List Value} (h : k67.M w base ok x cs) : cs = [.bool x.f0, .int .i64 x.f1, .int .i64 x.f2, .string x.f3] := by
  obtain ⟨_, _, rfl, rfl, ⟨_, _, rfl, rfl, ⟨_, _, rfl, rfl, rfl⟩⟩⟩ := h
  exact rfl
theorem k67_mk (w : World) (x : S67)  : k67.K w x [.bool x.f0, .int .i64 x.f1, .int .i64 x.f2, .string x.f3] := ⟨[.bool x.f0], [.int .i64 x.f1, .int .i64 x.f2, .string x.f3], rfl, rfl, ⟨[.int .i64 x.f1], [.int .i64 x.f2, .string x.f3], rfl, rfl, ⟨[.int .i64 x.f2], [.string x.f3], rfl, rfl, rfl⟩⟩⟩
theorem k67_mkM (w : World) (base : Nat) (ok : Nat → Prop) (x : S67)  : k67.M w base ok x [.bool x.f0, .int .i64 x.f1, .int .i64 x.f2, .string x.f3] := ⟨[.bool x.f0], [.int .i64 x.f1, .int .i64 x.f2, .string x.f3], rfl, rfl, ⟨[.int .i64 x.f1], [.int .i64 x.f2, .string x.f3], rfl, rfl, ⟨[.int .i64 x.f2], [.string x.f3], rfl, rfl, rfl⟩⟩⟩
theorem k67_mkF (W : World) (ok : Nat → Prop) (x : S67) : Kd.FK k67 W ok x [.bool x.f0, .int .i64 x.f1, .int .i64 x.f2, .string x.f3] := fun W2 _ => k67_mk W2 x
def rd_T67 (xs : List S67) (i : Int) : S67 := xs.getD i.toNat z67
theorem at_T67 {w : World} {A : Option Addr} {n : Nat} {xs : List S67} (h : Kd.C k67 w A n xs) (i : Int) (h0 : 0 ≤ i) (h1 : i < n) : ∃ ad , A = some ad ∧ w.cell? (ad.add (i.toNat * 4)) = some (.bool (rd_T67 xs i).f0) ∧ w.cell? ⟨(ad.add (i.toNat * 4)).block, (ad.add (i.toNat * 4)).off + 1, none⟩ = some (.int .i64 (rd_T67 xs i).f1) ∧ w.cell? ⟨(ad.add (i.toNat * 4)).block, (ad.add (i.toNat * 4)).off + 2, none⟩ = some (.int .i64 (rd_T67 xs i).f2) ∧ w.cell? ⟨(ad.add (i.toNat * 4)).block, (ad.add (i.toNat * 4)).off + 3, none⟩ = some (.string (rd_T67 xs i).f3) := by
  obtain ⟨ad, c, e, _, hK, hc0⟩ := Kd.C_get h z67 i h0 h1
  have hc : ∀ j u, c[j]? = some u → w.cell? (ad.add (i.toNat * 4 + j)) = some u := hc0
  obtain rfl := k67_open hK
  exact ⟨ad, e, hc 0 _ rfl, by rw [← add_field _ _ 1 (by omega)]; exact hc 1 _ rfl, by rw [← add_field _ _ 2 (by omega)]; exact hc 2 _ rfl, by rw [← add_field _ _ 3 (by omega)]; exact hc 3 _ rfl⟩

end Go.Proofs.Ytchaegfdcdlfaaa.X

namespace Go.Proofs.Ytchaegfdcdlfaaa.X
open Go.RowKit Go.Proofs.YtchaegfdcdlfaaaW.PrintWords Go.Proofs.YtchaegfdcdlfaaaW.PrintLast Go.Proofs.YtchaegfdcdlfaaaW.PrintMore
attribute [local go_sem] max2_int min2_int max_two min_two max_three min_three max_four min_four   -- for this text's walks alone
set_option linter.unusedVariables false
set_option linter.unusedSimpArgs false

/-! ### wire_groups: function 141 -/
def wire_groups.l0 : Nat → Int → Int → Option (Int)
  | 0, _, _ => none
  | k + 1, x0, x3 => if x0 > 0 then (wire_groups.l0 k (x0 / 128) (wrap64 (x3 + 1))) else (some x3)
def wire_groups.f (k : Nat) (a0 : Int) : Option (Int) := wire_groups.l0 k (a0 / 128) 1
theorem wire_groups.mono_l : ∀ k, (∀ y0 y1, LeO (wire_groups.l0 k y0 y1) (wire_groups.l0 (k + 1) y0 y1))
  | 0 => fun _ _ r h => by simp [wire_groups.l0] at h
  | k + 1 => by
    have ih0 := wire_groups.mono_l k
    · intro y0 y1
      unfold wire_groups.l0
      repeat' first
      | (with_reducible exact ih0 _ _)
      | (with_reducible exact LeO.refl _)
      | (with_reducible exact LeO.none _)
      | (with_reducible refine LeO.ite ?_ ?_)
      | (with_reducible refine LeO.bind ?_ (fun _ => ?_))
      | exact ih0 _ _
      | exact LeO.none _
      | refine LeO.ite ?_ ?_
      | refine LeO.bind ?_ (fun _ => ?_)
theorem wire_groups.mono : ∀ a0 k, LeO (wire_groups.f k a0) (wire_groups.f (k + 1) a0) := by
  intro a0 k
  have ih0 := wire_groups.mono_l k
  unfold wire_groups.f
  repeat' first
      | (with_reducible exact ih0 _ _)
      | (with_reducible exact LeO.refl _)
      | (with_reducible exact LeO.none _)
      | (with_reducible refine LeO.ite ?_ ?_)
      | (with_reducible refine LeO.bind ?_ (fun _ => ?_))
      | exact ih0 _ _
      | exact LeO.none _
      | refine LeO.ite ?_ ?_
      | refine LeO.bind ?_ (fun _ => ?_)
set_option maxHeartbeats 8000000 in
set_option maxRecDepth 100000 in
theorem wire_groups.calls (k : Nat) (a0 : Int) (r : Int) (w : World) (h : wire_groups.f k a0 = some r) :
    Calls Try.prog 141 #[.int .u64 a0] w fun e w' => e = .returned (.int .i64 r) ∧ Drawn0 w w' := by
  have H : (wire_groups.l0 k (a0 / 128) 1) = some r := h
  clear h
  have H' := Aside0.mk H
  clear H
  go_enter Try.func141, Try.ntmps141
  go_wp2
  go_loopg [0, 3] k (fun kq v0 v3 w' => ∃ (x0_1 : Int) (x3_1 : Int), v0 = .int .u64 x0_1 ∧ v3 = .int .i64 x3_1 ∧ Aside0 (wire_groups.l0 kq x0_1 x3_1 = some r) ∧ Aside0 (kq ≤ k) ∧ Drawn0 w w')
  case atStart => exact ⟨(a0 / 128), (1), (by first | rfl | (simp; done) | (simp [*]; done)), (by first | rfl | (simp; done) | (simp [*]; done)), H', ⟨Nat.le_refl _⟩, by repeat (first | exact Drawn0.refl _ | apply Drawn0.step)⟩
  case round =>
    clear H'
    try clear c1
    obtain ⟨x0_1, x3_1, rfl, rfl, HA, HK1, ⟨m1, rfl⟩⟩ := hrel
    cases gk with
    | zero => exact absurd HA.out (by simp [wire_groups.l0])
    | succ k1 =>
      have H := HA.out
      clear HA
      simp only [wire_groups.l0] at H
      by_cases c2 : x0_1 > 0
      · rw [if_pos c2] at H
        have c2b0 : decide (0 < x0_1) = true := decide_eq_true c2
        clear c2
        have H' := Aside0.mk H
        clear H
        go_wp2
        go_roundg k1
        case measure => have := HK1.out; omega
        case rel => exact ⟨(x0_1 / 128), (wrap64 (x3_1 + 1)), (by first | rfl | (simp; done) | (simp [*]; done)), (by first | rfl | (simp; done) | (simp [*]; done)), H', ⟨by have := HK1.out; omega⟩, by repeat (first | exact Drawn0.refl _ | apply Drawn0.step)⟩
      · rw [if_neg c2] at H
        have c2b0 : decide (0 < x0_1) = false := decide_eq_false c2
        clear c2
        obtain rfl := Option.some.inj H
        go_wp2
        go_ret
        exact ⟨by first | rfl | (simp; done) | (simp [*]; done), by repeat (first | exact Drawn0.refl _ | apply Drawn0.step)⟩

end Go.Proofs.Ytchaegfdcdlfaaa.X

namespace Go.Proofs.Ytchaegfdcdlfaaa.X
open Go.RowKit Go.Proofs.YtchaegfdcdlfaaaW.PrintWords Go.Proofs.YtchaegfdcdlfaaaW.PrintLast Go.Proofs.YtchaegfdcdlfaaaW.PrintMore
attribute [local go_sem] max2_int min2_int max_two min_two max_three min_three max_four min_four   -- for this text's walks alone
set_option linter.unusedVariables false
set_option linter.unusedSimpArgs false

/-! ### wire_Put: function 84 -/
def wire_Put.l0 : Nat → Int → Int → List Int → Int → Int → Option (List Int)
  | 0, _, _, _, _, _ => none
  | k + 1, x0, x3, x4, x10, x11 => if x11 < x10 then (if 0 ≤ (wrap64 (7 * x11)) then (if 0 ≤ (wrap64 ((wrap64 (x3 - 1)) - x11)) then (if (wrap64 ((wrap64 (x3 - 1)) - x11)) < (x4.length : Int) then (wire_Put.l0 k x0 x3 (x4.set ((wrap64 ((wrap64 (x3 - 1)) - x11)) : Int).toNat (Go.bits .or .u8 ((shr .u64 x0 (wrap64 (7 * x11))) % 256) 128)) x10 (wrap64 (x11 + 1))) else (none)) else (none)) else (none)) else (if 0 ≤ (wrap64 (x3 - 1)) then (if (wrap64 (x3 - 1)) < (x4.length : Int) then (some (x4.set ((wrap64 (x3 - 1)) : Int).toNat (Go.bits .andNot .u8 (rd x4 (wrap64 (x3 - 1))) 128))) else (none)) else (none))
def wire_Put.f (k : Nat) (a0 : Int) : Option (List Int) := (wire_groups.f k a0).bind fun t148 => (if 0 ≤ t148 then (if (t148 : Int).toNat ≤ 281474976710656 then (wire_Put.l0 k a0 t148 (List.replicate (t148 : Int).toNat 0) t148 0) else (none)) else (none))
theorem wire_Put.mono_l : ∀ k, (∀ y0 y1 y2 y3 y4, LeO (wire_Put.l0 k y0 y1 y2 y3 y4) (wire_Put.l0 (k + 1) y0 y1 y2 y3 y4))
  | 0 => fun _ _ _ _ _ r h => by simp [wire_Put.l0] at h
  | k + 1 => by
    have ih0 := wire_Put.mono_l k
    · intro y0 y1 y2 y3 y4
      unfold wire_Put.l0
      repeat' first
      | (with_reducible exact ih0 _ _ _ _ _)
      | (with_reducible exact wire_groups.mono _ _)
      | (with_reducible exact LeO.refl _)
      | (with_reducible exact LeO.none _)
      | (with_reducible refine LeO.ite ?_ ?_)
      | (with_reducible refine LeO.bind ?_ (fun _ => ?_))
      | exact ih0 _ _ _ _ _
      | exact wire_groups.mono _ _
      | exact LeO.none _
      | refine LeO.ite ?_ ?_
      | refine LeO.bind ?_ (fun _ => ?_)
theorem wire_Put.mono : ∀ a0 k, LeO (wire_Put.f k a0) (wire_Put.f (k + 1) a0) := by
  intro a0 k
  have ih0 := wire_Put.mono_l k
  unfold wire_Put.f
  repeat' first
      | (with_reducible exact ih0 _ _ _ _ _)
      | (with_reducible exact wire_groups.mono _ _)
      | (with_reducible exact LeO.refl _)
      | (with_reducible exact LeO.none _)
      | (with_reducible refine LeO.ite ?_ ?_)
      | (with_reducible refine LeO.bind ?_ (fun _ => ?_))
      | exact ih0 _ _ _ _ _
      | exact wire_groups.mono _ _
      | exact LeO.none _
      | refine LeO.ite ?_ ?_
      | refine LeO.bind ?_ (fun _ => ?_)
set_option maxHeartbeats 8000000 in
set_option maxRecDepth 100000 in
theorem wire_Put.calls (k : Nat) (a0 : Int) (r : List Int) (w : World) (h : wire_Put.f k a0 = some r) :
    Calls Try.prog 84 #[.int .u64 a0] w fun e w' => ∃ v0_ : Value, e = .returned (v0_) ∧ Kd.R (Kd.int .u8) 5 w' w.heap.size (fun _ => True) v0_ r ∧ Below w.heap.size w w' := by
  have HB := Aside0.mk (Below.refl w.heap.size w)
  have H : ((wire_groups.f k a0).bind fun t148 => (if 0 ≤ t148 then (if (t148 : Int).toNat ≤ 281474976710656 then (wire_Put.l0 k a0 t148 (List.replicate (t148 : Int).toNat 0) t148 0) else (none)) else (none))) = some r := h
  clear h
  replace H := Option.bind_eq_some_iff.mp H
  obtain ⟨t148, A20, H⟩ := H
  replace H : (if 0 ≤ t148 then (if (t148 : Int).toNat ≤ 281474976710656 then (wire_Put.l0 k a0 t148 (List.replicate (t148 : Int).toNat 0) t148 0) else (none)) else (none)) = some r := H
  have A2 := Aside0.mk A20
  clear A20
  by_cases c3 : 0 ≤ t148
  · rw [if_pos c3] at H
    have c3b0 := eq_true c3
    have c3b1 : decide (0 ≤ t148) = true := decide_eq_true c3
    clear c3
    by_cases c4 : (t148 : Int).toNat ≤ 281474976710656
    · rw [if_pos c4] at H
      have c4b0 := eq_true c4
      have c4b1 : decide ((t148 : Int).toNat ≤ 281474976710656) = true := decide_eq_true c4
      clear c4
      obtain ⟨y149, hy149⟩ : ∃ y_ : List Int, y_ = (List.replicate (t148 : Int).toNat 0) := ⟨_, rfl⟩
      replace H : (wire_Put.l0 k a0 t148 y149 t148 0) = some r := by first | (rw [hy149]; with_reducible exact H) | (have H2_ := (Option.bind_some _ _).symm.trans H; rw [hy149]; with_reducible exact H2_) | (have H2_ := (Option.bind_some _ _).symm.trans H; with_reducible exact H2_) | with_reducible exact H | (rw [hy149]; exact H) | exact H
      have Ny149 := Aside0.mk hy149
      clear hy149
      have H' := Aside0.mk H
      clear H
      go_enter Try.func84, Try.ntmps84
      go_wp2_with (first | ((with_reducible refine gate_callee (f := 141) rfl ?_); refine goesL_ (some 7) rfl rfl Try.func141 (by kernel_rfl) rfl #[.int .u64 a0] rfl (by (try simp only [List.map_toArray, List.map_cons, List.map_nil]); first | done | rfl | (simp only [List.length_drop, List.length_take]; rfl)) ?_; (with_reducible refine (wire_groups.calls k a0 t148 _ A2.out).mono ?_); rintro e w' ⟨rfl, ⟨nd, rfl⟩⟩; refine ⟨_, rfl, ?_⟩) | ((with_reducible refine gate_dst (N := 9) rfl ?_); refine Kd.R_make (Kd.int .u8) _ 5 rfl (N := 9) rfl 40 _ _ rfl t148 rfl rfl Try.underlying40 (.int .u8 0) 1 info5 rfl (by decide) (by omega) 0 (ok := fun _ => True) (okp := fun _ => True) rfl (fun _ hk => hk) trivial (of_decide_eq_true (by first | (with_reducible assumption) | assumption)) (Nat.le_trans (Nat.mul_le_mul_right _ (of_decide_eq_true (by first | (with_reducible assumption) | assumption) : t148.toNat ≤ 281474976710656)) (by omega)) (Below.refl _ _) (Nat.le_refl _) ?_; intro v150 w5 ho6 hb hg_ hnew_; clear hg_ hnew_; (first | rw [← Ny149.out] at ho6 | (simp only [Int.reduceToNat] at ho6; rw [← Ny149.out] at ho6)); have n0_ := Aside0.mk (Kd.R_lower ho6 (below_size (by repeat (first | (with_reducible first | exact HB.out | apply below_alloc | apply pw_below_drewN | apply below_drew1) | exact HB.out)))); have n1_ := Aside0.mk (below_step (by repeat (first | (with_reducible first | exact HB.out | apply below_alloc | apply pw_below_drewN | apply below_drew1) | exact HB.out)) hb); clear HB; have HO151 := n0_; have HB := n1_; clear n0_ n1_; clear hb ho6))
      go_loopg [11] k (fun kq v11 w' => ∃ (x4_1 : List Int) (x11_1 : Int), v11 = .int .i64 x11_1 ∧ Aside0 (wire_Put.l0 kq a0 t148 x4_1 t148 x11_1 = some r) ∧ Aside0 (kq ≤ k) ∧ Aside0 (Kd.R (Kd.int .u8) 5 w' w.heap.size (fun _ => True) v150 x4_1) ∧ Aside0 (Below w.heap.size w w'))
      case atStart => exact ⟨(y149), (0), (by first | rfl | (simp; done) | (simp [*]; done)), H', ⟨Nat.le_refl _⟩, ⟨by (with_reducible repeat (first | apply Kd.R_alloc | apply Kd.R_drewN | apply Kd.R_drew)); exact HO151.out⟩, ⟨by repeat (first | (with_reducible first | exact HB.out | apply below_alloc | apply pw_below_drewN | apply below_drew1) | exact HB.out)⟩⟩
      case round =>
        clear H'
        try clear c1
        try clear p2
        try clear c3
        try clear c3b0
        try clear c3b1
        try clear c4
        try clear c4b0
        try clear c4b1
        obtain ⟨x4_1, x11_1, rfl, HA, HK1, HO_4, HB⟩ := hrel
        cases gk with
        | zero => exact absurd HA.out (by simp [wire_Put.l0])
        | succ k1 =>
          have H := HA.out
          clear HA
          simp only [wire_Put.l0] at H
          by_cases c7 : x11_1 < t148
          · rw [if_pos c7] at H
            have c7b0 : decide (x11_1 < t148) = true := decide_eq_true c7
            clear c7
            obtain ⟨ji8, hji8⟩ : ∃ j_ : Int, (wrap64 (7 * x11_1)) = j_ := ⟨_, rfl⟩
            replace H : (if 0 ≤ (ji8) then (if 0 ≤ (wrap64 ((wrap64 (t148 - 1)) - x11_1)) then (if (wrap64 ((wrap64 (t148 - 1)) - x11_1)) < (x4_1.length : Int) then (wire_Put.l0 k1 a0 t148 (x4_1.set ((wrap64 ((wrap64 (t148 - 1)) - x11_1)) : Int).toNat (Go.bits .or .u8 ((shr .u64 a0 (ji8)) % 256) 128)) t148 (wrap64 (x11_1 + 1))) else (none)) else (none)) else (none)) = some r := by first | (rw [hji8] at H; exact H) | (simp only [hji8] at H ⊢; exact H)
            have hji8w : (IntKind.i64.wrap (7 * x11_1)) = ji8 := (i64_w _).trans hji8
            by_cases c9 : 0 ≤ (ji8)
            · rw [if_pos c9] at H
              have c9b0 := eq_true c9
              have c9b1 : decide (0 ≤ (ji8)) = true := decide_eq_true c9
              clear c9
              obtain ⟨ji10, hji10⟩ : ∃ j_ : Int, (shr .u64 a0 (ji8)) = j_ := ⟨_, rfl⟩
              replace H : (if 0 ≤ (wrap64 ((wrap64 (t148 - 1)) - x11_1)) then (if (wrap64 ((wrap64 (t148 - 1)) - x11_1)) < (x4_1.length : Int) then (wire_Put.l0 k1 a0 t148 (x4_1.set ((wrap64 ((wrap64 (t148 - 1)) - x11_1)) : Int).toNat (Go.bits .or .u8 ((ji10) % 256) 128)) t148 (wrap64 (x11_1 + 1))) else (none)) else (none)) = some r := by first | (rw [hji10] at H; exact H) | (simp only [hji10] at H ⊢; exact H)
              have hji10_ : (a0 / 2 ^ min (ji8).toNat 64) = ji10 := hji10
              have hji10z : (ji8) ≤ 64 → (a0 / 2 ^ (ji8).toNat) = ji10 := shr_small hji10
              obtain ⟨ji11, hji11⟩ : ∃ j_ : Int, (wrap64 ((wrap64 (t148 - 1)) - x11_1)) = j_ := ⟨_, rfl⟩
              replace H : (if 0 ≤ (ji11) then (if (ji11) < (x4_1.length : Int) then (wire_Put.l0 k1 a0 t148 (x4_1.set ((ji11) : Int).toNat (Go.bits .or .u8 ((ji10) % 256) 128)) t148 (wrap64 (x11_1 + 1))) else (none)) else (none)) = some r := by first | (rw [hji11] at H; exact H) | (simp only [hji11] at H ⊢; exact H)
              have hji11w : (IntKind.i64.wrap ((wrap64 (t148 - 1)) - x11_1)) = ji11 := (i64_w _).trans hji11
              by_cases c12 : 0 ≤ (ji11)
              · rw [if_pos c12] at H
                have c12b0 : decide (0 ≤ (ji11)) = true := decide_eq_true c12
                clear c12
                by_cases c13 : (ji11) < (x4_1.length : Int)
                · rw [if_pos c13] at H
                  have c13b0 : decide ((ji11) < (x4_1.length : Int)) = true := decide_eq_true c13
                  clear c13
                  obtain ⟨y152, hy152⟩ : ∃ y_ : List Int, y_ = (x4_1.set ((ji11) : Int).toNat (Go.bits .or .u8 ((ji10) % 256) 128)) := ⟨_, rfl⟩
                  replace H : (wire_Put.l0 k1 a0 t148 y152 t148 (wrap64 (x11_1 + 1))) = some r := by first | (rw [hy152]; with_reducible exact H) | (have H2_ := (Option.bind_some _ _).symm.trans H; rw [hy152]; with_reducible exact H2_) | (have H2_ := (Option.bind_some _ _).symm.trans H; with_reducible exact H2_) | with_reducible exact H | (rw [hy152]; exact H) | exact H
                  have Ny152 := Aside0.mk hy152
                  clear hy152
                  have H' := Aside0.mk H
                  clear H
                  have p14 : 0 ≤ ((ji11) : Int) := of_decide_eq_true (by first | (with_reducible assumption) | assumption)
                  have q14 : ((ji11) : Int) < ((x4_1.length : Int) : Int) := of_decide_eq_true (by first | (with_reducible assumption) | assumption)
                  obtain ⟨go14, co14, eo14, gb14, gl14, cl14, HG14⟩ := Kd.R_form HO_4.out (by omega)
                  (first | cases eo14 | (injection eo14 with ea_ en_ ec_; (first | subst ea_ | (injection ea_ with ea_; subst ea_)); subst ec_; clear en_))
                  have GB14 := Aside0.mk gb14
                  have GG14 := Aside0.mk HG14
                  clear gb14 gl14 HG14
                  obtain ⟨hx14_0, hf14_0⟩ := Kd.R_celln 0 HO_4.out ((ji11) : Int) p14 q14
                  replace p14 := eq_true p14
                  replace q14 := eq_true q14
                  have HP15 := Kd.R_putg HO_4.out ((ji11) : Int) (Go.bits .or .u8 ((ji10) % 256) 128)
                  go_wp2_with (first | ((with_reducible refine gate_store (t := 5) (p := 25) rfl ?_); refine store_event (t := 5) (p := 25) (v := ?vo_w16) (w1 := (wr.setCell ⟨go14, ((ji11) : Int).toNat, none⟩ (.int .u8 (Go.bits .or .u8 ((ji10) % 256) 128)))) ?hg ?ho ?hn ?hr ?_; (case ho => rfl); (case hg => rfl); (case hn => rfl); (case hr => first | (go_simp; done) | (go_simp; rfl)); intro w16 hw; have hg : wr.grownBy w16 (some go14) := (by rw [hw]; exact HP15.2); have hp_ : Kd.R (Kd.int .u8) 5 w16 w.heap.size (fun _ => True) (.slice (some ⟨go14, 0, none⟩) x4_1.length co14) y152 := (by rw [hw, Ny152.out]; exact HP15.1); clear HP15; have n0_ := Aside0.mk (hp_); have n1_ := Aside0.mk ((by rw [hw]; exact below_set (HB.out) GB14.out : Below w.heap.size w w16)); clear HO_4; clear HB; have HO_4 := n0_; have HB := n1_; clear n0_ n1_; clear hg hw hp_))
                  go_roundg k1
                  case measure => have := HK1.out; omega
                  case rel => exact ⟨(y152), (wrap64 (x11_1 + 1)), (by first | rfl | (simp; done) | (simp [*]; done)), H', ⟨by have := HK1.out; omega⟩, ⟨by (with_reducible repeat (first | apply Kd.R_alloc | apply Kd.R_drewN | apply Kd.R_drew)); exact HO_4.out⟩, ⟨by repeat (first | (with_reducible first | exact HB.out | apply below_alloc | apply pw_below_drewN | apply below_drew1) | exact HB.out)⟩⟩
                · rw [if_neg c13] at H
                  exact absurd H (by simp)
              · rw [if_neg c12] at H
                exact absurd H (by simp)
            · rw [if_neg c9] at H
              exact absurd H (by simp)
          · rw [if_neg c7] at H
            have c7b0 : decide (x11_1 < t148) = false := decide_eq_false c7
            clear c7
            obtain ⟨ji17, hji17⟩ : ∃ j_ : Int, (wrap64 (t148 - 1)) = j_ := ⟨_, rfl⟩
            replace H : (if 0 ≤ (ji17) then (if (ji17) < (x4_1.length : Int) then (some (x4_1.set ((ji17) : Int).toNat (Go.bits .andNot .u8 (rd x4_1 (ji17)) 128))) else (none)) else (none)) = some r := by first | (rw [hji17] at H; exact H) | (simp only [hji17] at H ⊢; exact H)
            have hji17w : (IntKind.i64.wrap (t148 - 1)) = ji17 := (i64_w _).trans hji17
            by_cases c18 : 0 ≤ (ji17)
            · rw [if_pos c18] at H
              have c18b0 : decide (0 ≤ (ji17)) = true := decide_eq_true c18
              clear c18
              by_cases c19 : (ji17) < (x4_1.length : Int)
              · rw [if_pos c19] at H
                have c19b0 : decide ((ji17) < (x4_1.length : Int)) = true := decide_eq_true c19
                clear c19
                obtain ⟨y154, hy154⟩ : ∃ y_ : List Int, y_ = (x4_1.set ((ji17) : Int).toNat (Go.bits .andNot .u8 (rd x4_1 (ji17)) 128)) := ⟨_, rfl⟩
                replace H : (some y154) = some r := by first | (rw [hy154]; with_reducible exact H) | (have H2_ := (Option.bind_some _ _).symm.trans H; rw [hy154]; with_reducible exact H2_) | (have H2_ := (Option.bind_some _ _).symm.trans H; with_reducible exact H2_) | with_reducible exact H | (rw [hy154]; exact H) | exact H
                have Ny154 := Aside0.mk hy154
                clear hy154
                obtain rfl := Option.some.inj H
                obtain ⟨Ao21, co21, eo21⟩ := Kd.R_slice HO_4.out
                subst eo21
                have p153 : 0 ≤ ((ji17) : Int) := of_decide_eq_true (by first | (with_reducible assumption) | assumption)
                have q153 : (ji17) < (x4_1.length : Int) := of_decide_eq_true (by first | (with_reducible assumption) | assumption)
                obtain ⟨ad153, e153, hx153_0⟩ := Kd.at_int (Kd.R_reads' HO_4.out).2.2 (ji17) p153 q153
                cases e153
                replace p153 := eq_true p153
                replace q153 := eq_true q153
                have p20 : 0 ≤ ((ji17) : Int) := of_decide_eq_true (by first | (with_reducible assumption) | assumption)
                have q20 : ((ji17) : Int) < ((x4_1.length : Int) : Int) := of_decide_eq_true (by first | (with_reducible assumption) | assumption)
                obtain ⟨go20, co20, eo20, gb20, gl20, cl20, HG20⟩ := Kd.R_form HO_4.out (by omega)
                (first | cases eo20 | (injection eo20 with ea_ en_ ec_; (first | subst ea_ | (injection ea_ with ea_; subst ea_)); subst ec_; clear en_))
                have GB20 := Aside0.mk gb20
                have GG20 := Aside0.mk HG20
                clear gb20 gl20 HG20
                (first | simp only [add_plain] at hx153_0 | skip)
                obtain ⟨hx20_0, hf20_0⟩ := Kd.R_celln 0 HO_4.out ((ji17) : Int) p20 q20
                replace p20 := eq_true p20
                replace q20 := eq_true q20
                have HP22 := Kd.R_putg HO_4.out ((ji17) : Int) (Go.bits .andNot .u8 (rd x4_1 (ji17)) 128)
                go_wp2_with (first | ((with_reducible refine gate_store (t := 5) (p := 33) rfl ?_); refine store_event (t := 5) (p := 33) (v := ?vo_w23) (w1 := (wr.setCell ⟨go20, ((ji17) : Int).toNat, none⟩ (.int .u8 (Go.bits .andNot .u8 (rd x4_1 (ji17)) 128)))) ?hg ?ho ?hn ?hr ?_; (case ho => rfl); (case hg => rfl); (case hn => rfl); (case hr => first | (go_simp; done) | (go_simp; rfl)); intro w23 hw; have hg : wr.grownBy w23 (some go20) := (by rw [hw]; exact HP22.2); have hp_ : Kd.R (Kd.int .u8) 5 w23 w.heap.size (fun _ => True) (.slice (some ⟨go20, 0, none⟩) x4_1.length co21) y154 := (by rw [hw, Ny154.out]; exact HP22.1); clear HP22; have n0_ := Aside0.mk (hp_); have n1_ := Aside0.mk ((by rw [hw]; exact below_set (HB.out) GB20.out : Below w.heap.size w w23)); clear HO_4; clear HB; have HO_4 := n0_; have HB := n1_; clear n0_ n1_; clear hg hw hp_))
                go_ret
                exact ⟨_, by first | rfl | (simp [errW_none, errW_some] <;> rfl) | (simp only [← hji17]; first | rfl | (simp [errW_none, errW_some] <;> rfl)) | (simp [*, errW_none, errW_some] <;> rfl), by (with_reducible repeat (first | apply Kd.R_alloc | apply Kd.R_drewN | apply Kd.R_drew)); exact HO_4.out, by repeat (first | (with_reducible first | exact HB.out | apply below_alloc | apply pw_below_drewN | apply below_drew1) | exact HB.out)⟩
              · rw [if_neg c19] at H
                exact absurd H (by simp)
            · rw [if_neg c18] at H
              exact absurd H (by simp)
    · rw [if_neg c4] at H
      exact absurd H (by simp)
  · rw [if_neg c3] at H
    exact absurd H (by simp)

end Go.Proofs.Ytchaegfdcdlfaaa.X

namespace Go.Proofs.Ytchaegfdcdlfaaa.X
open Go.RowKit Go.Proofs.YtchaegfdcdlfaaaW.PrintWords Go.Proofs.YtchaegfdcdlfaaaW.PrintLast Go.Proofs.YtchaegfdcdlfaaaW.PrintMore
attribute [local go_sem] max2_int min2_int max_two min_two max_three min_three max_four min_four   -- for this text's walks alone
set_option linter.unusedVariables false
set_option linter.unusedSimpArgs false

/-! ### wire_Word: function 85 -/
def wire_Word.l0 : Nat → Int → List Int → Int → Option (List Int)
  | 0, _, _, _ => none
  | k + 1, x0, x3, x6 => if x6 < 4 then (if 0 ≤ (wrap64 (8 * x6)) then (if 0 ≤ (wrap64 (3 - x6)) then (if (wrap64 (3 - x6)) < (x3.length : Int) then (wire_Word.l0 k x0 (x3.set ((wrap64 (3 - x6)) : Int).toNat ((shr .u32 x0 (wrap64 (8 * x6))) % 256)) (wrap64 (x6 + 1))) else (none)) else (none)) else (none)) else (some x3)
def wire_Word.f (k : Nat) (a0 : Int) : Option (List Int) := if 4 ≤ 281474976710656 then (wire_Word.l0 k a0 (List.replicate 4 0) 0) else (none)
theorem wire_Word.mono_l : ∀ k, (∀ y0 y1 y2, LeO (wire_Word.l0 k y0 y1 y2) (wire_Word.l0 (k + 1) y0 y1 y2))
  | 0 => fun _ _ _ r h => by simp [wire_Word.l0] at h
  | k + 1 => by
    have ih0 := wire_Word.mono_l k
    · intro y0 y1 y2
      unfold wire_Word.l0
      repeat' first
      | (with_reducible exact ih0 _ _ _)
      | (with_reducible exact LeO.refl _)
      | (with_reducible exact LeO.none _)
      | (with_reducible refine LeO.ite ?_ ?_)
      | (with_reducible refine LeO.bind ?_ (fun _ => ?_))
      | exact ih0 _ _ _
      | exact LeO.none _
      | refine LeO.ite ?_ ?_
      | refine LeO.bind ?_ (fun _ => ?_)
theorem wire_Word.mono : ∀ a0 k, LeO (wire_Word.f k a0) (wire_Word.f (k + 1) a0) := by
  intro a0 k
  have ih0 := wire_Word.mono_l k
  unfold wire_Word.f
  repeat' first
      | (with_reducible exact ih0 _ _ _)
      | (with_reducible exact LeO.refl _)
      | (with_reducible exact LeO.none _)
      | (with_reducible refine LeO.ite ?_ ?_)
      | (with_reducible refine LeO.bind ?_ (fun _ => ?_))
      | exact ih0 _ _ _
      | exact LeO.none _
      | refine LeO.ite ?_ ?_
      | refine LeO.bind ?_ (fun _ => ?_)
set_option maxHeartbeats 8000000 in
set_option maxRecDepth 100000 in
theorem wire_Word.calls (k : Nat) (a0 : Int) (r : List Int) (w : World) (h : wire_Word.f k a0 = some r) :
    Calls Try.prog 85 #[.int .u32 a0] w fun e w' => ∃ v0_ : Value, e = .returned (v0_) ∧ Kd.R (Kd.int .u8) 5 w' w.heap.size (fun _ => True) v0_ r ∧ Below w.heap.size w w' := by
  have HB := Aside0.mk (Below.refl w.heap.size w)
  have H : (if 4 ≤ 281474976710656 then (wire_Word.l0 k a0 (List.replicate 4 0) 0) else (none)) = some r := h
  clear h
  by_cases c2 : 4 ≤ 281474976710656
  · rw [if_pos c2] at H
    have c2b0 := eq_true c2
    have c2b1 : decide (4 ≤ 281474976710656) = true := decide_eq_true c2
    clear c2
    obtain ⟨y155, hy155⟩ : ∃ y_ : List Int, y_ = (List.replicate 4 0) := ⟨_, rfl⟩
    replace H : (wire_Word.l0 k a0 y155 0) = some r := by first | (rw [hy155]; with_reducible exact H) | (have H2_ := (Option.bind_some _ _).symm.trans H; rw [hy155]; with_reducible exact H2_) | (have H2_ := (Option.bind_some _ _).symm.trans H; with_reducible exact H2_) | with_reducible exact H | (rw [hy155]; exact H) | exact H
    have Ny155 := Aside0.mk hy155
    clear hy155
    have H' := Aside0.mk H
    clear H
    go_enter Try.func85, Try.ntmps85
    go_wp2_with (first | ((with_reducible refine gate_dst (N := 5) rfl ?_); refine Kd.R_make (Kd.int .u8) _ 5 rfl (N := 5) rfl 40 _ _ rfl 4 rfl rfl Try.underlying40 (.int .u8 0) 1 info5 rfl (by decide) (by omega) 0 (ok := fun _ => True) (okp := fun _ => True) rfl (fun _ hk => hk) trivial (by omega) (by omega) (Below.refl _ _) (Nat.le_refl _) ?_; intro v156 w3 ho4 hb hg_ hnew_; clear hg_ hnew_; (first | rw [← Ny155.out] at ho4 | (simp only [Int.reduceToNat] at ho4; rw [← Ny155.out] at ho4)); have n0_ := Aside0.mk (Kd.R_lower ho4 (below_size (by repeat (first | (with_reducible first | exact HB.out | apply below_alloc | apply pw_below_drewN | apply below_drew1) | exact HB.out)))); have n1_ := Aside0.mk (below_step (by repeat (first | (with_reducible first | exact HB.out | apply below_alloc | apply pw_below_drewN | apply below_drew1) | exact HB.out)) hb); clear HB; have HO157 := n0_; have HB := n1_; clear n0_ n1_; clear hb ho4))
    go_loopg [6] k (fun kq v6 w' => ∃ (x3_1 : List Int) (x6_1 : Int), v6 = .int .i64 x6_1 ∧ Aside0 (wire_Word.l0 kq a0 x3_1 x6_1 = some r) ∧ Aside0 (kq ≤ k) ∧ Aside0 (Kd.R (Kd.int .u8) 5 w' w.heap.size (fun _ => True) v156 x3_1) ∧ Aside0 (Below w.heap.size w w'))
    case atStart => exact ⟨(y155), (0), (by first | rfl | (simp; done) | (simp [*]; done)), H', ⟨Nat.le_refl _⟩, ⟨by (with_reducible repeat (first | apply Kd.R_alloc | apply Kd.R_drewN | apply Kd.R_drew)); exact HO157.out⟩, ⟨by repeat (first | (with_reducible first | exact HB.out | apply below_alloc | apply pw_below_drewN | apply below_drew1) | exact HB.out)⟩⟩
    case round =>
      clear H'
      try clear c2
      try clear c2b0
      try clear c2b1
      try clear p2
      obtain ⟨x3_1, x6_1, rfl, HA, HK1, HO_3, HB⟩ := hrel
      cases gk with
      | zero => exact absurd HA.out (by simp [wire_Word.l0])
      | succ k1 =>
        have H := HA.out
        clear HA
        simp only [wire_Word.l0] at H
        by_cases c5 : x6_1 < 4
        · rw [if_pos c5] at H
          have c5b0 : decide (x6_1 < 4) = true := decide_eq_true c5
          clear c5
          obtain ⟨ji6, hji6⟩ : ∃ j_ : Int, (wrap64 (8 * x6_1)) = j_ := ⟨_, rfl⟩
          replace H : (if 0 ≤ (ji6) then (if 0 ≤ (wrap64 (3 - x6_1)) then (if (wrap64 (3 - x6_1)) < (x3_1.length : Int) then (wire_Word.l0 k1 a0 (x3_1.set ((wrap64 (3 - x6_1)) : Int).toNat ((shr .u32 a0 (ji6)) % 256)) (wrap64 (x6_1 + 1))) else (none)) else (none)) else (none)) = some r := by first | (rw [hji6] at H; exact H) | (simp only [hji6] at H ⊢; exact H)
          have hji6w : (IntKind.i64.wrap (8 * x6_1)) = ji6 := (i64_w _).trans hji6
          by_cases c7 : 0 ≤ (ji6)
          · rw [if_pos c7] at H
            have c7b0 := eq_true c7
            have c7b1 : decide (0 ≤ (ji6)) = true := decide_eq_true c7
            clear c7
            obtain ⟨ji8, hji8⟩ : ∃ j_ : Int, (shr .u32 a0 (ji6)) = j_ := ⟨_, rfl⟩
            replace H : (if 0 ≤ (wrap64 (3 - x6_1)) then (if (wrap64 (3 - x6_1)) < (x3_1.length : Int) then (wire_Word.l0 k1 a0 (x3_1.set ((wrap64 (3 - x6_1)) : Int).toNat ((ji8) % 256)) (wrap64 (x6_1 + 1))) else (none)) else (none)) = some r := by first | (rw [hji8] at H; exact H) | (simp only [hji8] at H ⊢; exact H)
            have hji8_ : (a0 / 2 ^ min (ji6).toNat 32) = ji8 := hji8
            have hji8z : (ji6) ≤ 32 → (a0 / 2 ^ (ji6).toNat) = ji8 := shr_small hji8
            obtain ⟨ji9, hji9⟩ : ∃ j_ : Int, (wrap64 (3 - x6_1)) = j_ := ⟨_, rfl⟩
            replace H : (if 0 ≤ (ji9) then (if (ji9) < (x3_1.length : Int) then (wire_Word.l0 k1 a0 (x3_1.set ((ji9) : Int).toNat ((ji8) % 256)) (wrap64 (x6_1 + 1))) else (none)) else (none)) = some r := by first | (rw [hji9] at H; exact H) | (simp only [hji9] at H ⊢; exact H)
            have hji9w : (IntKind.i64.wrap (3 - x6_1)) = ji9 := (i64_w _).trans hji9
            by_cases c10 : 0 ≤ (ji9)
            · rw [if_pos c10] at H
              have c10b0 : decide (0 ≤ (ji9)) = true := decide_eq_true c10
              clear c10
              by_cases c11 : (ji9) < (x3_1.length : Int)
              · rw [if_pos c11] at H
                have c11b0 : decide ((ji9) < (x3_1.length : Int)) = true := decide_eq_true c11
                clear c11
                obtain ⟨y158, hy158⟩ : ∃ y_ : List Int, y_ = (x3_1.set ((ji9) : Int).toNat ((ji8) % 256)) := ⟨_, rfl⟩
                replace H : (wire_Word.l0 k1 a0 y158 (wrap64 (x6_1 + 1))) = some r := by first | (rw [hy158]; with_reducible exact H) | (have H2_ := (Option.bind_some _ _).symm.trans H; rw [hy158]; with_reducible exact H2_) | (have H2_ := (Option.bind_some _ _).symm.trans H; with_reducible exact H2_) | with_reducible exact H | (rw [hy158]; exact H) | exact H
                have Ny158 := Aside0.mk hy158
                clear hy158
                have H' := Aside0.mk H
                clear H
                have p12 : 0 ≤ ((ji9) : Int) := of_decide_eq_true (by first | (with_reducible assumption) | assumption)
                have q12 : ((ji9) : Int) < ((x3_1.length : Int) : Int) := of_decide_eq_true (by first | (with_reducible assumption) | assumption)
                obtain ⟨go12, co12, eo12, gb12, gl12, cl12, HG12⟩ := Kd.R_form HO_3.out (by omega)
                (first | cases eo12 | (injection eo12 with ea_ en_ ec_; (first | subst ea_ | (injection ea_ with ea_; subst ea_)); subst ec_; clear en_))
                have GB12 := Aside0.mk gb12
                have GG12 := Aside0.mk HG12
                clear gb12 gl12 HG12
                obtain ⟨hx12_0, hf12_0⟩ := Kd.R_celln 0 HO_3.out ((ji9) : Int) p12 q12
                replace p12 := eq_true p12
                replace q12 := eq_true q12
                have HP13 := Kd.R_putg HO_3.out ((ji9) : Int) ((ji8) % 256)
                go_wp2_with (first | ((with_reducible refine gate_store (t := 5) (p := 17) rfl ?_); refine store_event (t := 5) (p := 17) (v := ?vo_w14) (w1 := (wr.setCell ⟨go12, ((ji9) : Int).toNat, none⟩ (.int .u8 ((ji8) % 256)))) ?hg ?ho ?hn ?hr ?_; (case ho => rfl); (case hg => rfl); (case hn => rfl); (case hr => first | (go_simp; done) | (go_simp; rfl)); intro w14 hw; have hg : wr.grownBy w14 (some go12) := (by rw [hw]; exact HP13.2); have hp_ : Kd.R (Kd.int .u8) 5 w14 w.heap.size (fun _ => True) (.slice (some ⟨go12, 0, none⟩) x3_1.length co12) y158 := (by rw [hw, Ny158.out]; exact HP13.1); clear HP13; have n0_ := Aside0.mk (hp_); have n1_ := Aside0.mk ((by rw [hw]; exact below_set (HB.out) GB12.out : Below w.heap.size w w14)); clear HO_3; clear HB; have HO_3 := n0_; have HB := n1_; clear n0_ n1_; clear hg hw hp_))
                go_roundg k1
                case measure => have := HK1.out; omega
                case rel => exact ⟨(y158), (wrap64 (x6_1 + 1)), (by first | rfl | (simp; done) | (simp [*]; done)), H', ⟨by have := HK1.out; omega⟩, ⟨by (with_reducible repeat (first | apply Kd.R_alloc | apply Kd.R_drewN | apply Kd.R_drew)); exact HO_3.out⟩, ⟨by repeat (first | (with_reducible first | exact HB.out | apply below_alloc | apply pw_below_drewN | apply below_drew1) | exact HB.out)⟩⟩
              · rw [if_neg c11] at H
                exact absurd H (by simp)
            · rw [if_neg c10] at H
              exact absurd H (by simp)
          · rw [if_neg c7] at H
            exact absurd H (by simp)
        · rw [if_neg c5] at H
          have c5b0 : decide (x6_1 < 4) = false := decide_eq_false c5
          clear c5
          obtain rfl := Option.some.inj H
          go_wp2
          go_ret
          exact ⟨_, by first | rfl | (simp [errW_none, errW_some] <;> rfl) | (simp [*, errW_none, errW_some] <;> rfl), by (with_reducible repeat (first | apply Kd.R_alloc | apply Kd.R_drewN | apply Kd.R_drew)); exact HO_3.out, by repeat (first | (with_reducible first | exact HB.out | apply below_alloc | apply pw_below_drewN | apply below_drew1) | exact HB.out)⟩
  · rw [if_neg c2] at H
    exact absurd H (by simp)

end Go.Proofs.Ytchaegfdcdlfaaa.X

namespace Go.Proofs.Ytchaegfdcdlfaaa.X
open Go.RowKit Go.Proofs.YtchaegfdcdlfaaaW.PrintWords Go.Proofs.YtchaegfdcdlfaaaW.PrintLast Go.Proofs.YtchaegfdcdlfaaaW.PrintMore
attribute [local go_sem] max2_int min2_int max_two min_two max_three min_three max_four min_four   -- for this text's walks alone
set_option linter.unusedVariables false
set_option linter.unusedSimpArgs false

/-! ### wire_Get: function 88 -/
mutual
def wire_Get.l0 : Nat → Int → Int → List Int → Int → Int → Option (Int × Int × Bool)
  | 0, _, _, _, _, _ => none
  | k + 1, x5, x6, x9, x10, x11 => if x11 < x10 then (if 0 ≤ x11 then (if x11 < (x9.length : Int) then (if x11 = 10 then (wire_Get.j1 k x5 x6 x11 (rd x9 x11) x9 x10 x11 (x11 == 10)) else (if x11 = 9 then (if (x5 / 144115188075855872) > 0 then (wire_Get.j1 k x5 x6 x11 (rd x9 x11) x9 x10 x11 (decide ((x5 / 144115188075855872) > 0))) else (if x11 = 0 then (wire_Get.j1 k x5 x6 x11 (rd x9 x11) x9 x10 x11 ((rd x9 x11) == 128)) else (wire_Get.j1 k x5 x6 x11 (rd x9 x11) x9 x10 x11 false))) else (if x11 = 0 then (wire_Get.j1 k x5 x6 x11 (rd x9 x11) x9 x10 x11 ((rd x9 x11) == 128)) else (wire_Get.j1 k x5 x6 x11 (rd x9 x11) x9 x10 x11 false)))) else (none)) else (none)) else (if x6 = 0 then (some (0, 0, false)) else (some (x5, x6, true)))
def wire_Get.j1 : Nat → Int → Int → Int → Int → List Int → Int → Int → Bool → Option (Int × Int × Bool)
  | 0, _, _, _, _, _, _, _, _ => none
  | k + 1, x5, x6, x7, x8, x9, x10, x11, x16 => if x16 = true then (if x6 = 0 then (some (0, 0, false)) else (some (x5, x6, true))) else (if x8 < 128 then (if (wrap64 (x7 + 1)) = 0 then (some (0, 0, false)) else (some (Go.bits .or .u64 (IntKind.u64.wrap (x5 * 128)) (IntKind.u64.wrap (Go.bits .andNot .u8 x8 128)), wrap64 (x7 + 1), true))) else (wire_Get.l0 k (Go.bits .or .u64 (IntKind.u64.wrap (x5 * 128)) (IntKind.u64.wrap (Go.bits .andNot .u8 x8 128))) x6 x9 x10 (wrap64 (x11 + 1))))
end
def wire_Get.f (k : Nat) (l0 : List Int) : Option (Int × Int × Bool) := wire_Get.l0 k 0 0 l0 (l0.length : Int) 0
theorem wire_Get.mono_l : ∀ k, (∀ y0 y1 y2 y3 y4, LeO (wire_Get.l0 k y0 y1 y2 y3 y4) (wire_Get.l0 (k + 1) y0 y1 y2 y3 y4)) ∧ (∀ y0 y1 y2 y3 y4 y5 y6 y7, LeO (wire_Get.j1 k y0 y1 y2 y3 y4 y5 y6 y7) (wire_Get.j1 (k + 1) y0 y1 y2 y3 y4 y5 y6 y7))
  | 0 => ⟨fun _ _ _ _ _ r h => by simp [wire_Get.l0] at h, fun _ _ _ _ _ _ _ _ r h => by simp [wire_Get.j1] at h⟩
  | k + 1 => by
    obtain ⟨ih0, ih1⟩ := wire_Get.mono_l k
    refine ⟨?_, ?_⟩
    · intro y0 y1 y2 y3 y4
      unfold wire_Get.l0
      repeat' first
      | (with_reducible exact ih0 _ _ _ _ _)
      | (with_reducible exact ih1 _ _ _ _ _ _ _ _)
      | (with_reducible exact LeO.refl _)
      | (with_reducible exact LeO.none _)
      | (with_reducible refine LeO.ite ?_ ?_)
      | (with_reducible refine LeO.bind ?_ (fun _ => ?_))
      | exact ih0 _ _ _ _ _
      | exact ih1 _ _ _ _ _ _ _ _
      | exact LeO.none _
      | refine LeO.ite ?_ ?_
      | refine LeO.bind ?_ (fun _ => ?_)
    · intro y0 y1 y2 y3 y4 y5 y6 y7
      unfold wire_Get.j1
      repeat' first
      | (with_reducible exact ih0 _ _ _ _ _)
      | (with_reducible exact ih1 _ _ _ _ _ _ _ _)
      | (with_reducible exact LeO.refl _)
      | (with_reducible exact LeO.none _)
      | (with_reducible refine LeO.ite ?_ ?_)
      | (with_reducible refine LeO.bind ?_ (fun _ => ?_))
      | exact ih0 _ _ _ _ _
      | exact ih1 _ _ _ _ _ _ _ _
      | exact LeO.none _
      | refine LeO.ite ?_ ?_
      | refine LeO.bind ?_ (fun _ => ?_)
theorem wire_Get.mono : ∀ a0 k, LeO (wire_Get.f k a0) (wire_Get.f (k + 1) a0) := by
  intro a0 k
  obtain ⟨ih0, ih1⟩ := wire_Get.mono_l k
  unfold wire_Get.f
  repeat' first
      | (with_reducible exact ih0 _ _ _ _ _)
      | (with_reducible exact ih1 _ _ _ _ _ _ _ _)
      | (with_reducible exact LeO.refl _)
      | (with_reducible exact LeO.none _)
      | (with_reducible refine LeO.ite ?_ ?_)
      | (with_reducible refine LeO.bind ?_ (fun _ => ?_))
      | exact ih0 _ _ _ _ _
      | exact ih1 _ _ _ _ _ _ _ _
      | exact LeO.none _
      | refine LeO.ite ?_ ?_
      | refine LeO.bind ?_ (fun _ => ?_)
set_option maxHeartbeats 8000000 in
set_option maxRecDepth 100000 in
theorem wire_Get.calls (k : Nat) (A0 : Option Addr) (c0 : Nat) (l0 : List Int) (r1 : Int) (r2 : Int) (r3 : Bool) (w : World) (hr0 : Kd.C (Kd.int .u8) w A0 l0.length l0) (hc0 : l0.length ≤ c0) (h : wire_Get.f k l0 = some (r1, r2, r3)) :
    Calls Try.prog 88 #[.slice A0 l0.length c0] w fun e w' => e = .returned (.tuple #[.int .u64 r1, .int .i64 r2, .bool r3]) ∧ Drawn0 w w' := by
  have HR0 := Aside0.mk hr0
  have HC0 := Aside0.mk hc0
  clear hr0 hc0
  have H : (wire_Get.l0 k 0 0 l0 (l0.length : Int) 0) = some (r1, r2, r3) := h
  clear h
  have H' := Aside0.mk H
  clear H
  go_enter Try.func88, Try.ntmps88
  go_wp2
  go_step3
  go_wp2
  go_step3
  go_wp2
  go_loopg [5, 6, 11] k (fun kq v5 v6 v11 w' => ∃ (x5_1 : Int) (x6_1 : Int) (x11_1 : Int), v5 = .int .u64 x5_1 ∧ v6 = .int .i64 x6_1 ∧ v11 = .int .i64 x11_1 ∧ Aside0 (wire_Get.l0 kq x5_1 x6_1 l0 (l0.length : Int) x11_1 = some (r1, r2, r3)) ∧ Aside0 (kq ≤ k) ∧ Drawn0 w w')
  case atStart => exact ⟨(0), (0), (0), (by first | rfl | (simp; done) | (simp [*]; done)), (by first | rfl | (simp; done) | (simp [*]; done)), (by first | rfl | (simp; done) | (simp [*]; done)), H', ⟨Nat.le_refl _⟩, by repeat (first | exact Drawn0.refl _ | apply Drawn0.step)⟩
  case round =>
    clear H'
    obtain ⟨x5_1, x6_1, x11_1, rfl, rfl, rfl, HA, HK1, ⟨m1, rfl⟩⟩ := hrel
    cases gk with
    | zero => exact absurd HA.out (by simp [wire_Get.l0])
    | succ k1 =>
      have H := HA.out
      clear HA
      simp only [wire_Get.l0] at H
      by_cases c2 : x11_1 < (l0.length : Int)
      · rw [if_pos c2] at H
        have c2b0 : decide (x11_1 < (l0.length : Int)) = true := decide_eq_true c2
        clear c2
        by_cases c3 : 0 ≤ x11_1
        · rw [if_pos c3] at H
          have c3b0 : decide (0 ≤ x11_1) = true := decide_eq_true c3
          clear c3
          by_cases c4 : x11_1 < (l0.length : Int)
          · rw [if_pos c4] at H
            have c4b0 : decide (x11_1 < (l0.length : Int)) = true := decide_eq_true c4
            clear c4
            have HC5 := Aside0.mk H
            clear H
            have p178 : 0 ≤ (x11_1 : Int) := of_decide_eq_true (by first | (with_reducible assumption) | assumption)
            have q178 : x11_1 < (l0.length : Int) := of_decide_eq_true (by first | (with_reducible assumption) | assumption)
            obtain ⟨ad178, e178, hx178_0⟩ := Kd.at_int HR0.out x11_1 p178 q178
            cases e178
            replace p178 := eq_true p178
            replace q178 := eq_true q178
            go_upto_if 16 with (fail)
            go_cut [16] (fun v16 wc => ∃ (kq : Nat) (x16_4 : Bool), v16 = .bool x16_4 ∧ Aside0 (wire_Get.j1 kq x5_1 x6_1 x11_1 (rd l0 x11_1) l0 (l0.length : Int) x11_1 x16_4 = some (r1, r2, r3)) ∧ Aside0 (kq ≤ k1) ∧ Drawn0 w wc)
            case first =>
              have H := HC5.out
              clear HC5
              by_cases c6 : x11_1 = 10
              · rw [if_pos c6] at H
                have c6b0 : (x11_1 == 10) = true := beq_iff_eq.mpr c6
                have c6b1 : (x11_1 != 10) = false := bne_eq_false_iff_eq.mpr c6
                clear c6
                (first | rw [c6b0] | (simp only [i64_w, i32_w]; rw [c6b0]) | skip)
                have H' := Aside0.mk H
                clear H
                go_wp2
                go_meet
                case rel => exact ⟨_, ((x11_1 == 10)), (by first | rfl | (simp; done) | (simp [*]; done)), H', ⟨by have := HK1.out; first | omega | exact Nat.le_refl _⟩, by repeat (first | exact Drawn0.refl _ | apply Drawn0.step)⟩
              · rw [if_neg c6] at H
                have c6b0 : (x11_1 == 10) = false := beq_eq_false_iff_ne.mpr c6
                have c6b1 : (x11_1 != 10) = true := bne_iff_ne.mpr c6
                (first | rw [c6b0] | (simp only [i64_w, i32_w]; rw [c6b0]) | skip)
                by_cases c7 : x11_1 = 9
                · rw [if_pos c7] at H
                  have c7b0 : (x11_1 == 9) = true := beq_iff_eq.mpr c7
                  have c7b1 : (x11_1 != 9) = false := bne_eq_false_iff_eq.mpr c7
                  clear c7
                  by_cases c8 : (x5_1 / 144115188075855872) > 0
                  · rw [if_pos c8] at H
                    have c8b0 : decide (0 < (x5_1 / 144115188075855872)) = true := decide_eq_true c8
                    clear c8
                    have H' := Aside0.mk H
                    clear H
                    go_wp2
                    go_meet
                    case rel => exact ⟨_, (decide ((x5_1 / 144115188075855872) > 0)), (by first | rfl | (simp; done) | (simp [*]; done)), H', ⟨by have := HK1.out; first | omega | exact Nat.le_refl _⟩, by repeat (first | exact Drawn0.refl _ | apply Drawn0.step)⟩
                  · rw [if_neg c8] at H
                    have c8b0 : decide (0 < (x5_1 / 144115188075855872)) = false := decide_eq_false c8
                    clear c8
                    by_cases c9 : x11_1 = 0
                    · rw [if_pos c9] at H
                      have c9b0 : (x11_1 == 0) = true := beq_iff_eq.mpr c9
                      have c9b1 : (x11_1 != 0) = false := bne_eq_false_iff_eq.mpr c9
                      clear c9
                      have H' := Aside0.mk H
                      clear H
                      go_wp2
                      go_meet
                      case rel => exact ⟨_, (((rd l0 x11_1) == 128)), (by first | rfl | (simp; done) | (simp [*]; done)), H', ⟨by have := HK1.out; first | omega | exact Nat.le_refl _⟩, by repeat (first | exact Drawn0.refl _ | apply Drawn0.step)⟩
                    · rw [if_neg c9] at H
                      have c9b0 : (x11_1 == 0) = false := beq_eq_false_iff_ne.mpr c9
                      have c9b1 : (x11_1 != 0) = true := bne_iff_ne.mpr c9
                      have H' := Aside0.mk H
                      clear H
                      go_wp2
                      go_meet
                      case rel => exact ⟨_, (false), (by first | rfl | (simp; done) | (simp [*]; done)), H', ⟨by have := HK1.out; first | omega | exact Nat.le_refl _⟩, by repeat (first | exact Drawn0.refl _ | apply Drawn0.step)⟩
                · rw [if_neg c7] at H
                  have c7b0 : (x11_1 == 9) = false := beq_eq_false_iff_ne.mpr c7
                  have c7b1 : (x11_1 != 9) = true := bne_iff_ne.mpr c7
                  by_cases c10 : x11_1 = 0
                  · rw [if_pos c10] at H
                    have c10b0 : (x11_1 == 0) = true := beq_iff_eq.mpr c10
                    have c10b1 : (x11_1 != 0) = false := bne_eq_false_iff_eq.mpr c10
                    clear c10
                    have H' := Aside0.mk H
                    clear H
                    go_wp2
                    go_meet
                    case rel => exact ⟨_, (((rd l0 x11_1) == 128)), (by first | rfl | (simp; done) | (simp [*]; done)), H', ⟨by have := HK1.out; first | omega | exact Nat.le_refl _⟩, by repeat (first | exact Drawn0.refl _ | apply Drawn0.step)⟩
                  · rw [if_neg c10] at H
                    have c10b0 : (x11_1 == 0) = false := beq_eq_false_iff_ne.mpr c10
                    have c10b1 : (x11_1 != 0) = true := bne_iff_ne.mpr c10
                    have H' := Aside0.mk H
                    clear H
                    go_wp2
                    go_meet
                    case rel => exact ⟨_, (false), (by first | rfl | (simp; done) | (simp [*]; done)), H', ⟨by have := HK1.out; first | omega | exact Nat.le_refl _⟩, by repeat (first | exact Drawn0.refl _ | apply Drawn0.step)⟩
            case rest =>
              clear HC5
              try clear c1
              try clear p1
              try clear q1
              try clear hx1
              try clear c2
              try clear c2b0
              try clear p2
              try clear c3
              try clear c3b0
              try clear c4
              try clear c4b0
              try clear c6
              try clear c6b0
              try clear c6b1
              try clear c7
              try clear c7b0
              try clear c7b1
              try clear c8
              try clear c8b0
              try clear c9
              try clear c9b0
              try clear c9b1
              try clear c10
              try clear c10b0
              try clear c10b1
              try clear hx178_0
              try clear p178
              try clear q178
              obtain ⟨kq, x16_4, rfl, HA, HJ4, ⟨mc4, rfl⟩⟩ := hcut
              cases kq with
              | zero => exact absurd HA.out (by simp [wire_Get.j1])
              | succ kj4 =>
                have H := HA.out
                clear HA
                simp only [wire_Get.j1] at H
                by_cases c11 : x16_4 = true
                · subst c11
                  have H1 : (if x6_1 = 0 then (some (0, 0, false)) else (some (x5_1, x6_1, true))) = some (r1, r2, r3) := by rw [if_pos rfl] at H; exact H
                  clear H
                  have H := H1
                  clear H1
                  by_cases c12 : x6_1 = 0
                  · rw [if_pos c12] at H
                    have c12b0 : (x6_1 == 0) = true := beq_iff_eq.mpr c12
                    have c12b1 : (x6_1 != 0) = false := bne_eq_false_iff_eq.mpr c12
                    clear c12
                    simp only [Option.some.injEq, Prod.mk.injEq] at H
                    obtain ⟨rfl, rfl, rfl⟩ := H
                    go_wp2
                    (try rw [Exit.noGoto_ret])
                    go_ret3
                    exact ⟨by first | rfl | (simp; done) | (simp [*]; done), by repeat (first | exact Drawn0.refl _ | apply Drawn0.step)⟩
                  · rw [if_neg c12] at H
                    have c12b0 : (x6_1 == 0) = false := beq_eq_false_iff_ne.mpr c12
                    have c12b1 : (x6_1 != 0) = true := bne_iff_ne.mpr c12
                    simp only [Option.some.injEq, Prod.mk.injEq] at H
                    obtain ⟨rfl, rfl, rfl⟩ := H
                    go_wp2
                    (try rw [Exit.noGoto_ret])
                    go_ret3
                    exact ⟨by first | rfl | (simp; done) | (simp [*]; done), by repeat (first | exact Drawn0.refl _ | apply Drawn0.step)⟩
                · replace c11 := Bool.eq_false_iff.mpr c11
                  subst c11
                  have H1 : (if (rd l0 x11_1) < 128 then (if (wrap64 (x11_1 + 1)) = 0 then (some (0, 0, false)) else (some (Go.bits .or .u64 (IntKind.u64.wrap (x5_1 * 128)) (IntKind.u64.wrap (Go.bits .andNot .u8 (rd l0 x11_1) 128)), wrap64 (x11_1 + 1), true))) else (wire_Get.l0 kj4 (Go.bits .or .u64 (IntKind.u64.wrap (x5_1 * 128)) (IntKind.u64.wrap (Go.bits .andNot .u8 (rd l0 x11_1) 128))) x6_1 l0 (l0.length : Int) (wrap64 (x11_1 + 1)))) = some (r1, r2, r3) := by rw [if_neg (show ¬ (false = true) by decide)] at H; exact H
                  clear H
                  have H := H1
                  clear H1
                  by_cases c13 : (rd l0 x11_1) < 128
                  · rw [if_pos c13] at H
                    have c13b0 : decide ((rd l0 x11_1) < 128) = true := decide_eq_true c13
                    clear c13
                    by_cases c14 : (wrap64 (x11_1 + 1)) = 0
                    · rw [if_pos c14] at H
                      have c14b0 : ((wrap64 (x11_1 + 1)) == 0) = true := beq_iff_eq.mpr c14
                      have c14b1 : ((wrap64 (x11_1 + 1)) != 0) = false := bne_eq_false_iff_eq.mpr c14
                      clear c14
                      simp only [Option.some.injEq, Prod.mk.injEq] at H
                      obtain ⟨rfl, rfl, rfl⟩ := H
                      go_wp2
                      (try rw [Exit.noGoto_ret])
                      go_ret3
                      exact ⟨by first | rfl | (simp; done) | (simp [*]; done), by repeat (first | exact Drawn0.refl _ | apply Drawn0.step)⟩
                    · rw [if_neg c14] at H
                      have c14b0 : ((wrap64 (x11_1 + 1)) == 0) = false := beq_eq_false_iff_ne.mpr c14
                      have c14b1 : ((wrap64 (x11_1 + 1)) != 0) = true := bne_iff_ne.mpr c14
                      simp only [Option.some.injEq, Prod.mk.injEq] at H
                      obtain ⟨rfl, rfl, rfl⟩ := H
                      go_wp2
                      (try rw [Exit.noGoto_ret])
                      go_ret3
                      exact ⟨by first | rfl | (simp; done) | (simp [*]; done), by repeat (first | exact Drawn0.refl _ | apply Drawn0.step)⟩
                  · rw [if_neg c13] at H
                    have c13b0 : decide ((rd l0 x11_1) < 128) = false := decide_eq_false c13
                    clear c13
                    have H' := Aside0.mk H
                    clear H
                    go_wp2
                    go_roundg kj4
                    case measure => have := HK1.out; have := HJ4.out; omega
                    case rel => exact ⟨(Go.bits .or .u64 (IntKind.u64.wrap (x5_1 * 128)) (IntKind.u64.wrap (Go.bits .andNot .u8 (rd l0 x11_1) 128))), (x6_1), (wrap64 (x11_1 + 1)), (by first | rfl | (simp; done) | (simp [*]; done)), (by first | rfl | (simp; done) | (simp [*]; done)), (by first | rfl | (simp; done) | (simp [*]; done)), H', ⟨by have := HK1.out; have := HJ4.out; omega⟩, by repeat (first | exact Drawn0.refl _ | apply Drawn0.step)⟩
          · rw [if_neg c4] at H
            exact absurd H (by simp)
        · rw [if_neg c3] at H
          exact absurd H (by simp)
      · rw [if_neg c2] at H
        have c2b0 : decide (x11_1 < (l0.length : Int)) = false := decide_eq_false c2
        clear c2
        by_cases c15 : x6_1 = 0
        · rw [if_pos c15] at H
          have c15b0 : (x6_1 == 0) = true := beq_iff_eq.mpr c15
          have c15b1 : (x6_1 != 0) = false := bne_eq_false_iff_eq.mpr c15
          clear c15
          simp only [Option.some.injEq, Prod.mk.injEq] at H
          obtain ⟨rfl, rfl, rfl⟩ := H
          go_wp2
          (try rw [Exit.noGoto_ret])
          go_ret3
          exact ⟨by first | rfl | (simp; done) | (simp [*]; done), by repeat (first | exact Drawn0.refl _ | apply Drawn0.step)⟩
        · rw [if_neg c15] at H
          have c15b0 : (x6_1 == 0) = false := beq_eq_false_iff_ne.mpr c15
          have c15b1 : (x6_1 != 0) = true := bne_iff_ne.mpr c15
          simp only [Option.some.injEq, Prod.mk.injEq] at H
          obtain ⟨rfl, rfl, rfl⟩ := H
          go_wp2
          (try rw [Exit.noGoto_ret])
          go_ret3
          exact ⟨by first | rfl | (simp; done) | (simp [*]; done), by repeat (first | exact Drawn0.refl _ | apply Drawn0.step)⟩

end Go.Proofs.Ytchaegfdcdlfaaa.X

namespace Go.Proofs.Ytchaegfdcdlfaaa.X
open Go.RowKit Go.Proofs.YtchaegfdcdlfaaaW.PrintWords Go.Proofs.YtchaegfdcdlfaaaW.PrintLast Go.Proofs.YtchaegfdcdlfaaaW.PrintMore
attribute [local go_sem] max2_int min2_int max_two min_two max_three min_three max_four min_four   -- for this text's walks alone
set_option linter.unusedVariables false
set_option linter.unusedSimpArgs false

/-! ### wire_Four: function 89 -/
def wire_Four.l0 : Nat → Int → List Int → Int → Int → Option (Int × Bool)
  | 0, _, _, _, _ => none
  | k + 1, x4, x10, x11, x12 => if x12 < x11 then (if 0 ≤ x12 then (if x12 < (x10.length : Int) then (wire_Four.l0 k (Go.bits .or .u32 ((x4 * 256) % 4294967296) ((rd x10 x12) % 4294967296)) x10 x11 (wrap64 (x12 + 1))) else (none)) else (none)) else (some (x4, true))
def wire_Four.f (k : Nat) (l0 : List Int) : Option (Int × Bool) := if (l0.length : Int) = 4 then (wire_Four.l0 k 0 l0 (l0.length : Int) 0) else (some (0, false))
theorem wire_Four.mono_l : ∀ k, (∀ y0 y1 y2 y3, LeO (wire_Four.l0 k y0 y1 y2 y3) (wire_Four.l0 (k + 1) y0 y1 y2 y3))
  | 0 => fun _ _ _ _ r h => by simp [wire_Four.l0] at h
  | k + 1 => by
    have ih0 := wire_Four.mono_l k
    · intro y0 y1 y2 y3
      unfold wire_Four.l0
      repeat' first
      | (with_reducible exact ih0 _ _ _ _)
      | (with_reducible exact LeO.refl _)
      | (with_reducible exact LeO.none _)
      | (with_reducible refine LeO.ite ?_ ?_)
      | (with_reducible refine LeO.bind ?_ (fun _ => ?_))
      | exact ih0 _ _ _ _
      | exact LeO.none _
      | refine LeO.ite ?_ ?_
      | refine LeO.bind ?_ (fun _ => ?_)
theorem wire_Four.mono : ∀ a0 k, LeO (wire_Four.f k a0) (wire_Four.f (k + 1) a0) := by
  intro a0 k
  have ih0 := wire_Four.mono_l k
  unfold wire_Four.f
  repeat' first
      | (with_reducible exact ih0 _ _ _ _)
      | (with_reducible exact LeO.refl _)
      | (with_reducible exact LeO.none _)
      | (with_reducible refine LeO.ite ?_ ?_)
      | (with_reducible refine LeO.bind ?_ (fun _ => ?_))
      | exact ih0 _ _ _ _
      | exact LeO.none _
      | refine LeO.ite ?_ ?_
      | refine LeO.bind ?_ (fun _ => ?_)
set_option maxHeartbeats 8000000 in
set_option maxRecDepth 100000 in
theorem wire_Four.calls (k : Nat) (A0 : Option Addr) (c0 : Nat) (l0 : List Int) (r1 : Int) (r2 : Bool) (w : World) (hr0 : Kd.C (Kd.int .u8) w A0 l0.length l0) (hc0 : l0.length ≤ c0) (h : wire_Four.f k l0 = some (r1, r2)) :
    Calls Try.prog 89 #[.slice A0 l0.length c0] w fun e w' => e = .returned (.tuple #[.int .u32 r1, .bool r2]) ∧ Drawn0 w w' := by
  have HR0 := Aside0.mk hr0
  have HC0 := Aside0.mk hc0
  clear hr0 hc0
  have H : (if (l0.length : Int) = 4 then (wire_Four.l0 k 0 l0 (l0.length : Int) 0) else (some (0, false))) = some (r1, r2) := h
  clear h
  by_cases c2 : (l0.length : Int) = 4
  · rw [if_pos c2] at H
    have c2b0 : ((l0.length : Int) == 4) = true := beq_iff_eq.mpr c2
    have c2b1 : ((l0.length : Int) != 4) = false := bne_eq_false_iff_eq.mpr c2
    clear c2
    have H' := Aside0.mk H
    clear H
    go_enter Try.func89, Try.ntmps89
    go_wp2
    go_loopg [4, 12] k (fun kq v4 v12 w' => ∃ (x4_1 : Int) (x12_1 : Int), v4 = .int .u32 x4_1 ∧ v12 = .int .i64 x12_1 ∧ Aside0 (wire_Four.l0 kq x4_1 l0 (l0.length : Int) x12_1 = some (r1, r2)) ∧ Aside0 (kq ≤ k) ∧ Drawn0 w w')
    case atStart => exact ⟨(0), (0), (by first | rfl | (simp; done) | (simp [*]; done)), (by first | rfl | (simp; done) | (simp [*]; done)), H', ⟨Nat.le_refl _⟩, by repeat (first | exact Drawn0.refl _ | apply Drawn0.step)⟩
    case round =>
      clear H'
      try clear c2
      try clear c2b0
      try clear c2b1
      try clear p2
      obtain ⟨x4_1, x12_1, rfl, rfl, HA, HK1, ⟨m1, rfl⟩⟩ := hrel
      cases gk with
      | zero => exact absurd HA.out (by simp [wire_Four.l0])
      | succ k1 =>
        have H := HA.out
        clear HA
        simp only [wire_Four.l0] at H
        by_cases c3 : x12_1 < (l0.length : Int)
        · rw [if_pos c3] at H
          have c3b0 : decide (x12_1 < (l0.length : Int)) = true := decide_eq_true c3
          clear c3
          by_cases c4 : 0 ≤ x12_1
          · rw [if_pos c4] at H
            have c4b0 : decide (0 ≤ x12_1) = true := decide_eq_true c4
            clear c4
            by_cases c5 : x12_1 < (l0.length : Int)
            · rw [if_pos c5] at H
              have c5b0 : decide (x12_1 < (l0.length : Int)) = true := decide_eq_true c5
              clear c5
              have H' := Aside0.mk H
              clear H
              have p179 : 0 ≤ (x12_1 : Int) := of_decide_eq_true (by first | (with_reducible assumption) | assumption)
              have q179 : x12_1 < (l0.length : Int) := of_decide_eq_true (by first | (with_reducible assumption) | assumption)
              obtain ⟨ad179, e179, hx179_0⟩ := Kd.at_int HR0.out x12_1 p179 q179
              cases e179
              replace p179 := eq_true p179
              replace q179 := eq_true q179
              go_wp2
              go_roundg k1
              case measure => have := HK1.out; omega
              case rel => exact ⟨(Go.bits .or .u32 ((x4_1 * 256) % 4294967296) ((rd l0 x12_1) % 4294967296)), (wrap64 (x12_1 + 1)), (by first | rfl | (simp; done) | (simp [*]; done)), (by first | rfl | (simp; done) | (simp [*]; done)), H', ⟨by have := HK1.out; omega⟩, by repeat (first | exact Drawn0.refl _ | apply Drawn0.step)⟩
            · rw [if_neg c5] at H
              exact absurd H (by simp)
          · rw [if_neg c4] at H
            exact absurd H (by simp)
        · rw [if_neg c3] at H
          have c3b0 : decide (x12_1 < (l0.length : Int)) = false := decide_eq_false c3
          clear c3
          simp only [Option.some.injEq, Prod.mk.injEq] at H
          obtain ⟨rfl, rfl⟩ := H
          go_wp2
          go_ret2
          exact ⟨by first | rfl | (simp; done) | (simp [*]; done), by repeat (first | exact Drawn0.refl _ | apply Drawn0.step)⟩
  · rw [if_neg c2] at H
    have c2b0 : ((l0.length : Int) == 4) = false := beq_eq_false_iff_ne.mpr c2
    have c2b1 : ((l0.length : Int) != 4) = true := bne_iff_ne.mpr c2
    simp only [Option.some.injEq, Prod.mk.injEq] at H
    obtain ⟨rfl, rfl⟩ := H
    go_enter Try.func89, Try.ntmps89
    go_wp2
    go_ret2
    exact ⟨by first | rfl | (simp; done) | (simp [*]; done), by repeat (first | exact Drawn0.refl _ | apply Drawn0.step)⟩

end Go.Proofs.Ytchaegfdcdlfaaa.X

namespace Go.Proofs.Ytchaegfdcdlfaaa.X
open Go.RowKit Go.Proofs.YtchaegfdcdlfaaaW.PrintWords Go.Proofs.YtchaegfdcdlfaaaW.PrintLast Go.Proofs.YtchaegfdcdlfaaaW.PrintMore
attribute [local go_sem] max2_int min2_int max_two min_two max_three min_three max_four min_four   -- for this text's walks alone
set_option linter.unusedVariables false
set_option linter.unusedSimpArgs false

/-! ### wire_Text: function 93 -/
def wire_Text.f (k : Nat) (a0 : ByteArray) : Option (List Int) := (wire_Put.f k (IntKind.u64.wrap ((a0.size : Int)))).bind fun t391 => (if t391.length + a0.size < 140737488355328 then (some (t391 ++ bytesOf a0)) else (none))
theorem wire_Text.mono : ∀ a0 k, LeO (wire_Text.f k a0) (wire_Text.f (k + 1) a0) := by
  intro a0 k
  unfold wire_Text.f
  repeat' first
      | (with_reducible exact wire_Put.mono _ _)
      | (with_reducible exact LeO.refl _)
      | (with_reducible exact LeO.none _)
      | (with_reducible refine LeO.ite ?_ ?_)
      | (with_reducible refine LeO.bind ?_ (fun _ => ?_))
      | exact wire_Put.mono _ _
      | exact LeO.none _
      | refine LeO.ite ?_ ?_
      | refine LeO.bind ?_ (fun _ => ?_)
set_option maxHeartbeats 8000000 in
set_option maxRecDepth 100000 in
theorem wire_Text.calls (k : Nat) (a0 : ByteArray) (r : List Int) (w : World) (h : wire_Text.f k a0 = some r) :
    Calls Try.prog 93 #[.string a0] w fun e w' => ∃ v0_ : Value, e = .returned (v0_) ∧ Kd.R (Kd.int .u8) 5 w' w.heap.size (fun _ => True) v0_ r ∧ Below w.heap.size w w' := by
  have HB := Aside0.mk (Below.refl w.heap.size w)
  have H : ((wire_Put.f k (IntKind.u64.wrap ((a0.size : Int)))).bind fun t391 => (if t391.length + a0.size < 140737488355328 then (some (t391 ++ bytesOf a0)) else (none))) = some r := h
  clear h
  replace H := Option.bind_eq_some_iff.mp H
  obtain ⟨t391, A20, H⟩ := H
  replace H : (if t391.length + a0.size < 140737488355328 then (some (t391 ++ bytesOf a0)) else (none)) = some r := H
  have A2 := Aside0.mk A20
  clear A20
  by_cases c3 : t391.length + a0.size < 140737488355328
  · rw [if_pos c3] at H
    have LMc3 := Aside0.mk c3
    clear c3
    obtain ⟨y394, hy394⟩ : ∃ y_ : List Int, y_ = (t391 ++ bytesOf a0) := ⟨_, rfl⟩
    replace H : (some y394) = some r := by first | (rw [hy394]; with_reducible exact H) | (have H2_ := (Option.bind_some _ _).symm.trans H; rw [hy394]; with_reducible exact H2_) | (have H2_ := (Option.bind_some _ _).symm.trans H; with_reducible exact H2_) | with_reducible exact H | (rw [hy394]; exact H) | exact H
    have Ny394 := Aside0.mk hy394
    clear hy394
    obtain rfl := Option.some.inj H
    go_enter Try.func93, Try.ntmps93
    go_wp2_with (first | ((with_reducible refine gate_callee (f := 84) rfl ?_); refine goesL_ (some 6) rfl rfl Try.func84 (by kernel_rfl) rfl #[.int .u64 (IntKind.u64.wrap ((a0.size : Int)))] rfl (by (try simp only [List.map_toArray, List.map_cons, List.map_nil]); first | done | rfl | (simp only [List.length_drop, List.length_take]; rfl)) ?_; (with_reducible refine (wire_Put.calls k (IntKind.u64.wrap ((a0.size : Int))) t391 _ A2.out).mono ?_); rintro e w4 ⟨v392, rfl, ho0, hb⟩; refine ⟨_, rfl, ?_⟩; have n0_ := Aside0.mk (Kd.R_lower ho0 (below_size (by repeat (first | (with_reducible first | exact HB.out | apply below_alloc | apply pw_below_drewN | apply below_drew1) | exact HB.out)))); have n1_ := Aside0.mk (below_step (by repeat (first | (with_reducible first | exact HB.out | apply below_alloc | apply pw_below_drewN | apply below_drew1) | exact HB.out)) hb); clear HB; have HO393 := n0_; have HB := n1_; clear n0_ n1_; (try clear hb); (try clear hb2); (try clear hk); (try clear hi); (try clear ho0)) | (at_builtin; refine print_append_str (w0 := w) w.heap.size rfl (.tmp 6) _ 40 9 5 rfl Try.underlying40 Try.underlying9 info5 v392 t391 a0 rfl rfl ?aO ?aB ?aS ?aL ?_; (case aB => exact (by repeat (first | (with_reducible first | exact HB.out | apply below_alloc | apply pw_below_drewN | apply below_drew1) | exact HB.out))); (case aO => exact (Kd.own_of_R (by (with_reducible repeat (first | apply Kd.R_alloc | apply Kd.R_drewN | apply Kd.R_drew)); exact HO393.out))); (case aS => exact (below_size (by repeat (first | (with_reducible first | exact HB.out | apply below_alloc | apply pw_below_drewN | apply below_drew1) | exact HB.out)))); (case aL => have := LMc3.out; omega); intro v395 w5 ho0 hb hg; have ho := Kd.R_of_own (h1 := fun _ => rfl) (ok := fun _ => True) ho0 (fun _ _ => trivial); clear ho0; have hat := True.intro; rw [← Ny394.out] at ho; change Kd.R (Kd.int .u8) 5 w5 w.heap.size (fun _ => True) v395 y394 at ho; have n0_ := Aside0.mk (hb); have n1_ := Aside0.mk (ho); clear HB; clear HO393; have HB := n0_; have HO396 := n1_; clear n0_ n1_; clear ho hb hg hat))
    go_ret
    exact ⟨_, by first | rfl | (simp [errW_none, errW_some] <;> rfl) | (simp [*, errW_none, errW_some] <;> rfl), by (with_reducible repeat (first | apply Kd.R_alloc | apply Kd.R_drewN | apply Kd.R_drew)); exact HO396.out, by repeat (first | (with_reducible first | exact HB.out | apply below_alloc | apply pw_below_drewN | apply below_drew1) | exact HB.out)⟩
  · rw [if_neg c3] at H
    exact absurd H (by simp)

end Go.Proofs.Ytchaegfdcdlfaaa.X

/- What wire.Read does, out of what wire.Get does: a contract in the printed form, by hand. -/
namespace Go.Proofs.Ytchaegfdcdlfaaa.X
set_option linter.unusedVariables false
set_option linter.unusedSimpArgs false
open Go.RowKit Go.Proofs.YtchaegfdcdlfaaaW.PrintWords Go.Proofs.YtchaegfdcdlfaaaW.PrintLast Go.Proofs.YtchaegfdcdlfaaaW.PrintMore
attribute [local go_sem] max2_int min2_int max_two min_two max_three min_three max_four min_four

def wire_Read.f (k : Nat) (l0 : List Int) (a1 : Int) : Option (ByteArray × Int × Bool) :=
  (wire_Get.f k l0).bind fun r => if 0 ≤ r.2.1 ∧ r.2.1 ≤ l0.length ∧ 0 ≤ r.1 ∧ l0.length ≤ 4611686018427387904 then
    (if r.2.2 = true ∧ 0 ≤ a1 ∧ r.1 ≤ a1 ∧ r.1 ≤ (l0.length : Int) - r.2.1 then some (strOfNums ((l0.drop r.2.1.toNat).take r.1.toNat), r.2.1 + r.1, true) else some (⟨#[]⟩, 0, false)) else none
theorem wire_Read.mono : ∀ a0 a1 k, LeO (wire_Read.f k a0 a1) (wire_Read.f (k + 1) a0 a1) := by
  intro a0 a1 k
  unfold wire_Read.f
  exact LeO.bind (wire_Get.mono _ _) fun _ => LeO.refl _

set_option maxHeartbeats 4000000 in
set_option maxRecDepth 100000 in
theorem read_no (k : Nat) (A0 : Option Addr) (c0 : Nat) (l0 : List Int) (a1 : Int) (n u : Nat) (w : World) (hr0 : Kd.C (Kd.int .u8) w A0 l0.length l0) (hc0 : l0.length ≤ c0)
    (h : wire_Get.f k l0 = some ((n : Int), (u : Int), false)) (hu : u ≤ l0.length) (hl : l0.length ≤ 4611686018427387904) :
    Calls Try.prog 143 #[.slice A0 l0.length c0, .int .i64 a1] w fun e w' => e = .returned (.tuple #[.string ⟨#[]⟩, .int .i64 0, .bool false]) ∧ Below w.heap.size w w' := by
  obtain ⟨i0, hi0, _, hsz0, _⟩ := info_parts info5
  obtain ⟨A', hcut, hA, hC⟩ := print_drop_of (P := Try.prog) (Value.int .u8) 0 40 5 .i64 Try.underlying40 hi0 hsz0 A0 c0 l0 (u : Int) (by omega) (by omega) hc0
  simp only [Int.toNat_natCast, List.length_drop] at hcut
  clear hA hC hi0 hsz0
  have HG := Aside0.mk h
  have HR := Aside0.mk hr0
  clear h hr0
  go_enter Try.func143, Try.ntmps143
  go_wp2_with (go_at_call 88; refine (wire_Get.calls k _ _ l0 n u false _ HR.out hc0 HG.out).mono ?_; rintro e w' ⟨rfl, ⟨nd, rfl⟩⟩)
  go_ret3
  exact ⟨rfl, pw_below_drewN (Below.refl _ _) _⟩

set_option maxHeartbeats 4000000 in
set_option maxRecDepth 100000 in
theorem read_neg (k : Nat) (A0 : Option Addr) (c0 : Nat) (l0 : List Int) (a1 : Int) (n u : Nat) (w : World) (hr0 : Kd.C (Kd.int .u8) w A0 l0.length l0) (hc0 : l0.length ≤ c0)
    (h : wire_Get.f k l0 = some ((n : Int), (u : Int), true)) (hu : u ≤ l0.length) (hl : l0.length ≤ 4611686018427387904) (ha : a1 < 0) :
    Calls Try.prog 143 #[.slice A0 l0.length c0, .int .i64 a1] w fun e w' => e = .returned (.tuple #[.string ⟨#[]⟩, .int .i64 0, .bool false]) ∧ Below w.heap.size w w' := by
  obtain ⟨i0, hi0, _, hsz0, _⟩ := info_parts info5
  obtain ⟨A', hcut, hA, hC⟩ := print_drop_of (P := Try.prog) (Value.int .u8) 0 40 5 .i64 Try.underlying40 hi0 hsz0 A0 c0 l0 (u : Int) (by omega) (by omega) hc0
  simp only [Int.toNat_natCast, List.length_drop] at hcut
  clear hA hC hi0 hsz0
  have HG := Aside0.mk h
  have HR := Aside0.mk hr0
  clear h hr0
  have c1 : decide (0 ≤ a1) = false := decide_eq_false (by omega)
  go_enter Try.func143, Try.ntmps143
  go_wp2_with (go_at_call 88; refine (wire_Get.calls k _ _ l0 n u true _ HR.out hc0 HG.out).mono ?_; rintro e w' ⟨rfl, ⟨nd, rfl⟩⟩)
  go_ret3
  exact ⟨rfl, pw_below_drewN (Below.refl _ _) _⟩

set_option maxHeartbeats 4000000 in
set_option maxRecDepth 100000 in
theorem read_far (k : Nat) (A0 : Option Addr) (c0 : Nat) (l0 : List Int) (m : Nat) (n u : Nat) (w : World) (hr0 : Kd.C (Kd.int .u8) w A0 l0.length l0) (hc0 : l0.length ≤ c0)
    (h : wire_Get.f k l0 = some ((n : Int), (u : Int), true)) (hu : u ≤ l0.length) (hl : l0.length ≤ 4611686018427387904) (hm : m < n ∨ l0.length - u < n) :
    Calls Try.prog 143 #[.slice A0 l0.length c0, .int .i64 m] w fun e w' => e = .returned (.tuple #[.string ⟨#[]⟩, .int .i64 0, .bool false]) ∧ Below w.heap.size w w' := by
  obtain ⟨i0, hi0, _, hsz0, _⟩ := info_parts info5
  obtain ⟨A', hcut, hA, hC⟩ := print_drop_of (P := Try.prog) (Value.int .u8) 0 40 5 .i64 Try.underlying40 hi0 hsz0 A0 c0 l0 (u : Int) (by omega) (by omega) hc0
  simp only [Int.toNat_natCast, List.length_drop] at hcut
  clear hA hC hi0 hsz0
  have HG := Aside0.mk h
  have HR := Aside0.mk hr0
  clear h hr0
  obtain ⟨z, hz⟩ : ∃ z, l0.length - u = z := ⟨_, rfl⟩
  have hzl : z ≤ 4611686018427387904 := by omega
  rw [hz] at hcut hm
  have w1 : IntKind.u64.wrap (z : Int) = (z : Int) := by simp [IntKind.wrap, IntKind.bits, IntKind.signed]; omega
  by_cases hc : z < m
  · have c1 : decide (z < m) = true := decide_eq_true hc
    have c2 : decide (n ≤ z) = false := decide_eq_false (by omega)
    clear hz hm
    go_enter Try.func143, Try.ntmps143
    go_wp2_with (go_at_call 88; refine (wire_Get.calls k _ _ l0 n u true _ HR.out hc0 HG.out).mono ?_; rintro e w' ⟨rfl, ⟨nd, rfl⟩⟩)
    go_ret3
    exact ⟨rfl, pw_below_drewN (Below.refl _ _) _⟩
  · have c1 : decide (z < m) = false := decide_eq_false hc
    have c2 : decide (n ≤ m) = false := decide_eq_false (by omega)
    have w2 : IntKind.u64.wrap (m : Int) = (m : Int) := by simp [IntKind.wrap, IntKind.bits, IntKind.signed]; omega
    clear hz hm
    go_enter Try.func143, Try.ntmps143
    go_wp2_with (go_at_call 88; refine (wire_Get.calls k _ _ l0 n u true _ HR.out hc0 HG.out).mono ?_; rintro e w' ⟨rfl, ⟨nd, rfl⟩⟩)
    go_ret3
    exact ⟨rfl, pw_below_drewN (Below.refl _ _) _⟩

set_option maxHeartbeats 4000000 in
set_option maxRecDepth 100000 in
theorem read_yes (k : Nat) (A0 : Option Addr) (c0 : Nat) (l0 : List Int) (m : Nat) (n u : Nat) (w : World) (hr0 : Kd.C (Kd.int .u8) w A0 l0.length l0) (hc0 : l0.length ≤ c0)
    (h : wire_Get.f k l0 = some ((n : Int), (u : Int), true)) (hu : u ≤ l0.length) (hl : l0.length ≤ 4611686018427387904) (hm : n ≤ m) (hn : n ≤ l0.length - u) :
    Calls Try.prog 143 #[.slice A0 l0.length c0, .int .i64 m] w fun e w' => e = .returned (.tuple #[.string (strOfNums ((l0.drop u).take n)), .int .i64 (u + n), .bool true]) ∧ Below w.heap.size w w' := by
  obtain ⟨i0, hi0, _, hsz0, _⟩ := info_parts info5
  obtain ⟨A', hcut, hA, hC⟩ := print_drop_of (P := Try.prog) (Value.int .u8) 0 40 5 .i64 Try.underlying40 hi0 hsz0 A0 c0 l0 (u : Int) (by omega) (by omega) hc0
  simp only [Int.toNat_natCast] at hcut hA hC
  have hr1 := hA w (Kd.reads_of_C hr0)
  obtain ⟨hcut2, hA2, hC2⟩ := print_take_of (P := Try.prog) (Value.int .u8) 0 40 5 .i64 Try.underlying40 hi0 hsz0 A' (c0 - u) (l0.drop u) (n : Int) (by omega) (by rw [List.length_drop]; omega) hC
  have hr2 := hA2 w hr1
  simp only [Int.toNat_natCast] at hcut2 hr2 hC2
  have hln : ((l0.drop u).take n).length = n := by rw [List.length_take, List.length_drop]; omega
  rw [hln] at hcut2 hr2
  simp only [List.length_drop] at hcut hcut2
  have hcv : ∀ q, (convert 40 9 (.slice A' n (c0 - u))).run Try.prog (w.drewN q) = .ok (.string (strOfNums ((l0.drop u).take n))) (w.drewN q) := fun q =>
    Kd.C_string (P := Try.prog) Try.underlying40 Try.underlying5 Try.underlying9 (Kd.C_drewN (Kd.C_of_reads (h1 := fun _ => rfl) hr2) q)
  clear hA hC hi0 hsz0 hA2 hC2 hr1 hr2 hln
  have HG := Aside0.mk h
  have HR := Aside0.mk hr0
  clear h hr0
  obtain ⟨z, hz⟩ : ∃ z, l0.length - u = z := ⟨_, rfl⟩
  have hzl : z ≤ 4611686018427387904 := by omega
  have hzu : (u : Int) + n ≤ 4611686018427387904 := by omega
  rw [hz] at hcut hcut2 hn
  have w1 : IntKind.u64.wrap (z : Int) = (z : Int) := by simp [IntKind.wrap, IntKind.bits, IntKind.signed]; omega
  have w3 : IntKind.i64.wrap (n : Int) = (n : Int) := IntWalk.i64_in _ (by omega)
  have w4 : wrap64 (n : Int) = (n : Int) := by unfold wrap64; omega
  by_cases hc : z < m
  · have c1 : decide (z < m) = true := decide_eq_true hc
    have c2 : decide (n ≤ z) = true := decide_eq_true (by omega)
    clear hz
    go_enter Try.func143, Try.ntmps143
    go_wp2_with (go_at_call 88; refine (wire_Get.calls k _ _ l0 n u true _ HR.out hc0 HG.out).mono ?_; rintro e w' ⟨rfl, ⟨nd, rfl⟩⟩)
    go_ret3
    exact ⟨rfl, pw_below_drewN (Below.refl _ _) _⟩
  · have c1 : decide (z < m) = false := decide_eq_false hc
    have c2 : decide (n ≤ m) = true := decide_eq_true (by omega)
    have w2 : IntKind.u64.wrap (m : Int) = (m : Int) := by simp [IntKind.wrap, IntKind.bits, IntKind.signed]; omega
    clear hz
    go_enter Try.func143, Try.ntmps143
    go_wp2_with (go_at_call 88; refine (wire_Get.calls k _ _ l0 n u true _ HR.out hc0 HG.out).mono ?_; rintro e w' ⟨rfl, ⟨nd, rfl⟩⟩)
    go_ret3
    exact ⟨rfl, pw_below_drewN (Below.refl _ _) _⟩

theorem wire_Read.calls (k : Nat) (A0 : Option Addr) (c0 : Nat) (l0 : List Int) (a1 : Int) (r1 : ByteArray) (r2 : Int) (r3 : Bool) (w : World) (hr0 : Kd.C (Kd.int .u8) w A0 l0.length l0) (hc0 : l0.length ≤ c0) (h : wire_Read.f k l0 a1 = some (r1, r2, r3)) :
    Calls Try.prog 143 #[.slice A0 l0.length c0, .int .i64 a1] w fun e w' => e = .returned (.tuple #[.string r1, .int .i64 r2, .bool r3]) ∧ Below w.heap.size w w' := by
  unfold wire_Read.f at h
  obtain ⟨⟨n, u, is⟩, hg, h⟩ := Option.bind_eq_some_iff.mp h
  by_cases hc : 0 ≤ u ∧ u ≤ l0.length ∧ 0 ≤ n ∧ l0.length ≤ 4611686018427387904
  · rw [if_pos hc] at h
    obtain ⟨h1, h2, h3, h4⟩ := hc
    obtain ⟨n, rfl⟩ := Int.eq_ofNat_of_zero_le h3
    obtain ⟨u, rfl⟩ := Int.eq_ofNat_of_zero_le h1
    simp only at h hg
    cases is with
    | false =>
      rw [if_neg (by simp)] at h
      cases h
      exact read_no k A0 c0 l0 a1 n u w hr0 hc0 hg (by omega) h4
    | true =>
      by_cases ha : a1 < 0
      · rw [if_neg (by omega)] at h
        cases h
        exact read_neg k A0 c0 l0 a1 n u w hr0 hc0 hg (by omega) h4 ha
      · obtain ⟨m, rfl⟩ := Int.eq_ofNat_of_zero_le (show 0 ≤ a1 by omega)
        by_cases hn : n ≤ m ∧ n ≤ l0.length - u
        · rw [if_pos ⟨rfl, by omega, by omega, by omega⟩] at h
          cases h
          exact read_yes k A0 c0 l0 m n u w hr0 hc0 hg (by omega) h4 hn.1 hn.2
        · rw [if_neg (by omega)] at h
          cases h
          exact read_far k A0 c0 l0 m n u w hr0 hc0 hg (by omega) h4 (by omega)
  · rw [if_neg hc] at h
    cases h

end Go.Proofs.Ytchaegfdcdlfaaa.X

/- What wire.Put, Get, Text and Read, and the reference's, come to: in words of lists. -/
namespace Go.Proofs.Ytchaegfdcdlfaaa.Y
set_option linter.unusedVariables false
set_option linter.unusedSimpArgs false
open Go.Proofs.Ytchaegfdcdlfaaa.X Go.RowKit Go.Proofs.YtchaegfdcdlfaaaW.PrintWords Go.Proofs.YtchaegfdcdlfaaaW.PrintLast Go.Proofs.YtchaegfdcdlfaaaW.PrintMore

theorem wrap64_small (n : Int) (h0 : -9223372036854775808 ≤ n) (h1 : n ≤ 9223372036854775807) : wrap64 n = n := by unfold wrap64; omega
theorem wrap_u64 (n : Int) : IntKind.u64.wrap n = n % 18446744073709551616 := by simp [IntKind.wrap, IntKind.bits, IntKind.signed]
theorem wraps_u64 (n : Int) (h₀ : 0 ≤ n) (h₁ : n < 2 ^ 64) : IntKind.u64.wrap n = n := by rw [wrap_u64]; omega

theorem or128 (x : Nat) (h : x < 256) : Go.bits .or .u8 (x : Int) 128 = ((x % 128 + 128 : Nat) : Int) := by
  have : ∀ x : Fin 256, Go.bits .or .u8 (x.val : Int) 128 = ((x.val % 128 + 128 : Nat) : Int) := by decide +kernel
  exact this ⟨x, h⟩
theorem andNot128 (x : Nat) (h : x < 256) : Go.bits .andNot .u8 (x : Int) 128 = ((x % 128 : Nat) : Int) := by
  have : ∀ x : Fin 256, Go.bits .andNot .u8 (x.val : Int) 128 = ((x.val % 128 : Nat) : Int) := by decide +kernel
  exact this ⟨x, h⟩

theorem groups_l0 (d : Nat) : ∀ (m k : Nat) (x : Int), m < 128 ^ d → d < k → 0 ≤ x → x + d ≤ 1000000 →
    wire_groups.l0 k (m : Int) x = some (x + (if m = 0 then 0 else (more m).length : Nat)) := by
  induction d with
  | zero =>
    intro m k x hm hk h0 h1
    obtain ⟨k, rfl⟩ : ∃ q, k = q + 1 := ⟨k - 1, by omega⟩
    obtain rfl : m = 0 := by simpa using hm
    simp only [wire_groups.l0]
    rw [if_neg (by omega)]; simp
  | succ d ih =>
    intro m k x hm hk h0 h1
    obtain ⟨k, rfl⟩ : ∃ q, k = q + 1 := ⟨k - 1, by omega⟩
    simp only [wire_groups.l0]
    by_cases hz : m = 0
    · subst hz
      rw [if_neg (by omega)]; simp
    · rw [Nat.pow_succ] at hm
      rw [if_pos (by omega), show (m : Int) / 128 = ((m / 128 : Nat) : Int) by omega, wrap64_small _ (by omega) (by omega), ih (m / 128) k (x + 1) (by omega) (by omega) (by omega) (by omega), if_neg hz]
      congr 1
      by_cases hb : m < 128
      · rw [if_pos (by omega), more_small hb]; simp
      · rw [if_neg (by omega), more_big hb]; simp; omega

theorem put_more_length (n : Nat) : (put n).length = (more n).length := by
  unfold put
  by_cases h : n < 128
  · rw [if_pos h, more_small h]; rfl
  · rw [if_neg h, more_big h]; simp
theorem put_more (n : Nat) : ∃ (q : List Int) (d : Nat), d < 128 ∧ more n = q ++ [(d : Int) + 128] ∧ put n = q ++ [(d : Int)] := by
  unfold put
  by_cases h : n < 128
  · rw [if_pos h, more_small h]; exact ⟨[], n, h, rfl, rfl⟩
  · rw [if_neg h, more_big h]; exact ⟨_, n % 128, by omega, rfl, rfl⟩

theorem groups_eq (n : Nat) (hn : n < 18446744073709551616) (k : Nat) (hk : 12 < k) : wire_groups.f k (n : Int) = some ((put n).length : Int) := by
  unfold wire_groups.f
  have e : (128 : Nat) ^ 10 = 1180591620717411303424 := by decide
  rw [show (n : Int) / 128 = ((n / 128 : Nat) : Int) by omega, groups_l0 10 (n / 128) k 1 (by omega) (by omega) (by omega) (by omega)]
  congr 1
  rw [put_more_length]
  by_cases h : n < 128
  · rw [if_pos (by omega), more_small h]; simp
  · rw [if_neg (by omega), more_big h]; simp; omega

theorem more_get (n : Nat) : ∀ i, i < (more n).length → (more n)[(more n).length - 1 - i]? = some (((n / 128 ^ i % 128 + 128 : Nat)) : Int) := by
  induction n using Nat.strongRecOn with
  | _ n ih =>
    intro i hi
    by_cases h : n < 128
    · rw [more_small h] at hi ⊢
      obtain rfl : i = 0 := by simpa using hi
      simp; omega
    · rw [more_big h] at hi ⊢
      simp only [List.length_append, List.length_cons, List.length_nil] at hi ⊢
      cases i with
      | zero =>
        rw [List.getElem?_append_right (by omega)]
        simp
      | succ i =>
        rw [List.getElem?_append_left (by omega), show (more (n / 128)).length + 1 - 1 - (i + 1) = (more (n / 128)).length - 1 - i by omega, ih (n / 128) (by omega) i (by omega)]
        rw [Nat.div_div_eq_div_mul, Nat.pow_succ, Nat.mul_comm]

theorem put_l0 (n : Nat) (hn : n < 18446744073709551616) (d : Nat) : ∀ (k i : Nat), i ≤ (put n).length → (put n).length - i = d → d < k →
    wire_Put.l0 k (n : Int) ((put n).length : Int) (List.replicate ((put n).length - i) 0 ++ (more n).drop ((put n).length - i)) ((put n).length : Int) (i : Int) = some (put n) := by
  have hlen := put_length n hn
  have hpos := put_length_pos n
  induction d with
  | zero =>
    intro k i h0 hd hk
    obtain ⟨k, rfl⟩ : ∃ m, k = m + 1 := ⟨k - 1, by omega⟩
    obtain rfl : i = (put n).length := by omega
    obtain ⟨q, e, he, hm, hp⟩ := put_more n
    simp only [wire_Put.l0]
    rw [if_neg (by omega), wrap64_small _ (by omega) (by omega), if_pos (by omega), Nat.sub_self]
    simp only [List.replicate_zero, List.nil_append, List.drop_zero]
    have hl : (put n).length = q.length + 1 := by rw [hp]; simp
    rw [if_pos (by rw [← put_more_length]; omega), show (((put n).length : Int) - 1).toNat = q.length by omega]
    have hrd : rd (more n) (((put n).length : Int) - 1) = ((e + 128 : Nat) : Int) := by
      unfold rd
      rw [show (((put n).length : Int) - 1).toNat = q.length by omega, hm]
      simp
    rw [hrd, andNot128 _ (by omega), hm, hp, List.set_append_right _ _ (by omega)]
    simp
    omega
  | succ d ih =>
    intro k i h0 hd hk
    obtain ⟨k, rfl⟩ : ∃ m, k = m + 1 := ⟨k - 1, by omega⟩
    simp only [wire_Put.l0]
    obtain ⟨j, hj⟩ : ∃ j, (put n).length - i = j + 1 := ⟨(put n).length - i - 1, by omega⟩
    have hml : (more n).length = (put n).length := (put_more_length n).symm
    rw [if_pos (by omega), wrap64_small (7 * (i : Int)) (by omega) (by omega), if_pos (by omega), wrap64_small (((put n).length : Int) - 1) (by omega) (by omega), wrap64_small (((put n).length : Int) - 1 - i) (by omega) (by omega), if_pos (by omega),
      if_pos (by simp only [List.length_append, List.length_replicate, List.length_drop]; omega), wrap64_small ((i : Int) + 1) (by omega) (by omega)]
    have hs : shr .u64 (n : Int) (7 * (i : Int)) = ((n / 128 ^ i : Nat) : Int) := by
      unfold shr
      rw [show min (7 * (i : Int)).toNat IntKind.u64.bits = 7 * i by show min (7 * (i : Int)).toNat 64 = _; omega, show (2 : Int) ^ (7 * i) = ((128 ^ i : Nat) : Int) by rw [Int.pow_mul]; norm_cast]
      norm_cast
    have hv : (more n)[j]? = some (((n / 128 ^ i % 128 + 128 : Nat)) : Int) := by
      have := more_get n i (by omega)
      rwa [show (more n).length - 1 - i = j by omega] at this
    rw [hs, show ((n / 128 ^ i : Nat) : Int) % 256 = ((n / 128 ^ i % 256 : Nat) : Int) by omega, or128 _ (by omega), show n / 128 ^ i % 256 % 128 = n / 128 ^ i % 128 by omega]
    have e := ih k (i + 1) (by omega) (by omega) (by omega)
    rw [show ((i + 1 : Nat) : Int) = (i : Int) + 1 by simp] at e
    rw [← e]
    congr 1
    rw [hj, show (put n).length - (i + 1) = j by omega, show (((put n).length : Int) - 1 - i).toNat = j by omega, List.replicate_succ', List.append_assoc, List.set_append_right _ _ (by simp)]
    congr 1
    rw [List.drop_eq_getElem_cons (show j < (more n).length by omega)]
    rw [List.getElem?_eq_getElem (show j < (more n).length by omega)] at hv
    have hv' := Option.some.inj hv
    simp [hv']

theorem Put_eq (n : Nat) (hn : n < 18446744073709551616) (k : Nat) (hk : 12 < k) : wire_Put.f k (n : Int) = some (put n) := by
  unfold wire_Put.f
  have hlen := put_length n hn
  rw [groups_eq n hn k hk]
  simp only [Option.bind_some]
  rw [if_pos (by omega), Int.toNat_natCast, if_pos (by omega)]
  have e := put_l0 n hn (put n).length k 0 (by omega) (by omega) (by omega)
  rw [Nat.sub_zero, put_more_length, List.drop_length, List.append_nil, ← put_more_length] at e
  exact e

/-- A list of bytes. -/
def Bytes (l : List Int) : Prop := ∀ x ∈ l, 0 ≤ x ∧ x ≤ 255

theorem step_or (n : Nat) (c : Int) (hn : n * 128 < 18446744073709551616) (h0 : 0 ≤ c) (h1 : c ≤ 255) :
    Go.bits .or .u64 (IntKind.u64.wrap ((n : Int) * 128)) (IntKind.u64.wrap (Go.bits .andNot .u8 c 128)) = ((n * 128 + (c % 128).toNat : Nat) : Int) := by
  obtain ⟨c, rfl⟩ := Int.eq_ofNat_of_zero_le h0
  rw [andNot128 c (by omega), wrap_u64, wrap_u64, show (n : Int) * 128 % 18446744073709551616 = (n : Int) * 128 by omega, show ((c % 128 : Nat) : Int) % 18446744073709551616 = ((c % 128 : Nat) : Int) by omega]
  rw [bits_join .u64 64 (by decide) wraps_u64 7 _ _ (by omega) (by omega) (by omega) (by omega) (by omega) (by omega)]
  omega

theorem get_l0 (l s : List Int) : ∀ (q : List Int) (k : Nat), l = q ++ s → Marks q → q.length ≤ 10 → V q < 18446744073709551616 → Bytes s → l.length ≤ 4611686018427387904 → 2 * s.length + 2 < k →
    ∃ r, wire_Get.l0 k (V q : Int) 0 l (l.length : Int) (q.length : Int) = some r ∧ IsGet l r := by
  induction s with
  | nil =>
    intro q k hl hq h10 hv hb hll hk
    obtain ⟨k, rfl⟩ : ∃ m, k = m + 1 := ⟨k - 1, by omega⟩
    rw [List.append_nil] at hl
    subst hl
    simp only [wire_Get.l0]
    rw [if_neg (by omega)]
    refine ⟨_, rfl, .inr ⟨fun m _ hp => put_not_marks m _ (fun x hx => (hq.1 x hx).1) hp, rfl⟩⟩
  | cons c s ih =>
    intro q k hl hq h10 hv hb hll hk
    obtain ⟨k, rfl⟩ : ∃ m, k = m + 1 + 1 := ⟨k - 2, by simp at hk; omega⟩
    have hlen : l.length = q.length + (s.length + 1) := by rw [hl]; simp
    have hc := hb c (by simp)
    have hrd : rd l (q.length : Int) = c := by
      unfold rd
      rw [hl]
      simp
    have hlt := V_lt q
    simp only [wire_Get.l0]
    rw [if_pos (by omega), if_pos (by omega), if_pos (by omega), hrd]
    -- what is left of a round that goes on
    have goes : V q * 128 < 18446744073709551616 → (q = [] → c ≠ 128) → ∃ r, wire_Get.j1 (k + 1) (V q : Int) 0 (q.length : Int) c l (l.length : Int) (q.length : Int) false = some r ∧ IsGet l r := by
      intro hov hne
      simp only [wire_Get.j1]
      rw [if_neg (by simp)]
      by_cases hcc : c < 128
      · have hvv : V (q ++ [c]) < 18446744073709551616 := by rw [V_snoc]; omega
        rw [if_pos hcc, wrap64_small _ (by omega) (by omega), if_neg (by omega), step_or _ _ hov hc.1 hc.2, ← V_snoc]
        have hp := put_of q c hq hc.1 hcc
        refine ⟨_, rfl, .inl ⟨V (q ++ [c]), hvv, ?_, ?_⟩⟩
        · rw [hp, hl]; exact ⟨s, by simp⟩
        · rw [hp]; simp
      · have h9 : q.length ≤ 9 := by
          rcases Nat.lt_or_ge q.length 10 with h | h
          · omega
          · exfalso
            have hg := marks_V_ge q hq (by intro e; rw [e] at h; simp at h)
            have : 128 ^ 9 ≤ 128 ^ (q.length - 1) := Nat.pow_le_pow_right (by decide) (by omega)
            have e9 : 128 ^ 9 = 9223372036854775808 := by decide
            omega
        rw [if_neg hcc, wrap64_small _ (by omega) (by omega), step_or _ _ hov hc.1 hc.2, ← V_snoc]
        have e := ih (q ++ [c]) k (by rw [hl]; simp) (hq.snoc (by omega) hc.2 hne) (by simp; omega) (by rw [V_snoc]; omega) (fun x hx => hb x (by simp [hx])) hll (by simp at hk; omega)
        rw [show (((q ++ [c]).length : Nat) : Int) = (q.length : Int) + 1 by simp] at e
        exact e
    have stops : ∀ b : Bool, b = true → (∀ m, m < 18446744073709551616 → ¬ put m <+: l) → ∃ r, wire_Get.j1 (k + 1) (V q : Int) 0 (q.length : Int) c l (l.length : Int) (q.length : Int) b = some r ∧ IsGet l r := by
      intro b hb' hno
      subst hb'
      simp only [wire_Get.j1, if_true]
      exact ⟨_, rfl, .inr ⟨hno, rfl⟩⟩
    have exact_ : ∀ m, put m <+: l → c < 128 → put m = q ++ [c] := fun m hp hcc => put_exact m q c s (fun x hx => (hq.1 x hx).1) hcc (by rw [← hl]; exact hp)
    have longer : ∀ m, put m <+: l → q.length < (put m).length := fun m hp => by
      rcases Nat.lt_or_ge q.length (put m).length with h | h
      · exact h
      · exact absurd (List.prefix_of_prefix_length_le hp ⟨c :: s, hl.symm⟩ h) (put_not_marks m q (fun x hx => (hq.1 x hx).1))
    by_cases e10 : (q.length : Int) = 10
    · rw [if_pos e10]
      refine stops _ (by simpa using e10) fun m hm hp => ?_
      have := longer m hp
      have := put_length m hm
      omega
    · rw [if_neg e10]
      by_cases e9 : (q.length : Int) = 9
      · rw [if_pos e9]
        have hd : (V q : Int) / 144115188075855872 = ((V q / 144115188075855872 : Nat) : Int) := by omega
        by_cases eo : (V q : Int) / 144115188075855872 > 0
        · rw [if_pos eo]
          refine stops _ (by simpa using eo) fun m hm hp => ?_
          have h1 := longer m hp
          have h2 := put_length m hm
          obtain ⟨q', d, e, hq', h0, h3⟩ := put_form m
          have hl1 : (put m).length = q.length + 1 := by omega
          have hpre : put m = q ++ [c] := by
            have := List.prefix_of_prefix_length_le hp (show q ++ [c] <+: l by rw [hl]; exact ⟨s, by simp⟩) (by simp; omega)
            exact this.eq_of_length (by simp; omega)
          have := V_put m
          rw [hpre, V_snoc] at this
          omega
        · rw [if_neg eo, if_neg (by omega)]
          exact goes (by omega) (fun e => by rw [e] at e9; simp at e9)
      · rw [if_neg e9]
        by_cases e0 : (q.length : Int) = 0
        · rw [if_pos e0]
          have hq0 : q = [] := List.eq_nil_of_length_eq_zero (by omega)
          by_cases ec : c = 128
          · refine stops _ (by simpa using ec) fun m hm hp => ?_
            obtain ⟨t, ht⟩ := hp
            have h5 := put_head m
            cases hpm : put m with
            | nil => exact put_ne m hpm
            | cons a r =>
              rw [hpm] at ht h5
              rw [hl, hq0] at ht
              simp at ht h5
              omega
          · have := goes (by rw [hq0, V_nil]; omega) (fun _ => ec)
            rwa [show (c == 128) = false by simpa using ec]
        · rw [if_neg e0]
          refine goes ?_ (fun e => by rw [e] at e0; simp at e0)
          have h128 : 128 ^ q.length ≤ 128 ^ 8 := Nat.pow_le_pow_right (by decide) (by omega)
          have e8 : 128 ^ 8 = 72057594037927936 := by decide
          omega

theorem Get_is (l : List Int) (hb : Bytes l) (hl : l.length ≤ 4611686018427387904) (k : Nat) (hk : 2 * l.length + 2 < k) : ∃ r, wire_Get.f k l = some r ∧ IsGet l r := by
  unfold wire_Get.f
  exact get_l0 l l [] k rfl Marks.nil (by simp) (by rw [V_nil]; omega) hb hl hk
theorem Get_eq {l : List Int} {r : Int × Int × Bool} (h : IsGet l r) (hb : Bytes l) (hl : l.length ≤ 4611686018427387904) (k : Nat) (hk : 2 * l.length + 2 < k) : wire_Get.f k l = some r := by
  obtain ⟨r', hr, hi⟩ := Get_is l hb hl k hk
  rw [hr, h.unique hi]
theorem Get_put (m : Nat) (hm : m < 18446744073709551616) (s : List Int) (hb : Bytes s) (hl : s.length ≤ 4611686018427387000) (k : Nat) (hk : 2 * s.length + 30 < k) :
    wire_Get.f k (put m ++ s) = some ((m : Int), ((put m).length : Int), true) := by
  have h10 := put_length m hm
  refine Get_eq (isGet_put m hm s) (fun x hx => ?_) (by simp; omega) k (by simp; omega)
  rcases List.mem_append.1 hx with hx | hx
  · exact put_range m x hx
  · exact hb x hx

theorem bytesOf_bytes (s : ByteArray) : Bytes (bytesOf s) := by
  intro x hx
  unfold bytesOf at hx
  obtain ⟨b, _, rfl⟩ := List.mem_map.1 hx
  have := b.toNat_lt
  omega
theorem Text_eq (s : ByteArray) (hs : s.size ≤ 140737488351232) (k : Nat) (hk : 12 < k) : wire_Text.f k s = some (put s.size ++ bytesOf s) := by
  unfold wire_Text.f
  have h10 := put_length s.size (by omega)
  rw [wrap_u64, show (s.size : Int) % 18446744073709551616 = (s.size : Int) by omega, Put_eq s.size (by omega) k hk]
  simp only [Option.bind_some]
  rw [if_pos (by omega)]

end Go.Proofs.Ytchaegfdcdlfaaa.Y

/- Reading, and the chapter's examples, in words of lists. -/
namespace Go.Proofs.Ytchaegfdcdlfaaa.Y
set_option linter.unusedVariables false
set_option linter.unusedSimpArgs false
open Go.Proofs.Ytchaegfdcdlfaaa.X Go.RowKit Go.Proofs.YtchaegfdcdlfaaaW.PrintWords Go.Proofs.YtchaegfdcdlfaaaW.PrintLast Go.Proofs.YtchaegfdcdlfaaaW.PrintMore

/-- What is read of a list of which r is got. -/
def readR (l : List Int) (r : Int × Int × Bool) (a1 : Int) : ByteArray × Int × Bool :=
  if r.2.2 = true ∧ 0 ≤ a1 ∧ r.1 ≤ a1 ∧ r.1 ≤ (l.length : Int) - r.2.1 then (strOfNums ((l.drop r.2.1.toNat).take r.1.toNat), r.2.1 + r.1, true) else (⟨#[]⟩, 0, false)

theorem IsGet.used {l : List Int} {r : Int × Int × Bool} (h : IsGet l r) : 0 ≤ r.2.1 ∧ r.2.1 ≤ l.length ∧ 0 ≤ r.1 ∧ r.1 < 18446744073709551616 := by
  rcases h with ⟨m, hm, hp, rfl⟩ | ⟨hn, rfl⟩
  · have := hp.length_le
    exact ⟨by show (0 : Int) ≤ ((put m).length : Int); omega, by show ((put m).length : Int) ≤ _; omega, by show (0 : Int) ≤ (m : Int); omega, by show (m : Int) < _; omega⟩
  · exact ⟨by show (0 : Int) ≤ 0; omega, by show (0 : Int) ≤ _; omega, by show (0 : Int) ≤ 0; omega, by show (0 : Int) < _; omega⟩

theorem Read_of {l : List Int} {r : Int × Int × Bool} (h : IsGet l r) (hb : Bytes l) (hl : l.length ≤ 4611686018427387904) (a1 : Int) (k : Nat) (hk : 2 * l.length + 2 < k) :
    wire_Read.f k l a1 = some (readR l r a1) := by
  unfold wire_Read.f readR
  have hu := h.used
  rw [Get_eq h hb hl k hk]
  simp only [Option.bind_some]
  rw [if_pos ⟨hu.1, hu.2.1, hu.2.2.1, hl⟩]
  split <;> rfl

theorem strs_inj {l m : List Int} (hl : Bytes l) (hm : Bytes m) : (strOfNums l).toList = (strOfNums m).toList ↔ l = m := by
  refine ⟨fun h => ?_, fun h => by rw [h]⟩
  rw [ByteArray.toList_eq, ByteArray.toList_eq, strOfNums_data, strOfNums_data] at h
  have hlen : l.length = m.length := by simpa using congrArg List.length h
  apply List.ext_getElem hlen
  intro i h1 h2
  have := congrArg (fun z : List UInt8 => (z[i]?).map UInt8.toNat) h
  simp [h1, h2] at this
  have b1 := hl l[i] (List.getElem_mem h1)
  have b2 := hm m[i] (List.getElem_mem h2)
  omega

end Go.Proofs.Ytchaegfdcdlfaaa.Y

/- The contracts of wire's functions in words of lists, for walks by hand. -/
namespace Go.Proofs.Ytchaegfdcdlfaaa.Y
set_option linter.unusedVariables false
set_option linter.unusedSimpArgs false
open Go.Proofs.Ytchaegfdcdlfaaa.X Go.RowKit Go.Proofs.YtchaegfdcdlfaaaW.PrintWords Go.Proofs.YtchaegfdcdlfaaaW.PrintLast Go.Proofs.YtchaegfdcdlfaaaW.PrintMore

/-- A slice that reads as a list, whoever owns it. -/
abbrev RdB (w : World) (A : Option Addr) (n : Nat) (l : List Int) : Prop := Kd.C (Kd.int .u8) w A n l

theorem row_slice {w : World} {base : Nat} {ok : Nat → Prop} {v : Value} {l : List Int} (h : Kd.R (Kd.int .u8) 5 w base ok v l) : ∃ A c, v = .slice A l.length c ∧ l.length ≤ c ∧ RdB w A l.length l := Kd.R_reads h

theorem put_call (n : Nat) (hn : n < 18446744073709551616) (w : World) : Calls Try.prog 84 #[.int .u64 n] w fun e w' => ∃ A c, e = .returned (.slice A (put n).length c) ∧ (put n).length ≤ c ∧ RdB w' A (put n).length (put n) ∧ Below w.heap.size w w' := by
  refine (wire_Put.calls 20 n _ w (Put_eq n hn 20 (by omega))).mono ?_
  rintro e w' ⟨v, rfl, ho, hb⟩
  obtain ⟨A, c, rfl, hc, hr⟩ := row_slice ho
  exact ⟨A, c, rfl, hc, hr, hb⟩
theorem text_call (s : ByteArray) (hs : s.size ≤ 140737488351232) (w : World) : Calls Try.prog 93 #[.string s] w fun e w' => ∃ A c, e = .returned (.slice A (put s.size ++ bytesOf s).length c) ∧ (put s.size ++ bytesOf s).length ≤ c ∧ RdB w' A (put s.size ++ bytesOf s).length (put s.size ++ bytesOf s) ∧ Below w.heap.size w w' := by
  refine (wire_Text.calls 20 s _ w (Text_eq s hs 20 (by omega))).mono ?_
  rintro e w' ⟨v, rfl, ho, hb⟩
  obtain ⟨A, c, rfl, hc, hr⟩ := row_slice ho
  exact ⟨A, c, rfl, hc, hr, hb⟩
theorem get_call {l : List Int} {n u : Int} {is : Bool} (h : IsGet l (n, u, is)) (hb : Bytes l) (hl : l.length ≤ 4611686018427387904) (A : Option Addr) (c : Nat) (w : World) (hr : RdB w A l.length l) (hc : l.length ≤ c) :
    Calls Try.prog 88 #[.slice A l.length c] w fun e w' => e = .returned (.tuple #[.int .u64 n, .int .i64 u, .bool is]) ∧ ∃ q, w' = w.drewN q := by
  refine (wire_Get.calls (2 * l.length + 3) A c l n u is w hr hc (Get_eq h hb hl _ (by omega))).mono ?_
  rintro e w' ⟨rfl, ⟨q, rfl⟩⟩
  exact ⟨rfl, q, rfl⟩
theorem read_call {l : List Int} {r : Int × Int × Bool} (h : IsGet l r) (hb : Bytes l) (hl : l.length ≤ 4611686018427387904) (a1 : Int) (A : Option Addr) (c : Nat) (w : World) (hr : RdB w A l.length l) (hc : l.length ≤ c) :
    Calls Try.prog 143 #[.slice A l.length c, .int .i64 a1] w fun e w' => e = .returned (.tuple #[.string (readR l r a1).1, .int .i64 (readR l r a1).2.1, .bool (readR l r a1).2.2]) ∧ Below w.heap.size w w' :=
  wire_Read.calls (2 * l.length + 3) A c l a1 _ _ _ w hr hc (Read_of h hb hl a1 _ (by omega))

/-- Its text, in whatever later draw. -/
theorem conv {w : World} {A : Option Addr} {n : Nat} {l : List Int} (h : RdB w A n l) (c q : Nat) : (convert 40 9 (.slice A n c)).run Try.prog (w.drewN q) = .ok (.string (strOfNums l)) (w.drewN q) :=
  Kd.C_string (P := Try.prog) Try.underlying40 Try.underlying5 Try.underlying9 (Kd.C_drewN h q)
theorem conv0 {w : World} {A : Option Addr} {n : Nat} {l : List Int} (h : RdB w A n l) (c : Nat) : (convert 40 9 (.slice A n c)).run Try.prog w = .ok (.string (strOfNums l)) w :=
  Kd.C_string (P := Try.prog) Try.underlying40 Try.underlying5 Try.underlying9 h
theorem rdb_take {w : World} {A : Option Addr} {l : List Int} (h : RdB w A l.length l) (m : Nat) (hm : m ≤ l.length) : RdB w A m (l.take m) := by
  obtain ⟨i0, hi0, _, hsz0, _⟩ := info_parts info5
  obtain ⟨_, hA, _⟩ := print_take_of (P := Try.prog) (Value.int .u8) 0 40 5 .i64 Try.underlying40 hi0 hsz0 A l.length l (m : Int) (by omega) (by omega) (Nat.le_refl _)
  have := hA w (Kd.reads_of_C h)
  simp only [Int.toNat_natCast] at this
  rw [List.length_take, Nat.min_eq_left hm] at this
  exact Kd.C_of_reads (h1 := fun _ => rfl) this
theorem rdb_drop (A : Option Addr) (c : Nat) (l : List Int) (m : Nat) (hm : m ≤ l.length) (hc : l.length ≤ c) :
    ∃ A' : Option Addr, (∀ W : World, (Instr.slice 40 (.slice A l.length c) (some (.int .i64 (m : Int))) none none).run Try.prog W = .ok (.slice A' (l.length - m) (c - m)) W) ∧ (∀ w : World, RdB w A l.length l → RdB w A' (l.length - m) (l.drop m)) ∧ l.length - m ≤ c - m := by
  obtain ⟨i0, hi0, _, hsz0, _⟩ := info_parts info5
  obtain ⟨A', hcut, hA, hC⟩ := print_drop_of (P := Try.prog) (Value.int .u8) 0 40 5 .i64 Try.underlying40 hi0 hsz0 A c l (m : Int) (by omega) (by omega) hc
  simp only [Int.toNat_natCast, List.length_drop] at hcut hA hC
  exact ⟨A', hcut, fun w h => Kd.C_of_reads (h1 := fun _ => rfl) (hA w (Kd.reads_of_C h)), hC⟩
theorem rdb_below {w w' : World} {A : Option Addr} {n : Nat} {l : List Int} (h : RdB w A n l) (hb : Below w.heap.size w w') : RdB w' A n l := Kd.C_below h hb
theorem rdb_drewN {w : World} {A : Option Addr} {n : Nat} {l : List Int} (h : RdB w A n l) (q : Nat) : RdB (w.drewN q) A n l := Kd.C_drewN h q

theorem rdb_cut (A : Option Addr) (c : Nat) (l : List Int) (m : Nat) (hm : m ≤ l.length) (hc : l.length ≤ c) :
    ∀ W : World, (Instr.slice 40 (.slice A l.length c) none (some (.int .i64 (m : Int))) none).run Try.prog W = .ok (.slice A m c) W := by
  obtain ⟨i0, hi0, _, hsz0, _⟩ := info_parts info5
  obtain ⟨h, _, _⟩ := print_take_of (P := Try.prog) (Value.int .u8) 0 40 5 .i64 Try.underlying40 hi0 hsz0 A c l (m : Int) (by omega) (by omega) hc
  simp only [Int.toNat_natCast, List.length_take, Nat.min_eq_left hm] at h
  exact h

/-- What is held of the world may be made more behind an operation. -/
theorem wpAnyH_str {P : Program} {md : Region.Mode} {ops : Array Oper} {Q : Exit → Act → World → Prop} {S S2 : World → Prop} (h : ∀ W, S2 W → S W) :
    ∀ (fuel : Nat) (listed : Array Bool) (a : Act) (w : World), wpAnyH P md ops Q S2 fuel listed a w → wpAnyH P md ops Q S fuel listed a w
  | 0, _, _, _, hh => hh
  | fuel + 1, _, _, _, hh => ⟨hh.1, fun i hi => wpOp_mono (fun a' w' h' => ⟨h w' h'.1, wpAnyH_str h fuel _ a' w' h'.2⟩) (hh.2 i hi)⟩

theorem below_of_grown0 {w w1 : World} (h : w.grownBy w1 none) : Below w.heap.size w w1 := ⟨h.os, h.tape, h.output, h.size, fun i hi => h.block i hi (by simp)⟩
theorem own_row {w : World} {base n : Nat} {v : Value} {l : List Int} (h : w.ownsRow base 5 1 v n (nums .u8 l)) : ∃ A c, v = .slice A n c ∧ n ≤ c ∧ RdB w A n l := by
  have hn : n = l.length := by have := h.1; simp [nums] at this; omega
  subst hn
  exact row_slice (Kd.R_of_own (ok := fun _ => True) h (fun _ _ => trivial))
theorem get_call' {l : List Int} {n u : Int} {is : Bool} (h : IsGet l (n, u, is)) (hb : Bytes l) (hl : l.length ≤ 4611686018427387904) (m : Nat) (hm : m = l.length) (A : Option Addr) (c : Nat) (w : World) (hr : RdB w A m l) (hc : m ≤ c) :
    Calls Try.prog 88 #[.slice A m c] w fun e w' => e = .returned (.tuple #[.int .u64 n, .int .i64 u, .bool is]) ∧ ∃ q, w' = w.drewN q := by
  subst hm
  exact get_call h hb hl A c w hr hc
theorem read_call' {l : List Int} {r : Int × Int × Bool} (h : IsGet l r) (hb : Bytes l) (hl : l.length ≤ 4611686018427387904) (a1 : Int) (m : Nat) (hm : m = l.length) (A : Option Addr) (c : Nat) (w : World) (hr : RdB w A m l) (hc : m ≤ c) (x : ByteArray × Int × Bool) (hx : readR l r a1 = x) :
    Calls Try.prog 143 #[.slice A m c, .int .i64 a1] w fun e w' => e = .returned (.tuple #[.string x.1, .int .i64 x.2.1, .bool x.2.2]) ∧ Below w.heap.size w w' := by
  subst hm hx
  exact read_call h hb hl a1 A c w hr hc
theorem bytes_app {l m : List Int} (h : Bytes l) (h2 : Bytes m) : Bytes (l ++ m) := fun x hx => (List.mem_append.1 hx).elim (h x) (h2 x)
theorem bytes_take' {l : List Int} (h : Bytes l) (i : Nat) : Bytes (l.take i) := fun x hx => h x (List.mem_of_mem_take hx)
theorem bytes_drop' {l : List Int} (h : Bytes l) (i : Nat) : Bytes (l.drop i) := fun x hx => h x (List.mem_of_mem_drop hx)
theorem bytes_of_wf {l : List Int} (h : ∀ x ∈ l, (Lit.int .u8 x).wf = true) : Bytes l := fun x hx => by
  have := h x hx
  simp only [Lit.wf, IntKind.min, IntKind.max, IntKind.bits, IntKind.signed, Bool.and_eq_true, decide_eq_true_eq] at this
  simp at this
  exact this

end Go.Proofs.Ytchaegfdcdlfaaa.Y

/- Words of four bytes, as lists. -/
namespace Go.Proofs.Ytchaegfdcdlfaaa.Y
set_option linter.unusedVariables false
set_option linter.unusedSimpArgs false
open Go.Proofs.Ytchaegfdcdlfaaa.X Go.RowKit Go.Proofs.YtchaegfdcdlfaaaW.PrintWords Go.Proofs.YtchaegfdcdlfaaaW.PrintLast Go.Proofs.YtchaegfdcdlfaaaW.PrintMore

def word (n : Nat) : List Int := [((n / 16777216 % 256 : Nat) : Int), ((n / 65536 % 256 : Nat) : Int), ((n / 256 % 256 : Nat) : Int), ((n % 256 : Nat) : Int)]
theorem word_length (n : Nat) : (word n).length = 4 := rfl
theorem word_bytes (n : Nat) : Bytes (word n) := by
  intro x hx
  simp only [word, List.mem_cons, List.not_mem_nil, or_false] at hx
  omega

theorem shr32 (n : Nat) (y : Int) (j : Nat) (h : y.toNat = j) (hj : j ≤ 32) : shr .u32 (n : Int) y = ((n / 2 ^ j : Nat) : Int) := by
  unfold shr
  rw [show min y.toNat IntKind.u32.bits = j by show min y.toNat 32 = j; omega]
  norm_cast

theorem word_step (n k i : Nat) (hi : i < 4) (x3 : List Int) (hx : x3.length = 4) :
    wire_Word.l0 (k + 1) (n : Int) x3 (i : Int) = wire_Word.l0 k (n : Int) (x3.set (3 - i) ((n / 2 ^ (8 * i) % 256 : Nat) : Int)) ((i + 1 : Nat) : Int) := by
  generalize hR : wire_Word.l0 k (n : Int) (x3.set (3 - i) ((n / 2 ^ (8 * i) % 256 : Nat) : Int)) ((i + 1 : Nat) : Int) = R
  unfold wire_Word.l0
  rw [if_pos (by omega), wrap64_small (8 * (i : Int)) (by omega) (by omega), if_pos (by omega), wrap64_small (3 - (i : Int)) (by omega) (by omega), if_pos (by omega), if_pos (by omega), wrap64_small ((i : Int) + 1) (by omega) (by omega),
    shr32 n (8 * (i : Int)) (8 * i) (by omega) (by omega), show (3 - (i : Int)).toNat = 3 - i by omega]
  rw [← hR]
  generalize n / 2 ^ (8 * i) = z
  rw [show (z : Int) % 256 = ((z % 256 : Nat) : Int) by omega, show ((i : Int) + 1) = ((i + 1 : Nat) : Int) by omega]
theorem word_end (n k : Nat) (x3 : List Int) : wire_Word.l0 (k + 1) (n : Int) x3 ((4 : Nat) : Int) = some x3 := by
  simp only [wire_Word.l0]
  rw [if_neg (by omega)]
theorem Word_eq (n : Nat) (k : Nat) (hk : 5 < k) : wire_Word.f k (n : Int) = some (word n) := by
  obtain ⟨k, rfl⟩ : ∃ m, k = m + 5 := ⟨k - 5, by omega⟩
  unfold wire_Word.f
  rw [if_pos (by decide), show (0 : Int) = ((0 : Nat) : Int) from rfl, word_step n (k + 4) 0 (by decide) _ (by rfl), word_step n (k + 3) 1 (by decide) _ (by rfl), word_step n (k + 2) 2 (by decide) _ (by rfl), word_step n (k + 1) 3 (by decide) _ (by rfl), word_end]
  congr 1
  simp [word, List.replicate]

/-- The number of four bytes. -/
def four (l : List Int) : Nat := l.foldl (fun a x => a * 256 + x.toNat) 0
theorem wraps_u32 (n : Int) (h₀ : 0 ≤ n) (h₁ : n < 2 ^ 32) : IntKind.u32.wrap n = n := by rw [IntKind.wrap_u32]; omega
theorem four_or (x : Nat) (c : Int) (hx : x < 16777216) (h0 : 0 ≤ c) (h1 : c ≤ 255) : Go.bits .or .u32 (((x : Int) * 256) % 4294967296) (c % 4294967296) = ((x * 256 + c.toNat : Nat) : Int) := by
  rw [show ((x : Int) * 256) % 4294967296 = (x : Int) * 256 by omega, show c % 4294967296 = c by omega]
  rw [bits_join .u32 32 (by decide) wraps_u32 8 _ _ (by omega) (by omega) (by omega) (by omega) (by omega) (by omega)]
  omega
theorem four_l0 (l s : List Int) : ∀ (q : List Int) (k : Nat), l = q ++ s → l.length = 4 → Bytes l → s.length < k → wire_Four.l0 k (four q : Int) l ((4 : Nat) : Int) (q.length : Int) = some ((four l : Int), true) := by
  induction s with
  | nil =>
    intro q k hl h4 hb hk
    obtain ⟨k, rfl⟩ : ∃ m, k = m + 1 := ⟨k - 1, by omega⟩
    rw [List.append_nil] at hl
    subst hl
    simp only [wire_Four.l0]
    rw [if_neg (by omega)]
  | cons c s ih =>
    intro q k hl h4 hb hk
    obtain ⟨k, rfl⟩ : ∃ m, k = m + 1 := ⟨k - 1, by omega⟩
    have hlen : l.length = q.length + (s.length + 1) := by rw [hl]; simp
    have hc := hb c (by rw [hl]; simp)
    have hq : four q < 256 ^ q.length := by
      have hbq : Bytes q := fun x hx => hb x (by rw [hl]; simp [hx])
      clear hl hlen ih
      induction hL : q.length generalizing q with
      | zero => rw [List.eq_nil_of_length_eq_zero hL]; simp [four]
      | succ j ihj =>
        rcases snoc_cases q with rfl | ⟨q', d, rfl⟩
        · simp at hL
        · have h1 := ihj q' (fun x hx => hbq x (by simp [hx])) (by simpa using hL)
          have h2 := hbq d (by simp)
          have h3 : four (q' ++ [d]) = four q' * 256 + d.toNat := by simp [four]
          rw [h3, Nat.pow_succ]
          omega
    have h3 : 256 ^ q.length ≤ 256 ^ 3 := Nat.pow_le_pow_right (by decide) (by omega)
    have e3 : 256 ^ 3 = 16777216 := by decide
    have hrd : rd l (q.length : Int) = c := by
      unfold rd
      rw [hl]
      simp
    simp only [wire_Four.l0]
    rw [if_pos (by omega), if_pos (by omega), if_pos (by omega), hrd, four_or _ _ (by omega) hc.1 hc.2, wrap64_small _ (by omega) (by omega)]
    have e := ih (q ++ [c]) k (by rw [hl]; simp) h4 hb (by simp at hk; omega)
    rw [show (((q ++ [c]).length : Nat) : Int) = (q.length : Int) + 1 by simp, show four (q ++ [c]) = four q * 256 + c.toNat by simp [four]] at e
    exact e
theorem Four_yes (l : List Int) (h4 : l.length = 4) (hb : Bytes l) (k : Nat) (hk : 5 < k) : wire_Four.f k l = some ((four l : Int), true) := by
  unfold wire_Four.f
  rw [if_pos (by omega), show (l.length : Int) = ((4 : Nat) : Int) by omega]
  exact four_l0 l l [] k rfl h4 hb (by omega)
theorem Four_no (l : List Int) (h4 : l.length ≠ 4) (k : Nat) : wire_Four.f k l = some (0, false) := by
  unfold wire_Four.f
  rw [if_neg (by omega)]
theorem four_word (n : Nat) (h : n < 4294967296) : four (word n) = n := by
  simp only [four, word, List.foldl_cons, List.foldl_nil]
  omega
theorem word_four (l : List Int) (h4 : l.length = 4) (hb : Bytes l) : word (four l) = l := by
  match l, h4, hb with
  | [a, b, c, d], _, hb =>
    have h1 := hb a (by simp)
    have h2 := hb b (by simp)
    have h3 := hb c (by simp)
    have h4 := hb d (by simp)
    simp only [four, word, List.foldl_cons, List.foldl_nil, List.cons.injEq, and_true]
    omega
theorem four_lt (l : List Int) (h4 : l.length = 4) (hb : Bytes l) : four l < 4294967296 := by
  match l, h4, hb with
  | [a, b, c, d], _, hb =>
    have h1 := hb a (by simp)
    have h2 := hb b (by simp)
    have h3 := hb c (by simp)
    have h4 := hb d (by simp)
    simp only [four, List.foldl_cons, List.foldl_nil]
    omega
theorem digits4 (n : Nat) (hn : n < 4294967296) : ∃ a b c d, a < 256 ∧ b < 256 ∧ c < 256 ∧ d < 256 ∧ n = 16777216 * a + 65536 * b + 256 * c + d ∧ n / 16777216 % 256 = a ∧ n / 65536 % 256 = b ∧ n / 256 % 256 = c ∧ n % 256 = d := by
  refine ⟨n / 16777216 % 256, n / 65536 % 256, n / 256 % 256, n % 256, by omega, by omega, by omega, by omega, ?_, rfl, rfl, rfl, rfl⟩
  have e1 : n / 256 / 256 = n / 65536 := by omega
  have e2 : n / 65536 / 256 = n / 16777216 := by omega
  omega
theorem word_less (n m : Nat) (hn : n < 4294967296) (hm : m < 4294967296) : Op.bytesLess (strOfNums (word n)).toList (strOfNums (word m)).toList = decide (n < m) := by
  rw [ByteArray.toList_eq, ByteArray.toList_eq, strOfNums_data, strOfNums_data]
  obtain ⟨a, b, c, d, ha, hb, hc, hd, he, e1, e2, e3, e4⟩ := digits4 n hn
  obtain ⟨a', b', c', d', ha', hb', hc', hd', he', e1', e2', e3', e4'⟩ := digits4 m hm
  simp only [word, e1, e2, e3, e4, e1', e2', e3', e4', List.map_cons, List.map_nil, Op.bytesLess]
  clear e1 e2 e3 e4 e1' e2' e3' e4'
  rw [Bool.eq_iff_iff]
  simp only [Bool.or_eq_true, Bool.and_eq_true, decide_eq_true_eq, beq_iff_eq, UInt8.lt_iff_toNat_lt, ← UInt8.toNat_inj, UInt8.toNat_ofNat', Int.toNat_natCast]
  rw [Nat.mod_eq_of_lt (show a < 2 ^ 8 by omega), Nat.mod_eq_of_lt (show b < 2 ^ 8 by omega), Nat.mod_eq_of_lt (show c < 2 ^ 8 by omega), Nat.mod_eq_of_lt (show d < 2 ^ 8 by omega), Nat.mod_eq_of_lt (show a' < 2 ^ 8 by omega), Nat.mod_eq_of_lt (show b' < 2 ^ 8 by omega), Nat.mod_eq_of_lt (show c' < 2 ^ 8 by omega), Nat.mod_eq_of_lt (show d' < 2 ^ 8 by omega)]
  simp only [Bool.false_eq_true, and_false, or_false]
  omega

theorem word_call (n : Nat) (w : World) : Calls Try.prog 85 #[.int .u32 n] w fun e w' => ∃ A c, e = .returned (.slice A 4 c) ∧ 4 ≤ c ∧ RdB w' A 4 (word n) ∧ Below w.heap.size w w' := by
  refine (wire_Word.calls 20 n _ w (Word_eq n 20 (by omega))).mono ?_
  rintro e w' ⟨v, rfl, ho, hb⟩
  obtain ⟨A, c, rfl, hc, hr⟩ := row_slice ho
  exact ⟨A, c, rfl, hc, hr, hb⟩
theorem four_call (l : List Int) (h4 : l.length = 4) (hb : Bytes l) (A : Option Addr) (c : Nat) (w : World) (hr : RdB w A 4 l) (hc : 4 ≤ c) :
    Calls Try.prog 89 #[.slice A 4 c] w fun e w' => e = .returned (.tuple #[.int .u32 (four l), .bool true]) ∧ ∃ q, w' = w.drewN q := by
  have := wire_Four.calls 20 A c l _ _ w (by rw [h4]; exact hr) (by rw [h4]; exact hc) (Four_yes l h4 hb 20 (by omega))
  rw [h4] at this
  refine this.mono ?_
  rintro e w' ⟨rfl, ⟨q, rfl⟩⟩
  exact ⟨rfl, q, rfl⟩
theorem four_none (l : List Int) (h4 : l.length ≠ 4) (A : Option Addr) (c : Nat) (w : World) (hr : RdB w A l.length l) (hc : l.length ≤ c) :
    Calls Try.prog 89 #[.slice A l.length c] w fun e w' => e = .returned (.tuple #[.int .u32 0, .bool false]) ∧ ∃ q, w' = w.drewN q := by
  refine (wire_Four.calls 20 A c l _ _ w hr hc (Four_no l h4 20)).mono ?_
  rintro e w' ⟨rfl, ⟨q, rfl⟩⟩
  exact ⟨rfl, q, rfl⟩

end Go.Proofs.Ytchaegfdcdlfaaa.Y

namespace Go.Proofs.Ytchaegfdcdlfaaa.X
open Go.RowKit Go.Proofs.YtchaegfdcdlfaaaW.PrintWords Go.Proofs.YtchaegfdcdlfaaaW.PrintLast Go.Proofs.YtchaegfdcdlfaaaW.PrintMore
attribute [local go_sem] max2_int min2_int max_two min_two max_three min_three max_four min_four   -- for this text's walks alone
set_option linter.unusedVariables false
set_option linter.unusedSimpArgs false

/-! ### rolodexref01_Put: function 86 -/
def rolodexref01_Put.l0 : Nat → Int → List Int → Option (List Int)
  | 0, _, _ => none
  | k + 1, x0, x3 => if x0 ≥ 128 then ((some (([(((Int.tmod (IntKind.u64.wrap (Int.tdiv x0 128)) 128) % 256) + 128) % 256] : List Int) : List Int)).bind fun y216 => (if y216.length + x3.length < 140737488355328 then (rolodexref01_Put.l0 k (IntKind.u64.wrap (Int.tdiv x0 128)) (y216 ++ x3)) else (none))) else (some x3)
def rolodexref01_Put.f (k : Nat) (a0 : Int) : Option (List Int) := rolodexref01_Put.l0 k a0 (([(Int.tmod a0 128) % 256] : List Int))
theorem rolodexref01_Put.mono_l : ∀ k, (∀ y0 y1, LeO (rolodexref01_Put.l0 k y0 y1) (rolodexref01_Put.l0 (k + 1) y0 y1))
  | 0 => fun _ _ r h => by simp [rolodexref01_Put.l0] at h
  | k + 1 => by
    have ih0 := rolodexref01_Put.mono_l k
    · intro y0 y1
      unfold rolodexref01_Put.l0
      repeat' first
      | (with_reducible exact ih0 _ _)
      | (with_reducible exact LeO.refl _)
      | (with_reducible exact LeO.none _)
      | (with_reducible refine LeO.ite ?_ ?_)
      | (with_reducible refine LeO.bind ?_ (fun _ => ?_))
      | exact ih0 _ _
      | exact LeO.none _
      | refine LeO.ite ?_ ?_
      | refine LeO.bind ?_ (fun _ => ?_)
theorem rolodexref01_Put.mono : ∀ a0 k, LeO (rolodexref01_Put.f k a0) (rolodexref01_Put.f (k + 1) a0) := by
  intro a0 k
  have ih0 := rolodexref01_Put.mono_l k
  unfold rolodexref01_Put.f
  repeat' first
      | (with_reducible exact ih0 _ _)
      | (with_reducible exact LeO.refl _)
      | (with_reducible exact LeO.none _)
      | (with_reducible refine LeO.ite ?_ ?_)
      | (with_reducible refine LeO.bind ?_ (fun _ => ?_))
      | exact ih0 _ _
      | exact LeO.none _
      | refine LeO.ite ?_ ?_
      | refine LeO.bind ?_ (fun _ => ?_)
set_option maxHeartbeats 8000000 in
set_option maxRecDepth 100000 in
theorem rolodexref01_Put.calls (k : Nat) (a0 : Int) (r : List Int) (w : World) (h : rolodexref01_Put.f k a0 = some r) :
    Calls Try.prog 86 #[.int .u64 a0] w fun e w' => ∃ v0_ : Value, e = .returned (v0_) ∧ Kd.R (Kd.int .u8) 5 w' w.heap.size (fun _ => True) v0_ r ∧ Below w.heap.size w w' := by
  have HB := Aside0.mk (Below.refl w.heap.size w)
  have H : (rolodexref01_Put.l0 k a0 (([(Int.tmod a0 128) % 256] : List Int))) = some r := h
  clear h
  obtain ⟨y213, hy213⟩ : ∃ y_ : List Int, y_ = (([(Int.tmod a0 128) % 256] : List Int)) := ⟨_, rfl⟩
  replace H : (rolodexref01_Put.l0 k a0 y213) = some r := by first | (rw [hy213]; with_reducible exact H) | (have H2_ := (Option.bind_some _ _).symm.trans H; rw [hy213]; with_reducible exact H2_) | (have H2_ := (Option.bind_some _ _).symm.trans H; with_reducible exact H2_) | with_reducible exact H | (rw [hy213]; exact H) | exact H
  have Ny213 := Aside0.mk hy213
  clear hy213
  have H' := Aside0.mk H
  clear H
  go_enter Try.func86, Try.ntmps86
  go_wp2_with (first | ((with_reducible refine gate_dst (N := 7) rfl ?_); refine Kd.R_lit (Kd.int .u8) _ 5 ?hg (N := 7) ?hd (xs := ([(Int.tmod a0 128) % 256] : List Int)) (inner := [.int .u8 ((Int.tmod a0 128) % 256)]) (ok := fun _ => True) (okp := fun _ => True) ?hr ?hp (fun _ hk => hk) trivial (Below.refl _ _) (Nat.le_refl _) (by simp) ?_; (case hd => rfl); (case hg => rfl); (case hr => first | (go_simp; done) | (go_simp; rfl)); (case hp => exact (Reps.one (show Kd.M (Kd.int .u8) _ _ _ ((Int.tmod a0 128) % 256) [.int .u8 ((Int.tmod a0 128) % 256)] from rfl) (Reps.none _ _))); intro v214 w2 ho3 hb hg_ hnew_; clear hg_ hnew_; (first | rw [← Ny213.out] at ho3 | (simp only [Int.reduceToNat] at ho3; rw [← Ny213.out] at ho3)); have n0_ := Aside0.mk (Kd.R_lower ho3 (below_size (by repeat (first | (with_reducible first | exact HB.out | apply below_alloc | apply pw_below_drewN | apply below_drew1) | exact HB.out)))); have n1_ := Aside0.mk (below_step (by repeat (first | (with_reducible first | exact HB.out | apply below_alloc | apply pw_below_drewN | apply below_drew1) | exact HB.out)) hb); clear HB; have HO215 := n0_; have HB := n1_; clear n0_ n1_; clear hb ho3))
  go_loopg [0, 3] k (fun kq v0 v3 w' => ∃ (x0_1 : Int) (x3_1 : List Int), v0 = .int .u64 x0_1 ∧ Aside0 (rolodexref01_Put.l0 kq x0_1 x3_1 = some r) ∧ Aside0 (kq ≤ k) ∧ Aside0 (Kd.R (Kd.int .u8) 5 w' w.heap.size (fun _ => True) v3 x3_1) ∧ Aside0 (Below w.heap.size w w'))
  case atStart => exact ⟨(a0), (y213), (by first | rfl | (simp; done) | (simp [*]; done)), H', ⟨Nat.le_refl _⟩, ⟨by (with_reducible repeat (first | apply Kd.R_alloc | apply Kd.R_drewN | apply Kd.R_drew)); exact HO215.out⟩, ⟨by repeat (first | (with_reducible first | exact HB.out | apply below_alloc | apply pw_below_drewN | apply below_drew1) | exact HB.out)⟩⟩
  case round =>
    clear H'
    try clear p2
    obtain ⟨x0_1, x3_1, rfl, HA, HK1, HO_3, HB⟩ := hrel
    cases gk with
    | zero => exact absurd HA.out (by simp [rolodexref01_Put.l0])
    | succ k1 =>
      have H := HA.out
      clear HA
      simp only [rolodexref01_Put.l0] at H
      by_cases c4 : x0_1 ≥ 128
      · rw [if_pos c4] at H
        have c4b0 : decide (128 ≤ x0_1) = true := decide_eq_true c4
        clear c4
        obtain ⟨y216, hy216⟩ : ∃ y_ : List Int, y_ = (([(((Int.tmod (IntKind.u64.wrap (Int.tdiv x0_1 128)) 128) % 256) + 128) % 256] : List Int)) := ⟨_, rfl⟩
        replace H : (if y216.length + x3_1.length < 140737488355328 then (rolodexref01_Put.l0 k1 (IntKind.u64.wrap (Int.tdiv x0_1 128)) (y216 ++ x3_1)) else (none)) = some r := by first | (rw [hy216]; with_reducible exact H) | (have H2_ := (Option.bind_some _ _).symm.trans H; rw [hy216]; with_reducible exact H2_) | (have H2_ := (Option.bind_some _ _).symm.trans H; with_reducible exact H2_) | with_reducible exact H | (rw [hy216]; exact H) | exact H
        have Ny216 := Aside0.mk hy216
        clear hy216
        by_cases c5 : y216.length + x3_1.length < 140737488355328
        · rw [if_pos c5] at H
          have LMc5 := Aside0.mk c5
          clear c5
          obtain ⟨y219, hy219⟩ : ∃ y_ : List Int, y_ = (y216 ++ x3_1) := ⟨_, rfl⟩
          replace H : (rolodexref01_Put.l0 k1 (IntKind.u64.wrap (Int.tdiv x0_1 128)) y219) = some r := by first | (rw [hy219]; with_reducible exact H) | (have H2_ := (Option.bind_some _ _).symm.trans H; rw [hy219]; with_reducible exact H2_) | (have H2_ := (Option.bind_some _ _).symm.trans H; with_reducible exact H2_) | with_reducible exact H | (rw [hy219]; exact H) | exact H
          have Ny219 := Aside0.mk hy219
          clear hy219
          have H' := Aside0.mk H
          clear H
          go_wp2_with (first | ((with_reducible refine gate_dst (N := 16) rfl ?_); refine Kd.R_lit (Kd.int .u8) _ 5 ?hg (N := 16) ?hd (xs := ([(((Int.tmod (IntKind.u64.wrap (Int.tdiv x0_1 128)) 128) % 256) + 128) % 256] : List Int)) (inner := [.int .u8 ((((Int.tmod (IntKind.u64.wrap (Int.tdiv x0_1 128)) 128) % 256) + 128) % 256)]) (ok := fun _ => True) (okp := fun _ => True) ?hr ?hp (fun _ hk => hk) trivial (Below.refl _ _) (Nat.le_refl _) (by simp) ?_; (case hd => rfl); (case hg => rfl); (case hr => first | (go_simp; done) | (go_simp; rfl)); (case hp => exact (Reps.one (show Kd.M (Kd.int .u8) _ _ _ ((((Int.tmod (IntKind.u64.wrap (Int.tdiv x0_1 128)) 128) % 256) + 128) % 256) [.int .u8 ((((Int.tmod (IntKind.u64.wrap (Int.tdiv x0_1 128)) 128) % 256) + 128) % 256)] from rfl) (Reps.none _ _))); intro v217 w6 ho7 hb hg_ hnew_; clear hg_ hnew_; (first | rw [← Ny216.out] at ho7 | (simp only [Int.reduceToNat] at ho7; rw [← Ny216.out] at ho7)); have n0_ := Aside0.mk (Kd.R_elder' (by (with_reducible repeat (first | apply Kd.R_alloc | apply Kd.R_drewN | apply Kd.R_drew)); exact HO_3.out) (Kd.R_base ho7) hb); have n1_ := Aside0.mk (Kd.R_lower (Kd.R_new' ho7 (Kd.R_lt (by (with_reducible repeat (first | apply Kd.R_alloc | apply Kd.R_drewN | apply Kd.R_drew)); exact HO_3.out))) (below_size (by repeat (first | (with_reducible first | exact HB.out | apply below_alloc | apply pw_below_drewN | apply below_drew1) | exact HB.out)))); have n2_ := Aside0.mk (below_step (by repeat (first | (with_reducible first | exact HB.out | apply below_alloc | apply pw_below_drewN | apply below_drew1) | exact HB.out)) hb); clear HO_3; clear HB; have HO_3 := n0_; have HO218 := n1_; have HB := n2_; clear n0_ n1_ n2_; clear hb ho7; obtain ⟨Ao9, co9, eo9⟩ := Kd.R_slice HO_3.out; subst eo9) | ((with_reducible refine gate_builtin (b := .append) (xs := #[.tmp 16, .tmp 17]) rfl ?_); at_builtin; refine Kd.R_append_rows (Kd.int .u8) (w0 := w) w.heap.size rfl (.tmp 16) (.tmp 17) 40 5 (.int .u8 0) 1 rfl Try.underlying40 info5 rfl (by decide) (by omega) v217 y216 x3_1 _ _ _ (fun k_ => some k_ ≠ (.slice Ao9 x3_1.length co9 : Value).ownBlock) (fun _ => False) rfl rfl ?aO ?aR (fun _ _ h => h) (fun _ h => h.elim) ?aF ?aB ?aS ?aL ?_; (case aR => repeat (first | exact (Kd.R_reads' HO_3.out).2.2 | (with_reducible refine Kd.C_alloc ?_ _) | (with_reducible refine Kd.C_drewN ?_ _) | (with_reducible refine Kd.C_drew ?_))); (case aB => exact (by repeat (first | (with_reducible first | exact HB.out | apply below_alloc | apply pw_below_drewN | apply below_drew1) | exact HB.out))); (case aF => exact (fun k_ hk => Kd.fresh' (Kd.R_lt (by (with_reducible repeat (first | apply Kd.R_alloc | apply Kd.R_drewN | apply Kd.R_drew)); exact HO_3.out)) k_ hk)); (case aO => exact (by (with_reducible repeat (first | apply Kd.R_alloc | apply Kd.R_drewN | apply Kd.R_drew)); exact Kd.R_mono HO218.out (fun _ hk => hk.2))); (case aS => exact (below_size (by repeat (first | (with_reducible first | exact HB.out | apply below_alloc | apply pw_below_drewN | apply below_drew1) | exact HB.out)))); (case aL => have := LMc5.out; omega); intro v220 w8 ho hb hg hat; rw [← Ny219.out] at ho; have n0_ := Aside0.mk (Kd.R_after (ok := (fun _ => True)) (by (with_reducible repeat (first | apply Kd.R_alloc | apply Kd.R_drewN | apply Kd.R_drew)); exact HO_3.out) hg hat); have n1_ := Aside0.mk (hb); have n2_ := Aside0.mk (ho); clear HO_3; clear HB; clear HO218; have HO_3 := n0_; have HB := n1_; have HO221 := n2_; clear n0_ n1_ n2_; clear ho hb hg hat))
          go_roundg k1
          case measure => have := HK1.out; omega
          case rel => exact ⟨(IntKind.u64.wrap (Int.tdiv x0_1 128)), (y219), (by first | rfl | (simp; done) | (simp [*]; done)), H', ⟨by have := HK1.out; omega⟩, ⟨by (with_reducible repeat (first | apply Kd.R_alloc | apply Kd.R_drewN | apply Kd.R_drew)); exact Kd.R_mono HO221.out (fun _ hk => trivial)⟩, ⟨by repeat (first | (with_reducible first | exact HB.out | apply below_alloc | apply pw_below_drewN | apply below_drew1) | exact HB.out)⟩⟩
        · rw [if_neg c5] at H
          exact absurd H (by simp)
      · rw [if_neg c4] at H
        have c4b0 : decide (128 ≤ x0_1) = false := decide_eq_false c4
        clear c4
        obtain rfl := Option.some.inj H
        go_wp2
        go_ret
        exact ⟨_, by first | rfl | (simp [errW_none, errW_some] <;> rfl) | (simp [*, errW_none, errW_some] <;> rfl), by (with_reducible repeat (first | apply Kd.R_alloc | apply Kd.R_drewN | apply Kd.R_drew)); exact HO_3.out, by repeat (first | (with_reducible first | exact HB.out | apply below_alloc | apply pw_below_drewN | apply below_drew1) | exact HB.out)⟩

end Go.Proofs.Ytchaegfdcdlfaaa.X

namespace Go.Proofs.Ytchaegfdcdlfaaa.X
open Go.RowKit Go.Proofs.YtchaegfdcdlfaaaW.PrintWords Go.Proofs.YtchaegfdcdlfaaaW.PrintLast Go.Proofs.YtchaegfdcdlfaaaW.PrintMore
attribute [local go_sem] max2_int min2_int max_two min_two max_three min_three max_four min_four   -- for this text's walks alone
set_option linter.unusedVariables false
set_option linter.unusedSimpArgs false

/-! ### rolodexref01_Word: function 87 -/
def rolodexref01_Word.f (a0 : Int) : Option (List Int) := some (([((Int.tdiv a0 16777216) % 4294967296) % 256, ((Int.tdiv a0 65536) % 4294967296) % 256, ((Int.tdiv a0 256) % 4294967296) % 256, (Int.tmod a0 256) % 256] : List Int))
set_option maxHeartbeats 8000000 in
set_option maxRecDepth 100000 in
theorem rolodexref01_Word.calls (a0 : Int) (r : List Int) (w : World) (h : rolodexref01_Word.f a0 = some r) :
    Calls Try.prog 87 #[.int .u32 a0] w fun e w' => ∃ v0_ : Value, e = .returned (v0_) ∧ Kd.R (Kd.int .u8) 5 w' w.heap.size (fun _ => True) v0_ r ∧ Below w.heap.size w w' := by
  have HB := Aside0.mk (Below.refl w.heap.size w)
  have H : (some (([((Int.tdiv a0 16777216) % 4294967296) % 256, ((Int.tdiv a0 65536) % 4294967296) % 256, ((Int.tdiv a0 256) % 4294967296) % 256, (Int.tmod a0 256) % 256] : List Int))) = some r := h
  clear h
  obtain ⟨y222, hy222⟩ : ∃ y_ : List Int, y_ = (([((Int.tdiv a0 16777216) % 4294967296) % 256, ((Int.tdiv a0 65536) % 4294967296) % 256, ((Int.tdiv a0 256) % 4294967296) % 256, (Int.tmod a0 256) % 256] : List Int)) := ⟨_, rfl⟩
  replace H : (some y222) = some r := by first | (rw [hy222]; with_reducible exact H) | (have H2_ := (Option.bind_some _ _).symm.trans H; rw [hy222]; with_reducible exact H2_) | (have H2_ := (Option.bind_some _ _).symm.trans H; with_reducible exact H2_) | with_reducible exact H | (rw [hy222]; exact H) | exact H
  have Ny222 := Aside0.mk hy222
  clear hy222
  obtain rfl := Option.some.inj H
  go_enter Try.func87, Try.ntmps87
  go_wp2_with (first | ((with_reducible refine gate_dst (N := 17) rfl ?_); refine Kd.R_lit (Kd.int .u8) _ 5 ?hg (N := 17) ?hd (xs := ([((Int.tdiv a0 16777216) % 4294967296) % 256, ((Int.tdiv a0 65536) % 4294967296) % 256, ((Int.tdiv a0 256) % 4294967296) % 256, (Int.tmod a0 256) % 256] : List Int)) (inner := [.int .u8 (((Int.tdiv a0 16777216) % 4294967296) % 256), .int .u8 (((Int.tdiv a0 65536) % 4294967296) % 256), .int .u8 (((Int.tdiv a0 256) % 4294967296) % 256), .int .u8 ((Int.tmod a0 256) % 256)]) (ok := fun _ => True) (okp := fun _ => True) ?hr ?hp (fun _ hk => hk) trivial (Below.refl _ _) (Nat.le_refl _) (by simp) ?_; (case hd => rfl); (case hg => rfl); (case hr => first | (go_simp; done) | (go_simp; rfl)); (case hp => exact (Reps.one (show Kd.M (Kd.int .u8) _ _ _ (((Int.tdiv a0 16777216) % 4294967296) % 256) [.int .u8 (((Int.tdiv a0 16777216) % 4294967296) % 256)] from rfl) (Reps.one (show Kd.M (Kd.int .u8) _ _ _ (((Int.tdiv a0 65536) % 4294967296) % 256) [.int .u8 (((Int.tdiv a0 65536) % 4294967296) % 256)] from rfl) (Reps.one (show Kd.M (Kd.int .u8) _ _ _ (((Int.tdiv a0 256) % 4294967296) % 256) [.int .u8 (((Int.tdiv a0 256) % 4294967296) % 256)] from rfl) (Reps.one (show Kd.M (Kd.int .u8) _ _ _ ((Int.tmod a0 256) % 256) [.int .u8 ((Int.tmod a0 256) % 256)] from rfl) (Reps.none _ _)))))); intro v223 w2 ho3 hb hg_ hnew_; clear hg_ hnew_; (first | rw [← Ny222.out] at ho3 | (simp only [Int.reduceToNat] at ho3; rw [← Ny222.out] at ho3)); have n0_ := Aside0.mk (Kd.R_lower ho3 (below_size (by repeat (first | (with_reducible first | exact HB.out | apply below_alloc | apply pw_below_drewN | apply below_drew1) | exact HB.out)))); have n1_ := Aside0.mk (below_step (by repeat (first | (with_reducible first | exact HB.out | apply below_alloc | apply pw_below_drewN | apply below_drew1) | exact HB.out)) hb); clear HB; have HO224 := n0_; have HB := n1_; clear n0_ n1_; clear hb ho3))
  go_ret
  exact ⟨_, by first | rfl | (simp [errW_none, errW_some] <;> rfl) | (simp [*, errW_none, errW_some] <;> rfl), by (with_reducible repeat (first | apply Kd.R_alloc | apply Kd.R_drewN | apply Kd.R_drew)); exact HO224.out, by repeat (first | (with_reducible first | exact HB.out | apply below_alloc | apply pw_below_drewN | apply below_drew1) | exact HB.out)⟩

end Go.Proofs.Ytchaegfdcdlfaaa.X

namespace Go.Proofs.Ytchaegfdcdlfaaa.X
open Go.RowKit Go.Proofs.YtchaegfdcdlfaaaW.PrintWords Go.Proofs.YtchaegfdcdlfaaaW.PrintLast Go.Proofs.YtchaegfdcdlfaaaW.PrintMore
attribute [local go_sem] max2_int min2_int max_two min_two max_three min_three max_four min_four   -- for this text's walks alone
set_option linter.unusedVariables false
set_option linter.unusedSimpArgs false

/-! ### rolodexref01_Get: function 91 -/
mutual
def rolodexref01_Get.l0 : Nat → List Int → Int → Int → Option (Int × Int × Bool)
  | 0, _, _, _ => none
  | k + 1, x0, x5, x6 => if x6 < (x0.length : Int) then (rolodexref01_Get.j1 k x0 x5 x6 (decide (x6 < 10))) else (rolodexref01_Get.j1 k x0 x5 x6 false)
def rolodexref01_Get.j1 : Nat → List Int → Int → Int → Bool → Option (Int × Int × Bool)
  | 0, _, _, _, _ => none
  | k + 1, x0, x5, x6, x15 => if x15 = true then (if 0 ≤ x6 then (if x6 < (x0.length : Int) then (if (rd x0 x6) < 128 then ((rolodexref01_Put.f k (IntKind.u64.wrap ((IntKind.u64.wrap (128 * x5)) + (IntKind.u64.wrap (Int.tmod (rd x0 x6) 128))))).bind fun t246 => (if 0 ≤ (wrap64 (x6 + 1)) then (if (wrap64 (x6 + 1)) ≤ (x0.length : Int) then (if (strOfNums t246).toList = (strOfNums (x0.take ((wrap64 (x6 + 1)) : Int).toNat)).toList then (some (IntKind.u64.wrap ((IntKind.u64.wrap (128 * x5)) + (IntKind.u64.wrap (Int.tmod (rd x0 x6) 128))), wrap64 (x6 + 1), true)) else (some (0, 0, false))) else (none)) else (none))) else (rolodexref01_Get.l0 k x0 (IntKind.u64.wrap ((IntKind.u64.wrap (128 * x5)) + (IntKind.u64.wrap (Int.tmod (rd x0 x6) 128)))) (wrap64 (x6 + 1)))) else (none)) else (none)) else (some (0, 0, false))
end
def rolodexref01_Get.f (k : Nat) (l0 : List Int) : Option (Int × Int × Bool) := rolodexref01_Get.l0 k l0 0 0
theorem rolodexref01_Get.mono_l : ∀ k, (∀ y0 y1 y2, LeO (rolodexref01_Get.l0 k y0 y1 y2) (rolodexref01_Get.l0 (k + 1) y0 y1 y2)) ∧ (∀ y0 y1 y2 y3, LeO (rolodexref01_Get.j1 k y0 y1 y2 y3) (rolodexref01_Get.j1 (k + 1) y0 y1 y2 y3))
  | 0 => ⟨fun _ _ _ r h => by simp [rolodexref01_Get.l0] at h, fun _ _ _ _ r h => by simp [rolodexref01_Get.j1] at h⟩
  | k + 1 => by
    obtain ⟨ih0, ih1⟩ := rolodexref01_Get.mono_l k
    refine ⟨?_, ?_⟩
    · intro y0 y1 y2
      unfold rolodexref01_Get.l0
      repeat' first
      | (with_reducible exact ih0 _ _ _)
      | (with_reducible exact ih1 _ _ _ _)
      | (with_reducible exact rolodexref01_Put.mono _ _)
      | (with_reducible exact LeO.refl _)
      | (with_reducible exact LeO.none _)
      | (with_reducible refine LeO.ite ?_ ?_)
      | (with_reducible refine LeO.bind ?_ (fun _ => ?_))
      | exact ih0 _ _ _
      | exact ih1 _ _ _ _
      | exact rolodexref01_Put.mono _ _
      | exact LeO.none _
      | refine LeO.ite ?_ ?_
      | refine LeO.bind ?_ (fun _ => ?_)
    · intro y0 y1 y2 y3
      unfold rolodexref01_Get.j1
      repeat' first
      | (with_reducible exact ih0 _ _ _)
      | (with_reducible exact ih1 _ _ _ _)
      | (with_reducible exact rolodexref01_Put.mono _ _)
      | (with_reducible exact LeO.refl _)
      | (with_reducible exact LeO.none _)
      | (with_reducible refine LeO.ite ?_ ?_)
      | (with_reducible refine LeO.bind ?_ (fun _ => ?_))
      | exact ih0 _ _ _
      | exact ih1 _ _ _ _
      | exact rolodexref01_Put.mono _ _
      | exact LeO.none _
      | refine LeO.ite ?_ ?_
      | refine LeO.bind ?_ (fun _ => ?_)
theorem rolodexref01_Get.mono : ∀ a0 k, LeO (rolodexref01_Get.f k a0) (rolodexref01_Get.f (k + 1) a0) := by
  intro a0 k
  obtain ⟨ih0, ih1⟩ := rolodexref01_Get.mono_l k
  unfold rolodexref01_Get.f
  repeat' first
      | (with_reducible exact ih0 _ _ _)
      | (with_reducible exact ih1 _ _ _ _)
      | (with_reducible exact rolodexref01_Put.mono _ _)
      | (with_reducible exact LeO.refl _)
      | (with_reducible exact LeO.none _)
      | (with_reducible refine LeO.ite ?_ ?_)
      | (with_reducible refine LeO.bind ?_ (fun _ => ?_))
      | exact ih0 _ _ _
      | exact ih1 _ _ _ _
      | exact rolodexref01_Put.mono _ _
      | exact LeO.none _
      | refine LeO.ite ?_ ?_
      | refine LeO.bind ?_ (fun _ => ?_)
set_option maxHeartbeats 8000000 in
set_option maxRecDepth 100000 in
theorem rolodexref01_Get.calls (k : Nat) (A0 : Option Addr) (c0 : Nat) (l0 : List Int) (r1 : Int) (r2 : Int) (r3 : Bool) (w : World) (hr0 : Kd.C (Kd.int .u8) w A0 l0.length l0) (hc0 : l0.length ≤ c0) (h : rolodexref01_Get.f k l0 = some (r1, r2, r3)) :
    Calls Try.prog 91 #[.slice A0 l0.length c0] w fun e w' => e = .returned (.tuple #[.int .u64 r1, .int .i64 r2, .bool r3]) ∧ Below w.heap.size w w' := by
  have HR0 := Aside0.mk hr0
  have HC0 := Aside0.mk hc0
  clear hr0 hc0
  have HB := Aside0.mk (Below.refl w.heap.size w)
  have H : (rolodexref01_Get.l0 k l0 0 0) = some (r1, r2, r3) := h
  clear h
  have H' := Aside0.mk H
  clear H
  go_enter Try.func91, Try.ntmps91
  go_wp2
  repeat (go_quiet (fail); try go_wp2)
  go_loopg [5, 6] k (fun kq v5 v6 w' => ∃ (x5_1 : Int) (x6_1 : Int), v5 = .int .u64 x5_1 ∧ v6 = .int .i64 x6_1 ∧ Aside0 (rolodexref01_Get.l0 kq l0 x5_1 x6_1 = some (r1, r2, r3)) ∧ Aside0 (kq ≤ k) ∧ Aside0 (Below w.heap.size w w'))
  case atStart => exact ⟨(0), (0), (by first | rfl | (simp; done) | (simp [*]; done)), (by first | rfl | (simp; done) | (simp [*]; done)), H', ⟨Nat.le_refl _⟩, ⟨by repeat (first | (with_reducible first | exact HB.out | apply below_alloc | apply pw_below_drewN | apply below_drew1) | exact HB.out)⟩⟩
  case round =>
    clear H'
    obtain ⟨x5_1, x6_1, rfl, rfl, HA, HK1, HB⟩ := hrel
    cases gk with
    | zero => exact absurd HA.out (by simp [rolodexref01_Get.l0])
    | succ k1 =>
      have H := HA.out
      clear HA
      simp only [rolodexref01_Get.l0] at H
      have HC2 := Aside0.mk H
      clear H
      go_upto_region 3 with (fail)
      repeat (go_quiet (fail); go_upto_region 3 with (fail))
      go_cut [15] (fun v15 wc => ∃ (kq : Nat) (x15_1 : Bool), v15 = .bool x15_1 ∧ Aside0 (rolodexref01_Get.j1 kq l0 x5_1 x6_1 x15_1 = some (r1, r2, r3)) ∧ Aside0 (kq ≤ k1) ∧ Aside0 (Below w.heap.size w wc))
      case first =>
        have H := HC2.out
        clear HC2
        by_cases c3 : x6_1 < (l0.length : Int)
        · rw [if_pos c3] at H
          have c3b0 : decide (x6_1 < (l0.length : Int)) = true := decide_eq_true c3
          clear c3
          (first | rw [c3b0] | (simp only [i64_w, i32_w]; rw [c3b0]) | skip)
          have H' := Aside0.mk H
          clear H
          go_wp2
          repeat (go_quiet (fail); try go_wp2)
          go_meet
          case rel => exact ⟨_, (decide (x6_1 < 10)), (by first | rfl | (simp; done) | (simp [*]; done)), H', ⟨by have := HK1.out; first | omega | exact Nat.le_refl _⟩, ⟨by repeat (first | (with_reducible first | exact HB.out | apply below_alloc | apply pw_below_drewN | apply below_drew1) | exact HB.out)⟩⟩
        · rw [if_neg c3] at H
          have c3b0 : decide (x6_1 < (l0.length : Int)) = false := decide_eq_false c3
          clear c3
          (first | rw [c3b0] | (simp only [i64_w, i32_w]; rw [c3b0]) | skip)
          have H' := Aside0.mk H
          clear H
          go_wp2
          repeat (go_quiet (fail); try go_wp2)
          go_meet
          case rel => exact ⟨_, (false), (by first | rfl | (simp; done) | (simp [*]; done)), H', ⟨by have := HK1.out; first | omega | exact Nat.le_refl _⟩, ⟨by repeat (first | (with_reducible first | exact HB.out | apply below_alloc | apply pw_below_drewN | apply below_drew1) | exact HB.out)⟩⟩
      case rest =>
        clear HC2
        try clear p2
        try clear c3
        try clear c3b0
        obtain ⟨kq, x15_1, rfl, HA, HJ1, HB⟩ := hcut
        cases kq with
        | zero => exact absurd HA.out (by simp [rolodexref01_Get.j1])
        | succ kj1 =>
          have H := HA.out
          clear HA
          simp only [rolodexref01_Get.j1] at H
          by_cases c4 : x15_1 = true
          · subst c4
            have H1 : (if 0 ≤ x6_1 then (if x6_1 < (l0.length : Int) then (if (rd l0 x6_1) < 128 then ((rolodexref01_Put.f kj1 (IntKind.u64.wrap ((IntKind.u64.wrap (128 * x5_1)) + (IntKind.u64.wrap (Int.tmod (rd l0 x6_1) 128))))).bind fun t246 => (if 0 ≤ (wrap64 (x6_1 + 1)) then (if (wrap64 (x6_1 + 1)) ≤ (l0.length : Int) then (if (strOfNums t246).toList = (strOfNums (l0.take ((wrap64 (x6_1 + 1)) : Int).toNat)).toList then (some (IntKind.u64.wrap ((IntKind.u64.wrap (128 * x5_1)) + (IntKind.u64.wrap (Int.tmod (rd l0 x6_1) 128))), wrap64 (x6_1 + 1), true)) else (some (0, 0, false))) else (none)) else (none))) else (rolodexref01_Get.l0 kj1 l0 (IntKind.u64.wrap ((IntKind.u64.wrap (128 * x5_1)) + (IntKind.u64.wrap (Int.tmod (rd l0 x6_1) 128)))) (wrap64 (x6_1 + 1)))) else (none)) else (none)) = some (r1, r2, r3) := by rw [if_pos rfl] at H; exact H
            clear H
            have H := H1
            clear H1
            by_cases c5 : 0 ≤ x6_1
            · rw [if_pos c5] at H
              have c5b0 : decide (0 ≤ x6_1) = true := decide_eq_true c5
              clear c5
              by_cases c6 : x6_1 < (l0.length : Int)
              · rw [if_pos c6] at H
                have c6b0 : decide (x6_1 < (l0.length : Int)) = true := decide_eq_true c6
                clear c6
                by_cases c7 : (rd l0 x6_1) < 128
                · rw [if_pos c7] at H
                  have c7b0 : decide ((rd l0 x6_1) < 128) = true := decide_eq_true c7
                  clear c7
                  replace H := Option.bind_eq_some_iff.mp H
                  obtain ⟨t246, A80, H⟩ := H
                  replace H : (if 0 ≤ (wrap64 (x6_1 + 1)) then (if (wrap64 (x6_1 + 1)) ≤ (l0.length : Int) then (if (strOfNums t246).toList = (strOfNums (l0.take ((wrap64 (x6_1 + 1)) : Int).toNat)).toList then (some (IntKind.u64.wrap ((IntKind.u64.wrap (128 * x5_1)) + (IntKind.u64.wrap (Int.tmod (rd l0 x6_1) 128))), wrap64 (x6_1 + 1), true)) else (some (0, 0, false))) else (none)) else (none)) = some (r1, r2, r3) := H
                  have A8 := Aside0.mk A80
                  clear A80
                  obtain ⟨ji9, hji9⟩ : ∃ j_ : Int, (wrap64 (x6_1 + 1)) = j_ := ⟨_, rfl⟩
                  replace H : (if 0 ≤ (ji9) then (if (ji9) ≤ (l0.length : Int) then (if (strOfNums t246).toList = (strOfNums (l0.take ((ji9) : Int).toNat)).toList then (some (IntKind.u64.wrap ((IntKind.u64.wrap (128 * x5_1)) + (IntKind.u64.wrap (Int.tmod (rd l0 x6_1) 128))), ji9, true)) else (some (0, 0, false))) else (none)) else (none)) = some (r1, r2, r3) := by first | (rw [hji9] at H; exact H) | (simp only [hji9] at H ⊢; exact H)
                  (try rw [hji9] at A8)
                  have hji9w : (IntKind.i64.wrap (x6_1 + 1)) = ji9 := (i64_w _).trans hji9
                  by_cases c10 : 0 ≤ (ji9)
                  · rw [if_pos c10] at H
                    have c10b0 := eq_true c10
                    have c10b1 : decide (0 ≤ (ji9)) = true := decide_eq_true c10
                    clear c10
                    by_cases c11 : (ji9) ≤ (l0.length : Int)
                    · rw [if_pos c11] at H
                      have c11b0 := eq_true c11
                      have c11b1 : decide ((ji9) ≤ (l0.length : Int)) = true := decide_eq_true c11
                      clear c11
                      by_cases c12 : (strOfNums t246).toList = (strOfNums (l0.take ((ji9) : Int).toNat)).toList
                      · rw [if_pos c12] at H
                        have c12b0 : ((strOfNums t246).toList == (strOfNums (l0.take ((ji9) : Int).toNat)).toList) = true := beq_iff_eq.mpr c12
                        have c12b1 : ((strOfNums t246).toList != (strOfNums (l0.take ((ji9) : Int).toNat)).toList) = false := bne_eq_false_iff_eq.mpr c12
                        clear c12
                        simp only [Option.some.injEq, Prod.mk.injEq] at H
                        obtain ⟨rfl, rfl, rfl⟩ := H
                        have p244 : 0 ≤ (x6_1 : Int) := of_decide_eq_true (by first | (with_reducible assumption) | assumption)
                        have q244 : x6_1 < (l0.length : Int) := of_decide_eq_true (by first | (with_reducible assumption) | assumption)
                        obtain ⟨ad244, e244, hx244_0⟩ := Kd.at_int HR0.out x6_1 p244 q244
                        cases e244
                        replace hx244_0 := (HB.out.cell (World.block_lt_of_cell? w _ hx244_0)).trans hx244_0
                        replace p244 := eq_true p244
                        replace q244 := eq_true q244
                        have p245 : 0 ≤ (x6_1 : Int) := of_decide_eq_true (by first | (with_reducible assumption) | assumption)
                        have q245 : x6_1 < (l0.length : Int) := of_decide_eq_true (by first | (with_reducible assumption) | assumption)
                        obtain ⟨ad245, e245, hx245_0⟩ := Kd.at_int HR0.out x6_1 p245 q245
                        obtain rfl : ad244 = ad245 := (by injection e245)
                        replace hx245_0 := (HB.out.cell (World.block_lt_of_cell? w _ hx245_0)).trans hx245_0
                        replace p245 := eq_true p245
                        replace q245 := eq_true q245
                        go_wp2_with (first | (go_at_call 86; (with_reducible refine (rolodexref01_Put.calls kj1 (IntKind.u64.wrap ((IntKind.u64.wrap (128 * x5_1)) + (IntKind.u64.wrap (Int.tmod (rd l0 x6_1) 128)))) t246 _ A8.out).mono ?_); rintro e w13 ⟨v247, rfl, ho0, hb⟩; have n0_ := Aside0.mk (Kd.R_lower ho0 (below_size (by repeat (first | (with_reducible first | exact HB.out | apply below_alloc | apply pw_below_drewN | apply below_drew1) | exact HB.out)))); have n1_ := Aside0.mk (below_step (by repeat (first | (with_reducible first | exact HB.out | apply below_alloc | apply pw_below_drewN | apply below_drew1) | exact HB.out)) hb); clear HB; have HO248 := n0_; have HB := n1_; clear n0_ n1_; (try clear hb); (try clear hb2); (try clear hk); (try clear hi); (try clear ho0); have hcv14 := own_string (P := Try.prog) Try.underlying40 Try.underlying5 Try.underlying9 (Kd.own_of_R HO248.out); have hcvq14 := fun n_ => own_string (P := Try.prog) Try.underlying40 Try.underlying5 Try.underlying9 (Kd.own_of_R (Kd.R_drewN HO248.out n_)); obtain ⟨i015, hi015, _, hsz15, _⟩ := info_parts info5; obtain ⟨hcut15, hA15, hC15⟩ := print_take_of (P := Try.prog) (Value.int .u8) 0 40 5 .i64 Try.underlying40 hi015 hsz15 (some ad244) c0 l0 (ji9) (of_decide_eq_true (by first | (with_reducible assumption) | assumption)) (of_decide_eq_true (by first | (with_reducible assumption) | assumption)) HC0.out; have HR249 := Aside0.mk (Kd.C_of_reads (h1 := fun _ => rfl) (hA15 _ (Kd.reads_of_C HR0.out))); have HC249 := Aside0.mk hC15; clear hA15 hC15 hi015 hsz15; have hcv16 := Kd.C_string (P := Try.prog) (A := (some ad244)) (c := c0) Try.underlying40 Try.underlying5 Try.underlying9 (Kd.C_below HR249.out HB.out); have hcvq16 := fun n_ => Kd.C_string (P := Try.prog) (A := (some ad244)) (c := c0) Try.underlying40 Try.underlying5 Try.underlying9 (Kd.C_below HR249.out (pw_below_drewN HB.out n_)); have hq1_ : 0 ≤ ji9 := of_decide_eq_true (by first | (with_reducible assumption) | assumption); have hq2_ : ji9 ≤ (l0.length : Int) := of_decide_eq_true (by first | (with_reducible assumption) | assumption); have hln_ : (List.take ji9.toNat l0).length = ji9.toNat := (by rw [List.length_take]; omega); have hcvs16 := hcvq16; rw [hln_] at hcvs16; clear hln_ hq1_ hq2_))
                        repeat (go_quiet (first | (go_at_call 86; (with_reducible refine (rolodexref01_Put.calls kj1 (IntKind.u64.wrap ((IntKind.u64.wrap (128 * x5_1)) + (IntKind.u64.wrap (Int.tmod (rd l0 x6_1) 128)))) t246 _ A8.out).mono ?_); rintro e w13 ⟨v247, rfl, ho0, hb⟩; have n0_ := Aside0.mk (Kd.R_lower ho0 (below_size (by repeat (first | (with_reducible first | exact HB.out | apply below_alloc | apply pw_below_drewN | apply below_drew1) | exact HB.out)))); have n1_ := Aside0.mk (below_step (by repeat (first | (with_reducible first | exact HB.out | apply below_alloc | apply pw_below_drewN | apply below_drew1) | exact HB.out)) hb); clear HB; have HO248 := n0_; have HB := n1_; clear n0_ n1_; (try clear hb); (try clear hb2); (try clear hk); (try clear hi); (try clear ho0); have hcv14 := own_string (P := Try.prog) Try.underlying40 Try.underlying5 Try.underlying9 (Kd.own_of_R HO248.out); have hcvq14 := fun n_ => own_string (P := Try.prog) Try.underlying40 Try.underlying5 Try.underlying9 (Kd.own_of_R (Kd.R_drewN HO248.out n_)); obtain ⟨i015, hi015, _, hsz15, _⟩ := info_parts info5; obtain ⟨hcut15, hA15, hC15⟩ := print_take_of (P := Try.prog) (Value.int .u8) 0 40 5 .i64 Try.underlying40 hi015 hsz15 (some ad244) c0 l0 (ji9) (of_decide_eq_true (by first | (with_reducible assumption) | assumption)) (of_decide_eq_true (by first | (with_reducible assumption) | assumption)) HC0.out; have HR249 := Aside0.mk (Kd.C_of_reads (h1 := fun _ => rfl) (hA15 _ (Kd.reads_of_C HR0.out))); have HC249 := Aside0.mk hC15; clear hA15 hC15 hi015 hsz15; have hcv16 := Kd.C_string (P := Try.prog) (A := (some ad244)) (c := c0) Try.underlying40 Try.underlying5 Try.underlying9 (Kd.C_below HR249.out HB.out); have hcvq16 := fun n_ => Kd.C_string (P := Try.prog) (A := (some ad244)) (c := c0) Try.underlying40 Try.underlying5 Try.underlying9 (Kd.C_below HR249.out (pw_below_drewN HB.out n_)); have hq1_ : 0 ≤ ji9 := of_decide_eq_true (by first | (with_reducible assumption) | assumption); have hq2_ : ji9 ≤ (l0.length : Int) := of_decide_eq_true (by first | (with_reducible assumption) | assumption); have hln_ : (List.take ji9.toNat l0).length = ji9.toNat := (by rw [List.length_take]; omega); have hcvs16 := hcvq16; rw [hln_] at hcvs16; clear hln_ hq1_ hq2_)); try go_wp2_with (first | (go_at_call 86; (with_reducible refine (rolodexref01_Put.calls kj1 (IntKind.u64.wrap ((IntKind.u64.wrap (128 * x5_1)) + (IntKind.u64.wrap (Int.tmod (rd l0 x6_1) 128)))) t246 _ A8.out).mono ?_); rintro e w13 ⟨v247, rfl, ho0, hb⟩; have n0_ := Aside0.mk (Kd.R_lower ho0 (below_size (by repeat (first | (with_reducible first | exact HB.out | apply below_alloc | apply pw_below_drewN | apply below_drew1) | exact HB.out)))); have n1_ := Aside0.mk (below_step (by repeat (first | (with_reducible first | exact HB.out | apply below_alloc | apply pw_below_drewN | apply below_drew1) | exact HB.out)) hb); clear HB; have HO248 := n0_; have HB := n1_; clear n0_ n1_; (try clear hb); (try clear hb2); (try clear hk); (try clear hi); (try clear ho0); have hcv14 := own_string (P := Try.prog) Try.underlying40 Try.underlying5 Try.underlying9 (Kd.own_of_R HO248.out); have hcvq14 := fun n_ => own_string (P := Try.prog) Try.underlying40 Try.underlying5 Try.underlying9 (Kd.own_of_R (Kd.R_drewN HO248.out n_)); obtain ⟨i015, hi015, _, hsz15, _⟩ := info_parts info5; obtain ⟨hcut15, hA15, hC15⟩ := print_take_of (P := Try.prog) (Value.int .u8) 0 40 5 .i64 Try.underlying40 hi015 hsz15 (some ad244) c0 l0 (ji9) (of_decide_eq_true (by first | (with_reducible assumption) | assumption)) (of_decide_eq_true (by first | (with_reducible assumption) | assumption)) HC0.out; have HR249 := Aside0.mk (Kd.C_of_reads (h1 := fun _ => rfl) (hA15 _ (Kd.reads_of_C HR0.out))); have HC249 := Aside0.mk hC15; clear hA15 hC15 hi015 hsz15; have hcv16 := Kd.C_string (P := Try.prog) (A := (some ad244)) (c := c0) Try.underlying40 Try.underlying5 Try.underlying9 (Kd.C_below HR249.out HB.out); have hcvq16 := fun n_ => Kd.C_string (P := Try.prog) (A := (some ad244)) (c := c0) Try.underlying40 Try.underlying5 Try.underlying9 (Kd.C_below HR249.out (pw_below_drewN HB.out n_)); have hq1_ : 0 ≤ ji9 := of_decide_eq_true (by first | (with_reducible assumption) | assumption); have hq2_ : ji9 ≤ (l0.length : Int) := of_decide_eq_true (by first | (with_reducible assumption) | assumption); have hln_ : (List.take ji9.toNat l0).length = ji9.toNat := (by rw [List.length_take]; omega); have hcvs16 := hcvq16; rw [hln_] at hcvs16; clear hln_ hq1_ hq2_)))
                        go_ret3
                        exact ⟨by first | rfl | (simp [errW_none, errW_some] <;> rfl) | (simp only [← hji9]; first | rfl | (simp [errW_none, errW_some] <;> rfl)) | (simp [*, errW_none, errW_some] <;> rfl), by repeat (first | (with_reducible first | exact HB.out | apply below_alloc | apply pw_below_drewN | apply below_drew1) | exact HB.out)⟩
                      · rw [if_neg c12] at H
                        have c12b0 : ((strOfNums t246).toList == (strOfNums (l0.take ((ji9) : Int).toNat)).toList) = false := beq_eq_false_iff_ne.mpr c12
                        have c12b1 : ((strOfNums t246).toList != (strOfNums (l0.take ((ji9) : Int).toNat)).toList) = true := bne_iff_ne.mpr c12
                        simp only [Option.some.injEq, Prod.mk.injEq] at H
                        obtain ⟨rfl, rfl, rfl⟩ := H
                        have p244 : 0 ≤ (x6_1 : Int) := of_decide_eq_true (by first | (with_reducible assumption) | assumption)
                        have q244 : x6_1 < (l0.length : Int) := of_decide_eq_true (by first | (with_reducible assumption) | assumption)
                        obtain ⟨ad244, e244, hx244_0⟩ := Kd.at_int HR0.out x6_1 p244 q244
                        cases e244
                        replace hx244_0 := (HB.out.cell (World.block_lt_of_cell? w _ hx244_0)).trans hx244_0
                        replace p244 := eq_true p244
                        replace q244 := eq_true q244
                        have p245 : 0 ≤ (x6_1 : Int) := of_decide_eq_true (by first | (with_reducible assumption) | assumption)
                        have q245 : x6_1 < (l0.length : Int) := of_decide_eq_true (by first | (with_reducible assumption) | assumption)
                        obtain ⟨ad245, e245, hx245_0⟩ := Kd.at_int HR0.out x6_1 p245 q245
                        obtain rfl : ad244 = ad245 := (by injection e245)
                        replace hx245_0 := (HB.out.cell (World.block_lt_of_cell? w _ hx245_0)).trans hx245_0
                        replace p245 := eq_true p245
                        replace q245 := eq_true q245
                        go_wp2_with (first | (go_at_call 86; (with_reducible refine (rolodexref01_Put.calls kj1 (IntKind.u64.wrap ((IntKind.u64.wrap (128 * x5_1)) + (IntKind.u64.wrap (Int.tmod (rd l0 x6_1) 128)))) t246 _ A8.out).mono ?_); rintro e w17 ⟨v247, rfl, ho0, hb⟩; have n0_ := Aside0.mk (Kd.R_lower ho0 (below_size (by repeat (first | (with_reducible first | exact HB.out | apply below_alloc | apply pw_below_drewN | apply below_drew1) | exact HB.out)))); have n1_ := Aside0.mk (below_step (by repeat (first | (with_reducible first | exact HB.out | apply below_alloc | apply pw_below_drewN | apply below_drew1) | exact HB.out)) hb); clear HB; have HO248 := n0_; have HB := n1_; clear n0_ n1_; (try clear hb); (try clear hb2); (try clear hk); (try clear hi); (try clear ho0); have hcv18 := own_string (P := Try.prog) Try.underlying40 Try.underlying5 Try.underlying9 (Kd.own_of_R HO248.out); have hcvq18 := fun n_ => own_string (P := Try.prog) Try.underlying40 Try.underlying5 Try.underlying9 (Kd.own_of_R (Kd.R_drewN HO248.out n_)); obtain ⟨i019, hi019, _, hsz19, _⟩ := info_parts info5; obtain ⟨hcut19, hA19, hC19⟩ := print_take_of (P := Try.prog) (Value.int .u8) 0 40 5 .i64 Try.underlying40 hi019 hsz19 (some ad244) c0 l0 (ji9) (of_decide_eq_true (by first | (with_reducible assumption) | assumption)) (of_decide_eq_true (by first | (with_reducible assumption) | assumption)) HC0.out; have HR249 := Aside0.mk (Kd.C_of_reads (h1 := fun _ => rfl) (hA19 _ (Kd.reads_of_C HR0.out))); have HC249 := Aside0.mk hC19; clear hA19 hC19 hi019 hsz19; have hcv20 := Kd.C_string (P := Try.prog) (A := (some ad244)) (c := c0) Try.underlying40 Try.underlying5 Try.underlying9 (Kd.C_below HR249.out HB.out); have hcvq20 := fun n_ => Kd.C_string (P := Try.prog) (A := (some ad244)) (c := c0) Try.underlying40 Try.underlying5 Try.underlying9 (Kd.C_below HR249.out (pw_below_drewN HB.out n_)); have hq1_ : 0 ≤ ji9 := of_decide_eq_true (by first | (with_reducible assumption) | assumption); have hq2_ : ji9 ≤ (l0.length : Int) := of_decide_eq_true (by first | (with_reducible assumption) | assumption); have hln_ : (List.take ji9.toNat l0).length = ji9.toNat := (by rw [List.length_take]; omega); have hcvs20 := hcvq20; rw [hln_] at hcvs20; clear hln_ hq1_ hq2_))
                        repeat (go_quiet (first | (go_at_call 86; (with_reducible refine (rolodexref01_Put.calls kj1 (IntKind.u64.wrap ((IntKind.u64.wrap (128 * x5_1)) + (IntKind.u64.wrap (Int.tmod (rd l0 x6_1) 128)))) t246 _ A8.out).mono ?_); rintro e w17 ⟨v247, rfl, ho0, hb⟩; have n0_ := Aside0.mk (Kd.R_lower ho0 (below_size (by repeat (first | (with_reducible first | exact HB.out | apply below_alloc | apply pw_below_drewN | apply below_drew1) | exact HB.out)))); have n1_ := Aside0.mk (below_step (by repeat (first | (with_reducible first | exact HB.out | apply below_alloc | apply pw_below_drewN | apply below_drew1) | exact HB.out)) hb); clear HB; have HO248 := n0_; have HB := n1_; clear n0_ n1_; (try clear hb); (try clear hb2); (try clear hk); (try clear hi); (try clear ho0); have hcv18 := own_string (P := Try.prog) Try.underlying40 Try.underlying5 Try.underlying9 (Kd.own_of_R HO248.out); have hcvq18 := fun n_ => own_string (P := Try.prog) Try.underlying40 Try.underlying5 Try.underlying9 (Kd.own_of_R (Kd.R_drewN HO248.out n_)); obtain ⟨i019, hi019, _, hsz19, _⟩ := info_parts info5; obtain ⟨hcut19, hA19, hC19⟩ := print_take_of (P := Try.prog) (Value.int .u8) 0 40 5 .i64 Try.underlying40 hi019 hsz19 (some ad244) c0 l0 (ji9) (of_decide_eq_true (by first | (with_reducible assumption) | assumption)) (of_decide_eq_true (by first | (with_reducible assumption) | assumption)) HC0.out; have HR249 := Aside0.mk (Kd.C_of_reads (h1 := fun _ => rfl) (hA19 _ (Kd.reads_of_C HR0.out))); have HC249 := Aside0.mk hC19; clear hA19 hC19 hi019 hsz19; have hcv20 := Kd.C_string (P := Try.prog) (A := (some ad244)) (c := c0) Try.underlying40 Try.underlying5 Try.underlying9 (Kd.C_below HR249.out HB.out); have hcvq20 := fun n_ => Kd.C_string (P := Try.prog) (A := (some ad244)) (c := c0) Try.underlying40 Try.underlying5 Try.underlying9 (Kd.C_below HR249.out (pw_below_drewN HB.out n_)); have hq1_ : 0 ≤ ji9 := of_decide_eq_true (by first | (with_reducible assumption) | assumption); have hq2_ : ji9 ≤ (l0.length : Int) := of_decide_eq_true (by first | (with_reducible assumption) | assumption); have hln_ : (List.take ji9.toNat l0).length = ji9.toNat := (by rw [List.length_take]; omega); have hcvs20 := hcvq20; rw [hln_] at hcvs20; clear hln_ hq1_ hq2_)); try go_wp2_with (first | (go_at_call 86; (with_reducible refine (rolodexref01_Put.calls kj1 (IntKind.u64.wrap ((IntKind.u64.wrap (128 * x5_1)) + (IntKind.u64.wrap (Int.tmod (rd l0 x6_1) 128)))) t246 _ A8.out).mono ?_); rintro e w17 ⟨v247, rfl, ho0, hb⟩; have n0_ := Aside0.mk (Kd.R_lower ho0 (below_size (by repeat (first | (with_reducible first | exact HB.out | apply below_alloc | apply pw_below_drewN | apply below_drew1) | exact HB.out)))); have n1_ := Aside0.mk (below_step (by repeat (first | (with_reducible first | exact HB.out | apply below_alloc | apply pw_below_drewN | apply below_drew1) | exact HB.out)) hb); clear HB; have HO248 := n0_; have HB := n1_; clear n0_ n1_; (try clear hb); (try clear hb2); (try clear hk); (try clear hi); (try clear ho0); have hcv18 := own_string (P := Try.prog) Try.underlying40 Try.underlying5 Try.underlying9 (Kd.own_of_R HO248.out); have hcvq18 := fun n_ => own_string (P := Try.prog) Try.underlying40 Try.underlying5 Try.underlying9 (Kd.own_of_R (Kd.R_drewN HO248.out n_)); obtain ⟨i019, hi019, _, hsz19, _⟩ := info_parts info5; obtain ⟨hcut19, hA19, hC19⟩ := print_take_of (P := Try.prog) (Value.int .u8) 0 40 5 .i64 Try.underlying40 hi019 hsz19 (some ad244) c0 l0 (ji9) (of_decide_eq_true (by first | (with_reducible assumption) | assumption)) (of_decide_eq_true (by first | (with_reducible assumption) | assumption)) HC0.out; have HR249 := Aside0.mk (Kd.C_of_reads (h1 := fun _ => rfl) (hA19 _ (Kd.reads_of_C HR0.out))); have HC249 := Aside0.mk hC19; clear hA19 hC19 hi019 hsz19; have hcv20 := Kd.C_string (P := Try.prog) (A := (some ad244)) (c := c0) Try.underlying40 Try.underlying5 Try.underlying9 (Kd.C_below HR249.out HB.out); have hcvq20 := fun n_ => Kd.C_string (P := Try.prog) (A := (some ad244)) (c := c0) Try.underlying40 Try.underlying5 Try.underlying9 (Kd.C_below HR249.out (pw_below_drewN HB.out n_)); have hq1_ : 0 ≤ ji9 := of_decide_eq_true (by first | (with_reducible assumption) | assumption); have hq2_ : ji9 ≤ (l0.length : Int) := of_decide_eq_true (by first | (with_reducible assumption) | assumption); have hln_ : (List.take ji9.toNat l0).length = ji9.toNat := (by rw [List.length_take]; omega); have hcvs20 := hcvq20; rw [hln_] at hcvs20; clear hln_ hq1_ hq2_)))
                        go_ret3
                        exact ⟨by first | rfl | (simp [errW_none, errW_some] <;> rfl) | (simp only [← hji9]; first | rfl | (simp [errW_none, errW_some] <;> rfl)) | (simp [*, errW_none, errW_some] <;> rfl), by repeat (first | (with_reducible first | exact HB.out | apply below_alloc | apply pw_below_drewN | apply below_drew1) | exact HB.out)⟩
                    · rw [if_neg c11] at H
                      exact absurd H (by simp)
                  · rw [if_neg c10] at H
                    exact absurd H (by simp)
                · rw [if_neg c7] at H
                  have c7b0 : decide ((rd l0 x6_1) < 128) = false := decide_eq_false c7
                  clear c7
                  have H' := Aside0.mk H
                  clear H
                  have p244 : 0 ≤ (x6_1 : Int) := of_decide_eq_true (by first | (with_reducible assumption) | assumption)
                  have q244 : x6_1 < (l0.length : Int) := of_decide_eq_true (by first | (with_reducible assumption) | assumption)
                  obtain ⟨ad244, e244, hx244_0⟩ := Kd.at_int HR0.out x6_1 p244 q244
                  cases e244
                  replace hx244_0 := (HB.out.cell (World.block_lt_of_cell? w _ hx244_0)).trans hx244_0
                  replace p244 := eq_true p244
                  replace q244 := eq_true q244
                  have p245 : 0 ≤ (x6_1 : Int) := of_decide_eq_true (by first | (with_reducible assumption) | assumption)
                  have q245 : x6_1 < (l0.length : Int) := of_decide_eq_true (by first | (with_reducible assumption) | assumption)
                  obtain ⟨ad245, e245, hx245_0⟩ := Kd.at_int HR0.out x6_1 p245 q245
                  obtain rfl : ad244 = ad245 := (by injection e245)
                  replace hx245_0 := (HB.out.cell (World.block_lt_of_cell? w _ hx245_0)).trans hx245_0
                  replace p245 := eq_true p245
                  replace q245 := eq_true q245
                  go_wp2
                  repeat (go_quiet (fail); try go_wp2)
                  go_roundg kj1
                  case measure => have := HK1.out; have := HJ1.out; omega
                  case rel => exact ⟨(IntKind.u64.wrap ((IntKind.u64.wrap (128 * x5_1)) + (IntKind.u64.wrap (Int.tmod (rd l0 x6_1) 128)))), (wrap64 (x6_1 + 1)), (by first | rfl | (simp; done) | (simp [*]; done)), (by first | rfl | (simp; done) | (simp [*]; done)), H', ⟨by have := HK1.out; have := HJ1.out; omega⟩, ⟨by repeat (first | (with_reducible first | exact HB.out | apply below_alloc | apply pw_below_drewN | apply below_drew1) | exact HB.out)⟩⟩
              · rw [if_neg c6] at H
                exact absurd H (by simp)
            · rw [if_neg c5] at H
              exact absurd H (by simp)
          · replace c4 := Bool.eq_false_iff.mpr c4
            subst c4
            have H1 : (some (0, 0, false)) = some (r1, r2, r3) := by rw [if_neg (show ¬ (false = true) by decide)] at H; exact H
            clear H
            have H := H1
            clear H1
            simp only [Option.some.injEq, Prod.mk.injEq] at H
            obtain ⟨rfl, rfl, rfl⟩ := H
            go_wp2
            repeat (go_quiet (fail); try go_wp2)
            go_ret3
            exact ⟨by first | rfl | (simp [errW_none, errW_some] <;> rfl) | (simp [*, errW_none, errW_some] <;> rfl), by repeat (first | (with_reducible first | exact HB.out | apply below_alloc | apply pw_below_drewN | apply below_drew1) | exact HB.out)⟩

end Go.Proofs.Ytchaegfdcdlfaaa.X

namespace Go.Proofs.Ytchaegfdcdlfaaa.X
open Go.RowKit Go.Proofs.YtchaegfdcdlfaaaW.PrintWords Go.Proofs.YtchaegfdcdlfaaaW.PrintLast Go.Proofs.YtchaegfdcdlfaaaW.PrintMore
attribute [local go_sem] max2_int min2_int max_two min_two max_three min_three max_four min_four   -- for this text's walks alone
set_option linter.unusedVariables false
set_option linter.unusedSimpArgs false

/-! ### rolodexref01_Text: function 94 -/
def rolodexref01_Text.f (k : Nat) (a0 : ByteArray) : Option (List Int) := (rolodexref01_Put.f k (IntKind.u64.wrap ((a0.size : Int)))).bind fun t470 => (if t470.length + a0.size < 140737488355328 then (some (t470 ++ bytesOf a0)) else (none))
theorem rolodexref01_Text.mono : ∀ a0 k, LeO (rolodexref01_Text.f k a0) (rolodexref01_Text.f (k + 1) a0) := by
  intro a0 k
  unfold rolodexref01_Text.f
  repeat' first
      | (with_reducible exact rolodexref01_Put.mono _ _)
      | (with_reducible exact LeO.refl _)
      | (with_reducible exact LeO.none _)
      | (with_reducible refine LeO.ite ?_ ?_)
      | (with_reducible refine LeO.bind ?_ (fun _ => ?_))
      | exact rolodexref01_Put.mono _ _
      | exact LeO.none _
      | refine LeO.ite ?_ ?_
      | refine LeO.bind ?_ (fun _ => ?_)
set_option maxHeartbeats 8000000 in
set_option maxRecDepth 100000 in
theorem rolodexref01_Text.calls (k : Nat) (a0 : ByteArray) (r : List Int) (w : World) (h : rolodexref01_Text.f k a0 = some r) :
    Calls Try.prog 94 #[.string a0] w fun e w' => ∃ v0_ : Value, e = .returned (v0_) ∧ Kd.R (Kd.int .u8) 5 w' w.heap.size (fun _ => True) v0_ r ∧ Below w.heap.size w w' := by
  have HB := Aside0.mk (Below.refl w.heap.size w)
  have H : ((rolodexref01_Put.f k (IntKind.u64.wrap ((a0.size : Int)))).bind fun t470 => (if t470.length + a0.size < 140737488355328 then (some (t470 ++ bytesOf a0)) else (none))) = some r := h
  clear h
  replace H := Option.bind_eq_some_iff.mp H
  obtain ⟨t470, A20, H⟩ := H
  replace H : (if t470.length + a0.size < 140737488355328 then (some (t470 ++ bytesOf a0)) else (none)) = some r := H
  have A2 := Aside0.mk A20
  clear A20
  by_cases c3 : t470.length + a0.size < 140737488355328
  · rw [if_pos c3] at H
    have LMc3 := Aside0.mk c3
    clear c3
    obtain ⟨y473, hy473⟩ : ∃ y_ : List Int, y_ = (t470 ++ bytesOf a0) := ⟨_, rfl⟩
    replace H : (some y473) = some r := by first | (rw [hy473]; with_reducible exact H) | (have H2_ := (Option.bind_some _ _).symm.trans H; rw [hy473]; with_reducible exact H2_) | (have H2_ := (Option.bind_some _ _).symm.trans H; with_reducible exact H2_) | with_reducible exact H | (rw [hy473]; exact H) | exact H
    have Ny473 := Aside0.mk hy473
    clear hy473
    obtain rfl := Option.some.inj H
    go_enter Try.func94, Try.ntmps94
    go_wp2_with (first | ((with_reducible refine gate_callee (f := 86) rfl ?_); refine goesL_ (some 6) rfl rfl Try.func86 (by kernel_rfl) rfl #[.int .u64 (IntKind.u64.wrap ((a0.size : Int)))] rfl (by (try simp only [List.map_toArray, List.map_cons, List.map_nil]); first | done | rfl | (simp only [List.length_drop, List.length_take]; rfl)) ?_; (with_reducible refine (rolodexref01_Put.calls k (IntKind.u64.wrap ((a0.size : Int))) t470 _ A2.out).mono ?_); rintro e w4 ⟨v471, rfl, ho0, hb⟩; refine ⟨_, rfl, ?_⟩; have n0_ := Aside0.mk (Kd.R_lower ho0 (below_size (by repeat (first | (with_reducible first | exact HB.out | apply below_alloc | apply pw_below_drewN | apply below_drew1) | exact HB.out)))); have n1_ := Aside0.mk (below_step (by repeat (first | (with_reducible first | exact HB.out | apply below_alloc | apply pw_below_drewN | apply below_drew1) | exact HB.out)) hb); clear HB; have HO472 := n0_; have HB := n1_; clear n0_ n1_; (try clear hb); (try clear hb2); (try clear hk); (try clear hi); (try clear ho0)) | (at_builtin; refine print_append_str (w0 := w) w.heap.size rfl (.tmp 6) _ 40 9 5 rfl Try.underlying40 Try.underlying9 info5 v471 t470 a0 rfl rfl ?aO ?aB ?aS ?aL ?_; (case aB => exact (by repeat (first | (with_reducible first | exact HB.out | apply below_alloc | apply pw_below_drewN | apply below_drew1) | exact HB.out))); (case aO => exact (Kd.own_of_R (by (with_reducible repeat (first | apply Kd.R_alloc | apply Kd.R_drewN | apply Kd.R_drew)); exact HO472.out))); (case aS => exact (below_size (by repeat (first | (with_reducible first | exact HB.out | apply below_alloc | apply pw_below_drewN | apply below_drew1) | exact HB.out)))); (case aL => have := LMc3.out; omega); intro v474 w5 ho0 hb hg; have ho := Kd.R_of_own (h1 := fun _ => rfl) (ok := fun _ => True) ho0 (fun _ _ => trivial); clear ho0; have hat := True.intro; rw [← Ny473.out] at ho; change Kd.R (Kd.int .u8) 5 w5 w.heap.size (fun _ => True) v474 y473 at ho; have n0_ := Aside0.mk (hb); have n1_ := Aside0.mk (ho); clear HB; clear HO472; have HB := n0_; have HO475 := n1_; clear n0_ n1_; clear ho hb hg hat))
    go_ret
    exact ⟨_, by first | rfl | (simp [errW_none, errW_some] <;> rfl) | (simp [*, errW_none, errW_some] <;> rfl), by (with_reducible repeat (first | apply Kd.R_alloc | apply Kd.R_drewN | apply Kd.R_drew)); exact HO475.out, by repeat (first | (with_reducible first | exact HB.out | apply below_alloc | apply pw_below_drewN | apply below_drew1) | exact HB.out)⟩
  · rw [if_neg c3] at H
    exact absurd H (by simp)

end Go.Proofs.Ytchaegfdcdlfaaa.X

/- The document's answer of the wire: what its functions' printed forms give, in words of lists. -/
namespace Go.Proofs.Ytchaegfdcdlfaaa.Y
set_option linter.unusedVariables false
set_option linter.unusedSimpArgs false
open Go.Proofs.Ytchaegfdcdlfaaa.X Go.RowKit Go.Proofs.YtchaegfdcdlfaaaW.PrintWords Go.Proofs.YtchaegfdcdlfaaaW.PrintLast Go.Proofs.YtchaegfdcdlfaaaW.PrintMore

theorem td (n m : Nat) : Int.tdiv (n : Int) (m : Int) = ((n / m : Nat) : Int) := by
  rw [Int.tdiv_eq_ediv_of_nonneg (by omega)]; norm_cast
theorem tm (n m : Nat) : Int.tmod (n : Int) (m : Int) = ((n % m : Nat) : Int) := by
  rw [Int.tmod_eq_emod_of_nonneg (by omega)]; norm_cast

def ahead (n : Nat) : List Int := if n < 128 then [] else more (n / 128)
theorem ahead_more (n : Nat) : more n = ahead n ++ [((n % 128 : Nat) : Int) + 128] := by
  unfold ahead
  by_cases h : n < 128
  · rw [if_pos h, more_small h, Nat.mod_eq_of_lt h]; rfl
  · rw [if_neg h, more_big h]
theorem ahead_put (n : Nat) : put n = ahead n ++ [((n % 128 : Nat) : Int)] := by
  unfold ahead
  by_cases h : n < 128
  · rw [if_pos h, put, if_pos h, Nat.mod_eq_of_lt h]; rfl
  · rw [if_neg h, put, if_neg h]

theorem rput_l0 : ∀ (d n k : Nat) (s : List Int), n < 18446744073709551616 → n < 128 ^ d → d < k → s.length + d ≤ 1000 → rolodexref01_Put.l0 k (n : Int) s = some (ahead n ++ s)
  | 0, n, k, s, hn, hd, hk, hs => by
    obtain ⟨k, rfl⟩ : ∃ m, k = m + 1 := ⟨k - 1, by omega⟩
    have : n < 128 := by omega
    simp only [rolodexref01_Put.l0]
    rw [if_neg (by omega)]
    unfold ahead
    rw [if_pos this]; rfl
  | d + 1, n, k, s, hn, hd, hk, hs => by
    obtain ⟨k, rfl⟩ : ∃ m, k = m + 1 := ⟨k - 1, by omega⟩
    simp only [rolodexref01_Put.l0]
    by_cases h : n < 128
    · rw [if_neg (by omega)]
      unfold ahead
      rw [if_pos h]; rfl
    · rw [if_pos (by omega)]
      have e1 : IntKind.u64.wrap (Int.tdiv (n : Int) 128) = ((n / 128 : Nat) : Int) := by
        rw [show (128 : Int) = ((128 : Nat) : Int) from rfl, td, wrap_u64]; omega
      have e2 : ((Int.tmod ((n / 128 : Nat) : Int) 128 % 256 + 128) % 256 : Int) = ((n / 128 % 128 : Nat) : Int) + 128 := by
        rw [show Int.tmod ((n / 128 : Nat) : Int) 128 = ((n / 128 % 128 : Nat) : Int) from tm _ 128]; omega
      rw [e1, e2]
      simp only [Option.bind_some]
      rw [if_pos (by simp; omega)]
      have hd' : n / 128 < 128 ^ d := by
        rw [Nat.pow_succ] at hd
        exact Nat.div_lt_of_lt_mul (by omega)
      rw [rput_l0 d (n / 128) k _ (by omega) hd' (by omega) (by simp; omega)]
      rw [← List.append_assoc, ← ahead_more]
      congr 2
      unfold ahead
      rw [if_neg h]
theorem RPut_eq (n : Nat) (hn : n < 18446744073709551616) (k : Nat) (hk : 12 < k) : rolodexref01_Put.f k (n : Int) = some (put n) := by
  unfold rolodexref01_Put.f
  rw [show (Int.tmod (n : Int) 128 % 256 : Int) = ((n % 128 : Nat) : Int) by
    rw [show Int.tmod (n : Int) 128 = ((n % 128 : Nat) : Int) from tm _ 128]; omega]
  rw [rput_l0 10 n k _ hn (by have : (128 : Nat) ^ 10 = 1180591620717411303424 := by decide
                              omega) (by omega) (by simp), ← ahead_put]

theorem rget_l0 (l : List Int) : ∀ (s q : List Int) (k : Nat), l = q ++ s → (∀ x ∈ q, 128 ≤ x ∧ x ≤ 255) → q.length ≤ 10 → Bytes s → l.length ≤ 4611686018427387904 → 2 * s.length + 30 < k →
    ∃ r, rolodexref01_Get.l0 k l ((V q % 18446744073709551616 : Nat) : Int) (q.length : Int) = some r ∧ IsGet l r := by
  intro s
  induction s with
  | nil =>
    intro q k hl hq h10 hb hll hk
    obtain ⟨k, rfl⟩ : ∃ m, k = m + 1 + 1 := ⟨k - 2, by omega⟩
    rw [List.append_nil] at hl
    subst hl
    simp only [rolodexref01_Get.l0, rolodexref01_Get.j1]
    rw [if_neg (by omega), if_neg (by simp)]
    exact ⟨_, rfl, .inr ⟨fun m _ => put_not_marks m _ (fun x hx => (hq x hx).1), rfl⟩⟩
  | cons c t ih =>
    intro q k hl hq h10 hb hll hk
    obtain ⟨k, rfl⟩ : ∃ m, k = m + 1 + 1 := ⟨k - 2, by omega⟩
    have hlen : l.length = q.length + t.length + 1 := by rw [hl]; simp; omega
    simp only [rolodexref01_Get.l0, rolodexref01_Get.j1]
    rw [if_pos (by omega)]
    by_cases h9 : q.length < 10
    · have hrd : rd l (q.length : Int) = c := by rw [hl]; simp [rd]
      have hc := hb c (by simp)
      have hw : wrap64 ((q.length : Int) + 1) = ((q.length + 1 : Nat) : Int) := by rw [wrap64_small _ (by omega) (by omega)]; omega
      have hv : IntKind.u64.wrap (IntKind.u64.wrap (128 * ((V q % 18446744073709551616 : Nat) : Int)) + IntKind.u64.wrap (Int.tmod c 128)) = ((V (q ++ [c]) % 18446744073709551616 : Nat) : Int) := by
        rw [V_snoc, wrap_u64, wrap_u64, wrap_u64, Int.tmod_eq_emod_of_nonneg hc.1]
        omega
      rw [if_pos (by simp; omega), if_pos (by omega), if_pos (by omega), hrd, hw, hv]
      have htk : l.take ((q.length + 1 : Nat) : Int).toNat = q ++ [c] := by
        rw [Int.toNat_natCast, hl, show q ++ c :: t = (q ++ [c]) ++ t by simp, List.take_left' (by simp)]
      have hqc : Bytes (q ++ [c]) := bytes_app (fun x hx => ⟨by have := hq x hx; omega, (hq x hx).2⟩) (fun x hx => by simp at hx; subst hx; exact hc)
      by_cases hcc : c < 128
      · rw [if_pos hcc, RPut_eq _ (by omega) k (by omega)]
        simp only [Option.bind_some]
        rw [if_pos (by omega), if_pos (by omega), htk]
        have hpre : q ++ [c] <+: l := ⟨t, by rw [hl]; simp⟩
        by_cases he : put (V (q ++ [c]) % 18446744073709551616) = q ++ [c]
        · rw [if_pos ((strs_inj (put_range _) hqc).2 he)]
          refine ⟨_, rfl, .inl ⟨V (q ++ [c]) % 18446744073709551616, by omega, by rw [he]; exact hpre, ?_⟩⟩
          rw [he]
          simp
        · rw [if_neg (fun h => he ((strs_inj (put_range _) hqc).1 h))]
          refine ⟨_, rfl, .inr ⟨fun m hm hp => ?_, rfl⟩⟩
          have h1 := put_exact m q c t (fun x hx => (hq x hx).1) hcc (by rw [← hl]; exact hp)
          apply he
          rw [← h1, V_put, Nat.mod_eq_of_lt hm]
      · rw [if_neg hcc]
        have := ih (q ++ [c]) k (by rw [hl]; simp) (fun x hx => by
          rcases List.mem_append.1 hx with hx | hx
          · exact hq x hx
          · simp at hx; subst hx; omega) (by simp; omega) (fun x hx => hb x (by simp [hx])) hll (by simp at hk; omega)
        rw [List.length_append] at this
        exact this
    · rw [if_neg (by simp; omega)]
      refine ⟨_, rfl, .inr ⟨fun m hm hp => ?_, rfl⟩⟩
      have h10' := put_length m hm
      refine put_not_marks m q (fun x hx => (hq x hx).1) ?_
      exact List.prefix_of_prefix_length_le hp ⟨c :: t, hl.symm⟩ (by omega)

theorem RGet_eq {l : List Int} {r : Int × Int × Bool} (h : IsGet l r) (hb : Bytes l) (hl : l.length ≤ 4611686018427387904) (k : Nat) (hk : 2 * l.length + 30 < k) : rolodexref01_Get.f k l = some r := by
  unfold rolodexref01_Get.f
  obtain ⟨r', hr, hi⟩ := rget_l0 l l [] k rfl (by simp) (by simp) hb hl hk
  rw [h.unique hi]
  exact hr

theorem RText_eq (s : ByteArray) (hs : s.size ≤ 300) (k : Nat) (hk : 12 < k) : rolodexref01_Text.f k s = some (put s.size ++ bytesOf s) := by
  unfold rolodexref01_Text.f
  have hp := put_length s.size (by omega)
  rw [wraps_u64 _ (by omega) (by omega), RPut_eq _ (by omega) k hk]
  simp only [Option.bind_some]
  rw [if_pos (by omega)]
theorem RWord_eq (n : Nat) (hn : n < 4294967296) : rolodexref01_Word.f (n : Int) = some (word n) := by
  unfold rolodexref01_Word.f word
  rw [show Int.tdiv (n : Int) 16777216 = ((n / 16777216 : Nat) : Int) from td n 16777216, show Int.tdiv (n : Int) 65536 = ((n / 65536 : Nat) : Int) from td n 65536, show Int.tdiv (n : Int) 256 = ((n / 256 : Nat) : Int) from td n 256, show Int.tmod (n : Int) 256 = ((n % 256 : Nat) : Int) from tm n 256]
  congr 2 <;> (try congr 1) <;> (try congr 1) <;> (try congr 1) <;> first | omega | rfl
end Go.Proofs.Ytchaegfdcdlfaaa.Y

/- The document's answer of the wire: its Read walked by hand; its contracts in words of lists. -/
namespace Go.Proofs.Ytchaegfdcdlfaaa.Y
set_option linter.unusedVariables false
set_option linter.unusedSimpArgs false
open Go.Proofs.Ytchaegfdcdlfaaa.X Go.RowKit Go.Proofs.YtchaegfdcdlfaaaW.PrintWords Go.Proofs.YtchaegfdcdlfaaaW.PrintLast Go.Proofs.YtchaegfdcdlfaaaW.PrintMore

theorem rget_call {l : List Int} {n u : Int} {is : Bool} (h : IsGet l (n, u, is)) (hb : Bytes l) (hl : l.length ≤ 4611686018427387904) (A : Option Addr) (c : Nat) (w : World) (hr : RdB w A l.length l) (hc : l.length ≤ c) :
    Calls Try.prog 91 #[.slice A l.length c] w fun e w' => e = .returned (.tuple #[.int .u64 n, .int .i64 u, .bool is]) ∧ Below w.heap.size w w' :=
  rolodexref01_Get.calls (2 * l.length + 31) A c l n u is w hr hc (RGet_eq h hb hl _ (by omega))
theorem rput_call (n : Nat) (hn : n < 18446744073709551616) (w : World) : Calls Try.prog 86 #[.int .u64 n] w fun e w' => ∃ A c, e = .returned (.slice A (put n).length c) ∧ (put n).length ≤ c ∧ RdB w' A (put n).length (put n) ∧ Below w.heap.size w w' := by
  refine (rolodexref01_Put.calls 20 n _ w (RPut_eq n hn 20 (by omega))).mono ?_
  rintro e w' ⟨v, rfl, ho, hb⟩
  obtain ⟨A, c, rfl, hc, hr⟩ := row_slice ho
  exact ⟨A, c, rfl, hc, hr, hb⟩
theorem rtext_call (s : ByteArray) (hs : s.size ≤ 300) (L : List Int) (hL : L = put s.size ++ bytesOf s) (w : World) : Calls Try.prog 94 #[.string s] w fun e w' => ∃ A c, e = .returned (.slice A L.length c) ∧ L.length ≤ c ∧ RdB w' A L.length L ∧ Below w.heap.size w w' := by
  subst hL
  refine (rolodexref01_Text.calls 20 s _ w (RText_eq s hs 20 (by omega))).mono ?_
  rintro e w' ⟨v, rfl, ho, hb⟩
  obtain ⟨A, c, rfl, hc, hr⟩ := row_slice ho
  exact ⟨A, c, rfl, hc, hr, hb⟩
theorem rword_call (n : Nat) (hn : n < 4294967296) (w : World) : Calls Try.prog 87 #[.int .u32 n] w fun e w' => ∃ A c, e = .returned (.slice A 4 c) ∧ 4 ≤ c ∧ RdB w' A 4 (word n) ∧ Below w.heap.size w w' := by
  refine (rolodexref01_Word.calls n _ w (RWord_eq n hn)).mono ?_
  rintro e w' ⟨v, rfl, ho, hb⟩
  obtain ⟨A, c, rfl, hc, hr⟩ := row_slice ho
  exact ⟨A, c, rfl, hc, hr, hb⟩
/-- What four bytes, and no others, are read as. -/
def fourR (l : List Int) : Int × Bool := if l.length = 4 then ((four l : Int), true) else (0, false)
theorem pfour_call (l : List Int) (hb : Bytes l) (A : Option Addr) (c : Nat) (w : World) (hr : RdB w A l.length l) (hc : l.length ≤ c) (x : Int × Bool) (hx : fourR l = x) :
    Calls Try.prog 89 #[.slice A l.length c] w fun e w' => e = .returned (.tuple #[.int .u32 x.1, .bool x.2]) ∧ ∃ q, w' = w.drewN q := by
  subst hx
  by_cases h4 : l.length = 4
  · have := four_call l h4 hb A c w (by rw [h4] at hr; exact hr) (by omega)
    rw [← h4] at this
    unfold fourR
    rw [if_pos h4]
    exact this
  · unfold fourR
    rw [if_neg h4]
    exact four_none l h4 A c w hr hc

set_option maxHeartbeats 4000000 in
set_option maxRecDepth 100000 in
theorem rread_no (A0 : Option Addr) (c0 : Nat) (l0 : List Int) (a1 : Int) (n u : Nat) (w : World) (hr0 : RdB w A0 l0.length l0) (hc0 : l0.length ≤ c0) (hb : Bytes l0)
    (h : IsGet l0 ((n : Int), (u : Int), false)) (hu : u ≤ l0.length) (hl : l0.length ≤ 4611686018427387904) :
    Calls Try.prog 96 #[.slice A0 l0.length c0, .int .i64 a1] w fun e w' => e = .returned (.tuple #[.string ⟨#[]⟩, .int .i64 0, .bool false]) ∧ Below w.heap.size w w' := by
  have HG := Aside0.mk h
  have HR := Aside0.mk hr0
  clear h hr0
  go_enter Try.func96, Try.ntmps96
  go_wp2_with fail
  refine (rget_call HG.out hb hl _ _ _ HR.out hc0).mono ?_
  rintro e w1 ⟨rfl, hb1⟩
  go_wp2_with fail
  go_ret3
  exact ⟨rfl, hb1⟩

set_option maxHeartbeats 4000000 in
set_option maxRecDepth 100000 in
theorem rread_neg (A0 : Option Addr) (c0 : Nat) (l0 : List Int) (a1 : Int) (n u : Nat) (w : World) (hr0 : RdB w A0 l0.length l0) (hc0 : l0.length ≤ c0) (hb : Bytes l0)
    (h : IsGet l0 ((n : Int), (u : Int), true)) (hu : u ≤ l0.length) (hl : l0.length ≤ 4611686018427387904) (ha : a1 < 0) :
    Calls Try.prog 96 #[.slice A0 l0.length c0, .int .i64 a1] w fun e w' => e = .returned (.tuple #[.string ⟨#[]⟩, .int .i64 0, .bool false]) ∧ Below w.heap.size w w' := by
  have HG := Aside0.mk h
  have HR := Aside0.mk hr0
  have c1 : decide (a1 < 0) = true := decide_eq_true ha
  clear h hr0 ha
  go_enter Try.func96, Try.ntmps96
  go_wp2_with fail
  refine (rget_call HG.out hb hl _ _ _ HR.out hc0).mono ?_
  rintro e w1 ⟨rfl, hb1⟩
  go_wp2_with fail
  go_ret3
  exact ⟨rfl, hb1⟩

set_option maxHeartbeats 4000000 in
set_option maxRecDepth 100000 in
theorem rread_far1 (A0 : Option Addr) (c0 : Nat) (l0 : List Int) (m n u : Nat) (w : World) (hr0 : RdB w A0 l0.length l0) (hc0 : l0.length ≤ c0) (hb : Bytes l0)
    (h : IsGet l0 ((n : Int), (u : Int), true)) (hu : u ≤ l0.length) (hl : l0.length ≤ 4611686018427387904) (hm : m < n) (hm2 : m < 9223372036854775808) :
    Calls Try.prog 96 #[.slice A0 l0.length c0, .int .i64 m] w fun e w' => e = .returned (.tuple #[.string ⟨#[]⟩, .int .i64 0, .bool false]) ∧ Below w.heap.size w w' := by
  have HG := Aside0.mk h
  have HR := Aside0.mk hr0
  have c1 : decide ((m : Int) < 0) = false := decide_eq_false (by omega)
  have c2 : decide (m < n) = true := decide_eq_true (by omega)
  have c3 : decide ((m : Int) < (n : Int)) = true := decide_eq_true (by omega)
  have w2 : IntKind.u64.wrap (m : Int) = (m : Int) := wraps_u64 _ (by omega) (by omega)
  clear h hr0
  go_enter Try.func96, Try.ntmps96
  go_wp2_with fail
  refine (rget_call HG.out hb hl _ _ _ HR.out hc0).mono ?_
  rintro e w1 ⟨rfl, hb1⟩
  go_wp2_with fail
  go_ret3
  exact ⟨rfl, hb1⟩

set_option maxHeartbeats 4000000 in
set_option maxRecDepth 100000 in
theorem rread_far2 (A0 : Option Addr) (c0 : Nat) (l0 : List Int) (m n u : Nat) (w : World) (hr0 : RdB w A0 l0.length l0) (hc0 : l0.length ≤ c0) (hb : Bytes l0)
    (h : IsGet l0 ((n : Int), (u : Int), true)) (hu : u ≤ l0.length) (hl : l0.length ≤ 4611686018427387904) (hm : n ≤ m) (hm2 : m < 9223372036854775808) (hf : l0.length - u < n) :
    Calls Try.prog 96 #[.slice A0 l0.length c0, .int .i64 m] w fun e w' => e = .returned (.tuple #[.string ⟨#[]⟩, .int .i64 0, .bool false]) ∧ Below w.heap.size w w' := by
  have HG := Aside0.mk h
  have HR := Aside0.mk hr0
  have c1 : decide ((m : Int) < 0) = false := decide_eq_false (by omega)
  have c2 : decide (m < n) = false := decide_eq_false (by omega)
  have c3 : decide ((m : Int) < (n : Int)) = false := decide_eq_false (by omega)
  have w2 : IntKind.u64.wrap (m : Int) = (m : Int) := wraps_u64 _ (by omega) (by omega)
  obtain ⟨z, hz⟩ : ∃ z, l0.length - u = z := ⟨_, rfl⟩
  have w5 : IntKind.i64.wrap ((l0.length : Int) - (u : Int)) = (z : Int) := by rw [i64_w, wrap64_small _ (by omega) (by omega)]; omega
  have w6 : IntKind.u64.wrap (z : Int) = (z : Int) := wraps_u64 _ (by omega) (by omega)
  have c4 : decide (z < n) = true := decide_eq_true (by omega)
  have c5 : decide ((z : Int) < (n : Int)) = true := decide_eq_true (by omega)
  have w7 : wrap64 ((l0.length : Int) - (u : Int)) = (z : Int) := by rw [wrap64_small _ (by omega) (by omega)]; omega
  clear h hr0 hz
  go_enter Try.func96, Try.ntmps96
  go_wp2_with fail
  refine (rget_call HG.out hb hl _ _ _ HR.out hc0).mono ?_
  rintro e w1 ⟨rfl, hb1⟩
  go_wp2_with fail
  go_ret3
  exact ⟨rfl, hb1⟩

set_option maxHeartbeats 4000000 in
set_option maxRecDepth 100000 in
theorem rread_yes (A0 : Option Addr) (c0 : Nat) (l0 : List Int) (m n u : Nat) (w : World) (hr0 : RdB w A0 l0.length l0) (hc0 : l0.length ≤ c0) (hb : Bytes l0)
    (h : IsGet l0 ((n : Int), (u : Int), true)) (hu : u ≤ l0.length) (hl : l0.length ≤ 4611686018427387904) (hm : n ≤ m) (hm2 : m < 9223372036854775808) (hn : n ≤ l0.length - u) :
    Calls Try.prog 96 #[.slice A0 l0.length c0, .int .i64 m] w fun e w' => e = .returned (.tuple #[.string (strOfNums ((l0.drop u).take n)), .int .i64 (u + n), .bool true]) ∧ Below w.heap.size w w' := by
  obtain ⟨i0, hi0, _, hsz0, _⟩ := info_parts info5
  obtain ⟨y, hy⟩ : ∃ y : Nat, u + n = y := ⟨_, rfl⟩
  have hyi : ((u : Int) + (n : Int)) = (y : Int) := by omega
  have hyl : y ≤ l0.length := by omega
  have HWS : Aside0 (wrap64 (y : Int) = (y : Int)) := ⟨wrap64_small _ (by omega) (by omega)⟩
  have HWN : Aside0 (wrap64 (n : Int) = (n : Int)) := ⟨wrap64_small _ (by omega) (by omega)⟩
  obtain ⟨A', hcut, hA, hC⟩ := print_mid_of (P := Try.prog) (Value.int .u8) 0 40 5 .i64 .i64 Try.underlying40 hi0 hsz0 A0 c0 l0 (u : Int) (y : Int) (by omega) (by omega) (by omega) hc0
  have hmid : (l0.take y).drop u = (l0.drop u).take n := by rw [List.drop_take, show y - u = n by omega]
  have hln : ((l0.drop u).take n).length = n := by rw [List.length_take, List.length_drop]; omega
  simp only [Int.toNat_natCast] at hcut hA hC
  rw [hmid] at hcut hA
  rw [hln] at hcut hA
  have HA := Aside0.mk hA
  clear hA hC hmid
  rw [hyi]
  generalize (l0.drop u).take n = tx at HA hln ⊢
  have HG := Aside0.mk h
  have HR := Aside0.mk hr0
  have c1 : decide ((m : Int) < 0) = false := decide_eq_false (by omega)
  have c2 : decide (m < n) = false := decide_eq_false (by omega)
  have c3 : decide ((m : Int) < (n : Int)) = false := decide_eq_false (by omega)
  have w2 : IntKind.u64.wrap (m : Int) = (m : Int) := wraps_u64 _ (by omega) (by omega)
  obtain ⟨z, hz⟩ : ∃ z, l0.length - u = z := ⟨_, rfl⟩
  have w5 : IntKind.i64.wrap ((l0.length : Int) - (u : Int)) = (z : Int) := by rw [i64_w, wrap64_small _ (by omega) (by omega)]; omega
  have w6 : IntKind.u64.wrap (z : Int) = (z : Int) := wraps_u64 _ (by omega) (by omega)
  have c4 : decide (z < n) = false := decide_eq_false (by omega)
  have c5 : decide ((z : Int) < (n : Int)) = false := decide_eq_false (by omega)
  have w7 : wrap64 ((l0.length : Int) - (u : Int)) = (z : Int) := by rw [wrap64_small _ (by omega) (by omega)]; omega
  have w8 : IntKind.i64.wrap (n : Int) = (n : Int) := by rw [i64_w]; exact HWN.out
  have hwn := HWN.out
  have w10 : IntKind.i64.wrap ((u : Int) + (n : Int)) = (y : Int) := by
    rw [hyi, i64_w]
    exact HWS.out
  have w11 : wrap64 ((u : Int) + (n : Int)) = (y : Int) := by
    rw [hyi]
    exact HWS.out
  clear h hr0 hz hi0 hsz0 hy hyi hln hn hm hyl
  go_enter Try.func96, Try.ntmps96
  go_wp2_with fail
  refine (rget_call HG.out hb hl _ _ _ HR.out hc0).mono ?_
  rintro e w1 ⟨rfl, hb1⟩
  have hT : RdB w1 A' n tx := rdb_below (Kd.C_of_reads (h1 := fun _ => rfl) (HA.out w (Kd.reads_of_C HR.out))) hb1
  have hcv : ∀ q, (convert 40 9 (.slice A' n (c0 - u))).run Try.prog (w1.drewN q) = .ok (.string (strOfNums tx)) (w1.drewN q) := fun q => conv hT _ q
  have hcv0 := conv0 hT (c0 - u)
  go_wp2_with fail
  go_ret3
  exact ⟨rfl, hb1⟩

/-- What is read of a list. -/
theorem rread_call {l : List Int} {r : Int × Int × Bool} (h : IsGet l r) (hb : Bytes l) (hl : l.length ≤ 4611686018427387904) (a1 : Int) (ha : a1 < 9223372036854775808) (A : Option Addr) (c : Nat) (w : World) (hr : RdB w A l.length l) (hc : l.length ≤ c) (x : ByteArray × Int × Bool) (hx : readR l r a1 = x) :
    Calls Try.prog 96 #[.slice A l.length c, .int .i64 a1] w fun e w' => e = .returned (.tuple #[.string x.1, .int .i64 x.2.1, .bool x.2.2]) ∧ Below w.heap.size w w' := by
  subst hx
  have hu := h.used
  obtain ⟨n, u, is⟩ := r
  obtain ⟨h1, h2, h3, h4⟩ := hu
  simp only at h1 h2 h3 h4
  obtain ⟨n, rfl⟩ := Int.eq_ofNat_of_zero_le h3
  obtain ⟨u, rfl⟩ := Int.eq_ofNat_of_zero_le h1
  unfold readR
  cases is with
  | false =>
    rw [if_neg (by simp)]
    exact rread_no A c l a1 n u w hr hc hb h (by omega) hl
  | true =>
    by_cases ha0 : a1 < 0
    · rw [if_neg (by simp only; omega)]
      exact rread_neg A c l a1 n u w hr hc hb h (by omega) hl ha0
    · obtain ⟨m, rfl⟩ := Int.eq_ofNat_of_zero_le (show 0 ≤ a1 by omega)
      by_cases hm : n ≤ m
      · by_cases hn : n ≤ l.length - u
        · rw [if_pos ⟨rfl, by omega, by simp only; omega, by simp only; omega⟩]
          simp only [Int.toNat_natCast]
          exact rread_yes A c l m n u w hr hc hb h (by omega) hl hm (by omega) hn
        · rw [if_neg (by simp only; omega)]
          exact rread_far2 A c l m n u w hr hc hb h (by omega) hl hm (by omega) (by omega)
      · rw [if_neg (by simp only; omega)]
        exact rread_far1 A c l m n u w hr hc hb h (by omega) hl (by omega) (by omega)

end Go.Proofs.Ytchaegfdcdlfaaa.Y

/- Arrays that a call lays: the beginning state, the roots. -/
namespace Go.Proofs.Ytchaegfdcdlfaaa.X
set_option linter.unusedVariables false
set_option linter.unusedSimpArgs false
open Go.RowKit Go.Proofs.YtchaegfdcdlfaaaW.PrintWords Go.Proofs.YtchaegfdcdlfaaaW.PrintLast Go.Proofs.YtchaegfdcdlfaaaW.PrintMore

/-- The state that begins, the roots, as numbers. -/
def begunL : List Int := [1779033703, 3144134277, 1013904242, 2773480762, 1359893119, 2600822924, 528734635, 1541459225]
def rootsL : List Int := [1116352408, 1899447441, 3049323471, 3921009573, 961987163, 1508970993, 2453635748, 2870763221, 3624381080, 310598401, 607225278, 1426881987, 1925078388, 2162078206, 2614888103, 3248222580, 3835390401, 4022224774, 264347078, 604807628, 770255983, 1249150122, 1555081692, 1996064986, 2554220882, 2821834349, 2952996808, 3210313671, 3336571891, 3584528711, 113926993, 338241895, 666307205, 773529912, 1294757372, 1396182291, 1695183700, 1986661051, 2177026350, 2456956037, 2730485921, 2820302411, 3259730800, 3345764771, 3516065817, 3600352804, 4094571909, 275423344, 430227734, 506948616, 659060556, 883997877, 958139571, 1322822218, 1537002063, 1747873779, 1955562222, 2024104815, 2227730452, 2361852424, 2428436474, 2756734187, 3204031479, 3329325298]
/-- An array of words. -/
def wordsV (l : List Int) : Value := .agg (l.map (Value.int .u32)).toArray

/-- The roots' cells. -/
def rootsA : Array Value := (rootsL.map (Value.int .u32)).toArray
theorem rootsA_size : rootsA.size = 64 := by kernel_rfl
/-- A function's one result, a variable that holds an array. -/
theorem results_one {P : Program} {fn : Func} {p : Tmp} {ty : TypeId} (h : fn.results = #[.cell p ty]) (tmps : Array Value) (w : World) :
    (results fn tmps).run P w = ((asAddr (tmps.getD p undef)).run P w).andThen fun a w₁ => (loadVar ty a).run P w₁ := by
  simp only [results, h]
  simp [Sem.run_bind, Result.andThen]
theorem setRow_alloc (w : World) (old cs : Array Value) (t : TypeId) : (w.alloc (.cells old t (0, 0))).setRow w.heap.size cs = w.alloc (.cells cs t (0, 0)) := by
  unfold World.setRow World.alloc
  congr 1
  apply Array.ext
  · simp
  · intro k h1 h2
    simp only [Array.getElem_modify, Array.getElem_push]
    simp at h1
    by_cases hk : k < w.heap.size
    · rw [if_neg (by omega), dif_pos hk, dif_pos hk]
    · rw [if_pos (by omega), dif_neg hk, dif_neg hk]
/-- An array's cells, laid into a block that is new. -/
theorem store_new (w : World) (old cs : Array Value) (t : TypeId) (hs : old.size = cs.size) (h1 : cs.all (·.oneCell') = true) :
    (storeCells ⟨w.heap.size, 0, none⟩ cs.toList).run Try.prog (w.alloc (.cells old t (0, 0))) = .ok () (w.alloc (.cells cs t (0, 0))) := by
  have := run_storeCells_from (P := Try.prog) w.heap.size t cs.toList 0 old (w.alloc (.cells old t (0, 0))) (by show (w.heap.push _)[w.heap.size]? = _; simp) (by simp; omega) (fun v hv => (Array.all_eq_true_iff_forall_mem.1 h1) v (by simpa using hv))
  simp only [List.take_zero, List.nil_append, Array.toArray_toList] at this
  rw [setRow_alloc] at this
  exact this
set_option maxHeartbeats 1000000 in
set_option maxRecDepth 100000 in
theorem roots_call (w : World) : Calls Try.prog 138 #[] w fun e w' => e = .returned (.agg rootsA) ∧ Below w.heap.size w w' := by
  have hst := store_new w #[.int .u32 0, .int .u32 0, .int .u32 0, .int .u32 0, .int .u32 0, .int .u32 0, .int .u32 0, .int .u32 0, .int .u32 0, .int .u32 0, .int .u32 0, .int .u32 0, .int .u32 0, .int .u32 0, .int .u32 0, .int .u32 0, .int .u32 0, .int .u32 0, .int .u32 0, .int .u32 0, .int .u32 0, .int .u32 0, .int .u32 0, .int .u32 0, .int .u32 0, .int .u32 0, .int .u32 0, .int .u32 0, .int .u32 0, .int .u32 0, .int .u32 0, .int .u32 0, .int .u32 0, .int .u32 0, .int .u32 0, .int .u32 0, .int .u32 0, .int .u32 0, .int .u32 0, .int .u32 0, .int .u32 0, .int .u32 0, .int .u32 0, .int .u32 0, .int .u32 0, .int .u32 0, .int .u32 0, .int .u32 0, .int .u32 0, .int .u32 0, .int .u32 0, .int .u32 0, .int .u32 0, .int .u32 0, .int .u32 0, .int .u32 0, .int .u32 0, .int .u32 0, .int .u32 0, .int .u32 0, .int .u32 0, .int .u32 0, .int .u32 0, .int .u32 0] rootsA 189 (by kernel_rfl) (by kernel_rfl)
  go_enter Try.func138, Try.ntmps138
  go_wp2_with (first
    | ((with_reducible refine gate_dst (N := 1) rfl ?_); refine wpList_build rfl 189 _ rfl (by kernel_rfl) ?_; generalize hX : (Program.built _ _ _).getD #[] = X; obtain rfl : X = rootsA := hX.symm.trans (by kernel_rfl); clear hX)
    | fail)
  go_wp2_with fail
  refine bodyPost_ret (v := .agg rootsA) ?_ rfl ⟨rfl, ?_⟩
  · have hl := run_loadVar_row (P := Try.prog) (w.alloc (.cells rootsA 189)) w.heap.size 189 189 rootsA (0, 0) _ (by show (w.heap.push _)[w.heap.size]? = _; simp) (by rfl) (by kernel_rfl) (by kernel_rfl)
    rw [results_one (P := Try.prog) Try.results138]
    exact hl
  · exact below_alloc (Below.refl _ _) _

set_option maxHeartbeats 4000000 in
set_option maxRecDepth 100000 in
theorem begun_call (w : World) : Calls Try.prog 137 #[] w fun e w' => e = .returned (wordsV begunL) ∧ Below w.heap.size w w' := by
  go_enter Try.func137, Try.ntmps137
  go_wp2_with fail
  refine bodyPost_ret (v := wordsV begunL) ?_ rfl ⟨rfl, ?_⟩
  · simp [results, Try.results137, go_sem, wordsV, begunL]
  · exact below_alloc (Below.refl _ _) _

end Go.Proofs.Ytchaegfdcdlfaaa.X

namespace Go.Proofs.Ytchaegfdcdlfaaa.X
open Go.RowKit Go.Proofs.YtchaegfdcdlfaaaW.PrintWords Go.Proofs.YtchaegfdcdlfaaaW.PrintLast Go.Proofs.YtchaegfdcdlfaaaW.PrintMore
attribute [local go_sem] max2_int min2_int max_two min_two max_three min_three max_four min_four   -- for this text's walks alone
set_option linter.unusedVariables false
set_option linter.unusedSimpArgs false

/-! ### bits_RotateLeft32: function 181 -/
def bits_RotateLeft32.f (a0 : Int) (a1 : Int) : Option (Int) := if 0 ≤ (Go.bits .and .u64 (IntKind.u64.wrap (a1)) 31) then (if 0 ≤ (IntKind.u64.wrap (32 - (Go.bits .and .u64 (IntKind.u64.wrap (a1)) 31))) then (some (Go.bits .or .u32 (shl .u32 a0 (Go.bits .and .u64 (IntKind.u64.wrap (a1)) 31)) (shr .u32 a0 (IntKind.u64.wrap (32 - (Go.bits .and .u64 (IntKind.u64.wrap (a1)) 31)))))) else (none)) else (none)
set_option maxHeartbeats 8000000 in
set_option maxRecDepth 100000 in
theorem bits_RotateLeft32.calls (a0 : Int) (a1 : Int) (r : Int) (w : World) (h : bits_RotateLeft32.f a0 a1 = some r) :
    Calls Try.prog 181 #[.int .u32 a0, .int .i64 a1] w fun e w' => e = .returned (.int .u32 r) ∧ Drawn0 w w' := by
  have H : (if 0 ≤ (Go.bits .and .u64 (IntKind.u64.wrap (a1)) 31) then (if 0 ≤ (IntKind.u64.wrap (32 - (Go.bits .and .u64 (IntKind.u64.wrap (a1)) 31))) then (some (Go.bits .or .u32 (shl .u32 a0 (Go.bits .and .u64 (IntKind.u64.wrap (a1)) 31)) (shr .u32 a0 (IntKind.u64.wrap (32 - (Go.bits .and .u64 (IntKind.u64.wrap (a1)) 31)))))) else (none)) else (none)) = some r := h
  clear h
  obtain ⟨ji3, hji3⟩ : ∃ j_ : Int, (Go.bits .and .u64 (IntKind.u64.wrap (a1)) 31) = j_ := ⟨_, rfl⟩
  replace H : (if 0 ≤ (ji3) then (if 0 ≤ (IntKind.u64.wrap (32 - (ji3))) then (some (Go.bits .or .u32 (shl .u32 a0 (ji3)) (shr .u32 a0 (IntKind.u64.wrap (32 - (ji3)))))) else (none)) else (none)) = some r := by first | (rw [hji3] at H; exact H) | (simp only [hji3] at H ⊢; exact H)
  by_cases c4 : 0 ≤ (ji3)
  · rw [if_pos c4] at H
    have c4b0 := eq_true c4
    have c4b1 : decide (0 ≤ (ji3)) = true := decide_eq_true c4
    clear c4
    obtain ⟨ji5, hji5⟩ : ∃ j_ : Int, (shl .u32 a0 (ji3)) = j_ := ⟨_, rfl⟩
    replace H : (if 0 ≤ (IntKind.u64.wrap (32 - (ji3))) then (some (Go.bits .or .u32 (ji5) (shr .u32 a0 (IntKind.u64.wrap (32 - (ji3)))))) else (none)) = some r := by first | (rw [hji5] at H; exact H) | (simp only [hji5] at H ⊢; exact H)
    have hji5_ : (IntKind.u32.wrap (a0 * 2 ^ min (ji3).toNat 32)) = ji5 := hji5
    have hji5z : (ji3) ≤ 32 → (IntKind.u32.wrap (a0 * 2 ^ (ji3).toNat)) = ji5 := shl_small hji5
    obtain ⟨ji6, hji6⟩ : ∃ j_ : Int, (IntKind.u64.wrap (32 - (ji3))) = j_ := ⟨_, rfl⟩
    replace H : (if 0 ≤ (ji6) then (some (Go.bits .or .u32 (ji5) (shr .u32 a0 (ji6)))) else (none)) = some r := by first | (rw [hji6] at H; exact H) | (simp only [hji6] at H ⊢; exact H)
    by_cases c7 : 0 ≤ (ji6)
    · rw [if_pos c7] at H
      have c7b0 := eq_true c7
      have c7b1 : decide (0 ≤ (ji6)) = true := decide_eq_true c7
      clear c7
      obtain ⟨ji8, hji8⟩ : ∃ j_ : Int, (shr .u32 a0 (ji6)) = j_ := ⟨_, rfl⟩
      replace H : (some (Go.bits .or .u32 (ji5) (ji8))) = some r := by first | (rw [hji8] at H; exact H) | (simp only [hji8] at H ⊢; exact H)
      have hji8_ : (a0 / 2 ^ min (ji6).toNat 32) = ji8 := hji8
      have hji8z : (ji6) ≤ 32 → (a0 / 2 ^ (ji6).toNat) = ji8 := shr_small hji8
      obtain rfl := Option.some.inj H
      go_enter Try.func181, Try.ntmps181
      go_wp2
      go_ret
      exact ⟨by first | rfl | (simp; done) | (simp only [← hji3, ← hji5, ← hji6, ← hji8] <;> (first | rfl | simp)) | (simp [*]; done), by repeat (first | exact Drawn0.refl _ | apply Drawn0.step)⟩
    · rw [if_neg c7] at H
      exact absurd H (by simp)
  · rw [if_neg c4] at H
    exact absurd H (by simp)

end Go.Proofs.Ytchaegfdcdlfaaa.X

namespace Go.Proofs.Ytchaegfdcdlfaaa.X
open Go.RowKit Go.Proofs.YtchaegfdcdlfaaaW.PrintWords Go.Proofs.YtchaegfdcdlfaaaW.PrintLast Go.Proofs.YtchaegfdcdlfaaaW.PrintMore
attribute [local go_sem] max2_int min2_int max_two min_two max_three min_three max_four min_four   -- for this text's walks alone
set_option linter.unusedVariables false
set_option linter.unusedSimpArgs false

/-! ### sha_right: function 169 -/
def sha_right.f (a0 : Int) (a1 : Int) : Option (Int) := (bits_RotateLeft32.f a0 (wrap64 (-a1))).bind fun t105 => (some t105)
set_option maxHeartbeats 8000000 in
set_option maxRecDepth 100000 in
theorem sha_right.calls (a0 : Int) (a1 : Int) (r : Int) (w : World) (h : sha_right.f a0 a1 = some r) :
    Calls Try.prog 169 #[.int .u32 a0, .int .i64 a1] w fun e w' => e = .returned (.int .u32 r) ∧ Drawn0 w w' := by
  have H : ((bits_RotateLeft32.f a0 (wrap64 (-a1))).bind fun t105 => (some t105)) = some r := h
  clear h
  replace H := Option.bind_eq_some_iff.mp H
  obtain ⟨t105, A30, H⟩ := H
  replace H : (some t105) = some r := H
  have A3 := Aside0.mk A30
  clear A30
  obtain rfl := Option.some.inj H
  go_enter Try.func169, Try.ntmps169
  go_wp2_with (first | ((with_reducible refine gate_callee (f := 181) rfl ?_); refine goesL_ (some 8) rfl rfl Try.func181 (by kernel_rfl) rfl #[.int .u32 a0, .int .i64 (wrap64 (-a1))] rfl (by (try simp only [List.map_toArray, List.map_cons, List.map_nil]); first | done | rfl | (simp only [List.length_drop, List.length_take]; rfl)) ?_; (with_reducible refine (bits_RotateLeft32.calls a0 (wrap64 (-a1)) t105 _ A3.out).mono ?_); rintro e w' ⟨rfl, ⟨nd, rfl⟩⟩; refine ⟨_, rfl, ?_⟩))
  go_ret
  exact ⟨by first | rfl | (simp; done) | (simp [*]; done), by repeat (first | exact Drawn0.refl _ | apply Drawn0.step)⟩

end Go.Proofs.Ytchaegfdcdlfaaa.X

/- Turning a word right: what the printed form gives. -/
namespace Go.Proofs.Ytchaegfdcdlfaaa.X
set_option linter.unusedVariables false
set_option linter.unusedSimpArgs false
open Go.RowKit Go.Proofs.YtchaegfdcdlfaaaW.PrintWords Go.Proofs.YtchaegfdcdlfaaaW.PrintLast Go.Proofs.YtchaegfdcdlfaaaW.PrintMore

/-- x turned right by n. -/
def rotr (x n : Int) : Int := Go.bits .or .u32 (shl .u32 x (32 - n)) (shr .u32 x n)
theorem right_2 (x : Int) : sha_right.f x 2 = some (rotr x 2) := by
  unfold sha_right.f bits_RotateLeft32.f rotr
  have h1 : Go.bits .and .u64 (IntKind.u64.wrap (wrap64 (-2))) 31 = 30 := by decide +kernel
  have h2 : IntKind.u64.wrap (32 - 30) = 2 := by decide +kernel
  rw [h1, h2, if_pos (by decide), if_pos (by decide)]
  rfl
theorem right_6 (x : Int) : sha_right.f x 6 = some (rotr x 6) := by
  unfold sha_right.f bits_RotateLeft32.f rotr
  have h1 : Go.bits .and .u64 (IntKind.u64.wrap (wrap64 (-6))) 31 = 26 := by decide +kernel
  have h2 : IntKind.u64.wrap (32 - 26) = 6 := by decide +kernel
  rw [h1, h2, if_pos (by decide), if_pos (by decide)]
  rfl
theorem right_7 (x : Int) : sha_right.f x 7 = some (rotr x 7) := by
  unfold sha_right.f bits_RotateLeft32.f rotr
  have h1 : Go.bits .and .u64 (IntKind.u64.wrap (wrap64 (-7))) 31 = 25 := by decide +kernel
  have h2 : IntKind.u64.wrap (32 - 25) = 7 := by decide +kernel
  rw [h1, h2, if_pos (by decide), if_pos (by decide)]
  rfl
theorem right_11 (x : Int) : sha_right.f x 11 = some (rotr x 11) := by
  unfold sha_right.f bits_RotateLeft32.f rotr
  have h1 : Go.bits .and .u64 (IntKind.u64.wrap (wrap64 (-11))) 31 = 21 := by decide +kernel
  have h2 : IntKind.u64.wrap (32 - 21) = 11 := by decide +kernel
  rw [h1, h2, if_pos (by decide), if_pos (by decide)]
  rfl
theorem right_13 (x : Int) : sha_right.f x 13 = some (rotr x 13) := by
  unfold sha_right.f bits_RotateLeft32.f rotr
  have h1 : Go.bits .and .u64 (IntKind.u64.wrap (wrap64 (-13))) 31 = 19 := by decide +kernel
  have h2 : IntKind.u64.wrap (32 - 19) = 13 := by decide +kernel
  rw [h1, h2, if_pos (by decide), if_pos (by decide)]
  rfl
theorem right_17 (x : Int) : sha_right.f x 17 = some (rotr x 17) := by
  unfold sha_right.f bits_RotateLeft32.f rotr
  have h1 : Go.bits .and .u64 (IntKind.u64.wrap (wrap64 (-17))) 31 = 15 := by decide +kernel
  have h2 : IntKind.u64.wrap (32 - 15) = 17 := by decide +kernel
  rw [h1, h2, if_pos (by decide), if_pos (by decide)]
  rfl
theorem right_18 (x : Int) : sha_right.f x 18 = some (rotr x 18) := by
  unfold sha_right.f bits_RotateLeft32.f rotr
  have h1 : Go.bits .and .u64 (IntKind.u64.wrap (wrap64 (-18))) 31 = 14 := by decide +kernel
  have h2 : IntKind.u64.wrap (32 - 14) = 18 := by decide +kernel
  rw [h1, h2, if_pos (by decide), if_pos (by decide)]
  rfl
theorem right_19 (x : Int) : sha_right.f x 19 = some (rotr x 19) := by
  unfold sha_right.f bits_RotateLeft32.f rotr
  have h1 : Go.bits .and .u64 (IntKind.u64.wrap (wrap64 (-19))) 31 = 13 := by decide +kernel
  have h2 : IntKind.u64.wrap (32 - 13) = 19 := by decide +kernel
  rw [h1, h2, if_pos (by decide), if_pos (by decide)]
  rfl
theorem right_22 (x : Int) : sha_right.f x 22 = some (rotr x 22) := by
  unfold sha_right.f bits_RotateLeft32.f rotr
  have h1 : Go.bits .and .u64 (IntKind.u64.wrap (wrap64 (-22))) 31 = 10 := by decide +kernel
  have h2 : IntKind.u64.wrap (32 - 10) = 22 := by decide +kernel
  rw [h1, h2, if_pos (by decide), if_pos (by decide)]
  rfl
theorem right_25 (x : Int) : sha_right.f x 25 = some (rotr x 25) := by
  unfold sha_right.f bits_RotateLeft32.f rotr
  have h1 : Go.bits .and .u64 (IntKind.u64.wrap (wrap64 (-25))) 31 = 7 := by decide +kernel
  have h2 : IntKind.u64.wrap (32 - 7) = 25 := by decide +kernel
  rw [h1, h2, if_pos (by decide), if_pos (by decide)]
  rfl
end Go.Proofs.Ytchaegfdcdlfaaa.X

/- The schedule of a chunk: the walk. -/
namespace Go.Proofs.Ytchaegfdcdlfaaa.X
set_option linter.unusedVariables false
set_option linter.unusedSimpArgs false
open Go.RowKit Go.Proofs.YtchaegfdcdlfaaaW.PrintWords Go.Proofs.YtchaegfdcdlfaaaW.PrintLast Go.Proofs.YtchaegfdcdlfaaaW.PrintMore

/-- An array of words in a block of its own. -/
def Blk (w : World) (g : Nat) (t : TypeId) (xs : List Int) : Prop := w.heap[g]? = some (.cells (xs.map (Value.int .u32)).toArray t (0, 0))
theorem Blk.cell {w : World} {g : Nat} {t : TypeId} {xs : List Int} (h : Blk w g t xs) {i : Nat} (hi : i < xs.length) : w.cell? ⟨g, i, none⟩ = some (.int .u32 (xs.getD i 0)) := by
  rw [cell_of_row w g i _ t (0, 0) h]
  simp [hi]
theorem Blk.set {w : World} {g : Nat} {t : TypeId} {xs : List Int} (h : Blk w g t xs) (i : Nat) (v : Int) : Blk (w.setCell ⟨g, i, none⟩ (.int .u32 v)) g t (xs.set i v) := by
  rw [setCell_eq_setRow w g i _ t (0, 0) _ h]
  unfold Blk
  rw [setRow_heap w g _ _ t (0, 0) h]
  congr 2
  simp [List.map_set]

/-- The word that stands in four bytes, as the code has it. -/
def be4 (l : List Int) (i : Nat) : Int :=
  bits BinOp.or IntKind.u32 (bits BinOp.or IntKind.u32 (bits BinOp.or IntKind.u32 (rd l (4 * (i : Int)) % 4294967296 * 16777216 % 4294967296) (rd l (4 * (i : Int) + 1) % 4294967296 * 65536 % 4294967296))
    (rd l (4 * (i : Int) + 2) % 4294967296 * 256 % 4294967296)) (rd l (4 * (i : Int) + 3) % 4294967296)
theorem Blk.cell_set {w : World} {g : Nat} {t : TypeId} {xs : List Int} (h : Blk w g t xs) {i z : Nat} {v : Int} (hz : z < xs.length) (hne : i ≠ z) : (w.setCell ⟨g, i, none⟩ (.int .u32 v)).cell? ⟨g, z, none⟩ = some (.int .u32 (xs.getD z 0)) := by
  rw [(h.set i v).cell (by simpa using hz)]
  simp [List.getElem?_set_ne hne]
theorem Blk.drewN {w : World} {g : Nat} {t : TypeId} {xs : List Int} (h : Blk w g t xs) (n : Nat) : Blk (w.drewN n) g t xs := h
theorem Blk.drew {w : World} {g : Nat} {t : TypeId} {xs : List Int} (h : Blk w g t xs) : Blk w.drew g t xs := h
/-- A later word of the schedule. -/
def mix0 (x : Int) : Int := bits .xor .u32 (bits .xor .u32 (rotr x 7) (rotr x 18)) (x / 8)
def mix1 (y : Int) : Int := bits .xor .u32 (bits .xor .u32 (rotr y 17) (rotr y 19)) (y / 1024)
def later (xs : List Int) (i : Nat) : Int :=
  (xs.getD (i - 16) 0 + xs.getD (i - 7) 0 + mix0 (xs.getD (i - 15) 0) + mix1 (xs.getD (i - 2) 0)) % 4294967296
def schedAt (l : List Int) : Nat → List Int
  | 0 => List.replicate 64 0
  | i + 1 => (schedAt l i).set i (if i < 16 then be4 l i else later (schedAt l i) i)
theorem schedAt_length (l : List Int) : ∀ i, (schedAt l i).length = 64
  | 0 => by simp [schedAt]
  | i + 1 => by simp [schedAt, schedAt_length l i]
theorem Blk.free {w : World} {g : Nat} {t : TypeId} {xs : List Int} (h : Blk w g t xs) (i : Nat) : w.frozen? ⟨g, i, none⟩ = false := by
  unfold Blk at h
  simp [World.frozen?, h]

set_option maxHeartbeats 1000000 in
set_option maxRecDepth 100000 in
theorem sched_call (A : Option Addr) (c : Nat) (l : List Int) (w : World) (hr : Kd.C (Kd.int .u8) w A l.length l) (hc : 64 ≤ c) (hlen : l.length = 64) :
    Calls Try.prog 168 #[.slice A 64 c] w fun e w' => e = .returned (.agg ((schedAt l 64).map (Value.int .u32)).toArray) ∧ Below w.heap.size w w' := by
  have HR := Aside0.mk hr
  have HL64 : Aside0 (l.length = 64) := ⟨hlen⟩
  clear hr hlen
  go_enter Try.func168, Try.ntmps168
  go_wp2_with fail
  go_loopg [7] 64 (fun k v7 w' => ∃ (i : Nat), v7 = .int .i64 (i : Int) ∧ Aside0 (k = 64 - i ∧ i ≤ 64) ∧ Aside0 (Blk w' (w.heap.size + 1) 189 (schedAt l i)) ∧ Aside0 (Blk w' w.heap.size 189 (List.replicate 64 0)) ∧ Aside0 (Below w.heap.size w w'))
  case atStart =>
    refine ⟨0, rfl, ⟨by omega, by omega⟩, ⟨?_⟩, ⟨?_⟩, ⟨?_⟩⟩
    · exact heap_alloc2_new w _ _
    · exact heap_alloc2_old w _ _
    · exact below_alloc (below_alloc (Below.refl _ _) _) _
  case round =>
    obtain ⟨i, rfl, HI, HB, HZ, HL⟩ := hrel
    by_cases hi : i < 64
    · have d1 : decide (i < 64) = true := decide_eq_true hi
      have d2 : decide ((i : Int) < 64) = true := decide_eq_true (by omega)
      by_cases h16 : i < 16
      · have d3 : decide (i < 16) = true := decide_eq_true h16
        have d4 : decide ((i : Int) < 16) = true := decide_eq_true (by omega)
        obtain ⟨z0, h0⟩ : ∃ z : Int, z = 4 * (i : Int) := ⟨_, rfl⟩
        have M0 : Aside0 (IntKind.i64.wrap (4 * (i : Int)) = z0) := by refine ⟨?_⟩; rw [i64_w, h0]; unfold wrap64; omega
        obtain ⟨z1, h1⟩ : ∃ z : Int, z = z0 + 1 := ⟨_, rfl⟩
        have M1 : Aside0 (IntKind.i64.wrap (z0 + 1) = z1) := by refine ⟨?_⟩; rw [i64_w, h1, h0]; unfold wrap64; omega
        obtain ⟨z2, h2⟩ : ∃ z : Int, z = z0 + 2 := ⟨_, rfl⟩
        have M2 : Aside0 (IntKind.i64.wrap (z0 + 2) = z2) := by refine ⟨?_⟩; rw [i64_w, h2, h0]; unfold wrap64; omega
        obtain ⟨z3, h3⟩ : ∃ z : Int, z = z0 + 3 := ⟨_, rfl⟩
        have M3 : Aside0 (IntKind.i64.wrap (z0 + 3) = z3) := by refine ⟨?_⟩; rw [i64_w, h3, h0]; unfold wrap64; omega
        obtain ⟨ad0, e0, x0⟩ := Kd.at_int HR.out z0 (by omega) (by rw [HL64.out]; omega)
        cases e0
        replace x0 := (HL.out.cell (World.block_lt_of_cell? w _ x0)).trans x0
        obtain ⟨b0, hb0⟩ : ∃ b, b = rd l z0 := ⟨_, rfl⟩
        rw [← hb0] at x0
        have p0 : (0 ≤ z0) = True := eq_true (by omega)
        have q0 : (z0 < 64) = True := eq_true (by omega)
        obtain ⟨ad1, e1, x1⟩ := Kd.at_int HR.out z1 (by omega) (by rw [HL64.out]; omega)
        obtain rfl : ad0 = ad1 := (by injection e1)
        replace x1 := (HL.out.cell (World.block_lt_of_cell? w _ x1)).trans x1
        obtain ⟨b1, hb1⟩ : ∃ b, b = rd l z1 := ⟨_, rfl⟩
        rw [← hb1] at x1
        have p1 : (0 ≤ z1) = True := eq_true (by omega)
        have q1 : (z1 < 64) = True := eq_true (by omega)
        obtain ⟨ad2, e2, x2⟩ := Kd.at_int HR.out z2 (by omega) (by rw [HL64.out]; omega)
        obtain rfl : ad0 = ad2 := (by injection e2)
        replace x2 := (HL.out.cell (World.block_lt_of_cell? w _ x2)).trans x2
        obtain ⟨b2, hb2⟩ : ∃ b, b = rd l z2 := ⟨_, rfl⟩
        rw [← hb2] at x2
        have p2 : (0 ≤ z2) = True := eq_true (by omega)
        have q2 : (z2 < 64) = True := eq_true (by omega)
        obtain ⟨ad3, e3, x3⟩ := Kd.at_int HR.out z3 (by omega) (by rw [HL64.out]; omega)
        obtain rfl : ad0 = ad3 := (by injection e3)
        replace x3 := (HL.out.cell (World.block_lt_of_cell? w _ x3)).trans x3
        obtain ⟨b3, hb3⟩ : ∃ b, b = rd l z3 := ⟨_, rfl⟩
        rw [← hb3] at x3
        have p3 : (0 ≤ z3) = True := eq_true (by omega)
        have q3 : (z3 < 64) = True := eq_true (by omega)
        have m0 := M0.out
        have m1 := M1.out
        have m2 := M2.out
        have m3 := M3.out
        have HE : Aside0 (bits BinOp.or IntKind.u32 (bits BinOp.or IntKind.u32 (bits BinOp.or IntKind.u32 (b0 % 4294967296 * 16777216 % 4294967296) (b1 % 4294967296 * 65536 % 4294967296)) (b2 % 4294967296 * 256 % 4294967296)) (b3 % 4294967296) = be4 l i) := ⟨by
          rw [hb0, hb1, hb2, hb3, h1, h2, h3, h0]; rfl⟩
        clear h0 h1 h2 h3 M0 M1 M2 M3 hb0 hb1 hb2 hb3
        have hwr : IntKind.i64.wrap ((i : Int) + 1) = ((i + 1 : Nat) : Int) := by rw [i64_w]; unfold wrap64; omega
        have pi : (0 ≤ (i : Int)) = True := eq_true (by omega)
        have qi : ((i : Int) < 64) = True := eq_true (by omega)
        have y1 : wr.drew.cell? ⟨w.heap.size + 1, i, none⟩ = _ := HB.out.cell (i := i) (by rw [schedAt_length]; omega)
        have y2 : wr.drew.frozen? ⟨w.heap.size + 1, i, none⟩ = false := HB.out.free i
        have y1' : wr.cell? ⟨w.heap.size + 1, i, none⟩ = _ := HB.out.cell (i := i) (by rw [schedAt_length]; omega)
        have y2' : wr.frozen? ⟨w.heap.size + 1, i, none⟩ = false := HB.out.free i
        go_wp2_with fail
        go_still_tail 35, (by kernel_rfl)
        go_wp2_with fail
        go_roundg (64 - (i + 1))
        case measure => have := HI.out; omega
        case rel =>
          refine ⟨i + 1, by simp, ⟨rfl, by omega⟩, ⟨?_⟩, ⟨?_⟩, ⟨?_⟩⟩
          · have := HB.out.set i (be4 l i)
            rw [HE.out]
            simp only [schedAt, if_pos h16]
            exact this
          · unfold Blk
            rw [heap_drew, heap_setCell_other _ _ _ _ (by simp)]
            exact HZ.out
          · exact below_drew (below_set HL.out (by omega))
      · have d3 : decide (i < 16) = false := decide_eq_false h16
        have d4 : decide ((i : Int) < 16) = false := decide_eq_false (by omega)
        obtain ⟨z16, h16'⟩ : ∃ z : Nat, z = i - 16 := ⟨_, rfl⟩
        obtain ⟨z7, h7⟩ : ∃ z : Nat, z = i - 7 := ⟨_, rfl⟩
        have m16 : IntKind.i64.wrap ((i : Int) - 16) = (z16 : Int) := by rw [i64_w, h16']; unfold wrap64; omega
        have m7 : IntKind.i64.wrap ((i : Int) - 7) = (z7 : Int) := by rw [i64_w, h7]; unfold wrap64; omega
        have p16 : ((z16 : Int) < 64) = True := eq_true (by omega)
        have p7 : ((z7 : Int) < 64) = True := eq_true (by omega)
        have n16 : (z16 < 64) = True := eq_true (by omega)
        have n7 : (z7 < 64) = True := eq_true (by omega)
        have pi : (0 ≤ (i : Int)) = True := eq_true (by omega)
        have qi : ((i : Int) < 64) = True := eq_true (by omega)
        have hwr : IntKind.i64.wrap ((i : Int) + 1) = ((i + 1 : Nat) : Int) := by rw [i64_w]; unfold wrap64; omega
        have H16 := Aside0.mk h16'
        have H7 := Aside0.mk h7
        clear h16' h7
        obtain ⟨z15, h15⟩ : ∃ z : Nat, z = i - 15 := ⟨_, rfl⟩
        obtain ⟨z2, h2⟩ : ∃ z : Nat, z = i - 2 := ⟨_, rfl⟩
        have m15 : IntKind.i64.wrap ((i : Int) - 15) = (z15 : Int) := by rw [i64_w, h15]; unfold wrap64; omega
        have m2 : IntKind.i64.wrap ((i : Int) - 2) = (z2 : Int) := by rw [i64_w, h2]; unfold wrap64; omega
        have p15 : ((z15 : Int) < 64) = True := eq_true (by omega)
        have p2 : ((z2 : Int) < 64) = True := eq_true (by omega)
        have n15 : (z15 < 64) = True := eq_true (by omega)
        have n2 : (z2 < 64) = True := eq_true (by omega)
        have y15 : wr.drew.cell? ⟨w.heap.size + 1, z15, none⟩ = _ := HB.out.cell (i := z15) (by rw [schedAt_length]; omega)
        have y2 : wr.drew.cell? ⟨w.heap.size + 1, z2, none⟩ = _ := HB.out.cell (i := z2) (by rw [schedAt_length]; omega)
        have x15 : wr.cell? ⟨w.heap.size + 1, z15, none⟩ = _ := HB.out.cell (i := z15) (by rw [schedAt_length]; omega)
        have x2 : wr.cell? ⟨w.heap.size + 1, z2, none⟩ = _ := HB.out.cell (i := z2) (by rw [schedAt_length]; omega)
        have H15 := Aside0.mk h15
        have H2 := Aside0.mk h2
        clear h15 h2
        go_wp2_with fail
        go_still_tail 9, (by kernel_rfl)
        go_wp2_with fail
        clear y15 y2 x15 x2
        refine wp_region_held_drew (S := (fun W => W.cell? ⟨w.heap.size + 1, z16, none⟩ = some (.int .u32 ((schedAt l i).getD z16 0)) ∧ W.cell? ⟨w.heap.size + 1, z7, none⟩ = some (.int .u32 ((schedAt l i).getD z7 0)))) (by kernel_rfl) (And.intro (Blk.cell HB.out (by rw [schedAt_length]; exact of_eq_true n16)) (Blk.cell HB.out (by rw [schedAt_length]; exact of_eq_true n7))) (fun hHeld => ?_)
        refine wpAnyH_take (i := 0) (v := ?_) (by simp only [List.getElem?_toArray, List.getElem?_cons_succ, List.getElem?_cons_zero]; rfl) (by kernel_rfl) (by kernel_rfl) (by kernel_rfl) (by intro _ _ _ h; exact h) (Or.inl ⟨by rfl, ?hy⟩) (by assumption) ?_
        case hy => (intro W_ hW_; go_simp; first | done | with_reducible rfl)
        try simp only [Act.put, List.setIfInBounds_toArray, List.set_cons_zero, List.set_cons_succ]
        refine wpAnyH_take (i := 1) (v := ?_) (by simp only [List.getElem?_toArray, List.getElem?_cons_succ, List.getElem?_cons_zero]; rfl) (by kernel_rfl) (by kernel_rfl) (by kernel_rfl) (by intro _ _ _ h; exact h) (Or.inl ⟨by rfl, ?hy⟩) (by assumption) ?_
        case hy => (intro W_ hW_; go_simp; first | done | with_reducible rfl)
        try simp only [Act.put, List.setIfInBounds_toArray, List.set_cons_zero, List.set_cons_succ]
        refine wpAnyH_take (i := 2) (v := ?_) (by simp only [List.getElem?_toArray, List.getElem?_cons_succ, List.getElem?_cons_zero]; rfl) (by kernel_rfl) (by kernel_rfl) (by kernel_rfl) (by intro _ _ _ h; exact h) (Or.inl ⟨by rfl, ?hy⟩) (by assumption) ?_
        case hy => (intro W_ hW_; go_simp; first | done | with_reducible rfl)
        try simp only [Act.put, List.setIfInBounds_toArray, List.set_cons_zero, List.set_cons_succ]
        refine wpAnyH_take (i := 3) (v := ?_) (by simp only [List.getElem?_toArray, List.getElem?_cons_succ, List.getElem?_cons_zero]; rfl) (by kernel_rfl) (by kernel_rfl) (by kernel_rfl) (by intro _ _ _ h; exact h) (Or.inl ⟨by rfl, ?hy⟩) (by assumption) ?_
        case hy => (intro W_ hW_; go_simp; first | done | with_reducible rfl)
        try simp only [Act.put, List.setIfInBounds_toArray, List.set_cons_zero, List.set_cons_succ]
        refine wpAnyH_take (i := 4) (v := ?_) (by simp only [List.getElem?_toArray, List.getElem?_cons_succ, List.getElem?_cons_zero]; rfl) (by kernel_rfl) (by kernel_rfl) (by kernel_rfl) (by intro _ _ _ h; exact h) (Or.inl ⟨by rfl, ?hy⟩) (by assumption) ?_
        case hy => (intro W_ hW_; have f_ := hW_.1; go_simp; first | done | with_reducible rfl)
        try simp only [Act.put, List.setIfInBounds_toArray, List.set_cons_zero, List.set_cons_succ]
        refine wpAnyH_take (i := 5) (v := ?_) (by simp only [List.getElem?_toArray, List.getElem?_cons_succ, List.getElem?_cons_zero]; rfl) (by kernel_rfl) (by kernel_rfl) (by kernel_rfl) (by intro _ _ _ h; exact h) (Or.inl ⟨by rfl, ?hy⟩) (by assumption) ?_
        case hy => (intro W_ hW_; go_simp; first | done | with_reducible rfl)
        try simp only [Act.put, List.setIfInBounds_toArray, List.set_cons_zero, List.set_cons_succ]
        refine wpAnyH_take (i := 6) (v := ?_) (by simp only [List.getElem?_toArray, List.getElem?_cons_succ, List.getElem?_cons_zero]; rfl) (by kernel_rfl) (by kernel_rfl) (by kernel_rfl) (by intro _ _ _ h; exact h) (Or.inl ⟨by rfl, ?hy⟩) (by assumption) ?_
        case hy => (intro W_ hW_; go_simp; first | done | with_reducible rfl)
        try simp only [Act.put, List.setIfInBounds_toArray, List.set_cons_zero, List.set_cons_succ]
        refine wpAnyH_take (i := 7) (v := ?_) (by simp only [List.getElem?_toArray, List.getElem?_cons_succ, List.getElem?_cons_zero]; rfl) (by kernel_rfl) (by kernel_rfl) (by kernel_rfl) (by intro _ _ _ h; exact h) (Or.inl ⟨by rfl, ?hy⟩) (by assumption) ?_
        case hy => (intro W_ hW_; go_simp; first | done | with_reducible rfl)
        try simp only [Act.put, List.setIfInBounds_toArray, List.set_cons_zero, List.set_cons_succ]
        refine wpAnyH_take (i := 8) (v := ?_) (by simp only [List.getElem?_toArray, List.getElem?_cons_succ, List.getElem?_cons_zero]; rfl) (by kernel_rfl) (by kernel_rfl) (by kernel_rfl) (by intro _ _ _ h; exact h) (Or.inl ⟨by rfl, ?hy⟩) (by assumption) ?_
        case hy => (intro W_ hW_; have f_ := hW_.2; go_simp; first | done | with_reducible rfl)
        try simp only [Act.put, List.setIfInBounds_toArray, List.set_cons_zero, List.set_cons_succ]
        refine wpAnyH_take (i := 9) (v := ?_) (by simp only [List.getElem?_toArray, List.getElem?_cons_succ, List.getElem?_cons_zero]; rfl) (by kernel_rfl) (by kernel_rfl) (by kernel_rfl) (by intro _ _ _ h; exact h) (Or.inl ⟨by rfl, ?hy⟩) (by assumption) ?_
        case hy => (intro W_ hW_; go_simp; first | done | with_reducible rfl)
        try simp only [Act.put, List.setIfInBounds_toArray, List.set_cons_zero, List.set_cons_succ]
        refine wpAnyH_take (i := 10) (v := ?_) (by simp only [List.getElem?_toArray, List.getElem?_cons_succ, List.getElem?_cons_zero]; rfl) (by kernel_rfl) (by kernel_rfl) (by kernel_rfl) (by intro _ _ _ h; exact h) (Or.inl ⟨by rfl, ?hy⟩) (by assumption) ?_
        case hy => (intro W_ hW_; go_simp; first | done | with_reducible rfl)
        try simp only [Act.put, List.setIfInBounds_toArray, List.set_cons_zero, List.set_cons_succ]
        refine wpAnyH_take (i := 12) (v := ?_) (by simp only [List.getElem?_toArray, List.getElem?_cons_succ, List.getElem?_cons_zero]; rfl) (by kernel_rfl) (by kernel_rfl) (by kernel_rfl) (by intro _ _ _ h; exact h) (Or.inl ⟨by rfl, ?hy⟩) (by assumption) ?_
        case hy => (intro W_ hW_; go_simp; first | done | with_reducible rfl)
        try simp only [Act.put, List.setIfInBounds_toArray, List.set_cons_zero, List.set_cons_succ]
        refine wpAnyH_take (i := 15) (v := ?_) (by simp only [List.getElem?_toArray, List.getElem?_cons_succ, List.getElem?_cons_zero]; rfl) (by kernel_rfl) (by kernel_rfl) (by kernel_rfl) (by intro _ _ _ h; exact h) (Or.inl ⟨by rfl, ?hy⟩) (by assumption) ?_
        case hy => (intro W_ hW_; go_simp; first | done | with_reducible rfl)
        try simp only [Act.put, List.setIfInBounds_toArray, List.set_cons_zero, List.set_cons_succ]
        refine wpAnyH_take (i := 16) (v := ?_) (by simp only [List.getElem?_toArray, List.getElem?_cons_succ, List.getElem?_cons_zero]; rfl) (by kernel_rfl) (by kernel_rfl) (by kernel_rfl) (by intro _ _ _ h; exact h) (Or.inl ⟨by rfl, ?hy⟩) (by assumption) ?_
        case hy => (intro W_ hW_; go_simp; first | done | with_reducible rfl)
        try simp only [Act.put, List.setIfInBounds_toArray, List.set_cons_zero, List.set_cons_succ]
        refine wpAnyH_take (i := 19) (v := ?_) (by simp only [List.getElem?_toArray, List.getElem?_cons_succ, List.getElem?_cons_zero]; rfl) (by kernel_rfl) (by kernel_rfl) (by kernel_rfl) (by intro _ _ _ h; exact h) (Or.inl ⟨by rfl, ?hy⟩) (by assumption) ?_
        case hy => (intro W_ hW_; go_simp; first | done | with_reducible rfl)
        try simp only [Act.put, List.setIfInBounds_toArray, List.set_cons_zero, List.set_cons_succ]
        refine wpAnyH_take (i := 21) (v := ?_) (by simp only [List.getElem?_toArray, List.getElem?_cons_succ, List.getElem?_cons_zero]; rfl) (by kernel_rfl) (by kernel_rfl) (by kernel_rfl) (by intro _ _ _ h; exact h) (Or.inl ⟨by rfl, ?hy⟩) (by assumption) ?_
        case hy => (intro W_ hW_; go_simp; first | done | with_reducible rfl)
        try simp only [Act.put, List.setIfInBounds_toArray, List.set_cons_zero, List.set_cons_succ]
        refine wpAnyH_take (i := 24) (v := ?_) (by simp only [List.getElem?_toArray, List.getElem?_cons_succ, List.getElem?_cons_zero]; rfl) (by kernel_rfl) (by kernel_rfl) (by kernel_rfl) (by intro _ _ _ h; exact h) (Or.inl ⟨by rfl, ?hy⟩) (by assumption) ?_
        case hy => (intro W_ hW_; go_simp; first | done | with_reducible rfl)
        try simp only [Act.put, List.setIfInBounds_toArray, List.set_cons_zero, List.set_cons_succ]
        refine wpAnyH_take (i := 25) (v := ?_) (by simp only [List.getElem?_toArray, List.getElem?_cons_succ, List.getElem?_cons_zero]; rfl) (by kernel_rfl) (by kernel_rfl) (by kernel_rfl) (by intro _ _ _ h; exact h) (Or.inl ⟨by rfl, ?hy⟩) (by assumption) ?_
        case hy => (intro W_ hW_; go_simp; first | done | with_reducible rfl)
        try simp only [Act.put, List.setIfInBounds_toArray, List.set_cons_zero, List.set_cons_succ]
        refine wpAnyH_ready (rs := [11]) (by kernel_rfl) (by simp) ?_
        refine AllReadyH.cons (by simp only [List.getElem?_toArray, List.getElem?_cons_succ, List.getElem?_cons_zero]; rfl) (fun K hK => ?_) AllReadyH.nil
        rw [if_pos (by rfl)]
        go_wp2_with fail
        refine (sha_right.calls _ _ _ _ (right_7 _)).mono ?_
        rintro e w2 ⟨rfl, ⟨q_, rfl⟩⟩
        refine hK.out _ _ (hHeld) (fun hHeld2 => ?_)
        clear hK K hHeld
        have hHeld := hHeld2
        clear hHeld2
        try simp only [Act.put, List.setIfInBounds_toArray, List.set_cons_zero, List.set_cons_succ]
        refine wpAnyH_ready (rs := [13]) (by kernel_rfl) (by simp) ?_
        refine AllReadyH.cons (by simp only [List.getElem?_toArray, List.getElem?_cons_succ, List.getElem?_cons_zero]; rfl) (fun K hK => ?_) AllReadyH.nil
        rw [if_pos (by rfl)]
        go_wp2_with fail
        refine (sha_right.calls _ _ _ _ (right_18 _)).mono ?_
        rintro e w2 ⟨rfl, ⟨q_, rfl⟩⟩
        refine hK.out _ _ (hHeld) (fun hHeld2 => ?_)
        clear hK K hHeld
        have hHeld := hHeld2
        clear hHeld2
        try simp only [Act.put, List.setIfInBounds_toArray, List.set_cons_zero, List.set_cons_succ]
        refine wpAnyH_take (i := 14) (v := ?_) (by simp only [List.getElem?_toArray, List.getElem?_cons_succ, List.getElem?_cons_zero]; rfl) (by kernel_rfl) (by kernel_rfl) (by kernel_rfl) (by intro _ _ _ h; exact h) (Or.inl ⟨by rfl, ?hy⟩) (by assumption) ?_
        case hy => (intro W_ hW_; go_simp; first | done | with_reducible rfl)
        try simp only [Act.put, List.setIfInBounds_toArray, List.set_cons_zero, List.set_cons_succ]
        refine wpAnyH_take (i := 17) (v := ?_) (by simp only [List.getElem?_toArray, List.getElem?_cons_succ, List.getElem?_cons_zero]; rfl) (by kernel_rfl) (by kernel_rfl) (by kernel_rfl) (by intro _ _ _ h; exact h) (Or.inl ⟨by rfl, ?hy⟩) (by assumption) ?_
        case hy => (intro W_ hW_; go_simp; first | done | with_reducible rfl)
        try simp only [Act.put, List.setIfInBounds_toArray, List.set_cons_zero, List.set_cons_succ]
        refine wpAnyH_take (i := 18) (v := ?_) (by simp only [List.getElem?_toArray, List.getElem?_cons_succ, List.getElem?_cons_zero]; rfl) (by kernel_rfl) (by kernel_rfl) (by kernel_rfl) (by intro _ _ _ h; exact h) (Or.inl ⟨by rfl, ?hy⟩) (by assumption) ?_
        case hy => (intro W_ hW_; go_simp; first | done | with_reducible rfl)
        try simp only [Act.put, List.setIfInBounds_toArray, List.set_cons_zero, List.set_cons_succ]
        refine wpAnyH_ready (rs := [20]) (by kernel_rfl) (by simp) ?_
        refine AllReadyH.cons (by simp only [List.getElem?_toArray, List.getElem?_cons_succ, List.getElem?_cons_zero]; rfl) (fun K hK => ?_) AllReadyH.nil
        rw [if_pos (by rfl)]
        go_wp2_with fail
        refine (sha_right.calls _ _ _ _ (right_17 _)).mono ?_
        rintro e w2 ⟨rfl, ⟨q_, rfl⟩⟩
        refine hK.out _ _ (hHeld) (fun hHeld2 => ?_)
        clear hK K hHeld
        have hHeld := hHeld2
        clear hHeld2
        try simp only [Act.put, List.setIfInBounds_toArray, List.set_cons_zero, List.set_cons_succ]
        refine wpAnyH_ready (rs := [22]) (by kernel_rfl) (by simp) ?_
        refine AllReadyH.cons (by simp only [List.getElem?_toArray, List.getElem?_cons_succ, List.getElem?_cons_zero]; rfl) (fun K hK => ?_) AllReadyH.nil
        rw [if_pos (by rfl)]
        go_wp2_with fail
        refine (sha_right.calls _ _ _ _ (right_19 _)).mono ?_
        rintro e w2 ⟨rfl, ⟨q_, rfl⟩⟩
        refine hK.out _ _ (hHeld) (fun hHeld2 => ?_)
        clear hK K hHeld
        have hHeld := hHeld2
        clear hHeld2
        try simp only [Act.put, List.setIfInBounds_toArray, List.set_cons_zero, List.set_cons_succ]
        refine wpAnyH_take (i := 23) (v := ?_) (by simp only [List.getElem?_toArray, List.getElem?_cons_succ, List.getElem?_cons_zero]; rfl) (by kernel_rfl) (by kernel_rfl) (by kernel_rfl) (by intro _ _ _ h; exact h) (Or.inl ⟨by rfl, ?hy⟩) (by assumption) ?_
        case hy => (intro W_ hW_; go_simp; first | done | with_reducible rfl)
        try simp only [Act.put, List.setIfInBounds_toArray, List.set_cons_zero, List.set_cons_succ]
        refine wpAnyH_take (i := 26) (v := ?_) (by simp only [List.getElem?_toArray, List.getElem?_cons_succ, List.getElem?_cons_zero]; rfl) (by kernel_rfl) (by kernel_rfl) (by kernel_rfl) (by intro _ _ _ h; exact h) (Or.inl ⟨by rfl, ?hy⟩) (by assumption) ?_
        case hy => (intro W_ hW_; go_simp; first | done | with_reducible rfl)
        try simp only [Act.put, List.setIfInBounds_toArray, List.set_cons_zero, List.set_cons_succ]
        refine wpAnyH_take (i := 27) (v := ?_) (by simp only [List.getElem?_toArray, List.getElem?_cons_succ, List.getElem?_cons_zero]; rfl) (by kernel_rfl) (by kernel_rfl) (by kernel_rfl) (by intro _ _ _ h; exact h) (Or.inl ⟨by rfl, ?hy⟩) (by assumption) ?_
        case hy => (intro W_ hW_; go_simp; first | done | with_reducible rfl)
        try simp only [Act.put, List.setIfInBounds_toArray, List.set_cons_zero, List.set_cons_succ]
        refine wpAnyH_take (i := 28) (v := ?_) (by simp only [List.getElem?_toArray, List.getElem?_cons_succ, List.getElem?_cons_zero]; rfl) (by kernel_rfl) (by kernel_rfl) (by kernel_rfl) (by intro _ _ _ h; exact h) (Or.inl ⟨by rfl, ?hy⟩) (by assumption) ?_
        case hy => (intro W_ hW_; go_simp; first | done | with_reducible rfl)
        try simp only [Act.put, List.setIfInBounds_toArray, List.set_cons_zero, List.set_cons_succ]
        refine wpAnyH_ready (rs := [29]) (by kernel_rfl) (by simp) ?_
        refine AllReadyH.cons (by simp only [List.getElem?_toArray, List.getElem?_cons_succ, List.getElem?_cons_zero]; rfl) (fun K hK => ?_) AllReadyH.nil
        rw [if_pos (by rfl)]
        have y1_ := Blk.cell HB.out (i := i) (by rw [schedAt_length]; exact hi); have y2_ := Blk.free HB.out i
        go_wp2_with fail
        refine hK.out _ _ (And.intro (by exact Blk.cell_set HB.out (by rw [schedAt_length]; exact of_eq_true n16) (by have := H16.out; omega)) (by exact Blk.cell_set HB.out (by rw [schedAt_length]; exact of_eq_true n7) (by have := H7.out; omega))) (fun hHeld2 => ?_)
        clear hK K hHeld
        have hHeld := hHeld2
        clear hHeld2
        try simp only [Act.put, List.setIfInBounds_toArray, List.set_cons_zero, List.set_cons_succ]
        refine wpAnyH_done (by kernel_rfl) ?_ _
        have HE : Aside0 (later (schedAt l i) i = ((schedAt l i)[z16]?.getD 0 + (schedAt l i)[z7]?.getD 0 + bits BinOp.xor IntKind.u32 (bits BinOp.xor IntKind.u32 (rotr ((schedAt l i)[z15]?.getD 0) 7) (rotr ((schedAt l i)[z15]?.getD 0) 18)) ((schedAt l i)[z15]?.getD 0 / 8) + bits BinOp.xor IntKind.u32 (bits BinOp.xor IntKind.u32 (rotr ((schedAt l i)[z2]?.getD 0) 17) (rotr ((schedAt l i)[z2]?.getD 0) 19)) ((schedAt l i)[z2]?.getD 0 / 1024)) % 4294967296) := ⟨by
          rw [H16.out, H7.out, H15.out, H2.out]; rfl⟩
        clear H16 H7 H15 H2
        go_wp2_with fail
        go_roundg (64 - (i + 1))
        case measure => have := HI.out; omega
        case rel =>
          refine ⟨i + 1, by simp, ⟨rfl, by omega⟩, ⟨?_⟩, ⟨?_⟩, ⟨?_⟩⟩
          · rw [← HE.out]
            simp only [schedAt, if_neg h16]
            exact Blk.set HB.out i _
          · unfold Blk
            rw [heap_setCell_other _ _ _ _ (by simp)]
            exact HZ.out
          · exact below_set (pw_below_drewN HL.out _) (by omega)
    · have d1 : decide (i < 64) = false := decide_eq_false hi
      have d2 : decide ((i : Int) < 64) = false := decide_eq_false (by omega)
      obtain rfl : i = 64 := by have := HI.out; omega
      have hsz : ((schedAt l 64).map (Value.int .u32)).toArray.size = 64 := by simp [schedAt_length]
      have hall : ((schedAt l 64).map (Value.int .u32)).toArray.all (·.oneCell') = true := by simp [Value.oneCell']
      have hB := HB.out
      unfold Blk at hB
      obtain ⟨cs, hcs⟩ : ∃ cs, cs = ((schedAt l 64).map (Value.int .u32)).toArray := ⟨_, rfl⟩
      rw [← hcs] at hB hsz hall
      have HCS := Aside0.mk hcs
      clear hcs
      have HBB := Aside0.mk hB
      have HSZ := Aside0.mk hsz
      have HALL := Aside0.mk hall
      have hst : (storeCells ⟨w.heap.size, 0, none⟩ cs.toList).run Try.prog wr = .ok () (wr.setRow w.heap.size cs) := by
        have := run_storeCells_from (P := Try.prog) w.heap.size 189 cs.toList 0 _ wr HZ.out (by simp [hsz]) (fun v hv => (Array.all_eq_true_iff_forall_mem.1 hall) v (by simpa using hv))
        simpa using this
      have HROW := Aside0.mk (setRow_heap wr w.heap.size _ cs 189 (0, 0) HZ.out)
      have HBL : Aside0 (Below w.heap.size w (wr.setRow w.heap.size cs)) := ⟨⟨HL.out.os, HL.out.tape, HL.out.output, by rw [setRow_size]; exact HL.out.size, fun k hk => by rw [setRow_other _ _ _ _ (by omega)]; exact HL.out.block k hk⟩⟩
      clear hB hall
      go_wp2_with (first
        | ((with_reducible refine gate_dst (N := 85) rfl ?_); refine wpList_load_row rfl 189 (.tmp 3) rfl (w.heap.size + 1) rfl 189 cs (0, 0) _ HBB.out rfl (by kernel_rfl) (by rw [HSZ.out]; kernel_rfl) ?_)
        | fail)
      refine bodyPost_ret (v := .agg cs) ?_ rfl ⟨by rw [HCS.out], HBL.out⟩
      exact results_cell_row (P := Try.prog) Try.results168 _ _ w.heap.size 189 cs (0, 0) _ rfl HROW.out rfl (by kernel_rfl) (by rw [hsz]; kernel_rfl)

end Go.Proofs.Ytchaegfdcdlfaaa.X

/- The check of layer 2 in plain numbers: one bit, one byte, all bytes; it is linear, and one to one. -/
namespace Go.Proofs.Ytchaegfdcdlfaaa.X
set_option linter.unusedVariables false
set_option linter.unusedSimpArgs false

def cpoly : Nat := 3988292384
/-- One bit. -/
def t1 (w : Nat) : Nat := w / 2 ^^^ (if w % 2 = 1 then cpoly else 0)
/-- So many bits. -/
def tn : Nat → Nat → Nat
  | 0, w => w
  | n + 1, w => tn n (t1 w)
theorem tn_succ : ∀ (n w : Nat), tn (n + 1) w = t1 (tn n w)
  | 0, w => rfl
  | n + 1, w => tn_succ n (t1 w)
def crcStep (w c : Nat) : Nat := tn 8 (w ^^^ c)
def crcFrom (w : Nat) (l : List Nat) : Nat := l.foldl crcStep w
def crc (l : List Nat) : Nat := 4294967295 - crcFrom 4294967295 l

theorem xor_lc (a b c : Nat) : a ^^^ (b ^^^ c) = b ^^^ (a ^^^ c) := by rw [← Nat.xor_assoc, Nat.xor_comm a b, Nat.xor_assoc]
theorem t1_xor (a b : Nat) : t1 (a ^^^ b) = t1 a ^^^ t1 b := by
  have h2 : (a ^^^ b) / 2 = a / 2 ^^^ b / 2 := by
    have := Nat.shiftRight_xor_distrib (a := a) (b := b) (i := 1)
    simpa [Nat.shiftRight_eq_div_pow] using this
  have hm : (a ^^^ b) % 2 = (a + b) % 2 := by
    have h1 : ((a ^^^ b) % 2 = 1) ↔ ¬ ((a % 2 = 1) ↔ (b % 2 = 1)) := Nat.xor_mod_two_eq_one
    by_cases h2 : (a ^^^ b) % 2 = 1
    · have := h1.1 h2; omega
    · have := mt h1.2 h2; omega
  unfold t1
  rw [h2, hm]
  generalize a / 2 = x
  generalize b / 2 = y
  rcases Nat.mod_two_eq_zero_or_one a with ha | ha <;> rcases Nat.mod_two_eq_zero_or_one b with hb | hb
  · rw [if_neg (by omega), if_neg (by omega), if_neg (by omega)]; simp
  · rw [if_pos (by omega), if_neg (by omega), if_pos (by omega)]; simp [Nat.xor_assoc]
  · rw [if_pos (by omega), if_pos (by omega), if_neg (by omega)]; rw [Nat.xor_zero, Nat.xor_assoc, Nat.xor_assoc, Nat.xor_comm y cpoly]
  · rw [if_neg (by omega), if_pos (by omega), if_pos (by omega)]
    rw [Nat.xor_zero, Nat.xor_assoc, xor_lc cpoly y cpoly, Nat.xor_self, Nat.xor_zero]
theorem t1_lt {w : Nat} (h : w < 4294967296) : t1 w < 4294967296 := by
  unfold t1
  refine Nat.xor_lt_two_pow (n := 32) (by omega) ?_
  split <;> decide
theorem t1_zero {w : Nat} (h : w < 4294967296) (hz : t1 w = 0) : w = 0 := by
  unfold t1 at hz
  split at hz
  · have : w / 2 = cpoly := by
      have := congrArg (· ^^^ cpoly) hz
      simpa [Nat.xor_assoc] using this
    unfold cpoly at this
    omega
  · simp at hz
    omega
theorem tn_xor : ∀ (n a b : Nat), tn n (a ^^^ b) = tn n a ^^^ tn n b
  | 0, a, b => rfl
  | n + 1, a, b => by simp only [tn]; rw [t1_xor, tn_xor n]
theorem tn_lt : ∀ (n : Nat) {w : Nat}, w < 4294967296 → tn n w < 4294967296
  | 0, _, h => h
  | n + 1, _, h => tn_lt n (t1_lt h)
theorem tn_zero : ∀ (n : Nat) {w : Nat}, w < 4294967296 → tn n w = 0 → w = 0
  | 0, _, _, h => h
  | n + 1, _, h, hz => t1_zero h (tn_zero n (t1_lt h) hz)
theorem xor_eq_zero {a b : Nat} (h : a ^^^ b = 0) : a = b := by
  have := congrArg (· ^^^ b) h
  simpa [Nat.xor_assoc] using this
theorem tn_inj (n : Nat) {a b : Nat} (ha : a < 4294967296) (hb : b < 4294967296) (h : tn n a = tn n b) : a = b := by
  have hx : tn n (a ^^^ b) = 0 := by rw [tn_xor, h, Nat.xor_self]
  exact xor_eq_zero (tn_zero n (Nat.xor_lt_two_pow (n := 32) ha hb) hx)
theorem crcStep_lt {w c : Nat} (hw : w < 4294967296) (hc : c < 256) : crcStep w c < 4294967296 := tn_lt 8 (Nat.xor_lt_two_pow (n := 32) hw (by omega))
theorem crcFrom_lt : ∀ {l : List Nat} {w : Nat}, w < 4294967296 → (∀ c ∈ l, c < 256) → crcFrom w l < 4294967296
  | [], _, h, _ => h
  | c :: l, w, h, hl => crcFrom_lt (l := l) (crcStep_lt h (hl c (by simp))) (fun x hx => hl x (by simp [hx]))
theorem crcStep_inj {w v c : Nat} (hw : w < 4294967296) (hv : v < 4294967296) (hc : c < 256) (h : crcStep w c = crcStep v c) : w = v := by
  have := tn_inj 8 (Nat.xor_lt_two_pow (n := 32) hw (by omega)) (Nat.xor_lt_two_pow (n := 32) hv (by omega)) h
  have := congrArg (· ^^^ c) this
  simpa [Nat.xor_assoc] using this
theorem crcStep_inj_c {w c d : Nat} (hw : w < 4294967296) (hc : c < 256) (hd : d < 256) (h : crcStep w c = crcStep w d) : c = d := by
  have := tn_inj 8 (Nat.xor_lt_two_pow (n := 32) hw (by omega)) (Nat.xor_lt_two_pow (n := 32) hw (by omega)) h
  have := congrArg (w ^^^ ·) this
  simpa [← Nat.xor_assoc] using this
theorem crcFrom_inj : ∀ {l : List Nat} {w v : Nat}, w < 4294967296 → v < 4294967296 → (∀ c ∈ l, c < 256) → crcFrom w l = crcFrom v l → w = v
  | [], _, _, _, _, _, h => h
  | c :: l, w, v, hw, hv, hl, h => crcStep_inj hw hv (hl c (by simp)) (crcFrom_inj (l := l) (crcStep_lt hw (hl c (by simp))) (crcStep_lt hv (hl c (by simp))) (fun x hx => hl x (by simp [hx])) h)
theorem crcFrom_append (w : Nat) (l m : List Nat) : crcFrom w (l ++ m) = crcFrom (crcFrom w l) m := by simp [crcFrom]
/-- One byte alone that differs. -/
theorem crcFrom_set {l : List Nat} {i c : Nat} (hl : ∀ c ∈ l, c < 256) (hi : i < l.length) (hc : c < 256) {w : Nat} (hw : w < 4294967296) (h : crcFrom w (l.set i c) = crcFrom w l) : l.getD i 0 = c := by
  have h1 : l = l.take i ++ l.getD i 0 :: l.drop (i + 1) := by
    have := List.drop_eq_getElem_cons hi
    rw [List.getD_eq_getElem?_getD, List.getElem?_eq_getElem hi, Option.getD_some, ← this, List.take_append_drop]
  have h2 : l.set i c = l.take i ++ c :: l.drop (i + 1) := by rw [List.set_eq_take_append_cons_drop, if_pos hi]
  have hg : l.getD i 0 < 256 := by
    rw [List.getD_eq_getElem?_getD, List.getElem?_eq_getElem hi, Option.getD_some]
    exact hl _ (List.getElem_mem hi)
  rw [h2] at h
  conv at h => rhs; rw [h1]
  rw [crcFrom_append, crcFrom_append] at h
  have ht : crcFrom w (l.take i) < 4294967296 := crcFrom_lt hw (fun x hx => hl x (List.mem_of_mem_take hx))
  have hd : ∀ c ∈ l.drop (i + 1), c < 256 := fun x hx => hl x (List.mem_of_mem_drop hx)
  exact (crcStep_inj_c ht hc hg (crcFrom_inj (crcStep_lt ht hc) (crcStep_lt ht hg) hd h)).symm
theorem crc_set {l : List Nat} {i c : Nat} (hl : ∀ c ∈ l, c < 256) (hi : i < l.length) (hc : c < 256) (h : crc (l.set i c) = crc l) : l.getD i 0 = c := by
  refine crcFrom_set hl hi hc (w := 4294967295) (by omega) ?_
  have h1 : crcFrom 4294967295 l < 4294967296 := crcFrom_lt (by omega) hl
  have h2 : crcFrom 4294967295 (l.set i c) < 4294967296 := crcFrom_lt (by omega) (fun x hx => by
    rcases List.mem_or_eq_of_mem_set hx with hx | rfl
    · exact hl x hx
    · exact hc)
  unfold crc at h
  omega
theorem crc_lt (l : List Nat) : crc l < 4294967296 := by unfold crc; omega

/-- The bits of three lists. -/
def xor3 : List Nat → List Nat → List Nat → List Nat
  | a :: l, b :: m, d :: n => (a ^^^ b ^^^ d) :: xor3 l m n
  | _, _, _ => []
theorem xor4_swap (a b c d : Nat) : (a ^^^ b) ^^^ (c ^^^ d) = (a ^^^ c) ^^^ (b ^^^ d) := by
  rw [Nat.xor_assoc, Nat.xor_assoc, xor_lc b c d]
theorem crcStep_xor3 (u v w a b c : Nat) : crcStep (u ^^^ v ^^^ w) (a ^^^ b ^^^ c) = crcStep u a ^^^ crcStep v b ^^^ crcStep w c := by
  unfold crcStep
  rw [← tn_xor, ← tn_xor]
  congr 1
  rw [xor4_swap (u ^^^ v) w (a ^^^ b) c, xor4_swap u v a b]
theorem crcFrom_xor3 : ∀ (l m n : List Nat) (u v w : Nat), l.length = m.length → m.length = n.length → crcFrom (u ^^^ v ^^^ w) (xor3 l m n) = crcFrom u l ^^^ crcFrom v m ^^^ crcFrom w n
  | [], [], [], u, v, w, _, _ => rfl
  | a :: l, b :: m, c :: n, u, v, w, h1, h2 => by
    show crcFrom (crcStep (u ^^^ v ^^^ w) (a ^^^ b ^^^ c)) (xor3 l m n) = _
    rw [crcStep_xor3, crcFrom_xor3 l m n _ _ _ (by simpa using h1) (by simpa using h2)]
    rfl
theorem not_xor {x : Nat} (h : x < 4294967296) : 4294967295 - x = x ^^^ 4294967295 := by
  apply Nat.eq_of_testBit_eq
  intro i
  have h1 := Nat.testBit_two_pow_sub_succ (x := x) (n := 32) h i
  rw [show 2 ^ 32 - (x + 1) = 4294967295 - x by omega] at h1
  have h2 := Nat.testBit_two_pow_sub_one 32 i
  rw [show 2 ^ 32 - 1 = 4294967295 by decide] at h2
  rw [h1, Nat.testBit_xor, h2]
  by_cases hi : i < 32
  · simp [hi]
  · have : x.testBit i = false := Nat.testBit_lt_two_pow (Nat.lt_of_lt_of_le h (Nat.pow_le_pow_right (n := 2) (i := 32) (by omega) (by omega)))
    simp [hi, this]
theorem crc_xor3 {l m n : List Nat} (h1 : l.length = m.length) (h2 : m.length = n.length) (hl : ∀ c ∈ l, c < 256) (hm : ∀ c ∈ m, c < 256) (hn : ∀ c ∈ n, c < 256) (hx : ∀ c ∈ xor3 l m n, c < 256) : crc (xor3 l m n) = crc l ^^^ crc m ^^^ crc n := by
  have e := crcFrom_xor3 l m n 4294967295 4294967295 4294967295 h1 h2
  rw [show 4294967295 ^^^ 4294967295 ^^^ 4294967295 = 4294967295 by decide] at e
  unfold crc
  rw [not_xor (crcFrom_lt (by omega) hx), not_xor (crcFrom_lt (by omega) hl), not_xor (crcFrom_lt (by omega) hm), not_xor (crcFrom_lt (by omega) hn), e]
  generalize crcFrom 4294967295 l = x
  generalize crcFrom 4294967295 m = y
  generalize crcFrom 4294967295 n = z
  rw [xor4_swap x 4294967295 y 4294967295, Nat.xor_self, Nat.xor_zero, Nat.xor_assoc (x ^^^ y)]
theorem xor3_lt : ∀ {l m n : List Nat}, (∀ c ∈ l, c < 256) → (∀ c ∈ m, c < 256) → (∀ c ∈ n, c < 256) → ∀ c ∈ xor3 l m n, c < 256
  | a :: l, b :: m, d :: n, hl, hm, hn, c, hc => by
    rcases List.mem_cons.1 hc with rfl | hc
    · exact Nat.xor_lt_two_pow (n := 8) (Nat.xor_lt_two_pow (n := 8) (hl a (by simp)) (hm b (by simp))) (hn d (by simp))
    · exact xor3_lt (fun x hx => hl x (by simp [hx])) (fun x hx => hm x (by simp [hx])) (fun x hx => hn x (by simp [hx])) c hc
  | [], _, _, _, _, _, c, hc => by simp [xor3] at hc
  | _ :: _, [], _, _, _, _, c, hc => by simp [xor3] at hc
  | _ :: _, _ :: _, [], _, _, _, c, hc => by simp [xor3] at hc

/-! ### By a table -/
theorem t1_even {w : Nat} (h : w % 2 = 0) : t1 w = w / 2 := by
  unfold t1
  rw [if_neg (by omega), Nat.xor_zero]
theorem tn_even : ∀ (n w : Nat), w % 2 ^ n = 0 → tn n w = w / 2 ^ n
  | 0, w, _ => by simp [tn]
  | n + 1, w, h => by
    have hp : 2 ^ (n + 1) = 2 * 2 ^ n := by rw [Nat.pow_succ, Nat.mul_comm]
    have h2 : w % 2 = 0 := by
      rw [hp] at h
      have := Nat.mod_mul_right_mod w 2 (2 ^ n)
      rw [h] at this
      omega
    have h3 : w / 2 % 2 ^ n = 0 := by
      have := Nat.mod_mul (x := w) (a := 2) (b := 2 ^ n)
      rw [← hp, h] at this
      omega
    rw [tn, t1_even h2, tn_even n (w / 2) h3, hp, Nat.div_div_eq_div_mul]
theorem split8 (x : Nat) : x = (x % 256) ^^^ (x / 256 * 256) := by
  apply Nat.eq_of_testBit_eq
  intro i
  have e1 : (x % 256).testBit i = (decide (i < 8) && x.testBit i) := Nat.testBit_mod_two_pow x 8 i
  have e2 : (x / 256 * 256).testBit i = (decide (8 ≤ i) && x.testBit i) := by
    have h1 : x / 256 * 256 = (x >>> 8) <<< 8 := by rw [Nat.shiftRight_eq_div_pow, Nat.shiftLeft_eq]
    rw [h1, Nat.testBit_shiftLeft, Nat.testBit_shiftRight]
    by_cases h : 8 ≤ i
    · simp [h]
    · simp [h]
  rw [Nat.testBit_xor, e1, e2]
  by_cases h : i < 8
  · simp [h, Nat.not_le.2 h]
  · simp [h, Nat.not_lt.1 h]
/-- What a byte comes to. -/
theorem step_table (w c : Nat) (hc : c < 256) : tn 8 ((w % 256) ^^^ c) ^^^ (w / 256) = crcStep w c := by
  have hx : (w ^^^ c) % 256 = (w % 256) ^^^ c := by
    have := Nat.xor_mod_two_pow (a := w) (b := c) (n := 8)
    rw [show (2 : Nat) ^ 8 = 256 by decide] at this
    rw [this, Nat.mod_eq_of_lt hc]
  have hd : (w ^^^ c) / 256 = w / 256 := by
    have := Nat.shiftRight_xor_distrib (a := w) (b := c) (i := 8)
    simp only [Nat.shiftRight_eq_div_pow] at this
    rw [show (2 : Nat) ^ 8 = 256 by decide] at this
    rw [this, Nat.div_eq_of_lt hc, Nat.xor_zero]
  unfold crcStep
  conv => rhs; rw [split8 (w ^^^ c), tn_xor, hx, hd]
  rw [tn_even 8 (w / 256 * 256) (by omega)]
  congr 1
  omega
theorem xor_byte_lt {w c : Nat} (hc : c < 256) : (w % 256) ^^^ c < 256 := Nat.xor_lt_two_pow (n := 8) (by omega) hc
end Go.Proofs.Ytchaegfdcdlfaaa.X
