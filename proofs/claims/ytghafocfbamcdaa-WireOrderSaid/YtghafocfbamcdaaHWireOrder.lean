/- For every input of the law WireOrder its answer is true: the walk, by hand. -/
import Derived.WalkLawsBesides
import Derived.Test.YtghafocfbamcdaaWTools
namespace Go.Proofs.Ytghafocfbamcdaa.X
set_option linter.unusedVariables false
set_option linter.unusedSimpArgs false
open Go.RowKit Go.Proofs.YtghafocfbamcdaaW.PrintWords Go.Proofs.YtghafocfbamcdaaW.PrintLast Go.Proofs.YtghafocfbamcdaaW.PrintMore

/-! ### The order of numbers is that of their bytes -/
def lexLt : List Int → List Int → Prop
  | x :: l, y :: m => x < y ∨ (x = y ∧ lexLt l m)
  | _, _ => False
/-- Two lists of as many places, marked alike at each place. -/
def Alike : List Int → List Int → Prop
  | [], [] => True
  | x :: l, y :: m => (0 ≤ x ∧ x ≤ 255 ∧ 0 ≤ y ∧ y ≤ 255 ∧ (x < 128 ↔ y < 128)) ∧ Alike l m
  | _, _ => False
def VA (a : Nat) (l : List Int) : Nat := l.foldl (fun a x => a * 128 + (x % 128).toNat) a
theorem VA_mono_lt (l m : List Int) (h : l.length = m.length) : ∀ a b, a < b → VA a l < VA b m := by
  induction l generalizing m with
  | nil => intro a b hab; cases m with
    | nil => exact hab
    | cons y m => simp at h
  | cons x l ih =>
    intro a b hab
    cases m with
    | nil => simp at h
    | cons y m =>
      show VA (a * 128 + (x % 128).toNat) l < VA (b * 128 + (y % 128).toNat) m
      exact ih m (by simpa using h) _ _ (by omega)
theorem alike_length {l m : List Int} (h : Alike l m) : l.length = m.length := by
  induction l generalizing m with
  | nil => cases m with
    | nil => rfl
    | cons y m => exact h.elim
  | cons x l ih => cases m with
    | nil => exact h.elim
    | cons y m => simp [ih h.2]
theorem lex_of_VA (l m : List Int) (h : Alike l m) : ∀ a, VA a l < VA a m → lexLt l m := by
  induction l generalizing m with
  | nil => intro a hv; cases m with
    | nil => simp [VA] at hv
    | cons y m => exact h.elim
  | cons x l ih =>
    intro a hv
    cases m with
    | nil => exact h.elim
    | cons y m =>
      obtain ⟨hx, hr⟩ := h
      have hl := alike_length hr
      rcases Int.lt_trichotomy x y with hxy | hxy | hxy
      · exact .inl hxy
      · subst hxy
        exact .inr ⟨rfl, ih m hr _ hv⟩
      · exfalso
        have : VA (a * 128 + (y % 128).toNat) m < VA (a * 128 + (x % 128).toNat) l := VA_mono_lt m l hl.symm _ _ (by omega)
        have hv' : VA (a * 128 + (x % 128).toNat) l < VA (a * 128 + (y % 128).toNat) m := hv
        omega
theorem bytesLess_of_lex (l m : List Int) (hl : Bytes l) (hm : Bytes m) (h : lexLt l m) : Op.bytesLess (l.map fun n => UInt8.ofNat n.toNat) (m.map fun n => UInt8.ofNat n.toNat) = true := by
  induction l generalizing m with
  | nil => cases m <;> exact h.elim
  | cons x l ih =>
    cases m with
    | nil => exact h.elim
    | cons y m =>
      have bx := hl x (by simp)
      have bY := hm y (by simp)
      simp only [List.map_cons, Op.bytesLess, Bool.or_eq_true, Bool.and_eq_true, decide_eq_true_eq, beq_iff_eq]
      rcases h with h | ⟨rfl, h⟩
      · left
        rw [UInt8.lt_iff_toNat_lt]
        simp
        omega
      · right
        exact ⟨rfl, ih m (fun z hz => hl z (by simp [hz])) (fun z hz => hm z (by simp [hz])) h⟩
theorem alike_marks (q q' : List Int) (hq : ∀ x ∈ q, 128 ≤ x ∧ x ≤ 255) (hq' : ∀ x ∈ q', 128 ≤ x ∧ x ≤ 255) (h : q.length = q'.length) (c d : Int) (hc : 0 ≤ c ∧ c < 128) (hd : 0 ≤ d ∧ d < 128) : Alike (q ++ [c]) (q' ++ [d]) := by
  induction q generalizing q' with
  | nil => cases q' with
    | nil => exact ⟨by omega, trivial⟩
    | cons y q' => simp at h
  | cons x q ih => cases q' with
    | nil => simp at h
    | cons y q' =>
      have := hq x (by simp)
      have := hq' y (by simp)
      exact ⟨by omega, ih q' (fun z hz => hq z (by simp [hz])) (fun z hz => hq' z (by simp [hz])) (by simpa using h)⟩
theorem put_less (n m : Nat) (h : n < m) (hl : (put n).length = (put m).length) : Op.bytesLess (strOfNums (put n)).toList (strOfNums (put m)).toList = true := by
  rw [ByteArray.toList_eq, ByteArray.toList_eq, strOfNums_data, strOfNums_data]
  refine bytesLess_of_lex _ _ (put_range n) (put_range m) ?_
  obtain ⟨q, c, e, hq, h0, h1⟩ := put_form n
  obtain ⟨q', c', e', hq', h0', h1'⟩ := put_form m
  have ha : Alike (put n) (put m) := by
    rw [e, e'] at hl ⊢
    exact alike_marks q q' hq.1 hq'.1 (by simpa using hl) c c' ⟨h0, h1⟩ ⟨h0', h1'⟩
  refine lex_of_VA _ _ ha 0 ?_
  have e1 := V_put n
  have e2 := V_put m
  unfold V at e1 e2
  unfold VA
  omega
theorem bytesLess_asymm (l m : List UInt8) (h : Op.bytesLess l m = true) : Op.bytesLess m l = false := by
  induction l generalizing m with
  | nil => cases m <;> simp [Op.bytesLess]
  | cons x l ih =>
    cases m with
    | nil => simp [Op.bytesLess] at h
    | cons y m =>
      simp only [Op.bytesLess, Bool.or_eq_true, Bool.and_eq_true, decide_eq_true_eq, beq_iff_eq] at h
      simp only [Op.bytesLess, Bool.or_eq_false_iff, Bool.and_eq_false_iff, decide_eq_false_iff_not, beq_eq_false_iff_ne]
      rw [UInt8.lt_iff_toNat_lt] at *
      rcases h with h | ⟨rfl, h⟩
      · exact ⟨by omega, .inl fun e => by subst e; omega⟩
      · exact ⟨by omega, .inr (ih m h)⟩
/-- A greater number has no fewer bytes. -/
theorem put_longer (n m : Nat) (h : n < m) : (put n).length ≤ (put m).length := by
  rcases Nat.lt_or_ge (put m).length (put n).length with h2 | h2
  · exfalso
    obtain ⟨q, c, e, hq, h0, h1⟩ := put_form n
    obtain ⟨q', c', e', hq', h0', h1'⟩ := put_form m
    have e1 := V_put n
    have e2 := V_put m
    have l1 : (put n).length = q.length + 1 := by rw [e]; simp
    have l2 : (put m).length = q'.length + 1 := by rw [e']; simp
    have hne : q ≠ [] := by intro e3; rw [e3] at l1; simp at l1; omega
    have g1 := marks_V_ge q hq hne
    have g2 := V_lt q'
    rw [e, V_snoc] at e1
    rw [e', V_snoc] at e2
    have g3 : 128 ^ q'.length ≤ 128 ^ (q.length - 1) := Nat.pow_le_pow_right (by decide) (by omega)
    omega
  · exact h2
theorem put_begin (n m : Nat) (h : n ≠ m) : put n ≠ (put m).take (put n).length := by
  intro e
  have hp : put n <+: put m := by rw [e]; exact List.take_prefix _ _
  exact h (put_unique hp (List.prefix_refl _))

set_option maxHeartbeats 800000 in
set_option maxRecDepth 100000 in
theorem order_same (n : Nat) (hn : n < 18446744073709551616) (w : World) :
    Calls Try.prog 5 #[.int .u64 n, .int .u64 n] w fun e w' => e = .returned (.bool true) ∧ Below w.heap.size w w' := by
  have c1 : decide (n < n) = false := decide_eq_false (by omega)
  have HN := Aside0.mk hn
  clear hn
  go_enter Try.func5, Try.ntmps5
  go_wp2_with fail
  refine (awake_call _).mono ?_
  rintro e w1 ⟨rfl, hb1⟩
  go_wp2_with fail
  refine (put_call n HN.out _).mono ?_
  rintro e w2 ⟨A, c, rfl, hc, hA, hb2⟩
  go_wp2_with fail
  refine (put_call n HN.out _).mono ?_
  rintro e w3 ⟨B, d, rfl, hd, hB, hb3⟩
  have hA3 := rdb_below hA hb3
  have hb : Below w.heap.size w w3 := (hb1.trans (hb2.mono hb1.size)).trans (hb3.mono (Nat.le_trans hb1.size hb2.size))
  clear hA hB hA3 hb1 hb2 hb3 hc hd
  go_wp2_with fail
  go_quiet (fail)
  go_wp2_with fail
  go_ret
  exact ⟨rfl, pw_below_drewN hb _⟩

set_option maxHeartbeats 800000 in
set_option maxRecDepth 100000 in
theorem order_less (n m : Nat) (hn : n < 18446744073709551616) (hm : m < 18446744073709551616) (h : n < m) (hl : (put n).length < (put m).length) (w : World) :
    Calls Try.prog 5 #[.int .u64 n, .int .u64 m] w fun e w' => e = .returned (.bool true) ∧ Below w.heap.size w w' := by
  have c1 : decide (n < m) = true := decide_eq_true (by omega)
  have c2 : decide ((put m).length < (put n).length) = false := decide_eq_false (by omega)
  have c3 : ((put n).length == (put m).length) = false := by simp; omega
  have c3' : (((put n).length : Int) == ((put m).length : Int)) = false := by simp; omega
  have c4 : ((n : Int) == (m : Int)) = false := by simp; omega
  have LE : (put n).length ≤ (put m).length := by omega
  have sne : ((strOfNums (put n)).toList == (strOfNums ((put m).take (put n).length)).toList) = false := by
    rw [beq_eq_false_iff_ne]
    intro e
    exact put_begin n m (by omega) ((strs_inj (put_range n) (fun x hx => put_range m x (List.mem_of_mem_take hx))).1 e)
  have sne' : ((strOfNums (put n)).toList != (strOfNums ((put m).take (put n).length)).toList) = true := by rw [bne, sne]; rfl
  have HN := Aside0.mk hn
  have HM := Aside0.mk hm
  clear hn hm
  go_enter Try.func5, Try.ntmps5
  go_wp2_with fail
  refine (awake_call _).mono ?_
  rintro e w1 ⟨rfl, hb1⟩
  go_wp2_with fail
  refine (put_call n HN.out _).mono ?_
  rintro e w2 ⟨A, c, rfl, hc, hA, hb2⟩
  go_wp2_with fail
  refine (put_call m HM.out _).mono ?_
  rintro e w3 ⟨B, d, rfl, hd, hB, hb3⟩
  have hA3 := rdb_below hA hb3
  have hb : Below w.heap.size w w3 := (hb1.trans (hb2.mono hb1.size)).trans (hb3.mono (Nat.le_trans hb1.size hb2.size))
  have v1 := conv0 hA3 c
  have v2 := conv0 hB d
  have v3 := conv hA3 c
  have v4 := conv (rdb_take hB (put n).length LE) d
  have LE' : (put n).length ≤ (put m).length := LE
  clear hA hB hA3 hb1 hb2 hb3 hc
  go_wp2_with fail
  go_quiet (fail)
  go_wp2_with fail
  go_ret
  exact ⟨rfl, pw_below_drewN hb _⟩

set_option maxHeartbeats 800000 in
set_option maxRecDepth 100000 in
theorem order_as (n m : Nat) (hn : n < 18446744073709551616) (hm : m < 18446744073709551616) (h : n < m) (hl : (put n).length = (put m).length) (w : World) :
    Calls Try.prog 5 #[.int .u64 n, .int .u64 m] w fun e w' => e = .returned (.bool true) ∧ Below w.heap.size w w' := by
  have c1 : decide (n < m) = true := decide_eq_true (by omega)
  have c2 : decide ((put m).length < (put n).length) = false := decide_eq_false (by omega)
  have c3 : ((put n).length == (put m).length) = true := by simp; omega
  have c3' : (((put n).length : Int) == ((put m).length : Int)) = true := by simp; omega
  have c4 : ((n : Int) == (m : Int)) = false := by simp; omega
  have LE : (put n).length ≤ (put m).length := by omega
  have bl := put_less n m h hl
  have bl' := bytesLess_asymm _ _ bl
  have sne : ((strOfNums (put n)).toList == (strOfNums ((put m).take (put n).length)).toList) = false := by
    rw [beq_eq_false_iff_ne]
    intro e
    exact put_begin n m (by omega) ((strs_inj (put_range n) (fun x hx => put_range m x (List.mem_of_mem_take hx))).1 e)
  have sne' : ((strOfNums (put n)).toList != (strOfNums ((put m).take (put n).length)).toList) = true := by rw [bne, sne]; rfl
  have sne2 : ((strOfNums (put n)).toList == (strOfNums (put m)).toList) = false := by
    rw [beq_eq_false_iff_ne]
    intro e
    exact put_begin n m (by omega) (by rw [hl, List.take_length]; exact (strs_inj (put_range n) (put_range m)).1 e)
  have sne3 : ((strOfNums (put n)).toList != (strOfNums (put m)).toList) = true := by rw [bne, sne2]; rfl
  clear hl
  have HN := Aside0.mk hn
  have HM := Aside0.mk hm
  clear hn hm
  go_enter Try.func5, Try.ntmps5
  go_wp2_with fail
  refine (awake_call _).mono ?_
  rintro e w1 ⟨rfl, hb1⟩
  go_wp2_with fail
  refine (put_call n HN.out _).mono ?_
  rintro e w2 ⟨A, c, rfl, hc, hA, hb2⟩
  go_wp2_with fail
  refine (put_call m HM.out _).mono ?_
  rintro e w3 ⟨B, d, rfl, hd, hB, hb3⟩
  have hA3 := rdb_below hA hb3
  have hb : Below w.heap.size w w3 := (hb1.trans (hb2.mono hb1.size)).trans (hb3.mono (Nat.le_trans hb1.size hb2.size))
  have v1 := conv0 hA3 c
  have v2 := conv0 hB d
  have v3 := conv hA3 c
  have v4 := conv (rdb_take hB (put n).length LE) d
  have LE' : (put n).length ≤ (put m).length := LE
  have v5 := conv hB d
  clear hA hB hA3 hb1 hb2 hb3 hc
  go_wp2_with fail
  go_quiet (fail)
  go_wp2_with fail
  go_ret
  exact ⟨rfl, pw_below_drewN hb _⟩

set_option maxHeartbeats 800000 in
set_option maxRecDepth 100000 in
theorem order_more (n m : Nat) (hn : n < 18446744073709551616) (hm : m < 18446744073709551616) (h : m < n) (hl : (put m).length < (put n).length) (w : World) :
    Calls Try.prog 5 #[.int .u64 n, .int .u64 m] w fun e w' => e = .returned (.bool true) ∧ Below w.heap.size w w' := by
  have c1 : decide (n < m) = false := decide_eq_false (by omega)
  have c2 : decide ((put m).length < (put n).length) = true := decide_eq_true (by omega)
  have c4 : ((n : Int) == (m : Int)) = false := by simp; omega
  have HN := Aside0.mk hn
  have HM := Aside0.mk hm
  clear hn hm
  go_enter Try.func5, Try.ntmps5
  go_wp2_with fail
  refine (awake_call _).mono ?_
  rintro e w1 ⟨rfl, hb1⟩
  go_wp2_with fail
  refine (put_call n HN.out _).mono ?_
  rintro e w2 ⟨A, c, rfl, hc, hA, hb2⟩
  go_wp2_with fail
  refine (put_call m HM.out _).mono ?_
  rintro e w3 ⟨B, d, rfl, hd, hB, hb3⟩
  have hA3 := rdb_below hA hb3
  have hb : Below w.heap.size w w3 := (hb1.trans (hb2.mono hb1.size)).trans (hb3.mono (Nat.le_trans hb1.size hb2.size))
  clear hA hB hA3 hb1 hb2 hb3 hc hd
  go_wp2_with fail
  go_quiet (fail)
  go_wp2_with fail
  go_ret
  exact ⟨rfl, pw_below_drewN hb _⟩

set_option maxHeartbeats 800000 in
set_option maxRecDepth 100000 in
theorem order_bs (n m : Nat) (hn : n < 18446744073709551616) (hm : m < 18446744073709551616) (h : m < n) (hl : (put n).length = (put m).length) (w : World) :
    Calls Try.prog 5 #[.int .u64 n, .int .u64 m] w fun e w' => e = .returned (.bool true) ∧ Below w.heap.size w w' := by
  have c1 : decide (n < m) = false := decide_eq_false (by omega)
  have c2 : decide ((put m).length < (put n).length) = false := decide_eq_false (by omega)
  have c4 : ((n : Int) == (m : Int)) = false := by simp; omega
  have LE : (put n).length ≤ (put m).length := by omega
  have sne : ((strOfNums (put n)).toList == (strOfNums ((put m).take (put n).length)).toList) = false := by
    rw [beq_eq_false_iff_ne]
    intro e
    exact put_begin n m (by omega) ((strs_inj (put_range n) (fun x hx => put_range m x (List.mem_of_mem_take hx))).1 e)
  have sne' : ((strOfNums (put n)).toList != (strOfNums ((put m).take (put n).length)).toList) = true := by rw [bne, sne]; rfl
  clear hl
  have HN := Aside0.mk hn
  have HM := Aside0.mk hm
  clear hn hm
  go_enter Try.func5, Try.ntmps5
  go_wp2_with fail
  refine (awake_call _).mono ?_
  rintro e w1 ⟨rfl, hb1⟩
  go_wp2_with fail
  refine (put_call n HN.out _).mono ?_
  rintro e w2 ⟨A, c, rfl, hc, hA, hb2⟩
  go_wp2_with fail
  refine (put_call m HM.out _).mono ?_
  rintro e w3 ⟨B, d, rfl, hd, hB, hb3⟩
  have hA3 := rdb_below hA hb3
  have hb : Below w.heap.size w w3 := (hb1.trans (hb2.mono hb1.size)).trans (hb3.mono (Nat.le_trans hb1.size hb2.size))
  have v1 := conv0 hA3 c
  have v2 := conv0 hB d
  have v3 := conv hA3 c
  have v4 := conv (rdb_take hB (put n).length LE) d
  have LE' : (put n).length ≤ (put m).length := LE
  clear hA hB hA3 hb1 hb2 hb3 hc
  go_wp2_with fail
  go_quiet (fail)
  go_wp2_with fail
  go_ret
  exact ⟨rfl, pw_below_drewN hb _⟩

theorem rolodexlaw01_WireOrder.walk (a0 : Int) (a1 : Int) (w : World) (w0 : (Lit.int .u64 a0).wf = true) (w1 : (Lit.int .u64 a1).wf = true) :
    Calls Try.prog 5 #[.int .u64 a0, .int .u64 a1] w fun e w' => e = .returned (.bool true) ∧ Below w.heap.size w w' := by
  simp only [Lit.wf, IntKind.min, IntKind.max, IntKind.bits, IntKind.signed, Bool.and_eq_true, decide_eq_true_eq] at w0 w1
  simp at w0 w1
  obtain ⟨n, rfl⟩ := Int.eq_ofNat_of_zero_le w0.1
  obtain ⟨m, rfl⟩ := Int.eq_ofNat_of_zero_le w1.1
  have hn : n < 18446744073709551616 := by omega
  have hm : m < 18446744073709551616 := by omega
  rcases Nat.lt_trichotomy n m with h | h | h
  · have := put_longer n m h
    by_cases hl : (put n).length = (put m).length
    · exact order_as n m hn hm h hl w
    · exact order_less n m hn hm h (by omega) w
  · subst h; exact order_same n hn w
  · have := put_longer m n h
    by_cases hl : (put n).length = (put m).length
    · exact order_bs n m hn hm h hl w
    · exact order_more n m hn hm h (by omega) w

end Go.Proofs.Ytghafocfbamcdaa.X
