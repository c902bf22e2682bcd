/- For every input of the law WireParts its answer is true (more than 20 numbers are let by): the walk, by hand. -/
import Derived.WalkLawsBesides
import Derived.Test.YtghafocfbamcdaaWTools
namespace Go.Proofs.Ytghafocfbamcdaa.X
set_option linter.unusedVariables false
set_option linter.unusedSimpArgs false
open Go.RowKit Go.Proofs.YtghafocfbamcdaaW.PrintWords Go.Proofs.YtghafocfbamcdaaW.PrintLast Go.Proofs.YtghafocfbamcdaaW.PrintMore

/-- The numbers' bytes, one number behind the other. -/
def cat (l : List Int) : List Int := l.flatMap fun n => put n.toNat
theorem cat_nil : cat [] = [] := rfl
theorem cat_bytes (l : List Int) : Bytes (cat l) := by
  intro x hx
  obtain ⟨n, _, h⟩ := List.mem_flatMap.1 hx
  exact put_range _ x h
theorem rd_get {l : List Int} {i : Nat} (h : i < l.length) : rd l (i : Int) = l[i] := by
  simp [rd, h]
theorem cat_take {l : List Int} {i : Nat} (h : i < l.length) : cat (l.take (i + 1)) = cat (l.take i) ++ put (rd l (i : Int)).toNat := by
  rw [rd_get h, ← List.take_append_getElem h]
  unfold cat
  rw [List.flatMap_append, List.flatMap_cons, List.flatMap_nil, List.append_nil]
theorem cat_drop {l : List Int} {i : Nat} (h : i < l.length) : cat (l.drop i) = put (rd l (i : Int)).toNat ++ cat (l.drop (i + 1)) := by
  rw [rd_get h, List.drop_eq_getElem_cons h]
  unfold cat
  rw [List.flatMap_cons]
theorem cat_length (l : List Int) (h : ∀ x ∈ l, x < 18446744073709551616) : (cat l).length ≤ 10 * l.length := by
  induction l with
  | nil => simp [cat]
  | cons a l ih =>
    have h1 := put_length a.toNat (by have := h a (by simp); omega)
    have h2 := ih (fun x hx => h x (by simp [hx]))
    simp only [cat, List.flatMap_cons, List.length_append, List.length_cons] at h2 ⊢
    omega
theorem wrap_up (i : Nat) (h : i < 1000000) : IntKind.i64.wrap ((i : Int) + 1) = ((i + 1 : Nat) : Int) := by
  rw [i64_w, wrap64_small _ (by omega) (by omega)]; omega

set_option maxHeartbeats 800000 in
set_option maxRecDepth 100000 in
theorem parts_long (A0 : Option Addr) (c0 : Nat) (l : List Int) (w : World) (h : 20 < l.length) :
    Calls Try.prog 7 #[.slice A0 l.length c0] w fun e w' => e = .returned (.bool true) ∧ Below w.heap.size w w' := by
  have c1' : decide (20 < l.length) = true := decide_eq_true (by omega)
  have c2' : decide (20 < (l.length : Int)) = true := decide_eq_true (by omega)
  go_enter Try.func7, Try.ntmps7
  go_wp2_with fail
  refine (awake_call _).mono ?_
  rintro e w1 ⟨rfl, hb1⟩
  go_wp2_with fail
  go_ret
  exact ⟨rfl, hb1⟩

set_option maxHeartbeats 1000000 in
set_option maxRecDepth 100000 in
theorem parts_yes (A0 : Option Addr) (c0 : Nat) (l : List Int) (w : World) (hr0 : Kd.C (Kd.int .u64) w A0 l.length l) (hc0 : l.length ≤ c0) (hw : ∀ x ∈ l, 0 ≤ x ∧ x < 18446744073709551616) (h : l.length ≤ 20) :
    Calls Try.prog 7 #[.slice A0 l.length c0] w fun e w' => e = .returned (.bool true) ∧ Below w.heap.size w w' := by
  have c1' : decide (20 < l.length) = false := decide_eq_false (by omega)
  have c2' : decide (20 < (l.length : Int)) = false := decide_eq_false (by omega)
  have HR := Aside0.mk hr0
  have HW := Aside0.mk hw
  clear hr0 hw
  go_enter Try.func7, Try.ntmps7
  go_wp2_with fail
  refine (awake_call _).mono ?_
  rintro e w1 ⟨rfl, hb1⟩
  have HB := Aside0.mk hb1
  clear hb1
  go_wp2_with fail
  go_loopg [4, 5] l.length (fun k v4 v5 w' => ∃ i : Nat, v5 = .int .i64 (i : Int) ∧ Aside0 (k = l.length - i ∧ i ≤ l.length) ∧ Aside0 (w'.ownsRow w.heap.size 5 1 v4 (cat (l.take i)).length (nums .u8 (cat (l.take i)))) ∧ Aside0 (Below w.heap.size w w'))
  case atStart => exact ⟨0, rfl, ⟨by omega, by omega⟩, ⟨own_nil _ _ _ _⟩, HB⟩
  case round =>
    obtain ⟨i, rfl, HI, HO, HB1⟩ := hrel
    by_cases hi : i < l.length
    · have d1 : decide ((i : Int) < (l.length : Int)) = true := decide_eq_true (by omega)
      have d2 : decide (i < l.length) = true := decide_eq_true hi
      obtain ⟨ad, e1, hx⟩ := Kd.at_int HR.out (i : Int) (by omega) (by omega)
      cases e1
      replace hx := (HB1.out.cell (World.block_lt_of_cell? w _ hx)).trans hx
      simp only [Int.toNat_natCast] at hx
      have p1 : (0 ≤ (i : Int)) = True := eq_true (by omega)
      have p2 : ((i : Int) < (l.length : Int)) = True := eq_true (by omega)
      obtain ⟨n, hn0⟩ := Int.eq_ofNat_of_zero_le (HW.out (rd l i) (by rw [rd_get hi]; exact List.getElem_mem hi)).1
      have HN := Aside0.mk hn0
      have HN1 : Aside0 (n < 18446744073709551616) := ⟨by have := (HW.out (rd l i) (by rw [rd_get hi]; exact List.getElem_mem hi)).2; omega⟩
      rw [hn0] at hx
      clear hn0
      have hwr := wrap_up i (by omega)
      go_wp2_with fail
      refine (put_call n HN1.out _).mono ?_
      rintro e w2 ⟨A, c, rfl, hc, hA, hb2⟩
      have HO2 := pw_own_below HO.out hb2
      have hB2 : Below w.heap.size w w2 := HB1.out.trans (hb2.mono HB1.out.size)
      have hlen := cat_length (l.take i) (fun x hx => (HW.out x (List.mem_of_mem_take hx)).2)
      have hpl := put_length n HN1.out
      have ht : (l.take i).length ≤ 20 := by rw [List.length_take]; omega
      go_wp2_with (first
        | ((with_reducible refine gate_builtin (b := .append) (xs := #[.tmp 25, .tmp 30]) rfl ?_); at_builtin; refine print_append_row (w0 := w) w.heap.size rfl _ _ 23 5 .u8 1 rfl Try.underlying23 info5 (by decide) _ (cat (l.take i)) (put n) A (put n).length c rfl rfl HO2 (Kd.reads_of_C hA) hB2 hB2.size (by omega) ?_; intro v1 w3 ho3 hB3 hg3 _)
        | fail)
      go_roundg (l.length - (i + 1))
      case measure => have := HI.out; omega
      case rel => exact ⟨i + 1, rfl, ⟨rfl, by omega⟩, ⟨by rw [cat_take hi, HN.out]; exact ho3⟩, ⟨hB3⟩⟩
    · have d1 : decide ((i : Int) < (l.length : Int)) = false := decide_eq_false (by omega)
      have d2 : decide (i < l.length) = false := decide_eq_false hi
      have hil : i = l.length := by have := HI.out; omega
      subst hil
      rw [List.take_length] at HO
      obtain ⟨A, c, rfl, hc, hA⟩ := own_row HO.out
      clear HO HI
      have HA := Aside0.mk hA
      clear hA
      go_wp2_with fail
      go_loopg [4, 6] l.length (fun k v4 v6 w' => ∃ (i : Nat) (A : Option Addr) (c : Nat), v6 = .int .i64 (i : Int) ∧ v4 = .slice A (cat (l.drop i)).length c ∧ Aside0 ((cat (l.drop i)).length ≤ c) ∧ Aside0 (k = l.length - i ∧ i ≤ l.length) ∧ Aside0 (RdB w' A (cat (l.drop i)).length (cat (l.drop i))) ∧ Aside0 (Below w.heap.size w w'))
      case atStart => exact ⟨0, A, c, rfl, rfl, ⟨hc⟩, ⟨by omega, by omega⟩, HA, HB1⟩
      case round =>
        clear HA HB1 d1 d2
        obtain ⟨i, A, c, rfl, rfl, HC, HI, HA, HB1⟩ := hrel
        by_cases hi : i < l.length
        · have d1 : decide ((i : Int) < (l.length : Int)) = true := decide_eq_true (by omega)
          have d2 : decide (i < l.length) = true := decide_eq_true hi
          obtain ⟨ad, e1, hx⟩ := Kd.at_int HR.out (i : Int) (by omega) (by omega)
          cases e1
          replace hx := (HB1.out.cell (World.block_lt_of_cell? w _ hx)).trans hx
          simp only [Int.toNat_natCast] at hx
          have p1 : (0 ≤ (i : Int)) = True := eq_true (by omega)
          have p2 : ((i : Int) < (l.length : Int)) = True := eq_true (by omega)
          obtain ⟨n, hn0⟩ := Int.eq_ofNat_of_zero_le (HW.out (rd l i) (by rw [rd_get hi]; exact List.getElem_mem hi)).1
          have HN1 : Aside0 (n < 18446744073709551616) := ⟨by have := (HW.out (rd l i) (by rw [rd_get hi]; exact List.getElem_mem hi)).2; omega⟩
          have hq := cat_drop hi
          have hlen := cat_length (l.drop i) (fun x hx => (HW.out x (List.mem_of_mem_drop hx)).2)
          have ht : (l.drop i).length ≤ 20 := by rw [List.length_drop]; omega
          have hqb := cat_bytes (l.drop i)
          rw [hn0] at hx hq
          rw [Int.toNat_natCast] at hq
          clear hn0
          have hwr := wrap_up i (by omega)
          generalize hs : cat (l.drop (i + 1)) = s at hq
          generalize hg : cat (l.drop i) = q at hq HA HC hlen hqb ⊢
          clear hg
          have HG := Aside0.mk hs
          have hl1 : q.length = (put n).length + s.length := by rw [hq]; exact List.length_append
          have hg : IsGet q ((n : Int), ((put n).length : Int), true) := by rw [hq]; exact isGet_put n HN1.out s
          have hdq : q.drop (put n).length = s := by rw [hq]; exact List.drop_left
          have hlq : q.length - (put n).length = s.length := by omega
          have d3 : decide (q.length < (put n).length) = false := decide_eq_false (by omega)
          have d4 : decide ((q.length : Int) < ((put n).length : Int)) = false := decide_eq_false (by omega)
          have d5 : ((n : Int) != (n : Int)) = false := by simp
          obtain ⟨A2, hcut, hA2, hc2⟩ := rdb_drop A c q (put n).length (by omega) HC.out
          rw [hdq, hlq] at hA2
          rw [hlq] at hcut hc2
          have HA2 := Aside0.mk hA2
          have HLEN : Aside0 (q.length ≤ 200) := ⟨by omega⟩
          have HHG := Aside0.mk hg
          have HQB := Aside0.mk hqb
          have HL := Aside0.mk hl1
          clear hs hg hq hA2 hlen ht hdq hlq hqb hl1
          go_wp2_with fail
          refine (get_call HHG.out HQB.out (by have := HC.out; have := HLEN.out; omega) A c _ HA.out HC.out).mono ?_
          rintro e w2 ⟨rfl, q2, rfl⟩
          have hx2 : (wr.drewN q2).cell? (ad.add i) = some (.int .u64 (n : Int)) := hx
          have HB2 := Aside0.mk (pw_below_drewN HB1.out q2)
          go_wp2_with fail
          go_roundg (l.length - (i + 1))
          case measure => have := HI.out; omega
          case rel => exact ⟨i + 1, A2, c - (put n).length, rfl, by rw [HG.out], ⟨by rw [HG.out]; exact hc2⟩, ⟨rfl, by omega⟩, ⟨by rw [HG.out]; exact HA2.out _ (rdb_drewN HA.out q2)⟩, ⟨pw_below_drewN HB1.out q2⟩⟩
        · have d1 : decide ((i : Int) < (l.length : Int)) = false := decide_eq_false (by omega)
          have d2 : decide (i < l.length) = false := decide_eq_false hi
          have hil : i = l.length := by have := HI.out; omega
          subst hil
          have hz : (cat (l.drop l.length)).length = 0 := by rw [List.drop_length]; rfl
          rw [hz]
          go_wp2_with fail
          go_ret
          exact ⟨rfl, HB1.out⟩

theorem rolodexlaw01_WireParts.walk (a0 : Option Addr) (len0 cap0 : Nat) (z0 : List Int) (w : World) (w0 : (a0 = none ∧ len0 = 0 ∧ cap0 = 0 ∧ z0 = []) ∨ ∃ x, a0 = some x ∧ len0 ≤ cap0 ∧ cap0 ≤ maxLen ∧ z0.length = cap0 ∧ (∀ i, i < z0.length → w.cell? (x.add i) = some (.int .u64 (z0.getD i 0))) ∧ ∀ n ∈ z0, (Lit.int .u64 n).wf = true) (y0 : len0 * 8 ≤ 140737488351232) :
    Calls Try.prog 7 #[.slice a0 len0 cap0] w fun e w' => e = .returned (.bool true) ∧ Below w.heap.size w w' := by
  obtain ⟨l0, rfl, hr0, hm0, hw0, hc0⟩ := ReadsInt.ofRowC w0
  by_cases h : 20 < l0.length
  · exact parts_long a0 cap0 l0 w h
  · refine parts_yes a0 cap0 l0 w (Kd.C_of_reads (d := (0 : Int)) (h1 := fun _ => rfl) hr0) hc0 (fun x hx => ?_) (by omega)
    have := hw0 x hx
    simp only [Lit.wf, IntKind.min, IntKind.max, IntKind.bits, IntKind.signed, Bool.and_eq_true, decide_eq_true_eq] at this
    simp at this
    omega

end Go.Proofs.Ytghafocfbamcdaa.X
