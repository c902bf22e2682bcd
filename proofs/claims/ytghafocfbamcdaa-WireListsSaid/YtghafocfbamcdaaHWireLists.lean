/- For every input of the law WireLists its answer is true (more than 20 texts, and longer ones than 100 bytes, are let by): the walk, by hand. -/
import Derived.WalkLawsBesides
import Derived.Test.YtghafocfbamcdaaHWireTexts
namespace Go.Proofs.Ytghafocfbamcdaa.X
set_option linter.unusedVariables false
set_option linter.unusedSimpArgs false
open Go.RowKit Go.Proofs.YtghafocfbamcdaaW.PrintWords Go.Proofs.YtghafocfbamcdaaW.PrintLast Go.Proofs.YtghafocfbamcdaaW.PrintMore

/-- The texts' bytes, one text behind the other. -/
def catS (l : List ByteArray) : List Int := l.flatMap fun s => put s.size ++ bytesOf s
theorem catS_bytes (l : List ByteArray) : Bytes (catS l) := by
  intro x hx
  obtain ⟨n, _, h⟩ := List.mem_flatMap.1 hx
  exact bytes_app (put_range _) (bytesOf_bytes _) x h
def sr (l : List ByteArray) (i : Nat) : ByteArray := l.getD i ByteArray.empty
theorem sr_get {l : List ByteArray} {i : Nat} (h : i < l.length) : sr l i = l[i] := by
  simp [sr, h]
theorem catS_take {l : List ByteArray} {i : Nat} (h : i < l.length) : catS (l.take (i + 1)) = catS (l.take i) ++ (put (sr l i).size ++ bytesOf (sr l i)) := by
  rw [sr_get h, ← List.take_append_getElem h]
  unfold catS
  rw [List.flatMap_append, List.flatMap_cons, List.flatMap_nil, List.append_nil]
theorem catS_drop {l : List ByteArray} {i : Nat} (h : i < l.length) : catS (l.drop i) = (put (sr l i).size ++ bytesOf (sr l i)) ++ catS (l.drop (i + 1)) := by
  rw [sr_get h, List.drop_eq_getElem_cons h]
  unfold catS
  rw [List.flatMap_cons]
theorem one_length (s : ByteArray) (h : s.size ≤ 100) : (put s.size ++ bytesOf s).length ≤ 110 := by
  have h1 := put_length s.size (by omega)
  rw [List.length_append, bytesOf_length]
  omega
theorem catS_length (l : List ByteArray) (h : ∀ x ∈ l, x.size ≤ 100) : (catS l).length ≤ 110 * l.length := by
  induction l with
  | nil => simp [catS]
  | cons a l ih =>
    have h1 := one_length a (h a (by simp))
    have h2 := ih (fun x hx => h x (by simp [hx]))
    simp only [catS, List.flatMap_cons, List.length_append, List.length_cons] at h1 h2 ⊢
    omega
theorem wrap_up' (i : Nat) (h : i < 1000000) : IntKind.i64.wrap ((i : Int) + 1) = ((i + 1 : Nat) : Int) := by
  rw [i64_w, wrap64_small _ (by omega) (by omega)]; omega
theorem readR_one (s : ByteArray) (h : s.size ≤ 100) (b : List Int) : IsGet ((put s.size ++ bytesOf s) ++ b) ((s.size : Int), ((put s.size).length : Int), true) ∧ readR ((put s.size ++ bytesOf s) ++ b) ((s.size : Int), ((put s.size).length : Int), true) 100 = (s, ((put s.size ++ bytesOf s).length : Int), true) := by
  constructor
  · rw [List.append_assoc]
    exact isGet_put _ (by omega) _
  · rw [read_text, if_pos (by omega), List.length_append, bytesOf_length]
    congr 1

set_option maxHeartbeats 800000 in
set_option maxRecDepth 100000 in
theorem lists_long (A0 : Option Addr) (c0 n : Nat) (w : World) (h : 20 < n) :
    Calls Try.prog 9 #[.slice A0 n c0] w fun e w' => e = .returned (.bool true) ∧ Below w.heap.size w w' := by
  have c1' : decide (20 < n) = true := decide_eq_true (by omega)
  have c2' : decide (20 < (n : Int)) = true := decide_eq_true (by omega)
  go_enter Try.func9, Try.ntmps9
  go_wp2_with fail
  refine (awake_call _).mono ?_
  rintro e w1 ⟨rfl, hb1⟩
  go_wp2_with fail
  go_ret
  exact ⟨rfl, hb1⟩

set_option maxHeartbeats 1000000 in
set_option maxRecDepth 100000 in
theorem lists_yes (A0 : Option Addr) (c0 : Nat) (l : List ByteArray) (w : World) (hrow : ∀ i, i < l.length → ∃ ad, A0 = some ad ∧ w.cell? (ad.add i) = some (.string (sr l i))) (hc0 : l.length ≤ c0) (h : l.length ≤ 20) :
    Calls Try.prog 9 #[.slice A0 l.length c0] w fun e w' => e = .returned (.bool true) ∧ Below w.heap.size w w' := by
  have c1' : decide (20 < l.length) = false := decide_eq_false (by omega)
  have c2' : decide (20 < (l.length : Int)) = false := decide_eq_false (by omega)
  have HR := Aside0.mk hrow
  clear hrow
  go_enter Try.func9, Try.ntmps9
  go_wp2_with fail
  refine (awake_call _).mono ?_
  rintro e w1 ⟨rfl, hb1⟩
  have HB := Aside0.mk hb1
  clear hb1
  go_wp2_with fail
  go_loopg [4, 5] l.length (fun k v4 v5 w' => ∃ i : Nat, v5 = .int .i64 (i : Int) ∧ Aside0 (k = l.length - i ∧ i ≤ l.length) ∧ Aside0 (∀ s ∈ l.take i, s.size ≤ 100) ∧ Aside0 (w'.ownsRow w.heap.size 5 1 v4 (catS (l.take i)).length (nums .u8 (catS (l.take i)))) ∧ Aside0 (Below w.heap.size w w'))
  case atStart => exact ⟨0, rfl, ⟨by omega, by omega⟩, ⟨by simp⟩, ⟨own_nil _ _ _ _⟩, HB⟩
  case round =>
    obtain ⟨i, rfl, HI, HS, HO, HB1⟩ := hrel
    by_cases hi : i < l.length
    · have d1 : decide ((i : Int) < (l.length : Int)) = true := decide_eq_true (by omega)
      have d2 : decide (i < l.length) = true := decide_eq_true hi
      obtain ⟨ad, e1, hx⟩ := HR.out i hi
      cases e1
      replace hx := (HB1.out.cell (World.block_lt_of_cell? w _ hx)).trans hx
      have p1 : (0 ≤ (i : Int)) = True := eq_true (by omega)
      have p2 : ((i : Int) < (l.length : Int)) = True := eq_true (by omega)
      generalize hs0 : sr l i = s at hx
      have HN := Aside0.mk hs0
      clear hs0
      have hwr := wrap_up' i (by omega)
      by_cases hl : 100 < s.size
      · have d3 : decide (100 < s.size) = true := decide_eq_true hl
        have d4 : decide (100 < (s.size : Int)) = true := decide_eq_true (by omega)
        go_wp2_with fail
        go_ret
        exact ⟨rfl, HB1.out⟩
      · have d3 : decide (100 < s.size) = false := decide_eq_false hl
        have d4 : decide (100 < (s.size : Int)) = false := decide_eq_false (by omega)
        go_wp2_with fail
        obtain ⟨L, hL⟩ : ∃ L, L = put s.size ++ bytesOf s := ⟨_, rfl⟩
        refine (text_call' s (by omega) L hL _).mono ?_
        rintro e w2 ⟨A, c, rfl, hc, hA, hb2⟩
        have HO2 := pw_own_below HO.out hb2
        have hB2 : Below w.heap.size w w2 := HB1.out.trans (hb2.mono HB1.out.size)
        have hlen := catS_length (l.take i) HS.out
        have hpl := one_length s (by omega)
        rw [← hL] at hpl
        have HL := Aside0.mk hL
        clear hL
        have ht : (l.take i).length ≤ 20 := by rw [List.length_take]; omega
        go_wp2_with (first
          | ((with_reducible refine gate_builtin (b := .append) (xs := #[.tmp 31, .tmp 36]) rfl ?_); at_builtin; refine print_append_row (w0 := w) w.heap.size rfl _ _ 23 5 .u8 1 rfl Try.underlying23 info5 (by decide) _ (catS (l.take i)) L A L.length c rfl rfl HO2 (Kd.reads_of_C hA) hB2 hB2.size (by omega) ?_; intro v1 w3 ho3 hB3 hg3 _)
          | fail)
        go_roundg (l.length - (i + 1))
        case measure => have := HI.out; omega
        case rel =>
          refine ⟨i + 1, rfl, ⟨rfl, by omega⟩, ⟨fun x hx => ?_⟩, ⟨by rw [catS_take hi, HN.out, ← HL.out]; exact ho3⟩, ⟨hB3⟩⟩
          rw [← List.take_append_getElem hi] at hx
          rcases List.mem_append.1 hx with hx | hx
          · exact HS.out x hx
          · rw [List.mem_singleton] at hx
            rw [hx, ← sr_get hi, HN.out]
            omega
    · have d1 : decide ((i : Int) < (l.length : Int)) = false := decide_eq_false (by omega)
      have d2 : decide (i < l.length) = false := decide_eq_false hi
      have hil : i = l.length := by have := HI.out; omega
      subst hil
      rw [List.take_length] at HO HS
      obtain ⟨A, c, rfl, hc, hA⟩ := own_row HO.out
      clear HO HI
      have HA := Aside0.mk hA
      clear hA
      go_wp2_with fail
      go_loopg [4, 6] l.length (fun k v4 v6 w' => ∃ (i : Nat) (A : Option Addr) (c : Nat), v6 = .int .i64 (i : Int) ∧ v4 = .slice A (catS (l.drop i)).length c ∧ Aside0 ((catS (l.drop i)).length ≤ c) ∧ Aside0 (k = l.length - i ∧ i ≤ l.length) ∧ Aside0 (RdB w' A (catS (l.drop i)).length (catS (l.drop i))) ∧ Aside0 (Below w.heap.size w w'))
      case atStart => exact ⟨0, A, c, rfl, rfl, ⟨hc⟩, ⟨by omega, by omega⟩, HA, HB1⟩
      case round =>
        clear HA HB1 d1 d2
        obtain ⟨i, A, c, rfl, rfl, HC, HI, HA, HB1⟩ := hrel
        by_cases hi : i < l.length
        · have d1 : decide ((i : Int) < (l.length : Int)) = true := decide_eq_true (by omega)
          have d2 : decide (i < l.length) = true := decide_eq_true hi
          obtain ⟨ad, e1, hx⟩ := HR.out i hi
          cases e1
          have hxx := Aside0.mk hx
          replace hx := (HB1.out.cell (World.block_lt_of_cell? w _ hx)).trans hx
          have p1 : (0 ≤ (i : Int)) = True := eq_true (by omega)
          have p2 : ((i : Int) < (l.length : Int)) = True := eq_true (by omega)
          have hq := catS_drop hi
          have hlen := catS_length (l.drop i) (fun x hx => HS.out x (List.mem_of_mem_drop hx))
          have ht : (l.drop i).length ≤ 20 := by rw [List.length_drop]; omega
          have hqb := catS_bytes (l.drop i)
          have hsz : (sr l i).size ≤ 100 := by rw [sr_get hi]; exact HS.out _ (List.getElem_mem hi)
          generalize sr l i = s at hx hq hsz hxx
          have hwr := wrap_up' i (by omega)
          obtain ⟨hg, hrr⟩ := readR_one s hsz (catS (l.drop (i + 1)))
          generalize hs : catS (l.drop (i + 1)) = t at hq hg hrr
          generalize hgq : catS (l.drop i) = q at hq HA HC hlen hqb ⊢
          clear hgq
          have HG := Aside0.mk hs
          generalize hpp : put s.size ++ bytesOf s = p at hq hg hrr
          have hl1 : q.length = p.length + t.length := by rw [hq]; exact List.length_append
          rw [← hq] at hg hrr
          have hdq : q.drop p.length = t := by rw [hq]; exact List.drop_left
          have hlq : q.length - p.length = t.length := by omega
          have d3 : decide (q.length < p.length) = false := decide_eq_false (by omega)
          have d4 : decide ((q.length : Int) < (p.length : Int)) = false := decide_eq_false (by omega)
          have d5 : (s.toList != s.toList) = false := by simp
          obtain ⟨A2, hcut, hA2, hc2⟩ := rdb_drop A c q p.length (by omega) HC.out
          rw [hdq, hlq] at hA2
          rw [hlq] at hcut hc2
          have HA2 := Aside0.mk hA2
          have HLEN : Aside0 (q.length ≤ 3000) := ⟨by omega⟩
          have HHG := Aside0.mk hg
          have HRR := Aside0.mk hrr
          have HQB := Aside0.mk hqb
          have HL := Aside0.mk hl1
          clear hs hg hq hA2 hlen ht hdq hlq hqb hl1 hrr hpp
          go_wp2_with fail
          refine (read_call' HHG.out HQB.out (by have := HLEN.out; omega) 100 _ rfl A c _ HA.out HC.out _ HRR.out).mono ?_
          rintro e w2 ⟨rfl, hb2⟩
          have HB2 := Aside0.mk (HB1.out.trans (hb2.mono HB1.out.size))
          have hx2 := (HB2.out.cell (World.block_lt_of_cell? w _ hxx.out)).trans hxx.out
          have HB3 := Aside0.mk hb2
          clear hb2
          go_wp2_with fail
          go_roundg (l.length - (i + 1))
          case measure => have := HI.out; omega
          case rel => exact ⟨i + 1, A2, c - p.length, rfl, by rw [HG.out], ⟨by rw [HG.out]; exact hc2⟩, ⟨rfl, by omega⟩, ⟨by rw [HG.out]; exact HA2.out _ (rdb_below HA.out HB3.out)⟩, HB2⟩
        · have d1 : decide ((i : Int) < (l.length : Int)) = false := decide_eq_false (by omega)
          have d2 : decide (i < l.length) = false := decide_eq_false hi
          have hil : i = l.length := by have := HI.out; omega
          subst hil
          have hz : (catS (l.drop l.length)).length = 0 := by rw [List.drop_length]; rfl
          rw [hz]
          go_wp2_with fail
          go_ret
          exact ⟨rfl, HB1.out⟩

theorem rolodexlaw01_WireLists.walk (a0 : Option Addr) (len0 cap0 : Nat) (z0 : List ByteArray) (w : World) (w0 : (a0 = none ∧ len0 = 0 ∧ cap0 = 0 ∧ z0 = []) ∨ ∃ x, a0 = some x ∧ len0 ≤ cap0 ∧ cap0 ≤ maxLen ∧ z0.length = cap0 ∧ ∀ i, i < z0.length → w.cell? (x.add i) = some (.string (z0.getD i ByteArray.empty))) :
    Calls Try.prog 9 #[.slice a0 len0 cap0] w fun e w' => e = .returned (.bool true) ∧ Below w.heap.size w w' := by
  have hlc : len0 ≤ cap0 := by rcases w0 with ⟨_, h1, h2, _⟩ | ⟨_, _, h, _⟩ <;> omega
  have hzl : (z0.take len0).length = len0 := by
    rw [List.length_take]
    rcases w0 with ⟨_, h1, _, h3⟩ | ⟨_, _, h, _, h4, _⟩
    · subst h1 h3; rfl
    · omega
  by_cases h : 20 < len0
  · exact lists_long a0 cap0 len0 w h
  · have hh := lists_yes a0 cap0 (z0.take len0) w (fun i hi => by
      rcases w0 with ⟨_, h1, _, h3⟩ | ⟨x, hx, h, _, h4, h5⟩
      · omega
      · refine ⟨x, hx, ?_⟩
        have hi2 : i < z0.length := by omega
        rw [h5 i hi2, sr_get hi]
        simp [hi2]) (by omega) (by omega)
    rw [hzl] at hh
    exact hh

end Go.Proofs.Ytghafocfbamcdaa.X
