/- For every input of the law WireBack its answer is true (more than 100 bytes are let by): the walk, by hand. -/
import Derived.WalkLawsBesides
import Derived.Test.YtghafocfbamcdaaWTools
namespace Go.Proofs.Ytghafocfbamcdaa.X
set_option linter.unusedVariables false
set_option linter.unusedSimpArgs false
open Go.RowKit Go.Proofs.YtghafocfbamcdaaW.PrintWords Go.Proofs.YtghafocfbamcdaaW.PrintLast Go.Proofs.YtghafocfbamcdaaW.PrintMore

set_option maxHeartbeats 800000 in
set_option maxRecDepth 100000 in
theorem back_long (n : Nat) (A1 : Option Addr) (c1 : Nat) (l1 : List Int) (w : World) (h : 100 < l1.length) :
    Calls Try.prog 3 #[.int .u64 n, .slice A1 l1.length c1] w fun e w' => e = .returned (.bool true) ∧ Below w.heap.size w w' := by
  have c1' : decide (100 < l1.length) = true := decide_eq_true (by omega)
  have c2' : decide (100 < (l1.length : Int)) = true := decide_eq_true (by omega)
  go_enter Try.func3, Try.ntmps3
  go_wp2_with fail
  refine (awake_call _).mono ?_
  rintro e w1 ⟨rfl, hb1⟩
  go_wp2_with fail
  go_ret
  exact ⟨rfl, hb1⟩

set_option maxHeartbeats 800000 in
set_option maxRecDepth 100000 in
theorem back_none (n : Nat) (hn : n < 18446744073709551616) (A1 : Option Addr) (c1 : Nat) (l1 : List Int) (w : World) (hr1 : RdB w A1 l1.length l1) (hc1 : l1.length ≤ c1) (hb : Bytes l1) (h : l1.length ≤ 100) (hg : IsGet l1 (0, 0, false)) :
    Calls Try.prog 3 #[.int .u64 n, .slice A1 l1.length c1] w fun e w' => e = .returned (.bool true) ∧ Below w.heap.size w w' := by
  have c1' : decide (100 < l1.length) = false := decide_eq_false (by omega)
  have c2' : decide (100 < (l1.length : Int)) = false := decide_eq_false (by omega)
  have hp10 := put_length n hn
  have hp1 := put_length_pos n
  have c3' : decide ((put n).length < 1) = false := decide_eq_false (by omega)
  have c4' : decide (10 < (put n).length) = false := decide_eq_false (by omega)
  have c3'' : decide (((put n).length : Int) < 1) = false := decide_eq_false (by omega)
  have c4'' : decide (10 < ((put n).length : Int)) = false := decide_eq_false (by omega)
  have HN := Aside0.mk hn
  clear hn
  go_enter Try.func3, Try.ntmps3
  go_wp2_with fail
  refine (awake_call _).mono ?_
  rintro e w1 ⟨rfl, hb1⟩
  go_wp2_with fail
  refine (put_call n HN.out _).mono ?_
  rintro e w2 ⟨A, c, rfl, hc, hA, hb2⟩
  have hB2 : Below w.heap.size w w2 := hb1.trans (hb2.mono hb1.size)
  go_wp2_with (first
    | ((with_reducible refine gate_builtin (b := .append) (xs := #[.const (.slice none 0 0), .tmp 25]) rfl ?_); at_builtin; refine print_append_row (w0 := w) w.heap.size rfl _ _ 23 5 .u8 1 rfl Try.underlying23 info5 (by decide) (.slice none 0 0) [] (put n) A (put n).length c rfl rfl (own_nil _ _ _ _) (Kd.reads_of_C hA) hB2 hB2.size (by simp; omega) ?_; intro v1 w3 ho3 hB3 hg3 _; obtain ⟨A3, k3, rfl, hk3, hr3⟩ := own_row ho3)
    | ((with_reducible refine gate_builtin (b := .append) (xs := #[.tmp 26, .tmp 27]) rfl ?_); at_builtin; refine print_append_row (w0 := w) w.heap.size rfl _ _ 23 5 .u8 1 rfl Try.underlying23 info5 (by decide) _ _ l1 A1 l1.length c1 rfl rfl ho3 (Kd.reads_of_C (rdb_below hr1 hB3)) hB3 hB3.size (by simp; omega) ?_; intro v2 w4 ho4 hB4 hg4 _; obtain ⟨A4, k4, rfl, hk4, hr4⟩ := own_row ho4)
    | fail)
  clear ho3 hB3 hg3 hr3 hg4 ho4 hb2 hA hc hb1 hB2
  rw [List.length_append] at hk4
  refine (get_call' (isGet_put n HN.out l1) (bytes_app (put_range n) hb) (by rw [List.length_append]; omega) _ (by simp) A4 k4 w4 (by simpa using hr4) (by simpa using hk4)).mono ?_
  rintro e w5 ⟨rfl, q, rfl⟩
  clear hr4 hk4
  have hl5 := rdb_drewN (rdb_below hr1 hB4) q
  have hB5 := pw_below_drewN hB4 q
  go_wp2_with fail
  refine (get_call hg hb (by omega) A1 c1 _ hl5 hc1).mono ?_
  rintro e w6 ⟨rfl, q6, rfl⟩
  go_wp2_with fail
  go_ret
  exact ⟨rfl, pw_below_drewN hB4 _⟩

set_option maxHeartbeats 800000 in
set_option maxRecDepth 100000 in
theorem back_some (n : Nat) (hn : n < 18446744073709551616) (A1 : Option Addr) (c1 : Nat) (l1 : List Int) (w : World) (hr1 : RdB w A1 l1.length l1) (hc1 : l1.length ≤ c1) (hb : Bytes l1) (h : l1.length ≤ 100) (m : Nat) (hm : m < 18446744073709551616) (hp : put m <+: l1) :
    Calls Try.prog 3 #[.int .u64 n, .slice A1 l1.length c1] w fun e w' => e = .returned (.bool true) ∧ Below w.heap.size w w' := by
  have hg : IsGet l1 ((m : Int), ((put m).length : Int), true) := .inl ⟨m, hm, hp, rfl⟩
  have hq1 := put_length_pos m
  have hq2 := hp.length_le
  have d1 : decide (1 ≤ ((put m).length : Int)) = true := decide_eq_true (by omega)
  have d1' : decide (1 ≤ (put m).length) = true := decide_eq_true (by omega)
  have d2 : decide ((put m).length ≤ l1.length) = true := decide_eq_true (by omega)
  have htk : l1.take (put m).length = put m := (List.prefix_iff_eq_take.1 hp).symm
  have c1' : decide (100 < l1.length) = false := decide_eq_false (by omega)
  have c2' : decide (100 < (l1.length : Int)) = false := decide_eq_false (by omega)
  have hp10 := put_length n hn
  have hp1 := put_length_pos n
  have c3' : decide ((put n).length < 1) = false := decide_eq_false (by omega)
  have c4' : decide (10 < (put n).length) = false := decide_eq_false (by omega)
  have c3'' : decide (((put n).length : Int) < 1) = false := decide_eq_false (by omega)
  have c4'' : decide (10 < ((put n).length : Int)) = false := decide_eq_false (by omega)
  have HN := Aside0.mk hn
  clear hn
  go_enter Try.func3, Try.ntmps3
  go_wp2_with fail
  refine (awake_call _).mono ?_
  rintro e w1 ⟨rfl, hb1⟩
  go_wp2_with fail
  refine (put_call n HN.out _).mono ?_
  rintro e w2 ⟨A, c, rfl, hc, hA, hb2⟩
  have hB2 : Below w.heap.size w w2 := hb1.trans (hb2.mono hb1.size)
  go_wp2_with (first
    | ((with_reducible refine gate_builtin (b := .append) (xs := #[.const (.slice none 0 0), .tmp 25]) rfl ?_); at_builtin; refine print_append_row (w0 := w) w.heap.size rfl _ _ 23 5 .u8 1 rfl Try.underlying23 info5 (by decide) (.slice none 0 0) [] (put n) A (put n).length c rfl rfl (own_nil _ _ _ _) (Kd.reads_of_C hA) hB2 hB2.size (by simp; omega) ?_; intro v1 w3 ho3 hB3 hg3 _; obtain ⟨A3, k3, rfl, hk3, hr3⟩ := own_row ho3)
    | ((with_reducible refine gate_builtin (b := .append) (xs := #[.tmp 26, .tmp 27]) rfl ?_); at_builtin; refine print_append_row (w0 := w) w.heap.size rfl _ _ 23 5 .u8 1 rfl Try.underlying23 info5 (by decide) _ _ l1 A1 l1.length c1 rfl rfl ho3 (Kd.reads_of_C (rdb_below hr1 hB3)) hB3 hB3.size (by simp; omega) ?_; intro v2 w4 ho4 hB4 hg4 _; obtain ⟨A4, k4, rfl, hk4, hr4⟩ := own_row ho4)
    | fail)
  clear ho3 hB3 hg3 hr3 hg4 ho4 hb2 hA hc hb1 hB2
  rw [List.length_append] at hk4
  refine (get_call' (isGet_put n HN.out l1) (bytes_app (put_range n) hb) (by rw [List.length_append]; omega) _ (by simp) A4 k4 w4 (by simpa using hr4) (by simpa using hk4)).mono ?_
  rintro e w5 ⟨rfl, q, rfl⟩
  clear hr4 hk4
  have hl5 := rdb_drewN (rdb_below hr1 hB4) q
  have hB5 := pw_below_drewN hB4 q
  go_wp2_with fail
  refine (get_call hg hb (by omega) A1 c1 _ hl5 hc1).mono ?_
  rintro e w6 ⟨rfl, q6, rfl⟩
  have hl6 := rdb_take (rdb_below hr1 hB4) (put m).length hq2
  rw [htk] at hl6
  have v83 := conv hl6 c1
  have hcut := rdb_cut A1 c1 l1 (put m).length hq2 hc1
  have hq3 : ((put m).length : Int) ≤ (l1.length : Int) := by omega
  have hq4 : (0 : Int) ≤ ((put m).length : Int) := by omega
  have seq : ((strOfNums (put m)).toList == (strOfNums (put m)).toList) = true := beq_self_eq_true _
  have HM := Aside0.mk hm
  clear hl5 hB5 hr1 hm hp hg htk hb
  go_wp2_with fail
  -- REGION
  refine wp_region_held_drew (S := (fun W => RdB W A1 (put m).length (put m))) (by kernel_rfl) (Kd.C_drew (rdb_drewN hl6 _)) (fun hHeld => ?_)
  refine wpAnyH_take (i := 0) (v := ?_) (by simp only [List.getElem?_toArray, List.getElem?_cons_succ, List.getElem?_cons_zero]; rfl) (by kernel_rfl) (by kernel_rfl) (by kernel_rfl) (by intro _ _ _ h; exact h) (Or.inl ⟨by rfl, ?hy⟩) (by assumption) ?_
  case hy => (intro W_ hW_; go_simp; first | done | with_reducible rfl)
  try simp only [Act.put, List.setIfInBounds_toArray, List.set_cons_zero, List.set_cons_succ]
  refine wpAnyH_take (i := 1) (v := ?_) (by simp only [List.getElem?_toArray, List.getElem?_cons_succ, List.getElem?_cons_zero]; rfl) (by kernel_rfl) (by kernel_rfl) (by kernel_rfl) (by intro _ _ _ h; exact h) (Or.inl ⟨by rfl, ?hy⟩) (by assumption) ?_
  case hy => (intro W_ hW_; go_simp; first | done | with_reducible rfl)
  try simp only [Act.put, List.setIfInBounds_toArray, List.set_cons_zero, List.set_cons_succ]
  refine wpAnyH_take (i := 2) (v := ?_) (by simp only [List.getElem?_toArray, List.getElem?_cons_succ, List.getElem?_cons_zero]; rfl) (by kernel_rfl) (by kernel_rfl) (by kernel_rfl) (by intro _ _ _ h; exact h) (Or.inl ⟨by rfl, ?hy⟩) (by assumption) ?_
  case hy => (intro W_ hW_; go_simp; first | done | with_reducible rfl)
  try simp only [Act.put, List.setIfInBounds_toArray, List.set_cons_zero, List.set_cons_succ]
  refine wpAnyH_take (i := 3) (v := ?_) (by simp only [List.getElem?_toArray, List.getElem?_cons_succ, List.getElem?_cons_zero]; rfl) (by kernel_rfl) (by kernel_rfl) (by kernel_rfl) (by intro _ _ _ h; exact h) (Or.inl ⟨by rfl, ?hy⟩) (by assumption) ?_
  case hy => (intro W_ hW_; go_simp; first | done | with_reducible rfl)
  try simp only [Act.put, List.setIfInBounds_toArray, List.set_cons_zero, List.set_cons_succ]
  refine wpAnyH_take (i := 4) (v := ?_) (by simp only [List.getElem?_toArray, List.getElem?_cons_succ, List.getElem?_cons_zero]; rfl) (by kernel_rfl) (by kernel_rfl) (by kernel_rfl) (by intro _ _ _ h; exact h) (Or.inl ⟨by rfl, ?hy⟩) (by assumption) ?_
  case hy => (intro W_ hW_; go_simp; first | done | with_reducible rfl)
  try simp only [Act.put, List.setIfInBounds_toArray, List.set_cons_zero, List.set_cons_succ]
  refine wpAnyH_take (i := 5) (v := ?_) (by simp only [List.getElem?_toArray, List.getElem?_cons_succ, List.getElem?_cons_zero]; rfl) (by kernel_rfl) (by kernel_rfl) (by kernel_rfl) (by intro _ _ _ h; exact h) (Or.inl ⟨by rfl, ?hy⟩) (by assumption) ?_
  case hy => (intro W_ hW_; go_simp; first | done | with_reducible rfl)
  try simp only [Act.put, List.setIfInBounds_toArray, List.set_cons_zero, List.set_cons_succ]
  refine wpAnyH_take (i := 6) (v := ?_) (by simp only [List.getElem?_toArray, List.getElem?_cons_succ, List.getElem?_cons_zero]; rfl) (by kernel_rfl) (by kernel_rfl) (by kernel_rfl) (by intro _ _ _ h; exact h) (Or.inl ⟨by rfl, ?hy⟩) (by assumption) ?_
  case hy => (intro W_ hW_; go_simp; first | done | with_reducible rfl)
  try simp only [Act.put, List.setIfInBounds_toArray, List.set_cons_zero, List.set_cons_succ]
  refine wpAnyH_take (i := 7) (v := ?_) (by simp only [List.getElem?_toArray, List.getElem?_cons_succ, List.getElem?_cons_zero]; rfl) (by kernel_rfl) (by kernel_rfl) (by kernel_rfl) (by intro _ _ _ h; exact h) (Or.inl ⟨by rfl, ?hy⟩) (by assumption) ?_
  case hy => (intro W_ hW_; go_simp; first | done | with_reducible rfl)
  try simp only [Act.put, List.setIfInBounds_toArray, List.set_cons_zero, List.set_cons_succ]
  refine wpAnyH_take (i := 8) (v := ?_) (by simp only [List.getElem?_toArray, List.getElem?_cons_succ, List.getElem?_cons_zero]; rfl) (by kernel_rfl) (by kernel_rfl) (by kernel_rfl) (by intro _ _ _ h; exact h) (Or.inl ⟨by rfl, ?hy⟩) (by assumption) ?_
  case hy => (intro W_ hW_; go_simp; first | done | with_reducible rfl)
  try simp only [Act.put, List.setIfInBounds_toArray, List.set_cons_zero, List.set_cons_succ]
  refine wpAnyH_take (i := 9) (v := ?_) (by simp only [List.getElem?_toArray, List.getElem?_cons_succ, List.getElem?_cons_zero]; rfl) (by kernel_rfl) (by kernel_rfl) (by kernel_rfl) (by intro _ _ _ h; exact h) (Or.inl ⟨by rfl, ?hy⟩) (by assumption) ?_
  case hy => (intro W_ hW_; go_simp; first | done | with_reducible rfl)
  try simp only [Act.put, List.setIfInBounds_toArray, List.set_cons_zero, List.set_cons_succ]
  refine wpAnyH_take (i := 12) (v := ?_) (by simp only [List.getElem?_toArray, List.getElem?_cons_succ, List.getElem?_cons_zero]; rfl) (by kernel_rfl) (by kernel_rfl) (by kernel_rfl) (by intro _ _ _ h; exact h) (Or.inl ⟨by rfl, ?hy⟩) (by assumption) ?_
  case hy => (intro W_ hW_; go_simp; first | done | with_reducible rfl)
  try simp only [Act.put, List.setIfInBounds_toArray, List.set_cons_zero, List.set_cons_succ]
  refine wpAnyH_take (i := 13) (v := ?_) (by simp only [List.getElem?_toArray, List.getElem?_cons_succ, List.getElem?_cons_zero]; rfl) (by kernel_rfl) (by kernel_rfl) (by kernel_rfl) (by intro _ _ _ h; exact h) (Or.inl ⟨by rfl, ?hy⟩) (by assumption) ?_
  case hy => (intro W_ hW_; go_simp; first | done | with_reducible rfl)
  try simp only [Act.put, List.setIfInBounds_toArray, List.set_cons_zero, List.set_cons_succ]
  refine wpAnyH_take (i := 14) (v := ?_) (by simp only [List.getElem?_toArray, List.getElem?_cons_succ, List.getElem?_cons_zero]; rfl) (by kernel_rfl) (by kernel_rfl) (by kernel_rfl) (by intro _ _ _ h; exact h) (Or.inl ⟨by rfl, ?hy⟩) (by assumption) ?_
  case hy => (intro W_ hW_; go_simp; first | done | with_reducible rfl)
  try simp only [Act.put, List.setIfInBounds_toArray, List.set_cons_zero, List.set_cons_succ]
  refine wpAnyH_take (i := 15) (v := ?_) (by simp only [List.getElem?_toArray, List.getElem?_cons_succ, List.getElem?_cons_zero]; rfl) (by kernel_rfl) (by kernel_rfl) (by kernel_rfl) (by intro _ _ _ h; exact h) (Or.inl ⟨by rfl, ?hy⟩) (by assumption) ?_
  case hy => (intro W_ hW_; have f_ := conv0 hW_ c1; go_simp; first | done | with_reducible rfl)
  try simp only [Act.put, List.setIfInBounds_toArray, List.set_cons_zero, List.set_cons_succ]
  refine wpAnyH_ready (rs := [10]) (by kernel_rfl) (by simp) ?_
  refine AllReadyH.cons (by simp only [List.getElem?_toArray, List.getElem?_cons_succ, List.getElem?_cons_zero]; rfl) (fun K hK => ?_) AllReadyH.nil
  rw [if_pos (by rfl)]
  go_wp2_with fail
  refine (put_call m HM.out _).mono ?_
  rintro e w7 ⟨A7, c7, rfl, hc7, hA7, hb7⟩
  refine hK.out _ _ (rdb_below hHeld hb7) (fun hHeld2 => ?_)
  clear hK K hHeld
  try simp only [Act.put, List.setIfInBounds_toArray, List.set_cons_zero, List.set_cons_succ]
  refine wpAnyH_str (S2 := (fun W => RdB W A1 (put m).length (put m) ∧ RdB W A7 (put m).length (put m))) (fun W h => h.1) _ _ _ _ ?_
  have hHeld := (And.intro hHeld2 hA7)
  clear hHeld2
  refine wpAnyH_take (i := 11) (v := ?_) (by simp only [List.getElem?_toArray, List.getElem?_cons_succ, List.getElem?_cons_zero]; rfl) (by kernel_rfl) (by kernel_rfl) (by kernel_rfl) (by intro _ _ _ h; exact h) (Or.inl ⟨by rfl, ?hy⟩) (by assumption) ?_
  case hy => (intro W_ hW_; have f_ := conv0 hW_.2 c7; go_simp; first | done | with_reducible rfl)
  try simp only [Act.put, List.setIfInBounds_toArray, List.set_cons_zero, List.set_cons_succ]
  refine wpAnyH_take (i := 16) (v := ?_) (by simp only [List.getElem?_toArray, List.getElem?_cons_succ, List.getElem?_cons_zero]; rfl) (by kernel_rfl) (by kernel_rfl) (by kernel_rfl) (by intro _ _ _ h; exact h) (Or.inl ⟨by rfl, ?hy⟩) (by assumption) ?_
  case hy => (intro W_ hW_; go_simp; first | done | with_reducible rfl)
  try simp only [Act.put, List.setIfInBounds_toArray, List.set_cons_zero, List.set_cons_succ]
  refine wpAnyH_take (i := 17) (v := ?_) (by simp only [List.getElem?_toArray, List.getElem?_cons_succ, List.getElem?_cons_zero]; rfl) (by kernel_rfl) (by kernel_rfl) (by kernel_rfl) (by intro _ _ _ h; exact h) (Or.inl ⟨by rfl, ?hy⟩) (by assumption) ?_
  case hy => (intro W_ hW_; go_simp; first | done | with_reducible rfl)
  try simp only [Act.put, List.setIfInBounds_toArray, List.set_cons_zero, List.set_cons_succ]
  refine wpAnyH_take (i := 18) (v := ?_) (by simp only [List.getElem?_toArray, List.getElem?_cons_succ, List.getElem?_cons_zero]; rfl) (by kernel_rfl) (by kernel_rfl) (by kernel_rfl) (by intro _ _ _ h; exact h) (Or.inl ⟨by rfl, ?hy⟩) (by assumption) ?_
  case hy => (intro W_ hW_; go_simp; first | done | with_reducible rfl)
  try simp only [Act.put, List.setIfInBounds_toArray, List.set_cons_zero, List.set_cons_succ]
  refine wpAnyH_done (by kernel_rfl) ?_ _
  go_wp2_with fail
  go_ret
  exact ⟨rfl, ((pw_below_drewN hB4 _).trans (below_drew (Below.refl _ _))).trans (hb7.mono (pw_below_drewN hB4 _).size)⟩

theorem rolodexlaw01_WireBack.walk (a0 : Int) (a1 : Option Addr) (len1 cap1 : Nat) (z1 : List Int) (w : World) (w0 : (Lit.int .u64 a0).wf = true) (w1 : (a1 = none ∧ len1 = 0 ∧ cap1 = 0 ∧ z1 = []) ∨ ∃ x, a1 = some x ∧ len1 ≤ cap1 ∧ cap1 ≤ maxLen ∧ z1.length = cap1 ∧ (∀ i, i < z1.length → w.cell? (x.add i) = some (.int .u8 (z1.getD i 0))) ∧ ∀ n ∈ z1, (Lit.int .u8 n).wf = true) (y1 : len1 * 1 ≤ 140737488351232) :
    Calls Try.prog 3 #[.int .u64 a0, .slice a1 len1 cap1] w fun e w' => e = .returned (.bool true) ∧ Below w.heap.size w w' := by
  obtain ⟨l1, rfl, hr1, hm1, hw1, hc1⟩ := ReadsInt.ofRowC w1
  have hr : RdB w a1 l1.length l1 := Kd.C_of_reads (d := (0 : Int)) (h1 := fun _ => rfl) hr1
  have hb := bytes_of_wf hw1
  simp only [Lit.wf, IntKind.min, IntKind.max, IntKind.bits, IntKind.signed, Bool.and_eq_true, decide_eq_true_eq] at w0
  simp at w0
  obtain ⟨n, rfl⟩ := Int.eq_ofNat_of_zero_le w0.1
  have hn : n < 18446744073709551616 := by omega
  by_cases h : 100 < l1.length
  · exact back_long n a1 cap1 l1 w h
  obtain ⟨r, _, hi⟩ := Get_is l1 hb (by omega) (2 * l1.length + 3) (by omega)
  rcases hi with ⟨m, hm, hp, rfl⟩ | ⟨hno, rfl⟩
  · exact back_some n hn a1 cap1 l1 w hr hc1 hb (by omega) m hm hp
  · exact back_none n hn a1 cap1 l1 w hr hc1 hb (by omega) (.inr ⟨hno, rfl⟩)

end Go.Proofs.Ytghafocfbamcdaa.X
