/- For every input of the law WireTells its answer is true (more than 300 bytes are let by): the walk, by hand. -/
import Derived.WalkLawsBesides
import Derived.Test.YtghafocfbamcdaaHWireTexts
import Derived.Test.YtghafocfbamcdaaWRefR
namespace Go.Proofs.Ytghafocfbamcdaa.X
set_option linter.unusedVariables false
set_option linter.unusedSimpArgs false
open Go.RowKit Go.Proofs.YtghafocfbamcdaaW.PrintWords Go.Proofs.YtghafocfbamcdaaW.PrintLast Go.Proofs.YtghafocfbamcdaaW.PrintMore

set_option maxHeartbeats 1600000 in
set_option maxRecDepth 100000 in
theorem tells_long1 (n m : Nat) (s : ByteArray) (a4 : Int) (A1 : Option Addr) (c1 : Nat) (l1 : List Int) (w : World) (h : 300 < s.size) :
    Calls Try.prog 10 #[.int .u64 n, .string s, .int .u32 m, .slice A1 l1.length c1, .int .i64 a4] w fun e w' => e = .returned (.bool true) ∧ Below w.heap.size w w' := by
  have c1' : decide (300 < s.size) = true := decide_eq_true (by omega)
  have c2' : decide (300 < (s.size : Int)) = true := decide_eq_true (by omega)
  go_enter Try.func10, Try.ntmps10
  go_wp2_with fail
  refine (awake_call _).mono ?_
  rintro e w1 ⟨rfl, hb1⟩
  go_wp2_with fail
  go_ret
  exact ⟨rfl, hb1⟩

set_option maxHeartbeats 1600000 in
set_option maxRecDepth 100000 in
theorem tells_long2 (n m : Nat) (s : ByteArray) (a4 : Int) (A1 : Option Addr) (c1 : Nat) (l1 : List Int) (w : World) (h0 : ¬ 300 < s.size) (h : 300 < l1.length) :
    Calls Try.prog 10 #[.int .u64 n, .string s, .int .u32 m, .slice A1 l1.length c1, .int .i64 a4] w fun e w' => e = .returned (.bool true) ∧ Below w.heap.size w w' := by
  have c1' : decide (300 < s.size) = false := decide_eq_false (by omega)
  have c2' : decide (300 < (s.size : Int)) = false := decide_eq_false (by omega)
  have c3' : decide (300 < l1.length) = true := decide_eq_true (by omega)
  have c4' : decide (300 < (l1.length : Int)) = true := decide_eq_true (by omega)
  go_enter Try.func10, Try.ntmps10
  go_wp2_with fail
  refine (awake_call _).mono ?_
  rintro e w1 ⟨rfl, hb1⟩
  go_wp2_with fail
  go_ret
  exact ⟨rfl, hb1⟩

set_option maxHeartbeats 1600000 in
set_option maxRecDepth 100000 in
theorem tells_yes (n m : Nat) (hn : n < 18446744073709551616) (hm : m < 4294967296) (s : ByteArray) (a4 : Int) (ha : a4 < 9223372036854775808) (A1 : Option Addr) (c1 : Nat) (l1 : List Int) (w : World) (hr1 : RdB w A1 l1.length l1) (hc1 : l1.length ≤ c1) (hb : Bytes l1) (h1 : ¬ 300 < s.size) (h2 : ¬ 300 < l1.length) (gn gu : Int) (gi : Bool) (hg : IsGet l1 (gn, gu, gi)) (rt : ByteArray) (rk : Int) (ri : Bool) (hrr : readR l1 (gn, gu, gi) a4 = (rt, rk, ri)) (fp : Int) (fi : Bool) (hf : fourR l1 = (fp, fi)) :
    Calls Try.prog 10 #[.int .u64 n, .string s, .int .u32 m, .slice A1 l1.length c1, .int .i64 a4] w fun e w' => e = .returned (.bool true) ∧ Below w.heap.size w w' := by
  have c1' : decide (300 < s.size) = false := decide_eq_false (by omega)
  have c2' : decide (300 < (s.size : Int)) = false := decide_eq_false (by omega)
  have c3' : decide (300 < l1.length) = false := decide_eq_false (by omega)
  have c4' : decide (300 < (l1.length : Int)) = false := decide_eq_false (by omega)
  have HL1 : Aside0 (l1.length ≤ 4611686018427387904) := ⟨by omega⟩
  have HS1 : Aside0 (s.size ≤ 300) := ⟨by omega⟩
  have HS2 : Aside0 (s.size ≤ 140737488351232) := ⟨by omega⟩
  have HN := Aside0.mk hn
  have HM := Aside0.mk hm
  have HAA := Aside0.mk ha
  have HG := Aside0.mk hg
  have HRR := Aside0.mk hrr
  have HF := Aside0.mk hf
  have HBY := Aside0.mk hb
  have HR := Aside0.mk hr1
  have HC := Aside0.mk hc1
  obtain ⟨L, hL⟩ : ∃ L, L = put s.size ++ bytesOf s := ⟨_, rfl⟩
  have HL := Aside0.mk hL
  have seq1 : ((strOfNums (put n)).toList == (strOfNums (put n)).toList) = true := beq_self_eq_true _
  have seq2 : ((strOfNums L).toList == (strOfNums L).toList) = true := beq_self_eq_true _
  have seq3 : ((strOfNums (word m)).toList == (strOfNums (word m)).toList) = true := beq_self_eq_true _
  have seq4 : (rt.toList == rt.toList) = true := beq_self_eq_true _
  have q1 : (gn == gn) = true := beq_self_eq_true _
  have q2 : (gu == gu) = true := beq_self_eq_true _
  have q3 : (gi == gi) = true := beq_self_eq_true _
  have q4 : (rk == rk) = true := beq_self_eq_true _
  have q5 : (ri == ri) = true := beq_self_eq_true _
  have q6 : (fp == fp) = true := beq_self_eq_true _
  have q7 : (fi == fi) = true := beq_self_eq_true _
  clear hn hm ha hg hrr hf hb hr1 hc1 hL h1 h2
  go_enter Try.func10, Try.ntmps10
  go_wp2_with fail
  refine (awake_call _).mono ?_
  rintro e w1 ⟨rfl, hb1⟩
  have hB1 := Aside0.mk hb1
  clear hb1
  go_wp2_with fail
  refine (get_call HG.out HBY.out HL1.out A1 c1 _ (rdb_below HR.out hB1.out) HC.out).mono ?_
  rintro e w2 ⟨rfl, q2_, rfl⟩
  have hB2 := Aside0.mk (pw_below_drewN hB1.out q2_)
  go_wp2_with fail
  refine (rget_call HG.out HBY.out HL1.out A1 c1 _ (rdb_below HR.out hB2.out) HC.out).mono ?_
  rintro e w3 ⟨rfl, hb3⟩
  have hB3 := Aside0.mk (hB2.out.trans (hb3.mono hB2.out.size))
  clear hb3
  go_wp2_with fail
  refine (read_call' HG.out HBY.out HL1.out a4 _ rfl A1 c1 _ (rdb_below HR.out hB3.out) HC.out _ HRR.out).mono ?_
  rintro e w4 ⟨rfl, hb4⟩
  have hB4 := Aside0.mk (hB3.out.trans (hb4.mono hB3.out.size))
  clear hb4
  go_wp2_with fail
  refine (rread_call HG.out HBY.out HL1.out a4 HAA.out A1 c1 _ (rdb_below HR.out hB4.out) HC.out _ HRR.out).mono ?_
  rintro e w5 ⟨rfl, hb5⟩
  have hB5 := Aside0.mk (hB4.out.trans (hb5.mono hB4.out.size))
  clear hb5
  go_wp2_with fail
  refine (pfour_call l1 HBY.out A1 c1 _ (rdb_below HR.out hB5.out) HC.out _ HF.out).mono ?_
  rintro e w6 ⟨rfl, q6_, rfl⟩
  have hB6 := Aside0.mk (pw_below_drewN hB5.out q6_)
  go_wp2_with fail
  refine (rfour_call l1 HBY.out A1 c1 _ (rdb_below HR.out hB6.out) HC.out _ HF.out).mono ?_
  rintro e w7 ⟨rfl, hb7⟩
  have hB7 := Aside0.mk (hB6.out.trans (hb7.below.mono hB6.out.size))
  clear hb7
  go_wp2_with fail
  refine wp_region_held_drew (S := (fun _ => True)) (by kernel_rfl) (trivial) (fun hHeld => ?_)
  refine wpAnyH_take (i := 0) (v := ?_) (by simp only [List.getElem?_toArray, List.getElem?_cons_succ, List.getElem?_cons_zero]; rfl) (by kernel_rfl) (by kernel_rfl) (by kernel_rfl) (by intro _ _ _ h; exact h) (Or.inl ⟨by rfl, ?hy⟩) (by assumption) ?_
  case hy => (intro W_ hW_; go_simp; first | done | with_reducible rfl)
  try simp only [Act.put, List.setIfInBounds_toArray, List.set_cons_zero, List.set_cons_succ]
  refine wpAnyH_take (i := 3) (v := ?_) (by simp only [List.getElem?_toArray, List.getElem?_cons_succ, List.getElem?_cons_zero]; rfl) (by kernel_rfl) (by kernel_rfl) (by kernel_rfl) (by intro _ _ _ h; exact h) (Or.inl ⟨by rfl, ?hy⟩) (by assumption) ?_
  case hy => (intro W_ hW_; go_simp; first | done | with_reducible rfl)
  try simp only [Act.put, List.setIfInBounds_toArray, List.set_cons_zero, List.set_cons_succ]
  refine wpAnyH_ready (rs := [1]) (by kernel_rfl) (by simp) ?_
  refine AllReadyH.cons (by simp only [List.getElem?_toArray, List.getElem?_cons_succ, List.getElem?_cons_zero]; rfl) (fun K hK => ?_) AllReadyH.nil
  rw [if_pos (by rfl)]
  go_wp2_with fail
  refine (put_call n HN.out _).mono ?_
  rintro e w8 ⟨A8, c8, rfl, hc8, hA8, hb8⟩
  have hB8 := Aside0.mk ((below_drew hB7.out).trans (hb8.mono (below_drew hB7.out).size))
  refine hK.out _ _ (trivial) (fun hHeld2 => ?_)
  clear hK K hHeld
  try simp only [Act.put, List.setIfInBounds_toArray, List.set_cons_zero, List.set_cons_succ]
  refine wpAnyH_str (S2 := (fun W => (True ∧ RdB W A8 (put n).length (put n)))) (fun W h => h.1) _ _ _ _ ?_
  have hHeld := (And.intro hHeld2 hA8)
  clear hHeld2
  refine wpAnyH_take (i := 2) (v := ?_) (by simp only [List.getElem?_toArray, List.getElem?_cons_succ, List.getElem?_cons_zero]; rfl) (by kernel_rfl) (by kernel_rfl) (by kernel_rfl) (by intro _ _ _ h; exact h) (Or.inl ⟨by rfl, ?hy⟩) (by assumption) ?_
  case hy => (intro W_ hW_; have f_ := conv0 hW_.2 c8; go_simp; first | done | with_reducible rfl)
  try simp only [Act.put, List.setIfInBounds_toArray, List.set_cons_zero, List.set_cons_succ]
  refine wpAnyH_ready (rs := [4]) (by kernel_rfl) (by simp) ?_
  refine AllReadyH.cons (by simp only [List.getElem?_toArray, List.getElem?_cons_succ, List.getElem?_cons_zero]; rfl) (fun K hK => ?_) AllReadyH.nil
  rw [if_pos (by rfl)]
  go_wp2_with fail
  refine (rput_call n HN.out _).mono ?_
  rintro e w9 ⟨A9, c9, rfl, hc9, hA9, hb9⟩
  have hB9 := Aside0.mk (hB8.out.trans (hb9.mono hB8.out.size))
  refine hK.out _ _ (And.intro trivial (rdb_below hHeld.2 hb9)) (fun hHeld2 => ?_)
  clear hK K hHeld
  try simp only [Act.put, List.setIfInBounds_toArray, List.set_cons_zero, List.set_cons_succ]
  refine wpAnyH_str (S2 := (fun W => ((True ∧ RdB W A8 (put n).length (put n)) ∧ RdB W A9 (put n).length (put n)))) (fun W h => h.1) _ _ _ _ ?_
  have hHeld := (And.intro hHeld2 hA9)
  clear hHeld2
  refine wpAnyH_take (i := 5) (v := ?_) (by simp only [List.getElem?_toArray, List.getElem?_cons_succ, List.getElem?_cons_zero]; rfl) (by kernel_rfl) (by kernel_rfl) (by kernel_rfl) (by intro _ _ _ h; exact h) (Or.inl ⟨by rfl, ?hy⟩) (by assumption) ?_
  case hy => (intro W_ hW_; have f_ := conv0 hW_.2 c9; go_simp; first | done | with_reducible rfl)
  try simp only [Act.put, List.setIfInBounds_toArray, List.set_cons_zero, List.set_cons_succ]
  refine wpAnyH_take (i := 6) (v := ?_) (by simp only [List.getElem?_toArray, List.getElem?_cons_succ, List.getElem?_cons_zero]; rfl) (by kernel_rfl) (by kernel_rfl) (by kernel_rfl) (by intro _ _ _ h; exact h) (Or.inl ⟨by rfl, ?hy⟩) (by assumption) ?_
  case hy => (intro W_ hW_; go_simp; first | done | with_reducible rfl)
  try simp only [Act.put, List.setIfInBounds_toArray, List.set_cons_zero, List.set_cons_succ]
  refine wpAnyH_take (i := 7) (v := ?_) (by simp only [List.getElem?_toArray, List.getElem?_cons_succ, List.getElem?_cons_zero]; rfl) (by kernel_rfl) (by kernel_rfl) (by kernel_rfl) (by intro _ _ _ h; exact h) (Or.inl ⟨by rfl, ?hy⟩) (by assumption) ?_
  case hy => (intro W_ hW_; go_simp; first | done | with_reducible rfl)
  try simp only [Act.put, List.setIfInBounds_toArray, List.set_cons_zero, List.set_cons_succ]
  refine wpAnyH_take (i := 8) (v := ?_) (by simp only [List.getElem?_toArray, List.getElem?_cons_succ, List.getElem?_cons_zero]; rfl) (by kernel_rfl) (by kernel_rfl) (by kernel_rfl) (by intro _ _ _ h; exact h) (Or.inl ⟨by rfl, ?hy⟩) (by assumption) ?_
  case hy => (intro W_ hW_; go_simp; first | done | with_reducible rfl)
  try simp only [Act.put, List.setIfInBounds_toArray, List.set_cons_zero, List.set_cons_succ]
  refine wpAnyH_take (i := 11) (v := ?_) (by simp only [List.getElem?_toArray, List.getElem?_cons_succ, List.getElem?_cons_zero]; rfl) (by kernel_rfl) (by kernel_rfl) (by kernel_rfl) (by intro _ _ _ h; exact h) (Or.inl ⟨by rfl, ?hy⟩) (by assumption) ?_
  case hy => (intro W_ hW_; go_simp; first | done | with_reducible rfl)
  try simp only [Act.put, List.setIfInBounds_toArray, List.set_cons_zero, List.set_cons_succ]
  refine wpAnyH_ready (rs := [9]) (by kernel_rfl) (by simp) ?_
  refine AllReadyH.cons (by simp only [List.getElem?_toArray, List.getElem?_cons_succ, List.getElem?_cons_zero]; rfl) (fun K hK => ?_) AllReadyH.nil
  rw [if_pos (by rfl)]
  go_wp2_with fail
  refine (text_call' s HS2.out L HL.out _).mono ?_
  rintro e w10 ⟨A10, c10, rfl, hc10, hA10, hb10⟩
  have hB10 := Aside0.mk (hB9.out.trans (hb10.mono hB9.out.size))
  refine hK.out _ _ (And.intro (And.intro trivial (rdb_below hHeld.1.2 hb10)) (rdb_below hHeld.2 hb10)) (fun hHeld2 => ?_)
  clear hK K hHeld
  try simp only [Act.put, List.setIfInBounds_toArray, List.set_cons_zero, List.set_cons_succ]
  refine wpAnyH_str (S2 := (fun W => (((True ∧ RdB W A8 (put n).length (put n)) ∧ RdB W A9 (put n).length (put n)) ∧ RdB W A10 L.length L))) (fun W h => h.1) _ _ _ _ ?_
  have hHeld := (And.intro hHeld2 hA10)
  clear hHeld2
  refine wpAnyH_take (i := 10) (v := ?_) (by simp only [List.getElem?_toArray, List.getElem?_cons_succ, List.getElem?_cons_zero]; rfl) (by kernel_rfl) (by kernel_rfl) (by kernel_rfl) (by intro _ _ _ h; exact h) (Or.inl ⟨by rfl, ?hy⟩) (by assumption) ?_
  case hy => (intro W_ hW_; have f_ := conv0 hW_.2 c10; go_simp; first | done | with_reducible rfl)
  try simp only [Act.put, List.setIfInBounds_toArray, List.set_cons_zero, List.set_cons_succ]
  refine wpAnyH_ready (rs := [12]) (by kernel_rfl) (by simp) ?_
  refine AllReadyH.cons (by simp only [List.getElem?_toArray, List.getElem?_cons_succ, List.getElem?_cons_zero]; rfl) (fun K hK => ?_) AllReadyH.nil
  rw [if_pos (by rfl)]
  go_wp2_with fail
  refine (rtext_call s HS1.out L HL.out _).mono ?_
  rintro e w11 ⟨A11, c11, rfl, hc11, hA11, hb11⟩
  have hB11 := Aside0.mk (hB10.out.trans (hb11.mono hB10.out.size))
  refine hK.out _ _ (And.intro (And.intro (And.intro trivial (rdb_below hHeld.1.1.2 hb11)) (rdb_below hHeld.1.2 hb11)) (rdb_below hHeld.2 hb11)) (fun hHeld2 => ?_)
  clear hK K hHeld
  try simp only [Act.put, List.setIfInBounds_toArray, List.set_cons_zero, List.set_cons_succ]
  refine wpAnyH_str (S2 := (fun W => ((((True ∧ RdB W A8 (put n).length (put n)) ∧ RdB W A9 (put n).length (put n)) ∧ RdB W A10 L.length L) ∧ RdB W A11 L.length L))) (fun W h => h.1) _ _ _ _ ?_
  have hHeld := (And.intro hHeld2 hA11)
  clear hHeld2
  refine wpAnyH_take (i := 13) (v := ?_) (by simp only [List.getElem?_toArray, List.getElem?_cons_succ, List.getElem?_cons_zero]; rfl) (by kernel_rfl) (by kernel_rfl) (by kernel_rfl) (by intro _ _ _ h; exact h) (Or.inl ⟨by rfl, ?hy⟩) (by assumption) ?_
  case hy => (intro W_ hW_; have f_ := conv0 hW_.2 c11; go_simp; first | done | with_reducible rfl)
  try simp only [Act.put, List.setIfInBounds_toArray, List.set_cons_zero, List.set_cons_succ]
  refine wpAnyH_take (i := 14) (v := ?_) (by simp only [List.getElem?_toArray, List.getElem?_cons_succ, List.getElem?_cons_zero]; rfl) (by kernel_rfl) (by kernel_rfl) (by kernel_rfl) (by intro _ _ _ h; exact h) (Or.inl ⟨by rfl, ?hy⟩) (by assumption) ?_
  case hy => (intro W_ hW_; go_simp; first | done | with_reducible rfl)
  try simp only [Act.put, List.setIfInBounds_toArray, List.set_cons_zero, List.set_cons_succ]
  refine wpAnyH_take (i := 15) (v := ?_) (by simp only [List.getElem?_toArray, List.getElem?_cons_succ, List.getElem?_cons_zero]; rfl) (by kernel_rfl) (by kernel_rfl) (by kernel_rfl) (by intro _ _ _ h; exact h) (Or.inl ⟨by rfl, ?hy⟩) (by assumption) ?_
  case hy => (intro W_ hW_; go_simp; first | done | with_reducible rfl)
  try simp only [Act.put, List.setIfInBounds_toArray, List.set_cons_zero, List.set_cons_succ]
  refine wpAnyH_take (i := 16) (v := ?_) (by simp only [List.getElem?_toArray, List.getElem?_cons_succ, List.getElem?_cons_zero]; rfl) (by kernel_rfl) (by kernel_rfl) (by kernel_rfl) (by intro _ _ _ h; exact h) (Or.inl ⟨by rfl, ?hy⟩) (by assumption) ?_
  case hy => (intro W_ hW_; go_simp; first | done | with_reducible rfl)
  try simp only [Act.put, List.setIfInBounds_toArray, List.set_cons_zero, List.set_cons_succ]
  refine wpAnyH_take (i := 17) (v := ?_) (by simp only [List.getElem?_toArray, List.getElem?_cons_succ, List.getElem?_cons_zero]; rfl) (by kernel_rfl) (by kernel_rfl) (by kernel_rfl) (by intro _ _ _ h; exact h) (Or.inl ⟨by rfl, ?hy⟩) (by assumption) ?_
  case hy => (intro W_ hW_; go_simp; first | done | with_reducible rfl)
  try simp only [Act.put, List.setIfInBounds_toArray, List.set_cons_zero, List.set_cons_succ]
  refine wpAnyH_take (i := 20) (v := ?_) (by simp only [List.getElem?_toArray, List.getElem?_cons_succ, List.getElem?_cons_zero]; rfl) (by kernel_rfl) (by kernel_rfl) (by kernel_rfl) (by intro _ _ _ h; exact h) (Or.inl ⟨by rfl, ?hy⟩) (by assumption) ?_
  case hy => (intro W_ hW_; go_simp; first | done | with_reducible rfl)
  try simp only [Act.put, List.setIfInBounds_toArray, List.set_cons_zero, List.set_cons_succ]
  refine wpAnyH_ready (rs := [18]) (by kernel_rfl) (by simp) ?_
  refine AllReadyH.cons (by simp only [List.getElem?_toArray, List.getElem?_cons_succ, List.getElem?_cons_zero]; rfl) (fun K hK => ?_) AllReadyH.nil
  rw [if_pos (by rfl)]
  go_wp2_with fail
  refine (word_call m _).mono ?_
  rintro e w12 ⟨A12, c12, rfl, hc12, hA12, hb12⟩
  have hB12 := Aside0.mk (hB11.out.trans (hb12.mono hB11.out.size))
  refine hK.out _ _ (And.intro (And.intro (And.intro (And.intro trivial (rdb_below hHeld.1.1.1.2 hb12)) (rdb_below hHeld.1.1.2 hb12)) (rdb_below hHeld.1.2 hb12)) (rdb_below hHeld.2 hb12)) (fun hHeld2 => ?_)
  clear hK K hHeld
  try simp only [Act.put, List.setIfInBounds_toArray, List.set_cons_zero, List.set_cons_succ]
  refine wpAnyH_str (S2 := (fun W => (((((True ∧ RdB W A8 (put n).length (put n)) ∧ RdB W A9 (put n).length (put n)) ∧ RdB W A10 L.length L) ∧ RdB W A11 L.length L) ∧ RdB W A12 4 (word m)))) (fun W h => h.1) _ _ _ _ ?_
  have hHeld := (And.intro hHeld2 hA12)
  clear hHeld2
  refine wpAnyH_take (i := 19) (v := ?_) (by simp only [List.getElem?_toArray, List.getElem?_cons_succ, List.getElem?_cons_zero]; rfl) (by kernel_rfl) (by kernel_rfl) (by kernel_rfl) (by intro _ _ _ h; exact h) (Or.inl ⟨by rfl, ?hy⟩) (by assumption) ?_
  case hy => (intro W_ hW_; have f_ := conv0 hW_.2 c12; go_simp; first | done | with_reducible rfl)
  try simp only [Act.put, List.setIfInBounds_toArray, List.set_cons_zero, List.set_cons_succ]
  refine wpAnyH_ready (rs := [21]) (by kernel_rfl) (by simp) ?_
  refine AllReadyH.cons (by simp only [List.getElem?_toArray, List.getElem?_cons_succ, List.getElem?_cons_zero]; rfl) (fun K hK => ?_) AllReadyH.nil
  rw [if_pos (by rfl)]
  go_wp2_with fail
  refine (rword_call m HM.out _).mono ?_
  rintro e w13 ⟨A13, c13, rfl, hc13, hA13, hb13⟩
  have hB13 := Aside0.mk (hB12.out.trans (hb13.mono hB12.out.size))
  refine hK.out _ _ (And.intro (And.intro (And.intro (And.intro (And.intro trivial (rdb_below hHeld.1.1.1.1.2 hb13)) (rdb_below hHeld.1.1.1.2 hb13)) (rdb_below hHeld.1.1.2 hb13)) (rdb_below hHeld.1.2 hb13)) (rdb_below hHeld.2 hb13)) (fun hHeld2 => ?_)
  clear hK K hHeld
  try simp only [Act.put, List.setIfInBounds_toArray, List.set_cons_zero, List.set_cons_succ]
  refine wpAnyH_str (S2 := (fun W => ((((((True ∧ RdB W A8 (put n).length (put n)) ∧ RdB W A9 (put n).length (put n)) ∧ RdB W A10 L.length L) ∧ RdB W A11 L.length L) ∧ RdB W A12 4 (word m)) ∧ RdB W A13 4 (word m)))) (fun W h => h.1) _ _ _ _ ?_
  have hHeld := (And.intro hHeld2 hA13)
  clear hHeld2
  refine wpAnyH_take (i := 22) (v := ?_) (by simp only [List.getElem?_toArray, List.getElem?_cons_succ, List.getElem?_cons_zero]; rfl) (by kernel_rfl) (by kernel_rfl) (by kernel_rfl) (by intro _ _ _ h; exact h) (Or.inl ⟨by rfl, ?hy⟩) (by assumption) ?_
  case hy => (intro W_ hW_; have f_ := conv0 hW_.2 c13; go_simp; first | done | with_reducible rfl)
  try simp only [Act.put, List.setIfInBounds_toArray, List.set_cons_zero, List.set_cons_succ]
  refine wpAnyH_take (i := 23) (v := ?_) (by simp only [List.getElem?_toArray, List.getElem?_cons_succ, List.getElem?_cons_zero]; rfl) (by kernel_rfl) (by kernel_rfl) (by kernel_rfl) (by intro _ _ _ h; exact h) (Or.inl ⟨by rfl, ?hy⟩) (by assumption) ?_
  case hy => (intro W_ hW_; go_simp; first | done | with_reducible rfl)
  try simp only [Act.put, List.setIfInBounds_toArray, List.set_cons_zero, List.set_cons_succ]
  refine wpAnyH_take (i := 24) (v := ?_) (by simp only [List.getElem?_toArray, List.getElem?_cons_succ, List.getElem?_cons_zero]; rfl) (by kernel_rfl) (by kernel_rfl) (by kernel_rfl) (by intro _ _ _ h; exact h) (Or.inl ⟨by rfl, ?hy⟩) (by assumption) ?_
  case hy => (intro W_ hW_; go_simp; first | done | with_reducible rfl)
  try simp only [Act.put, List.setIfInBounds_toArray, List.set_cons_zero, List.set_cons_succ]
  refine wpAnyH_take (i := 25) (v := ?_) (by simp only [List.getElem?_toArray, List.getElem?_cons_succ, List.getElem?_cons_zero]; rfl) (by kernel_rfl) (by kernel_rfl) (by kernel_rfl) (by intro _ _ _ h; exact h) (Or.inl ⟨by rfl, ?hy⟩) (by assumption) ?_
  case hy => (intro W_ hW_; go_simp; first | done | with_reducible rfl)
  try simp only [Act.put, List.setIfInBounds_toArray, List.set_cons_zero, List.set_cons_succ]
  refine wpAnyH_done (by kernel_rfl) ?_ _
  go_wp2_with fail
  go_ret
  exact ⟨rfl, hB13.out⟩

theorem rolodexlaw01_WireTells.walk (a0 : Int) (a1 : ByteArray) (a2 : Int) (a3 : Option Addr) (len3 cap3 : Nat) (z3 : List Int) (a4 : Int) (w : World) (w0 : (Lit.int .u64 a0).wf = true) (w1 : a1.size ≤ 140737488351232) (w2 : (Lit.int .u32 a2).wf = true) (w3 : (a3 = none ∧ len3 = 0 ∧ cap3 = 0 ∧ z3 = []) ∨ ∃ x, a3 = some x ∧ len3 ≤ cap3 ∧ cap3 ≤ maxLen ∧ z3.length = cap3 ∧ (∀ i, i < z3.length → w.cell? (x.add i) = some (.int .u8 (z3.getD i 0))) ∧ ∀ n ∈ z3, (Lit.int .u8 n).wf = true) (y3 : len3 * 1 ≤ 140737488351232) (w4 : (Lit.int .i64 a4).wf = true) :
    Calls Try.prog 10 #[.int .u64 a0, .string a1, .int .u32 a2, .slice a3 len3 cap3, .int .i64 a4] w fun e w' => e = .returned (.bool true) ∧ Below w.heap.size w w' := by
  obtain ⟨l3, rfl, hr3, hm3, hw3, hc3⟩ := ReadsInt.ofRowC w3
  have hr : RdB w a3 l3.length l3 := Kd.C_of_reads (d := (0 : Int)) (h1 := fun _ => rfl) hr3
  have hb := bytes_of_wf hw3
  simp only [Lit.wf, IntKind.min, IntKind.max, IntKind.bits, IntKind.signed, Bool.and_eq_true, decide_eq_true_eq] at w0 w2 w4
  simp at w0 w2 w4
  obtain ⟨n, rfl⟩ := Int.eq_ofNat_of_zero_le w0.1
  obtain ⟨m, rfl⟩ := Int.eq_ofNat_of_zero_le w2.1
  by_cases h : 300 < a1.size
  · exact tells_long1 n m a1 a4 a3 cap3 l3 w h
  by_cases h2 : 300 < l3.length
  · exact tells_long2 n m a1 a4 a3 cap3 l3 w h h2
  obtain ⟨⟨gn, gu, gi⟩, _, hi⟩ := Get_is l3 hb (by omega) (2 * l3.length + 3) (by omega)
  exact tells_yes n m (by omega) (by omega) a1 a4 (by omega) a3 cap3 l3 w hr hc3 hb h h2 gn gu gi hi _ _ _ rfl _ _ rfl

end Go.Proofs.Ytghafocfbamcdaa.X
