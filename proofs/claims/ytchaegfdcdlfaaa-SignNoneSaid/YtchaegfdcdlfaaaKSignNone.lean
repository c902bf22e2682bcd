/- SignNone: the walk, the plain law, the row. -/
import Derived.WalkLawsBesides
import Derived.Test.YtchaegfdcdlfaaaG2
import Derived.Test.YtchaegfdcdlfaaaRows
import Derived.WalkKit
import Derived.ProofKit
import Derived.OpenShut
import Derived.ShutString
import Derived.ChangeOld
import Derived.Below
import Derived.SizedLaws
import Derived.Test.YtchaegfdcdlfaaaWSized

/- Where a text's block is first, or that there is none: the walk. -/
namespace Go.Proofs.Ytchaegfdcdlfaaa.X
set_option linter.unusedVariables false
set_option linter.unusedSimpArgs false
open Go.RowKit Go.Maps Go.Proofs.YtchaegfdcdlfaaaW.PrintWords Go.Proofs.YtchaegfdcdlfaaaW.PrintLast Go.Proofs.YtchaegfdcdlfaaaW.PrintMore

theorem sg_nil (W : World) : sgK.C W none 0 [] := ⟨rfl, by omega, fun h => absurd h (by omega)⟩
theorem find_nil (s : ByteArray) : findOf [] s = -1 := by unfold findOf idxI; simp
theorem sg_take {W : World} {A : Option Addr} {n : Nat} {l : List Sg} (h : sgK.C W A n l) (hn : l.length = n) {i : Nat} (hi : i ≤ n) : sgK.C W A i (l.take i) := by
  subst hn
  have := Kd.C_take h hi
  rwa [List.length_take, Nat.min_eq_left hi] at this
theorem find_cases (l : List Sg) (s : ByteArray) : findOf l s = -1 ∨ ∃ i : Nat, findOf l s = (i : Int) ∧ s.size = 8 ∧ i < l.length ∧ l.getD i (0, []) = oneOf s ∧ findOf (l.take i) s = -1 := by
  unfold findOf
  by_cases h8 : s.size = 8
  · rw [if_pos h8]
    unfold idxI
    by_cases hm : oneOf s ∈ l
    · rw [if_pos hm]
      obtain ⟨h1, h2, h3⟩ := idxOf_first hm
      refine .inr ⟨l.idxOf (oneOf s), rfl, h8, h1, ?_, ?_⟩
      · rw [List.getD_eq_getElem?_getD, h2]
        rfl
      · rw [if_pos h8, if_neg]
        intro hin
        obtain ⟨j, hj, he⟩ := List.mem_iff_getElem.1 hin
        have hj2 : j < l.idxOf (oneOf s) := by rw [List.length_take] at hj; omega
        refine h3 j hj2 ?_
        rw [List.getElem_take] at he
        rw [List.getElem?_eq_getElem (by omega), he]
    · rw [if_neg hm]
      exact .inl rfl
  · rw [if_neg h8]
    exact .inl rfl
set_option maxHeartbeats 2000000 in
set_option maxRecDepth 100000 in
theorem none_off0 (A : Option Addr) (n c : Nat) (s : ByteArray) (w : World)  (h : 60 < n) : Calls Try.prog 6 #[.slice A n c, .string s] w fun e w' => e = .returned (.bool true) ∧ Below w.heap.size w w' := by
  have e0 : decide ((n : Int) > 60) = true := decide_eq_true (by omega)
  have e0b : decide (60 < n) = true := decide_eq_true h
  go_enter Try.func6, Try.ntmps6
  go_wp2_with fail
  refine (awake10_call _).mono ?_
  rintro e w1 ⟨rfl, hb1⟩
  go_wp2_with fail
  go_ret
  exact ⟨rfl, hb1⟩
set_option maxHeartbeats 2000000 in
set_option maxRecDepth 100000 in
theorem none_off1 (A : Option Addr) (n c : Nat) (s : ByteArray) (w : World) (h0 : ¬ 60 < n) (h : 300 < s.size) : Calls Try.prog 6 #[.slice A n c, .string s] w fun e w' => e = .returned (.bool true) ∧ Below w.heap.size w w' := by
  have d0 : decide ((n : Int) > 60) = false := decide_eq_false (by omega)
  have d0b : decide (60 < n) = false := decide_eq_false (by omega)
  have e1 : decide ((s.size : Int) > 300) = true := decide_eq_true (by omega)
  have e1b : decide (300 < s.size) = true := decide_eq_true h
  go_enter Try.func6, Try.ntmps6
  go_wp2_with fail
  refine (awake10_call _).mono ?_
  rintro e w1 ⟨rfl, hb1⟩
  go_wp2_with fail
  go_ret
  exact ⟨rfl, hb1⟩
set_option maxHeartbeats 2000000 in
set_option maxRecDepth 100000 in
theorem none_on (A : Option Addr) (n c : Nat) (l : List Sg) (s : ByteArray) (w : World) (hn : l.length = n) (hc : n ≤ c) (hr : sgK.C w A n l) (hok : ∀ s ∈ l, SgOk s) (h0 : ¬ 60 < n) (h1 : ¬ 300 < s.size) : Calls Try.prog 6 #[.slice A n c, .string s] w fun e w' => e = .returned (.bool true) ∧ Below w.heap.size w w' := by
  have d0 : decide ((n : Int) > 60) = false := decide_eq_false (by omega)
  have d0b : decide (60 < n) = false := decide_eq_false (by omega)
  have d1 : decide ((s.size : Int) > 300) = false := decide_eq_false (by omega)
  have d1b : decide (300 < s.size) = false := decide_eq_false (by omega)
  have HN := Aside0.mk hn
  have HOK := Aside0.mk hok
  have HN60 : Aside0 (n ≤ 60) := ⟨by omega⟩
  have HS3 : Aside0 (s.size ≤ 300) := ⟨by omega⟩
  have HC := Aside0.mk hc
  rcases find_cases l s with hf | ⟨i, hf, h8, hi, hy, ht⟩
  · have HF := Aside0.mk hf
    have HR0 := Aside0.mk hr
    clear hf hn hok h0 h1 hr hc
    go_enter Try.func6, Try.ntmps6
    go_wp2_with fail
    refine (awake10_call _).mono ?_
    rintro e w1 ⟨rfl, hb1⟩
    have HB1 := Aside0.mk hb1
    clear hb1
    go_wp2_with fail
    refine (find_callB HN.out A c s _ (Kd.C_below HR0.out HB1.out) HOK.out (by have := HN60.out; omega) (by have := HS3.out; omega) (-1) HF.out).mono ?_
    rintro e w2 ⟨rfl, hb2⟩
    have HB2 := Aside0.mk (below_step HB1.out hb2)
    clear hb2
    go_wp2_with fail
    refine (find_callB (l := []) (n := 0) rfl none 0 s _ (sg_nil _) (fun s h => absurd h (by simp)) (by omega) (by have := HS3.out; omega) (-1) (find_nil s)).mono ?_
    rintro e w3 ⟨rfl, hb3⟩
    have HB3 := Aside0.mk (below_step HB2.out hb3)
    clear hb3
    go_wp2_with fail
    go_ret
    exact ⟨rfl, HB3.out⟩
  · have HF := Aside0.mk hf
    have HFT := Aside0.mk ht
    have hi2 : i < n := by omega
    have HI := Aside0.mk hi2
    obtain ⟨y, hyo⟩ : ∃ y, oneOf s = y := ⟨_, rfl⟩
    have HYO := Aside0.mk hyo
    rw [hyo] at hy
    have HYL := Aside0.mk hy
    have HY : Aside0 (SgOk y) := ⟨by rw [← hyo]; exact oneOf_ok s⟩
    have HTL : Aside0 ((l.take i).length = i) := ⟨by rw [List.length_take]; omega⟩
    have HOKT : Aside0 (∀ s ∈ l.take i, SgOk s) := ⟨fun s h => hok s (List.mem_of_mem_take h)⟩
    have f1 : ((i : Int) == -1) = false := by simp
    have f1b : ((i : Int) = -1) = False := by simp
    have f2 : decide ((i : Int) ≥ 0) = true := by simp
    have f2b : (0 ≤ (i : Int)) = True := by simp
    have f3 : decide ((i : Int) < (n : Int)) = true := by simp; omega
    have f3b : ((i : Int) < (n : Int)) = True := by simp; omega
    have f3n : decide (i < n) = true := by simp; omega
    have f4 : ((s.size : Int) == 8) = true := by simp; omega
    have f4b : ((s.size : Int) = 8) = True := by simp; omega
    have f4n : (s.size = 8) = True := by simp; omega
    have hcut : ∀ W : World, (Instr.slice 22 (.slice A n c) none (some (.int .i64 (i : Int))) none).run Try.prog W = .ok (.slice A i c) W := by
      obtain ⟨i0, hi0⟩ : ∃ i0, Try.prog.info? 30 = some i0 := Option.isSome_iff_exists.1 (by kernel_rfl)
      have := cut_to (P := Try.prog) 22 30 .i64 Try.underlying22 hi0 A n c (i : Int) (by omega) (by omega) hc
      simpa using this
    obtain ⟨ad, hA, _⟩ := sg_at hr hi2 y hy
    subst hA
    have HR0 := Aside0.mk hr
    clear hf hn hok h0 h1 hr hc ht hi hi2 hy hyo h8
    go_enter Try.func6, Try.ntmps6
    go_wp2_with fail
    refine (awake10_call _).mono ?_
    rintro e w1 ⟨rfl, hb1⟩
    have HB1 := Aside0.mk hb1
    clear hb1
    go_wp2_with fail
    refine (find_callB HN.out (some ad) c s _ (Kd.C_below HR0.out HB1.out) HOK.out (by have := HN60.out; omega) (by have := HS3.out; omega) (i : Int) HF.out).mono ?_
    rintro e w2 ⟨rfl, hb2⟩
    have HB2 := Aside0.mk (below_step HB1.out hb2)
    have HR := Aside0.mk (Kd.C_below HR0.out HB2.out)
    clear hb2 HB1 HR0
    go_wp2_with fail
    refine wp_region_held_drew (S := (fun W => sgK.C W (some ad) n l ∧ Below w.heap.size w W)) (by kernel_rfl) ((And.intro HR.out (below_drew HB2.out))) (fun hHeld => ?_)
    refine wpAnyH_take (i := 0) (v := ?_) (by simp only [List.getElem?_toArray, List.getElem?_cons_succ, List.getElem?_cons_zero]; rfl) (by kernel_rfl) (by kernel_rfl) (by kernel_rfl) (by intro _ _ _ h; exact h) (Or.inl ⟨by rfl, ?hy⟩) (by assumption) ?_
    case hy => (intro W_ hW_; go_simp; first | done | with_reducible rfl)
    try simp only [Act.put, List.setIfInBounds_toArray, List.set_cons_zero, List.set_cons_succ]
    refine wpAnyH_take (i := 1) (v := ?_) (by simp only [List.getElem?_toArray, List.getElem?_cons_succ, List.getElem?_cons_zero]; rfl) (by kernel_rfl) (by kernel_rfl) (by kernel_rfl) (by intro _ _ _ h; exact h) (Or.inl ⟨by rfl, ?hy⟩) (by assumption) ?_
    case hy => (intro W_ hW_; go_simp; first | done | with_reducible rfl)
    try simp only [Act.put, List.setIfInBounds_toArray, List.set_cons_zero, List.set_cons_succ]
    refine wpAnyH_take (i := 2) (v := ?_) (by simp only [List.getElem?_toArray, List.getElem?_cons_succ, List.getElem?_cons_zero]; rfl) (by kernel_rfl) (by kernel_rfl) (by kernel_rfl) (by intro _ _ _ h; exact h) (Or.inl ⟨by rfl, ?hy⟩) (by assumption) ?_
    case hy => (intro W_ hW_; go_simp; first | done | with_reducible rfl)
    try simp only [Act.put, List.setIfInBounds_toArray, List.set_cons_zero, List.set_cons_succ]
    refine wpAnyH_take (i := 3) (v := ?_) (by simp only [List.getElem?_toArray, List.getElem?_cons_succ, List.getElem?_cons_zero]; rfl) (by kernel_rfl) (by kernel_rfl) (by kernel_rfl) (by intro _ _ _ h; exact h) (Or.inl ⟨by rfl, ?hy⟩) (by assumption) ?_
    case hy => (intro W_ hW_; go_simp; first | done | with_reducible rfl)
    try simp only [Act.put, List.setIfInBounds_toArray, List.set_cons_zero, List.set_cons_succ]
    refine wpAnyH_take (i := 4) (v := ?_) (by simp only [List.getElem?_toArray, List.getElem?_cons_succ, List.getElem?_cons_zero]; rfl) (by kernel_rfl) (by kernel_rfl) (by kernel_rfl) (by intro _ _ _ h; exact h) (Or.inl ⟨by rfl, ?hy⟩) (by assumption) ?_
    case hy => (intro W_ hW_; go_simp; first | done | with_reducible rfl)
    try simp only [Act.put, List.setIfInBounds_toArray, List.set_cons_zero, List.set_cons_succ]
    refine wpAnyH_take (i := 5) (v := ?_) (by simp only [List.getElem?_toArray, List.getElem?_cons_succ, List.getElem?_cons_zero]; rfl) (by kernel_rfl) (by kernel_rfl) (by kernel_rfl) (by intro _ _ _ h; exact h) (Or.inl ⟨by rfl, ?hy⟩) (by assumption) ?_
    case hy => (intro W_ hW_; go_simp; first | done | with_reducible rfl)
    try simp only [Act.put, List.setIfInBounds_toArray, List.set_cons_zero, List.set_cons_succ]
    refine wpAnyH_take (i := 6) (v := ?_) (by simp only [List.getElem?_toArray, List.getElem?_cons_succ, List.getElem?_cons_zero]; rfl) (by kernel_rfl) (by kernel_rfl) (by kernel_rfl) (by intro _ _ _ h; exact h) (Or.inl ⟨by rfl, ?hy⟩) (by assumption) ?_
    case hy => (intro W_ hW_; go_simp; first | done | with_reducible rfl)
    try simp only [Act.put, List.setIfInBounds_toArray, List.set_cons_zero, List.set_cons_succ]
    refine wpAnyH_take (i := 7) (v := ?_) (by simp only [List.getElem?_toArray, List.getElem?_cons_succ, List.getElem?_cons_zero]; rfl) (by kernel_rfl) (by kernel_rfl) (by kernel_rfl) (by intro _ _ _ h; exact h) (Or.inl ⟨by rfl, ?hy⟩) (by assumption) ?_
    case hy => (intro W_ hW_; go_simp; first | done | with_reducible rfl)
    try simp only [Act.put, List.setIfInBounds_toArray, List.set_cons_zero, List.set_cons_succ]
    refine wpAnyH_take (i := 8) (v := ?_) (by simp only [List.getElem?_toArray, List.getElem?_cons_succ, List.getElem?_cons_zero]; rfl) (by kernel_rfl) (by kernel_rfl) (by kernel_rfl) (by intro _ _ _ h; exact h) (Or.inl ⟨by rfl, ?hy⟩) (by assumption) ?_
    case hy => (intro W_ hW_; go_simp; first | done | with_reducible rfl)
    try simp only [Act.put, List.setIfInBounds_toArray, List.set_cons_zero, List.set_cons_succ]
    refine wpAnyH_take (i := 9) (v := ?_) (by simp only [List.getElem?_toArray, List.getElem?_cons_succ, List.getElem?_cons_zero]; rfl) (by kernel_rfl) (by kernel_rfl) (by kernel_rfl) (by intro _ _ _ h; exact h) (Or.inl ⟨by rfl, ?hy⟩) (by assumption) ?_
    case hy => (intro W_ hW_; go_simp; first | done | with_reducible rfl)
    try simp only [Act.put, List.setIfInBounds_toArray, List.set_cons_zero, List.set_cons_succ]
    refine wpAnyH_take (i := 10) (v := ?_) (by simp only [List.getElem?_toArray, List.getElem?_cons_succ, List.getElem?_cons_zero]; rfl) (by kernel_rfl) (by kernel_rfl) (by kernel_rfl) (by intro _ _ _ h; exact h) (Or.inl ⟨by rfl, ?hy⟩) (by assumption) ?_
    case hy => (intro W_ hW_; go_simp; first | done | with_reducible rfl)
    try simp only [Act.put, List.setIfInBounds_toArray, List.set_cons_zero, List.set_cons_succ]
    refine wpAnyH_take (i := 11) (v := ?_) (by simp only [List.getElem?_toArray, List.getElem?_cons_succ, List.getElem?_cons_zero]; rfl) (by kernel_rfl) (by kernel_rfl) (by kernel_rfl) (by intro _ _ _ h; exact h) (Or.inl ⟨by rfl, ?hy⟩) (by assumption) ?_
    case hy => (intro W_ hW_; go_simp; first | done | with_reducible rfl)
    try simp only [Act.put, List.setIfInBounds_toArray, List.set_cons_zero, List.set_cons_succ]
    refine wpAnyH_take (i := 12) (v := ?_) (by simp only [List.getElem?_toArray, List.getElem?_cons_succ, List.getElem?_cons_zero]; rfl) (by kernel_rfl) (by kernel_rfl) (by kernel_rfl) (by intro _ _ _ h; exact h) (Or.inl ⟨by rfl, ?hy⟩) (by assumption) ?_
    case hy => (intro W_ hW_; go_simp; first | done | with_reducible rfl)
    try simp only [Act.put, List.setIfInBounds_toArray, List.set_cons_zero, List.set_cons_succ]
    refine wpAnyH_take (i := 13) (v := ?_) (by simp only [List.getElem?_toArray, List.getElem?_cons_succ, List.getElem?_cons_zero]; rfl) (by kernel_rfl) (by kernel_rfl) (by kernel_rfl) (by intro _ _ _ h; exact h) (Or.inl ⟨by rfl, ?hy⟩) (by assumption) ?_
    case hy => (intro W_ hW_; go_simp; first | done | with_reducible rfl)
    try simp only [Act.put, List.setIfInBounds_toArray, List.set_cons_zero, List.set_cons_succ]
    refine wpAnyH_take (i := 14) (v := ?_) (by simp only [List.getElem?_toArray, List.getElem?_cons_succ, List.getElem?_cons_zero]; rfl) (by kernel_rfl) (by kernel_rfl) (by kernel_rfl) (by intro _ _ _ h; exact h) (Or.inl ⟨by rfl, ?hy⟩) (by assumption) ?_
    case hy => (intro W_ hW_; go_simp; first | done | with_reducible rfl)
    try simp only [Act.put, List.setIfInBounds_toArray, List.set_cons_zero, List.set_cons_succ]
    refine wpAnyH_take (i := 15) (v := ?_) (by simp only [List.getElem?_toArray, List.getElem?_cons_succ, List.getElem?_cons_zero]; rfl) (by kernel_rfl) (by kernel_rfl) (by kernel_rfl) (by intro _ _ _ h; exact h) (Or.inl ⟨by rfl, ?hy⟩) (by assumption) ?_
    case hy => (intro W_ hW_; go_simp; first | done | with_reducible rfl)
    try simp only [Act.put, List.setIfInBounds_toArray, List.set_cons_zero, List.set_cons_succ]
    refine wpAnyH_take (i := 16) (v := ?_) (by simp only [List.getElem?_toArray, List.getElem?_cons_succ, List.getElem?_cons_zero]; rfl) (by kernel_rfl) (by kernel_rfl) (by kernel_rfl) (by intro _ _ _ h; exact h) (Or.inl ⟨by rfl, ?hy⟩) (by assumption) ?_
    case hy => (intro W_ hW_; go_simp; first | done | with_reducible rfl)
    try simp only [Act.put, List.setIfInBounds_toArray, List.set_cons_zero, List.set_cons_succ]
    refine wpAnyH_take (i := 17) (v := ?_) (by simp only [List.getElem?_toArray, List.getElem?_cons_succ, List.getElem?_cons_zero]; rfl) (by kernel_rfl) (by kernel_rfl) (by kernel_rfl) (by intro _ _ _ h; exact h) (Or.inl ⟨by rfl, ?hy⟩) (by assumption) ?_
    case hy => (intro W_ hW_; refine Eq.trans (exec_load_cells 30 (.tmp 45) ?_ (ad.add (i * 33)) ?_ (sgA y) _ (sg_at' hW_.1 HI.out y HYL.out) Try.underlying30 rfl (sgInfo HY.out.len)) ?_ <;> (first | with_reducible rfl | rfl))
    try simp only [Act.put, List.setIfInBounds_toArray, List.set_cons_zero, List.set_cons_succ]
    refine wpAnyH_take (i := 18) (v := ?_) (by simp only [List.getElem?_toArray, List.getElem?_cons_succ, List.getElem?_cons_zero]; rfl) (by kernel_rfl) (by kernel_rfl) (by kernel_rfl) (by intro _ _ _ h; exact h) (Or.inl ⟨by rfl, ?hy⟩) (by assumption) ?_
    case hy => (intro W_ hW_; go_simp; first | done | with_reducible rfl)
    try simp only [Act.put, List.setIfInBounds_toArray, List.set_cons_zero, List.set_cons_succ]
    refine wpAnyH_ready (rs := [19]) (by kernel_rfl) (by simp) ?_
    refine AllReadyH.cons (by simp only [List.getElem?_toArray, List.getElem?_cons_succ, List.getElem?_cons_zero]; rfl) (fun K hK => ?_) AllReadyH.nil
    rw [if_pos (by rfl)]
    go_wp2_with fail
    refine (one_callB s (by have := HS3.out; omega) y HYO.out _).mono ?_
    rintro e w4 ⟨rfl, hb5⟩
    refine hK.out _ _ (And.intro (Kd.C_below hHeld.1 hb5) (below_step hHeld.2 hb5)) (fun hHeld2 => ?_)
    clear hK K hHeld
    have hHeld := hHeld2
    clear hHeld2
    try simp only [Act.put, List.setIfInBounds_toArray, List.set_cons_zero, List.set_cons_succ]
    refine wpAnyH_take (i := 20) (v := ?_) (by simp only [List.getElem?_toArray, List.getElem?_cons_succ, List.getElem?_cons_zero]; rfl) (by kernel_rfl) (by kernel_rfl) (by kernel_rfl) (by intro _ _ _ h; exact h) (Or.inl ⟨by rfl, ?hy⟩) (by assumption) ?_
    case hy => (intro W_ hW_; refine Eq.trans (exec_eql_sg y y HY.out HY.out (.tmp 46) (.tmp 48) ?_ ?_ ?_) ?_ <;> (first | with_reducible rfl | rfl))
    try simp only [Act.put, List.setIfInBounds_toArray, List.set_cons_zero, List.set_cons_succ]
    refine wpAnyH_take (i := 21) (v := ?_) (by simp only [List.getElem?_toArray, List.getElem?_cons_succ, List.getElem?_cons_zero]; rfl) (by kernel_rfl) (by kernel_rfl) (by kernel_rfl) (by intro _ _ _ h; exact h) (Or.inl ⟨by rfl, ?hy⟩) (by assumption) ?_
    case hy => (intro W_ hW_; go_simp; first | done | with_reducible rfl)
    try simp only [Act.put, List.setIfInBounds_toArray, List.set_cons_zero, List.set_cons_succ]
    refine wpAnyH_take (i := 22) (v := ?_) (by simp only [List.getElem?_toArray, List.getElem?_cons_succ, List.getElem?_cons_zero]; rfl) (by kernel_rfl) (by kernel_rfl) (by kernel_rfl) (by intro _ _ _ h; exact h) (Or.inl ⟨by rfl, ?hy⟩) (by assumption) ?_
    case hy => (intro W_ hW_; go_simp; first | done | with_reducible rfl)
    try simp only [Act.put, List.setIfInBounds_toArray, List.set_cons_zero, List.set_cons_succ]
    refine wpAnyH_take (i := 23) (v := ?_) (by simp only [List.getElem?_toArray, List.getElem?_cons_succ, List.getElem?_cons_zero]; rfl) (by kernel_rfl) (by kernel_rfl) (by kernel_rfl) (by intro _ _ _ h; exact h) (Or.inl ⟨by rfl, ?hy⟩) (by assumption) ?_
    case hy => (intro W_ hW_; go_simp; first | done | with_reducible rfl)
    try simp only [Act.put, List.setIfInBounds_toArray, List.set_cons_zero, List.set_cons_succ]
    refine wpAnyH_take (i := 24) (v := ?_) (by simp only [List.getElem?_toArray, List.getElem?_cons_succ, List.getElem?_cons_zero]; rfl) (by kernel_rfl) (by kernel_rfl) (by kernel_rfl) (by intro _ _ _ h; exact h) (Or.inl ⟨by rfl, ?hy⟩) (by assumption) ?_
    case hy => (intro W_ hW_; go_simp; first | done | with_reducible rfl)
    try simp only [Act.put, List.setIfInBounds_toArray, List.set_cons_zero, List.set_cons_succ]
    refine wpAnyH_take (i := 25) (v := ?_) (by simp only [List.getElem?_toArray, List.getElem?_cons_succ, List.getElem?_cons_zero]; rfl) (by kernel_rfl) (by kernel_rfl) (by kernel_rfl) (by intro _ _ _ h; exact h) (Or.inl ⟨by rfl, ?hy⟩) (by assumption) ?_
    case hy => (intro W_ hW_; go_simp; first | done | with_reducible rfl)
    try simp only [Act.put, List.setIfInBounds_toArray, List.set_cons_zero, List.set_cons_succ]
    refine wpAnyH_take (i := 26) (v := ?_) (by simp only [List.getElem?_toArray, List.getElem?_cons_succ, List.getElem?_cons_zero]; rfl) (by kernel_rfl) (by kernel_rfl) (by kernel_rfl) (by intro _ _ _ h; exact h) (Or.inl ⟨by rfl, ?hy⟩) (by assumption) ?_
    case hy => (intro W_ hW_; go_simp; first | done | with_reducible rfl)
    try simp only [Act.put, List.setIfInBounds_toArray, List.set_cons_zero, List.set_cons_succ]
    refine wpAnyH_ready (rs := [27]) (by kernel_rfl) (by simp) ?_
    refine AllReadyH.cons (by simp only [List.getElem?_toArray, List.getElem?_cons_succ, List.getElem?_cons_zero]; rfl) (fun K hK => ?_) AllReadyH.nil
    rw [if_pos (by rfl)]
    go_wp2_with fail
    refine (find_callB HTL.out (some ad) c s _ (sg_take hHeld.1 HN.out (by have := HI.out; omega)) HOKT.out (by have := HI.out; have := HN60.out; omega) (by have := HS3.out; omega) (-1) HFT.out).mono ?_
    rintro e w5 ⟨rfl, hb5⟩
    refine hK.out _ _ (And.intro (Kd.C_below hHeld.1 hb5) (below_step hHeld.2 hb5)) (fun hHeld2 => ?_)
    clear hK K hHeld
    have hHeld := hHeld2
    clear hHeld2
    try simp only [Act.put, List.setIfInBounds_toArray, List.set_cons_zero, List.set_cons_succ]
    refine wpAnyH_take (i := 28) (v := ?_) (by simp only [List.getElem?_toArray, List.getElem?_cons_succ, List.getElem?_cons_zero]; rfl) (by kernel_rfl) (by kernel_rfl) (by kernel_rfl) (by intro _ _ _ h; exact h) (Or.inl ⟨by rfl, ?hy⟩) (by assumption) ?_
    case hy => (intro W_ hW_; go_simp; first | done | with_reducible rfl)
    try simp only [Act.put, List.setIfInBounds_toArray, List.set_cons_zero, List.set_cons_succ]
    refine wpAnyH_take (i := 29) (v := ?_) (by simp only [List.getElem?_toArray, List.getElem?_cons_succ, List.getElem?_cons_zero]; rfl) (by kernel_rfl) (by kernel_rfl) (by kernel_rfl) (by intro _ _ _ h; exact h) (Or.inl ⟨by rfl, ?hy⟩) (by assumption) ?_
    case hy => (intro W_ hW_; go_simp; first | done | with_reducible rfl)
    try simp only [Act.put, List.setIfInBounds_toArray, List.set_cons_zero, List.set_cons_succ]
    refine wpAnyH_take (i := 30) (v := ?_) (by simp only [List.getElem?_toArray, List.getElem?_cons_succ, List.getElem?_cons_zero]; rfl) (by kernel_rfl) (by kernel_rfl) (by kernel_rfl) (by intro _ _ _ h; exact h) (Or.inl ⟨by rfl, ?hy⟩) (by assumption) ?_
    case hy => (intro W_ hW_; go_simp; first | done | with_reducible rfl)
    try simp only [Act.put, List.setIfInBounds_toArray, List.set_cons_zero, List.set_cons_succ]
    refine wpAnyH_take (i := 31) (v := ?_) (by simp only [List.getElem?_toArray, List.getElem?_cons_succ, List.getElem?_cons_zero]; rfl) (by kernel_rfl) (by kernel_rfl) (by kernel_rfl) (by intro _ _ _ h; exact h) (Or.inl ⟨by rfl, ?hy⟩) (by assumption) ?_
    case hy => (intro W_ hW_; go_simp; first | done | with_reducible rfl)
    try simp only [Act.put, List.setIfInBounds_toArray, List.set_cons_zero, List.set_cons_succ]
    refine wpAnyH_ready (rs := [32]) (by kernel_rfl) (by simp) ?_
    refine AllReadyH.cons (by simp only [List.getElem?_toArray, List.getElem?_cons_succ, List.getElem?_cons_zero]; rfl) (fun K hK => ?_) AllReadyH.nil
    rw [if_pos (by rfl)]
    go_wp2_with fail
    refine (find_callB (l := []) (n := 0) rfl none 0 s _ (sg_nil _) (fun s h => absurd h (by simp)) (by omega) (by have := HS3.out; omega) (-1) (find_nil s)).mono ?_
    rintro e w6 ⟨rfl, hb5⟩
    refine hK.out _ _ (And.intro (Kd.C_below hHeld.1 hb5) (below_step hHeld.2 hb5)) (fun hHeld2 => ?_)
    clear hK K hHeld
    have hHeld := hHeld2
    clear hHeld2
    try simp only [Act.put, List.setIfInBounds_toArray, List.set_cons_zero, List.set_cons_succ]
    refine wpAnyH_take (i := 33) (v := ?_) (by simp only [List.getElem?_toArray, List.getElem?_cons_succ, List.getElem?_cons_zero]; rfl) (by kernel_rfl) (by kernel_rfl) (by kernel_rfl) (by intro _ _ _ h; exact h) (Or.inl ⟨by rfl, ?hy⟩) (by assumption) ?_
    case hy => (intro W_ hW_; go_simp; first | done | with_reducible rfl)
    try simp only [Act.put, List.setIfInBounds_toArray, List.set_cons_zero, List.set_cons_succ]
    refine wpAnyH_take (i := 34) (v := ?_) (by simp only [List.getElem?_toArray, List.getElem?_cons_succ, List.getElem?_cons_zero]; rfl) (by kernel_rfl) (by kernel_rfl) (by kernel_rfl) (by intro _ _ _ h; exact h) (Or.inl ⟨by rfl, ?hy⟩) (by assumption) ?_
    case hy => (intro W_ hW_; go_simp; first | done | with_reducible rfl)
    try simp only [Act.put, List.setIfInBounds_toArray, List.set_cons_zero, List.set_cons_succ]
    refine wpAnyH_take (i := 35) (v := ?_) (by simp only [List.getElem?_toArray, List.getElem?_cons_succ, List.getElem?_cons_zero]; rfl) (by kernel_rfl) (by kernel_rfl) (by kernel_rfl) (by intro _ _ _ h; exact h) (Or.inl ⟨by rfl, ?hy⟩) (by assumption) ?_
    case hy => (intro W_ hW_; go_simp; first | done | with_reducible rfl)
    try simp only [Act.put, List.setIfInBounds_toArray, List.set_cons_zero, List.set_cons_succ]
    refine wpAnyH_done (by kernel_rfl) ?_ _
    go_wp2_with fail
    go_ret
    exact ⟨rfl, hHeld.2⟩
theorem rolodexlaw10_SignNone.walk (A : Option Addr) (n c : Nat) (l : List Sg) (s : ByteArray) (w : World) (hn : l.length = n) (hc : n ≤ c) (hr : sgK.C w A n l) (hok : ∀ s ∈ l, SgOk s) (w1 : s.size ≤ 140737488351232) : Calls Try.prog 6 #[.slice A n c, .string s] w fun e w' => e = .returned (.bool true) ∧ Below w.heap.size w w' := by
  by_cases h0 : 60 < n
  · exact none_off0 A n c s w h0
  · by_cases h1 : 300 < s.size
    · exact none_off1 A n c s w h0 h1
    · exact none_on A n c l s w hn hc hr hok h0 h1
end Go.Proofs.Ytchaegfdcdlfaaa.X

/- The row of SignNone, over the walk that is proved by hand. -/
namespace Go.Proofs.Ytchaegfdcdlfaaa.signNone
open Go.ChangeShapes Go.WideShapes Go.ChangeAt Go.RowKit
open Go.ChangeMaps (open_string shut_string)
set_option linter.unusedVariables false
theorem own : ownKnob Try.prog.godebug = none := by kernel_rfl
theorem laidOut : laidOutB Try.prog = true := by kernel_rfl
def IsRow (k : IntKind) (w : World) (a : Option Addr) (len cap : Nat) (zs : List Int) : Prop :=
  (a = none ∧ len = 0 ∧ cap = 0 ∧ zs = []) ∨
  ∃ x, a = some x ∧ len ≤ cap ∧ cap ≤ maxLen ∧ zs.length = cap ∧ (∀ i, i < zs.length → w.cell? (x.add i) = some (.int k (zs.getD i 0))) ∧ ∀ n ∈ zs, (Lit.int k n).wf = true
set_option maxRecDepth 100000 in
theorem lifted (os : Os) (started : os.Started) (H : Type) (enc : TypeId × Value → H) :
    ReturnsInHanded {} Try.checked os 6 .any (Rows.signNoneSpec.pre6 enc Try.prog Try.f6 Rows.signNoneRow.domain false) (Rows.signNoneSpec.post enc Try.prog Try.f6 false true false false) := by
  refine returnsInHanded_of_change_sized (C := Try.checked) own started (by kernel_rfl) Try.func6
    (ChangeSpec.witness6 (enc := enc) (C := Try.checked) false ⟨#[], #[.slice none 0 0, .string ByteArray.empty], []⟩ 8 (by kernel_rfl) (by kernel_rfl) (by kernel_rfl) (by kernel_rfl)) ?_
  intro W base args ds gs before hval0 hW hcnd hsz0 _
  have hsz : (DataW.weightsEach Try.prog (Try.f6.params.toList ++ Rows.signNoneSpec.plain.varTypes Try.prog) (ds ++ gs)).all (· ≤ reachBytes) = true := hsz0
  have hval : ∀ (j : Nat) t v, Try.f6.params[j]? = some t → args[j]? = some v → Value.okWide Try.prog W .any base t v := hval0
  have hW' := hW
  obtain ⟨p, q, hA0, hV, rfl, hfz, hnd⟩ := hW
  have hA : DataW.TrodAll enc Try.prog W 0 (fun _ => true) true Try.f6.params.toList args.toList ds p := hA0
  rw [Try.params6] at hA hval hsz
  obtain ⟨v0, vs0, d0, ds0, p0, q0, hargs, rfl, rfl, h0, r0⟩ := trodAll_cons hA
  obtain ⟨v1, vs1, d1, ds1, p1, q1, rfl, rfl, rfl, h1, r1⟩ := trodAll_cons r0
  obtain ⟨rfl, rfl, rfl⟩ := trodAll_nil r1
  obtain rfl : args = #[v0, v1] := by cases args; simp_all
  obtain ⟨rfl, rfl⟩ := trodVars_none hV
  obtain ⟨a0, len0, cap0, rfl⟩ := okWide_slice Try.underlying22 (hval 0 22 v0 rfl rfl)
  have k0 := h0
  have lt0 : ∀ x ∈ p0, x.block < W.heap.size := by obtain ⟨m, hm⟩ := k0; exact DataW.trod_lt m _ _ _ hm
  obtain ⟨l0, n0, c0, b0, o0⟩ := X.open_sigs h0
  obtain ⟨a1, rfl, rfl, rfl, y1⟩ := open_string Try.underlying9 (hval 1 9 v1 rfl rfl) h1
  have w1 : a1.size ≤ 140737488351232 := by
    have z := sized_string hsz (j := 1) (t := 9) rfl rfl
    rw [Array.length_toList] at z
    exact z
  clear hA0 hval0 hsz0 hsz
  refine (X.rolodexlaw10_SignNone.walk a0 len0 cap0 l0 a1 W n0 c0 b0 o0 w1).mono fun e W' ⟨he, bel⟩ => ?_
  subst he
  exact ⟨_, rfl, _, _, _, [], _, [], hW', trodAll_mk1 (shut_bool Try.underlying4 _), (trodAll_cons_mk (Below.trod laidOut (by kernel_rfl) (of_decide_eq_true (by kernel_rfl)) k0 bel lt0) (trodAll_cons_mk (shut_string Try.underlying9 y1) trodAll_mk0)), rfl, bel.frame _, fun h => by cases h⟩
theorem clos0 : (J.closT Try.prog 185 [6] []).isSome = true := by kernel_rfl
theorem clos1 : Try.prog.closure 6 = (J.closT Try.prog 185 [6] []).getD [] := J.clos_eq (of_decide_eq_true (by kernel_rfl)) clos0
theorem fact1 : Try.prog.inPlace 6 = [] := by unfold Program.inPlace; rw [clos1]; kernel_rfl
theorem fact2 : Try.prog.unfollowed 6 = false := by unfold Program.unfollowed; rw [clos1]; kernel_rfl
theorem fact3 : Try.prog.recurses 6 = false := by unfold Program.recurses; rw [fact2, clos1, Bool.false_or]; exact J.no_back (n := 185) (of_decide_eq_true (by kernel_rfl)) (by kernel_rfl)
theorem fact4 : Try.prog.varsNamed 6 = [] := by unfold Program.varsNamed; rw [clos1]; kernel_rfl
set_option maxRecDepth 100000 in
theorem facts : joinedFacts Try.prog 6 Try.f6 Rows.signNoneSpec Rows.signNoneRow = true := by
  unfold joinedFacts
  simp only [Bool.and_eq_true]
  repeat' apply And.intro
  all_goals first | (with_reducible exact J.mayEnter) | (rw [J.liftsFinal]; kernel_rfl) | (rw [J.make]; kernel_rfl) | (rw [fact1]; kernel_rfl) | (rw [fact2]; kernel_rfl) | (rw [fact3]; kernel_rfl) | (rw [fact4]; kernel_rfl) | kernel_rfl
theorem over : Rows.signNoneRow.holds Try.pinned (OpenSpec.ofChange Rows.signNoneSpec) :=
  OpenClaim.holds_of_wide 6 Try.f6 rfl rfl rfl rfl rfl rfl rfl ⟨rfl, rfl, rfl, rfl, rfl⟩ rfl rfl rfl rfl rfl (by kernel_rfl) Try.func6 facts
    (of_decide_eq_true (by kernel_rfl)) (by unfold Func.isWrapper; first | (rw [if_pos (by decide +kernel)]; kernel_rfl) | (rw [if_neg (by decide +kernel)]; exact ⟨rfl, rfl⟩))
    (fun os started H enc _ => lifted os started H enc)
theorem proved : Rows.SignNoneSaid := over
#print axioms proved
end Go.Proofs.Ytchaegfdcdlfaaa.signNone
namespace Go.Proofs.Ytchaegfdcdlfaaa
/-- The row, under a short name, for the claim. -/
theorem signNone_holds : Rows.SignNoneSaid := signNone.proved
end Go.Proofs.Ytchaegfdcdlfaaa
