/- Texts of this claim, one behind the other: DRMay, Xx77. -/
import Derived.Test.YtchaegfdcdlfaaaE2v
import Derived.Test.YtchaegfdcdlfaaaE1v

/- The document's May over pieces, walked; in the printed form. -/
namespace Go.Proofs.Ytchaegfdcdlfaaa.X
set_option linter.unusedVariables false
set_option linter.unusedSimpArgs false
open Go.RowKit Go.Maps Go.Proofs.YtchaegfdcdlfaaaW.PrintWords Go.Proofs.YtchaegfdcdlfaaaW.PrintLast Go.Proofs.YtchaegfdcdlfaaaW.PrintMore

theorem may_copy (x1 x2 : Int) (s : ByteArray) (h1 : 0 ≤ x1) (h2 : x1 ≤ 200) (h3 : 1 ≤ x2) (h4 : x2 ≤ 200) (h5 : s.size = 0) : mayP ⟨true, x1, x2, s⟩ = true := by
  unfold mayP
  rw [if_pos rfl]
  simp only [Bool.and_eq_true, decide_eq_true_eq, beq_iff_eq]
  exact ⟨⟨⟨h1, h2⟩, h3, h4⟩, toList_nil h5⟩
theorem may_text (x1 x2 : Int) (s : ByteArray) (h1 : x1 = 0) (h2 : x2 = 0) (h3 : 1 ≤ s.size) (h4 : s.size ≤ 200) : mayP ⟨false, x1, x2, s⟩ = true := by
  unfold mayP
  rw [if_neg (by simp)]
  simp only [Bool.and_eq_true, decide_eq_true_eq, beq_iff_eq]
  exact ⟨⟨h1, h2⟩, h3, h4⟩
theorem may_not {l : List S67} {j : Nat} (h : j < l.length) (hp : mayP (l.getD j z67) = false) : mayL l = false := by
  cases hm : mayL l
  · rfl
  · have := List.all_eq_true.1 ((mayL_iff l).1 hm).1 (l.getD j z67) (by rw [List.getD_eq_getElem?_getD, List.getElem?_eq_getElem h]; exact List.getElem_mem h)
    rw [hp] at this
    simp at this
set_option maxHeartbeats 8000000 in
set_option maxRecDepth 100000 in
theorem rmay_call {l : List S67} {n : Nat} (hn : l.length = n) (A : Option Addr) (c : Nat) (w : World) (hr : Kd.C k67 w A n l) (hl : n ≤ 1000000000) (b : Bool) (hb : mayL l = b) :
    Calls Try.prog 60 #[.slice A n c] w fun e w' => e = .returned (.bool b) ∧ Below w.heap.size w w' := by
  have HR := Aside0.mk hr
  have HN := Aside0.mk hl
  have HLN := Aside0.mk hn
  have HBE := Aside0.mk hb
  clear hr hl hn hb
  go_enter Try.func60, Try.ntmps60
  go_wp2_with fail
  go_loopg [3, 4] n (fun k v3 v4 w' => ∃ (a : Int) (j : Nat), v3 = .int .i64 a ∧ v4 = .int .i64 j ∧ Aside0 (k = n - j ∧ j ≤ n) ∧ Aside0 ((l.take j).all mayP = true ∧ a = sumP (l.take j)) ∧ Aside0 (0 ≤ a ∧ a ≤ 400 * (j : Int)) ∧ Aside0 (Below w.heap.size w w'))
  case atStart => exact ⟨0, 0, rfl, rfl, ⟨by omega, by omega⟩, ⟨rfl, rfl⟩, ⟨by omega, by omega⟩, ⟨Below.refl _ _⟩⟩
  case round =>
    obtain ⟨a, j, rfl, rfl, HJ, HT, HA, HB⟩ := hrel
    by_cases hj : j < n
    · have HJ2 := Aside0.mk hj
      have hjl : j < l.length := by rw [HLN.out]; exact hj
      have HJL := Aside0.mk hjl
      obtain ⟨p, hpd⟩ : ∃ p, l.getD j z67 = p := ⟨_, rfl⟩
      have HPD := Aside0.mk hpd
      obtain ⟨ad, hA, hx0, hx1, hx2, hx3⟩ := pc_at (Kd.C_below HR.out HB.out) hj p hpd
      subst hA
      obtain ⟨b0, x1, x2, s3, hpe⟩ : ∃ b0 x1 x2 s3, p = ⟨b0, x1, x2, s3⟩ := ⟨_, _, _, _, rfl⟩
      have HPE := Aside0.mk hpe
      rw [hpe] at hx0 hx1 hx2 hx3
      dsimp only at hx0 hx1 hx2 hx3
      have e1 : decide ((j : Int) < (n : Int)) = true := by simpa using hj
      have e2 : ((j : Int) < (n : Int)) = True := by simpa using hj
      have e3 : (0 ≤ (j : Int)) = True := by simp
      have ew : IntKind.i64.wrap ((j : Int) + 1) = ((j + 1 : Nat) : Int) := by have := HN.out; rw [wrap_ok _ (by omega) (by omega)]; omega
      clear hj
      cases b0
      · by_cases hA1 : x1 ≥ 0
        · by_cases hA2 : x1 ≤ 200
          · by_cases hA3 : x2 ≥ 1
            · by_cases hA4 : x2 ≤ 200
              · by_cases hA5 : s3.size = 0
                · by_cases hT1 : x1 = 0
                  · by_cases hT2 : x2 = 0
                    · omega
                    · have HM : Aside0 (b = false) := ⟨by rw [← HBE.out]; refine may_not hjl (j := j) ?_; rw [hpd, hpe]; cases hm : mayP ⟨false, x1, x2, s3⟩; rfl; have h : x1 = 0 ∧ x2 = 0 ∧ 1 ≤ s3.size ∧ s3.size ≤ 200 := (mayP_true hm).2 rfl; omega⟩
                      have fA10 : decide (x1 ≥ 0) = true := decide_eq_true (by omega)
                      have fA11 : decide (0 ≤ x1) = true := decide_eq_true (by omega)
                      have fA12 : (0 ≤ x1) = True := eq_true (by omega)
                      have fA20 : decide (x1 ≤ 200) = true := decide_eq_true (by omega)
                      have fA21 : (x1 ≤ 200) = True := eq_true (by omega)
                      have fA30 : decide (x2 ≥ 1) = true := decide_eq_true (by omega)
                      have fA31 : decide (1 ≤ x2) = true := decide_eq_true (by omega)
                      have fA32 : (1 ≤ x2) = True := eq_true (by omega)
                      have fA40 : decide (x2 ≤ 200) = true := decide_eq_true (by omega)
                      have fA41 : (x2 ≤ 200) = True := eq_true (by omega)
                      have fA50 : s3.toList.isEmpty = true := by rw [toList_nil hA5]; rfl
                      have fT10 : (x1 == 0) = true := by rw [hT1]; rfl
                      have fT20 : (x2 == 0) = false := by simpa using hT2
                      clear hjl hpd hpe hA1 hA2 hA3 hA4 hA5 hT1 hT2
                      go_wp2_with (first | ((with_reducible refine gate_dst (N := 5) rfl ?_); (try (refine gate_guard (by rfl) ?_; dsimp only)); refine box_event ?hg (N := 5) ?hd (cs := #[.bool false, .int .i64 0, .int .i64 0, .string (⟨#[]⟩ : ByteArray)]) (t := 67) ?hr ?_; (case hd => rfl); (case hg => rfl); (case hr => first | (go_simp; done) | (go_simp; rfl)); intro gb hg w15 hbox hb; have HG := Aside0.mk (show w.heap.size ≤ gb by rw [hg]; exact below_size HB.out); have HB2 := Aside0.mk (below_step HB.out hb); have z0 : w15.cell? ⟨gb, 0, none⟩ = some (.bool false) := (blk_cell hbox 0).trans rfl; have z1 : w15.cell? ⟨gb, 1, none⟩ = some (.int .i64 0) := (blk_cell hbox 1).trans rfl; have z2 : w15.cell? ⟨gb, 2, none⟩ = some (.int .i64 0) := (blk_cell hbox 2).trans rfl; have z3 : w15.cell? ⟨gb, 3, none⟩ = some (.string (⟨#[]⟩ : ByteArray)) := (blk_cell hbox 3).trans rfl; have y0 := blk_frozen hbox 0; have y1 := blk_frozen hbox 1; have y2 := blk_frozen hbox 2; have y3 := blk_frozen hbox 3; clear hb hbox hg) | fail)
                      go_ret
                      exact ⟨by rw [HM.out]; rfl, (by repeat (first | exact HB2.out | refine below_set ?_ HG.out | apply pw_below_drewN | apply below_drew1))⟩
                  · have HM : Aside0 (b = false) := ⟨by rw [← HBE.out]; refine may_not hjl (j := j) ?_; rw [hpd, hpe]; cases hm : mayP ⟨false, x1, x2, s3⟩; rfl; have h : x1 = 0 ∧ x2 = 0 ∧ 1 ≤ s3.size ∧ s3.size ≤ 200 := (mayP_true hm).2 rfl; omega⟩
                    have fA10 : decide (x1 ≥ 0) = true := decide_eq_true (by omega)
                    have fA11 : decide (0 ≤ x1) = true := decide_eq_true (by omega)
                    have fA12 : (0 ≤ x1) = True := eq_true (by omega)
                    have fA20 : decide (x1 ≤ 200) = true := decide_eq_true (by omega)
                    have fA21 : (x1 ≤ 200) = True := eq_true (by omega)
                    have fA30 : decide (x2 ≥ 1) = true := decide_eq_true (by omega)
                    have fA31 : decide (1 ≤ x2) = true := decide_eq_true (by omega)
                    have fA32 : (1 ≤ x2) = True := eq_true (by omega)
                    have fA40 : decide (x2 ≤ 200) = true := decide_eq_true (by omega)
                    have fA41 : (x2 ≤ 200) = True := eq_true (by omega)
                    have fA50 : s3.toList.isEmpty = true := by rw [toList_nil hA5]; rfl
                    have fT10 : (x1 == 0) = false := by simpa using hT1
                    clear hjl hpd hpe hA1 hA2 hA3 hA4 hA5 hT1
                    go_wp2_with (first | ((with_reducible refine gate_dst (N := 5) rfl ?_); (try (refine gate_guard (by rfl) ?_; dsimp only)); refine box_event ?hg (N := 5) ?hd (cs := #[.bool false, .int .i64 0, .int .i64 0, .string (⟨#[]⟩ : ByteArray)]) (t := 67) ?hr ?_; (case hd => rfl); (case hg => rfl); (case hr => first | (go_simp; done) | (go_simp; rfl)); intro gb hg w15 hbox hb; have HG := Aside0.mk (show w.heap.size ≤ gb by rw [hg]; exact below_size HB.out); have HB2 := Aside0.mk (below_step HB.out hb); have z0 : w15.cell? ⟨gb, 0, none⟩ = some (.bool false) := (blk_cell hbox 0).trans rfl; have z1 : w15.cell? ⟨gb, 1, none⟩ = some (.int .i64 0) := (blk_cell hbox 1).trans rfl; have z2 : w15.cell? ⟨gb, 2, none⟩ = some (.int .i64 0) := (blk_cell hbox 2).trans rfl; have z3 : w15.cell? ⟨gb, 3, none⟩ = some (.string (⟨#[]⟩ : ByteArray)) := (blk_cell hbox 3).trans rfl; have y0 := blk_frozen hbox 0; have y1 := blk_frozen hbox 1; have y2 := blk_frozen hbox 2; have y3 := blk_frozen hbox 3; clear hb hbox hg) | fail)
                    go_ret
                    exact ⟨by rw [HM.out]; rfl, (by repeat (first | exact HB2.out | refine below_set ?_ HG.out | apply pw_below_drewN | apply below_drew1))⟩
                · by_cases hT1 : x1 = 0
                  · by_cases hT2 : x2 = 0
                    · omega
                    · have HM : Aside0 (b = false) := ⟨by rw [← HBE.out]; refine may_not hjl (j := j) ?_; rw [hpd, hpe]; cases hm : mayP ⟨false, x1, x2, s3⟩; rfl; have h : x1 = 0 ∧ x2 = 0 ∧ 1 ≤ s3.size ∧ s3.size ≤ 200 := (mayP_true hm).2 rfl; omega⟩
                      have fA10 : decide (x1 ≥ 0) = true := decide_eq_true (by omega)
                      have fA11 : decide (0 ≤ x1) = true := decide_eq_true (by omega)
                      have fA12 : (0 ≤ x1) = True := eq_true (by omega)
                      have fA20 : decide (x1 ≤ 200) = true := decide_eq_true (by omega)
                      have fA21 : (x1 ≤ 200) = True := eq_true (by omega)
                      have fA30 : decide (x2 ≥ 1) = true := decide_eq_true (by omega)
                      have fA31 : decide (1 ≤ x2) = true := decide_eq_true (by omega)
                      have fA32 : (1 ≤ x2) = True := eq_true (by omega)
                      have fA40 : decide (x2 ≤ 200) = true := decide_eq_true (by omega)
                      have fA41 : (x2 ≤ 200) = True := eq_true (by omega)
                      have fA50 : s3.toList.isEmpty = false := toList_cons hA5
                      have fT10 : (x1 == 0) = true := by rw [hT1]; rfl
                      have fT20 : (x2 == 0) = false := by simpa using hT2
                      clear hjl hpd hpe hA1 hA2 hA3 hA4 hA5 hT1 hT2
                      go_wp2_with (first | ((with_reducible refine gate_dst (N := 5) rfl ?_); (try (refine gate_guard (by rfl) ?_; dsimp only)); refine box_event ?hg (N := 5) ?hd (cs := #[.bool false, .int .i64 0, .int .i64 0, .string (⟨#[]⟩ : ByteArray)]) (t := 67) ?hr ?_; (case hd => rfl); (case hg => rfl); (case hr => first | (go_simp; done) | (go_simp; rfl)); intro gb hg w15 hbox hb; have HG := Aside0.mk (show w.heap.size ≤ gb by rw [hg]; exact below_size HB.out); have HB2 := Aside0.mk (below_step HB.out hb); have z0 : w15.cell? ⟨gb, 0, none⟩ = some (.bool false) := (blk_cell hbox 0).trans rfl; have z1 : w15.cell? ⟨gb, 1, none⟩ = some (.int .i64 0) := (blk_cell hbox 1).trans rfl; have z2 : w15.cell? ⟨gb, 2, none⟩ = some (.int .i64 0) := (blk_cell hbox 2).trans rfl; have z3 : w15.cell? ⟨gb, 3, none⟩ = some (.string (⟨#[]⟩ : ByteArray)) := (blk_cell hbox 3).trans rfl; have y0 := blk_frozen hbox 0; have y1 := blk_frozen hbox 1; have y2 := blk_frozen hbox 2; have y3 := blk_frozen hbox 3; clear hb hbox hg) | fail)
                      go_ret
                      exact ⟨by rw [HM.out]; rfl, (by repeat (first | exact HB2.out | refine below_set ?_ HG.out | apply pw_below_drewN | apply below_drew1))⟩
                  · have HM : Aside0 (b = false) := ⟨by rw [← HBE.out]; refine may_not hjl (j := j) ?_; rw [hpd, hpe]; cases hm : mayP ⟨false, x1, x2, s3⟩; rfl; have h : x1 = 0 ∧ x2 = 0 ∧ 1 ≤ s3.size ∧ s3.size ≤ 200 := (mayP_true hm).2 rfl; omega⟩
                    have fA10 : decide (x1 ≥ 0) = true := decide_eq_true (by omega)
                    have fA11 : decide (0 ≤ x1) = true := decide_eq_true (by omega)
                    have fA12 : (0 ≤ x1) = True := eq_true (by omega)
                    have fA20 : decide (x1 ≤ 200) = true := decide_eq_true (by omega)
                    have fA21 : (x1 ≤ 200) = True := eq_true (by omega)
                    have fA30 : decide (x2 ≥ 1) = true := decide_eq_true (by omega)
                    have fA31 : decide (1 ≤ x2) = true := decide_eq_true (by omega)
                    have fA32 : (1 ≤ x2) = True := eq_true (by omega)
                    have fA40 : decide (x2 ≤ 200) = true := decide_eq_true (by omega)
                    have fA41 : (x2 ≤ 200) = True := eq_true (by omega)
                    have fA50 : s3.toList.isEmpty = false := toList_cons hA5
                    have fT10 : (x1 == 0) = false := by simpa using hT1
                    clear hjl hpd hpe hA1 hA2 hA3 hA4 hA5 hT1
                    go_wp2_with (first | ((with_reducible refine gate_dst (N := 5) rfl ?_); (try (refine gate_guard (by rfl) ?_; dsimp only)); refine box_event ?hg (N := 5) ?hd (cs := #[.bool false, .int .i64 0, .int .i64 0, .string (⟨#[]⟩ : ByteArray)]) (t := 67) ?hr ?_; (case hd => rfl); (case hg => rfl); (case hr => first | (go_simp; done) | (go_simp; rfl)); intro gb hg w15 hbox hb; have HG := Aside0.mk (show w.heap.size ≤ gb by rw [hg]; exact below_size HB.out); have HB2 := Aside0.mk (below_step HB.out hb); have z0 : w15.cell? ⟨gb, 0, none⟩ = some (.bool false) := (blk_cell hbox 0).trans rfl; have z1 : w15.cell? ⟨gb, 1, none⟩ = some (.int .i64 0) := (blk_cell hbox 1).trans rfl; have z2 : w15.cell? ⟨gb, 2, none⟩ = some (.int .i64 0) := (blk_cell hbox 2).trans rfl; have z3 : w15.cell? ⟨gb, 3, none⟩ = some (.string (⟨#[]⟩ : ByteArray)) := (blk_cell hbox 3).trans rfl; have y0 := blk_frozen hbox 0; have y1 := blk_frozen hbox 1; have y2 := blk_frozen hbox 2; have y3 := blk_frozen hbox 3; clear hb hbox hg) | fail)
                    go_ret
                    exact ⟨by rw [HM.out]; rfl, (by repeat (first | exact HB2.out | refine below_set ?_ HG.out | apply pw_below_drewN | apply below_drew1))⟩
              · by_cases hT1 : x1 = 0
                · by_cases hT2 : x2 = 0
                  · omega
                  · have HM : Aside0 (b = false) := ⟨by rw [← HBE.out]; refine may_not hjl (j := j) ?_; rw [hpd, hpe]; cases hm : mayP ⟨false, x1, x2, s3⟩; rfl; have h : x1 = 0 ∧ x2 = 0 ∧ 1 ≤ s3.size ∧ s3.size ≤ 200 := (mayP_true hm).2 rfl; omega⟩
                    have fA10 : decide (x1 ≥ 0) = true := decide_eq_true (by omega)
                    have fA11 : decide (0 ≤ x1) = true := decide_eq_true (by omega)
                    have fA12 : (0 ≤ x1) = True := eq_true (by omega)
                    have fA20 : decide (x1 ≤ 200) = true := decide_eq_true (by omega)
                    have fA21 : (x1 ≤ 200) = True := eq_true (by omega)
                    have fA30 : decide (x2 ≥ 1) = true := decide_eq_true (by omega)
                    have fA31 : decide (1 ≤ x2) = true := decide_eq_true (by omega)
                    have fA32 : (1 ≤ x2) = True := eq_true (by omega)
                    have fA40 : decide (x2 ≤ 200) = false := decide_eq_false (by omega)
                    have fA41 : (x2 ≤ 200) = False := eq_false (by omega)
                    have fT10 : (x1 == 0) = true := by rw [hT1]; rfl
                    have fT20 : (x2 == 0) = false := by simpa using hT2
                    clear hjl hpd hpe hA1 hA2 hA3 hA4 hT1 hT2
                    go_wp2_with (first | ((with_reducible refine gate_dst (N := 5) rfl ?_); (try (refine gate_guard (by rfl) ?_; dsimp only)); refine box_event ?hg (N := 5) ?hd (cs := #[.bool false, .int .i64 0, .int .i64 0, .string (⟨#[]⟩ : ByteArray)]) (t := 67) ?hr ?_; (case hd => rfl); (case hg => rfl); (case hr => first | (go_simp; done) | (go_simp; rfl)); intro gb hg w15 hbox hb; have HG := Aside0.mk (show w.heap.size ≤ gb by rw [hg]; exact below_size HB.out); have HB2 := Aside0.mk (below_step HB.out hb); have z0 : w15.cell? ⟨gb, 0, none⟩ = some (.bool false) := (blk_cell hbox 0).trans rfl; have z1 : w15.cell? ⟨gb, 1, none⟩ = some (.int .i64 0) := (blk_cell hbox 1).trans rfl; have z2 : w15.cell? ⟨gb, 2, none⟩ = some (.int .i64 0) := (blk_cell hbox 2).trans rfl; have z3 : w15.cell? ⟨gb, 3, none⟩ = some (.string (⟨#[]⟩ : ByteArray)) := (blk_cell hbox 3).trans rfl; have y0 := blk_frozen hbox 0; have y1 := blk_frozen hbox 1; have y2 := blk_frozen hbox 2; have y3 := blk_frozen hbox 3; clear hb hbox hg) | fail)
                    go_ret
                    exact ⟨by rw [HM.out]; rfl, (by repeat (first | exact HB2.out | refine below_set ?_ HG.out | apply pw_below_drewN | apply below_drew1))⟩
                · have HM : Aside0 (b = false) := ⟨by rw [← HBE.out]; refine may_not hjl (j := j) ?_; rw [hpd, hpe]; cases hm : mayP ⟨false, x1, x2, s3⟩; rfl; have h : x1 = 0 ∧ x2 = 0 ∧ 1 ≤ s3.size ∧ s3.size ≤ 200 := (mayP_true hm).2 rfl; omega⟩
                  have fA10 : decide (x1 ≥ 0) = true := decide_eq_true (by omega)
                  have fA11 : decide (0 ≤ x1) = true := decide_eq_true (by omega)
                  have fA12 : (0 ≤ x1) = True := eq_true (by omega)
                  have fA20 : decide (x1 ≤ 200) = true := decide_eq_true (by omega)
                  have fA21 : (x1 ≤ 200) = True := eq_true (by omega)
                  have fA30 : decide (x2 ≥ 1) = true := decide_eq_true (by omega)
                  have fA31 : decide (1 ≤ x2) = true := decide_eq_true (by omega)
                  have fA32 : (1 ≤ x2) = True := eq_true (by omega)
                  have fA40 : decide (x2 ≤ 200) = false := decide_eq_false (by omega)
                  have fA41 : (x2 ≤ 200) = False := eq_false (by omega)
                  have fT10 : (x1 == 0) = false := by simpa using hT1
                  clear hjl hpd hpe hA1 hA2 hA3 hA4 hT1
                  go_wp2_with (first | ((with_reducible refine gate_dst (N := 5) rfl ?_); (try (refine gate_guard (by rfl) ?_; dsimp only)); refine box_event ?hg (N := 5) ?hd (cs := #[.bool false, .int .i64 0, .int .i64 0, .string (⟨#[]⟩ : ByteArray)]) (t := 67) ?hr ?_; (case hd => rfl); (case hg => rfl); (case hr => first | (go_simp; done) | (go_simp; rfl)); intro gb hg w15 hbox hb; have HG := Aside0.mk (show w.heap.size ≤ gb by rw [hg]; exact below_size HB.out); have HB2 := Aside0.mk (below_step HB.out hb); have z0 : w15.cell? ⟨gb, 0, none⟩ = some (.bool false) := (blk_cell hbox 0).trans rfl; have z1 : w15.cell? ⟨gb, 1, none⟩ = some (.int .i64 0) := (blk_cell hbox 1).trans rfl; have z2 : w15.cell? ⟨gb, 2, none⟩ = some (.int .i64 0) := (blk_cell hbox 2).trans rfl; have z3 : w15.cell? ⟨gb, 3, none⟩ = some (.string (⟨#[]⟩ : ByteArray)) := (blk_cell hbox 3).trans rfl; have y0 := blk_frozen hbox 0; have y1 := blk_frozen hbox 1; have y2 := blk_frozen hbox 2; have y3 := blk_frozen hbox 3; clear hb hbox hg) | fail)
                  go_ret
                  exact ⟨by rw [HM.out]; rfl, (by repeat (first | exact HB2.out | refine below_set ?_ HG.out | apply pw_below_drewN | apply below_drew1))⟩
            · by_cases hT1 : x1 = 0
              · by_cases hT2 : x2 = 0
                · by_cases hT3 : 1 ≤ s3.size
                  · by_cases hT4 : s3.size ≤ 200
                    · have hmp : mayP p = true := by rw [hpe]; exact may_text x1 x2 s3 (by omega) (by omega) (by omega) (by omega)
                      have HMP := Aside0.mk hmp
                      obtain ⟨a1, ha1⟩ : ∃ a1, a1 = a + x2 := ⟨_, rfl⟩
                      obtain ⟨a2, ha2⟩ : ∃ a2, a2 = a1 + (s3.size : Int) := ⟨_, rfl⟩
                      have w1 : IntKind.i64.wrap (a + x2) = a1 := by have := HA.out; have := HJ.out; have := HN.out; rw [wrap_ok _ (by omega) (by omega), ha1]
                      have w2 : IntKind.i64.wrap (a1 + (s3.size : Int)) = a2 := by have := HA.out; have := HJ.out; have := HN.out; rw [wrap_ok _ (by omega) (by omega), ha2]
                      have HA2 : Aside0 (a2 = a + (x2 + (s3.size : Int)) ∧ 0 ≤ x2 + (s3.size : Int) ∧ x2 + (s3.size : Int) ≤ 400) := ⟨by omega⟩
                      clear ha1 ha2 hmp
                      have fA10 : decide (x1 ≥ 0) = true := decide_eq_true (by omega)
                      have fA11 : decide (0 ≤ x1) = true := decide_eq_true (by omega)
                      have fA12 : (0 ≤ x1) = True := eq_true (by omega)
                      have fA20 : decide (x1 ≤ 200) = true := decide_eq_true (by omega)
                      have fA21 : (x1 ≤ 200) = True := eq_true (by omega)
                      have fA30 : decide (x2 ≥ 1) = false := decide_eq_false (by omega)
                      have fA31 : decide (1 ≤ x2) = false := decide_eq_false (by omega)
                      have fA32 : (1 ≤ x2) = False := eq_false (by omega)
                      have fT10 : (x1 == 0) = true := by rw [hT1]; rfl
                      have fT20 : (x2 == 0) = true := by rw [hT2]; rfl
                      have fT30 : decide ((s3.size : Int) ≥ 1) = true := decide_eq_true (by omega)
                      have fT31 : decide (1 ≤ (s3.size : Int)) = true := decide_eq_true (by omega)
                      have fT32 : decide (1 ≤ s3.size) = true := decide_eq_true (by omega)
                      have fT33 : (1 ≤ s3.size) = True := eq_true (by omega)
                      have fT34 : (1 ≤ (s3.size : Int)) = True := eq_true (by omega)
                      have fT40 : decide ((s3.size : Int) ≤ 200) = true := decide_eq_true (by omega)
                      have fT41 : decide (s3.size ≤ 200) = true := decide_eq_true (by omega)
                      have fT42 : (s3.size ≤ 200) = True := eq_true (by omega)
                      have fT43 : ((s3.size : Int) ≤ 200) = True := eq_true (by omega)
                      clear hjl hpd hpe hA1 hA2 hA3 hT1 hT2 hT3 hT4
                      go_wp2_with (first | ((with_reducible refine gate_dst (N := 5) rfl ?_); (try (refine gate_guard (by rfl) ?_; dsimp only)); refine box_event ?hg (N := 5) ?hd (cs := #[.bool false, .int .i64 0, .int .i64 0, .string (⟨#[]⟩ : ByteArray)]) (t := 67) ?hr ?_; (case hd => rfl); (case hg => rfl); (case hr => first | (go_simp; done) | (go_simp; rfl)); intro gb hg w15 hbox hb; have HG := Aside0.mk (show w.heap.size ≤ gb by rw [hg]; exact below_size HB.out); have HB2 := Aside0.mk (below_step HB.out hb); have z0 : w15.cell? ⟨gb, 0, none⟩ = some (.bool false) := (blk_cell hbox 0).trans rfl; have z1 : w15.cell? ⟨gb, 1, none⟩ = some (.int .i64 0) := (blk_cell hbox 1).trans rfl; have z2 : w15.cell? ⟨gb, 2, none⟩ = some (.int .i64 0) := (blk_cell hbox 2).trans rfl; have z3 : w15.cell? ⟨gb, 3, none⟩ = some (.string (⟨#[]⟩ : ByteArray)) := (blk_cell hbox 3).trans rfl; have y0 := blk_frozen hbox 0; have y1 := blk_frozen hbox 1; have y2 := blk_frozen hbox 2; have y3 := blk_frozen hbox 3; clear hb hbox hg) | fail)
                      go_roundg (n - (j + 1))
                      case measure => have := HJ.out; have := HJ2.out; omega
                      case rel => exact ⟨a2, j + 1, by simp, by simp [ew], ⟨by have := HJ2.out; omega⟩, ⟨by rw [take_snocD l j HJL.out, HPD.out, List.all_append, HT.out.1]; simp [HMP.out], by rw [take_snocD l j HJL.out, HPD.out, sumP_append, sumP_one, ← HT.out.2, HA2.out.1, HPE.out]⟩, ⟨by have := HA.out; have := HA2.out; omega⟩, ⟨(by repeat (first | exact HB2.out | refine below_set ?_ HG.out | apply pw_below_drewN | apply below_drew1))⟩⟩
                    · have HM : Aside0 (b = false) := ⟨by rw [← HBE.out]; refine may_not hjl (j := j) ?_; rw [hpd, hpe]; cases hm : mayP ⟨false, x1, x2, s3⟩; rfl; have h : x1 = 0 ∧ x2 = 0 ∧ 1 ≤ s3.size ∧ s3.size ≤ 200 := (mayP_true hm).2 rfl; omega⟩
                      have fA10 : decide (x1 ≥ 0) = true := decide_eq_true (by omega)
                      have fA11 : decide (0 ≤ x1) = true := decide_eq_true (by omega)
                      have fA12 : (0 ≤ x1) = True := eq_true (by omega)
                      have fA20 : decide (x1 ≤ 200) = true := decide_eq_true (by omega)
                      have fA21 : (x1 ≤ 200) = True := eq_true (by omega)
                      have fA30 : decide (x2 ≥ 1) = false := decide_eq_false (by omega)
                      have fA31 : decide (1 ≤ x2) = false := decide_eq_false (by omega)
                      have fA32 : (1 ≤ x2) = False := eq_false (by omega)
                      have fT10 : (x1 == 0) = true := by rw [hT1]; rfl
                      have fT20 : (x2 == 0) = true := by rw [hT2]; rfl
                      have fT30 : decide ((s3.size : Int) ≥ 1) = true := decide_eq_true (by omega)
                      have fT31 : decide (1 ≤ (s3.size : Int)) = true := decide_eq_true (by omega)
                      have fT32 : decide (1 ≤ s3.size) = true := decide_eq_true (by omega)
                      have fT33 : (1 ≤ s3.size) = True := eq_true (by omega)
                      have fT34 : (1 ≤ (s3.size : Int)) = True := eq_true (by omega)
                      have fT40 : decide ((s3.size : Int) ≤ 200) = false := decide_eq_false (by omega)
                      have fT41 : decide (s3.size ≤ 200) = false := decide_eq_false (by omega)
                      have fT42 : (s3.size ≤ 200) = False := eq_false (by omega)
                      have fT43 : ((s3.size : Int) ≤ 200) = False := eq_false (by omega)
                      clear hjl hpd hpe hA1 hA2 hA3 hT1 hT2 hT3 hT4
                      go_wp2_with (first | ((with_reducible refine gate_dst (N := 5) rfl ?_); (try (refine gate_guard (by rfl) ?_; dsimp only)); refine box_event ?hg (N := 5) ?hd (cs := #[.bool false, .int .i64 0, .int .i64 0, .string (⟨#[]⟩ : ByteArray)]) (t := 67) ?hr ?_; (case hd => rfl); (case hg => rfl); (case hr => first | (go_simp; done) | (go_simp; rfl)); intro gb hg w15 hbox hb; have HG := Aside0.mk (show w.heap.size ≤ gb by rw [hg]; exact below_size HB.out); have HB2 := Aside0.mk (below_step HB.out hb); have z0 : w15.cell? ⟨gb, 0, none⟩ = some (.bool false) := (blk_cell hbox 0).trans rfl; have z1 : w15.cell? ⟨gb, 1, none⟩ = some (.int .i64 0) := (blk_cell hbox 1).trans rfl; have z2 : w15.cell? ⟨gb, 2, none⟩ = some (.int .i64 0) := (blk_cell hbox 2).trans rfl; have z3 : w15.cell? ⟨gb, 3, none⟩ = some (.string (⟨#[]⟩ : ByteArray)) := (blk_cell hbox 3).trans rfl; have y0 := blk_frozen hbox 0; have y1 := blk_frozen hbox 1; have y2 := blk_frozen hbox 2; have y3 := blk_frozen hbox 3; clear hb hbox hg) | fail)
                      go_ret
                      exact ⟨by rw [HM.out]; rfl, (by repeat (first | exact HB2.out | refine below_set ?_ HG.out | apply pw_below_drewN | apply below_drew1))⟩
                  · have HM : Aside0 (b = false) := ⟨by rw [← HBE.out]; refine may_not hjl (j := j) ?_; rw [hpd, hpe]; cases hm : mayP ⟨false, x1, x2, s3⟩; rfl; have h : x1 = 0 ∧ x2 = 0 ∧ 1 ≤ s3.size ∧ s3.size ≤ 200 := (mayP_true hm).2 rfl; omega⟩
                    have fA10 : decide (x1 ≥ 0) = true := decide_eq_true (by omega)
                    have fA11 : decide (0 ≤ x1) = true := decide_eq_true (by omega)
                    have fA12 : (0 ≤ x1) = True := eq_true (by omega)
                    have fA20 : decide (x1 ≤ 200) = true := decide_eq_true (by omega)
                    have fA21 : (x1 ≤ 200) = True := eq_true (by omega)
                    have fA30 : decide (x2 ≥ 1) = false := decide_eq_false (by omega)
                    have fA31 : decide (1 ≤ x2) = false := decide_eq_false (by omega)
                    have fA32 : (1 ≤ x2) = False := eq_false (by omega)
                    have fT10 : (x1 == 0) = true := by rw [hT1]; rfl
                    have fT20 : (x2 == 0) = true := by rw [hT2]; rfl
                    have fT30 : decide ((s3.size : Int) ≥ 1) = false := decide_eq_false (by omega)
                    have fT31 : decide (1 ≤ (s3.size : Int)) = false := decide_eq_false (by omega)
                    have fT32 : decide (1 ≤ s3.size) = false := decide_eq_false (by omega)
                    have fT33 : (1 ≤ s3.size) = False := eq_false (by omega)
                    have fT34 : (1 ≤ (s3.size : Int)) = False := eq_false (by omega)
                    clear hjl hpd hpe hA1 hA2 hA3 hT1 hT2 hT3
                    go_wp2_with (first | ((with_reducible refine gate_dst (N := 5) rfl ?_); (try (refine gate_guard (by rfl) ?_; dsimp only)); refine box_event ?hg (N := 5) ?hd (cs := #[.bool false, .int .i64 0, .int .i64 0, .string (⟨#[]⟩ : ByteArray)]) (t := 67) ?hr ?_; (case hd => rfl); (case hg => rfl); (case hr => first | (go_simp; done) | (go_simp; rfl)); intro gb hg w15 hbox hb; have HG := Aside0.mk (show w.heap.size ≤ gb by rw [hg]; exact below_size HB.out); have HB2 := Aside0.mk (below_step HB.out hb); have z0 : w15.cell? ⟨gb, 0, none⟩ = some (.bool false) := (blk_cell hbox 0).trans rfl; have z1 : w15.cell? ⟨gb, 1, none⟩ = some (.int .i64 0) := (blk_cell hbox 1).trans rfl; have z2 : w15.cell? ⟨gb, 2, none⟩ = some (.int .i64 0) := (blk_cell hbox 2).trans rfl; have z3 : w15.cell? ⟨gb, 3, none⟩ = some (.string (⟨#[]⟩ : ByteArray)) := (blk_cell hbox 3).trans rfl; have y0 := blk_frozen hbox 0; have y1 := blk_frozen hbox 1; have y2 := blk_frozen hbox 2; have y3 := blk_frozen hbox 3; clear hb hbox hg) | fail)
                    go_ret
                    exact ⟨by rw [HM.out]; rfl, (by repeat (first | exact HB2.out | refine below_set ?_ HG.out | apply pw_below_drewN | apply below_drew1))⟩
                · have HM : Aside0 (b = false) := ⟨by rw [← HBE.out]; refine may_not hjl (j := j) ?_; rw [hpd, hpe]; cases hm : mayP ⟨false, x1, x2, s3⟩; rfl; have h : x1 = 0 ∧ x2 = 0 ∧ 1 ≤ s3.size ∧ s3.size ≤ 200 := (mayP_true hm).2 rfl; omega⟩
                  have fA10 : decide (x1 ≥ 0) = true := decide_eq_true (by omega)
                  have fA11 : decide (0 ≤ x1) = true := decide_eq_true (by omega)
                  have fA12 : (0 ≤ x1) = True := eq_true (by omega)
                  have fA20 : decide (x1 ≤ 200) = true := decide_eq_true (by omega)
                  have fA21 : (x1 ≤ 200) = True := eq_true (by omega)
                  have fA30 : decide (x2 ≥ 1) = false := decide_eq_false (by omega)
                  have fA31 : decide (1 ≤ x2) = false := decide_eq_false (by omega)
                  have fA32 : (1 ≤ x2) = False := eq_false (by omega)
                  have fT10 : (x1 == 0) = true := by rw [hT1]; rfl
                  have fT20 : (x2 == 0) = false := by simpa using hT2
                  clear hjl hpd hpe hA1 hA2 hA3 hT1 hT2
                  go_wp2_with (first | ((with_reducible refine gate_dst (N := 5) rfl ?_); (try (refine gate_guard (by rfl) ?_; dsimp only)); refine box_event ?hg (N := 5) ?hd (cs := #[.bool false, .int .i64 0, .int .i64 0, .string (⟨#[]⟩ : ByteArray)]) (t := 67) ?hr ?_; (case hd => rfl); (case hg => rfl); (case hr => first | (go_simp; done) | (go_simp; rfl)); intro gb hg w15 hbox hb; have HG := Aside0.mk (show w.heap.size ≤ gb by rw [hg]; exact below_size HB.out); have HB2 := Aside0.mk (below_step HB.out hb); have z0 : w15.cell? ⟨gb, 0, none⟩ = some (.bool false) := (blk_cell hbox 0).trans rfl; have z1 : w15.cell? ⟨gb, 1, none⟩ = some (.int .i64 0) := (blk_cell hbox 1).trans rfl; have z2 : w15.cell? ⟨gb, 2, none⟩ = some (.int .i64 0) := (blk_cell hbox 2).trans rfl; have z3 : w15.cell? ⟨gb, 3, none⟩ = some (.string (⟨#[]⟩ : ByteArray)) := (blk_cell hbox 3).trans rfl; have y0 := blk_frozen hbox 0; have y1 := blk_frozen hbox 1; have y2 := blk_frozen hbox 2; have y3 := blk_frozen hbox 3; clear hb hbox hg) | fail)
                  go_ret
                  exact ⟨by rw [HM.out]; rfl, (by repeat (first | exact HB2.out | refine below_set ?_ HG.out | apply pw_below_drewN | apply below_drew1))⟩
              · have HM : Aside0 (b = false) := ⟨by rw [← HBE.out]; refine may_not hjl (j := j) ?_; rw [hpd, hpe]; cases hm : mayP ⟨false, x1, x2, s3⟩; rfl; have h : x1 = 0 ∧ x2 = 0 ∧ 1 ≤ s3.size ∧ s3.size ≤ 200 := (mayP_true hm).2 rfl; omega⟩
                have fA10 : decide (x1 ≥ 0) = true := decide_eq_true (by omega)
                have fA11 : decide (0 ≤ x1) = true := decide_eq_true (by omega)
                have fA12 : (0 ≤ x1) = True := eq_true (by omega)
                have fA20 : decide (x1 ≤ 200) = true := decide_eq_true (by omega)
                have fA21 : (x1 ≤ 200) = True := eq_true (by omega)
                have fA30 : decide (x2 ≥ 1) = false := decide_eq_false (by omega)
                have fA31 : decide (1 ≤ x2) = false := decide_eq_false (by omega)
                have fA32 : (1 ≤ x2) = False := eq_false (by omega)
                have fT10 : (x1 == 0) = false := by simpa using hT1
                clear hjl hpd hpe hA1 hA2 hA3 hT1
                go_wp2_with (first | ((with_reducible refine gate_dst (N := 5) rfl ?_); (try (refine gate_guard (by rfl) ?_; dsimp only)); refine box_event ?hg (N := 5) ?hd (cs := #[.bool false, .int .i64 0, .int .i64 0, .string (⟨#[]⟩ : ByteArray)]) (t := 67) ?hr ?_; (case hd => rfl); (case hg => rfl); (case hr => first | (go_simp; done) | (go_simp; rfl)); intro gb hg w15 hbox hb; have HG := Aside0.mk (show w.heap.size ≤ gb by rw [hg]; exact below_size HB.out); have HB2 := Aside0.mk (below_step HB.out hb); have z0 : w15.cell? ⟨gb, 0, none⟩ = some (.bool false) := (blk_cell hbox 0).trans rfl; have z1 : w15.cell? ⟨gb, 1, none⟩ = some (.int .i64 0) := (blk_cell hbox 1).trans rfl; have z2 : w15.cell? ⟨gb, 2, none⟩ = some (.int .i64 0) := (blk_cell hbox 2).trans rfl; have z3 : w15.cell? ⟨gb, 3, none⟩ = some (.string (⟨#[]⟩ : ByteArray)) := (blk_cell hbox 3).trans rfl; have y0 := blk_frozen hbox 0; have y1 := blk_frozen hbox 1; have y2 := blk_frozen hbox 2; have y3 := blk_frozen hbox 3; clear hb hbox hg) | fail)
                go_ret
                exact ⟨by rw [HM.out]; rfl, (by repeat (first | exact HB2.out | refine below_set ?_ HG.out | apply pw_below_drewN | apply below_drew1))⟩
          · by_cases hT1 : x1 = 0
            · omega
            · have HM : Aside0 (b = false) := ⟨by rw [← HBE.out]; refine may_not hjl (j := j) ?_; rw [hpd, hpe]; cases hm : mayP ⟨false, x1, x2, s3⟩; rfl; have h : x1 = 0 ∧ x2 = 0 ∧ 1 ≤ s3.size ∧ s3.size ≤ 200 := (mayP_true hm).2 rfl; omega⟩
              have fA10 : decide (x1 ≥ 0) = true := decide_eq_true (by omega)
              have fA11 : decide (0 ≤ x1) = true := decide_eq_true (by omega)
              have fA12 : (0 ≤ x1) = True := eq_true (by omega)
              have fA20 : decide (x1 ≤ 200) = false := decide_eq_false (by omega)
              have fA21 : (x1 ≤ 200) = False := eq_false (by omega)
              have fT10 : (x1 == 0) = false := by simpa using hT1
              clear hjl hpd hpe hA1 hA2 hT1
              go_wp2_with (first | ((with_reducible refine gate_dst (N := 5) rfl ?_); (try (refine gate_guard (by rfl) ?_; dsimp only)); refine box_event ?hg (N := 5) ?hd (cs := #[.bool false, .int .i64 0, .int .i64 0, .string (⟨#[]⟩ : ByteArray)]) (t := 67) ?hr ?_; (case hd => rfl); (case hg => rfl); (case hr => first | (go_simp; done) | (go_simp; rfl)); intro gb hg w15 hbox hb; have HG := Aside0.mk (show w.heap.size ≤ gb by rw [hg]; exact below_size HB.out); have HB2 := Aside0.mk (below_step HB.out hb); have z0 : w15.cell? ⟨gb, 0, none⟩ = some (.bool false) := (blk_cell hbox 0).trans rfl; have z1 : w15.cell? ⟨gb, 1, none⟩ = some (.int .i64 0) := (blk_cell hbox 1).trans rfl; have z2 : w15.cell? ⟨gb, 2, none⟩ = some (.int .i64 0) := (blk_cell hbox 2).trans rfl; have z3 : w15.cell? ⟨gb, 3, none⟩ = some (.string (⟨#[]⟩ : ByteArray)) := (blk_cell hbox 3).trans rfl; have y0 := blk_frozen hbox 0; have y1 := blk_frozen hbox 1; have y2 := blk_frozen hbox 2; have y3 := blk_frozen hbox 3; clear hb hbox hg) | fail)
              go_ret
              exact ⟨by rw [HM.out]; rfl, (by repeat (first | exact HB2.out | refine below_set ?_ HG.out | apply pw_below_drewN | apply below_drew1))⟩
        · by_cases hT1 : x1 = 0
          · omega
          · have HM : Aside0 (b = false) := ⟨by rw [← HBE.out]; refine may_not hjl (j := j) ?_; rw [hpd, hpe]; cases hm : mayP ⟨false, x1, x2, s3⟩; rfl; have h : x1 = 0 ∧ x2 = 0 ∧ 1 ≤ s3.size ∧ s3.size ≤ 200 := (mayP_true hm).2 rfl; omega⟩
            have fA10 : decide (x1 ≥ 0) = false := decide_eq_false (by omega)
            have fA11 : decide (0 ≤ x1) = false := decide_eq_false (by omega)
            have fA12 : (0 ≤ x1) = False := eq_false (by omega)
            have fT10 : (x1 == 0) = false := by simpa using hT1
            clear hjl hpd hpe hA1 hT1
            go_wp2_with (first | ((with_reducible refine gate_dst (N := 5) rfl ?_); (try (refine gate_guard (by rfl) ?_; dsimp only)); refine box_event ?hg (N := 5) ?hd (cs := #[.bool false, .int .i64 0, .int .i64 0, .string (⟨#[]⟩ : ByteArray)]) (t := 67) ?hr ?_; (case hd => rfl); (case hg => rfl); (case hr => first | (go_simp; done) | (go_simp; rfl)); intro gb hg w15 hbox hb; have HG := Aside0.mk (show w.heap.size ≤ gb by rw [hg]; exact below_size HB.out); have HB2 := Aside0.mk (below_step HB.out hb); have z0 : w15.cell? ⟨gb, 0, none⟩ = some (.bool false) := (blk_cell hbox 0).trans rfl; have z1 : w15.cell? ⟨gb, 1, none⟩ = some (.int .i64 0) := (blk_cell hbox 1).trans rfl; have z2 : w15.cell? ⟨gb, 2, none⟩ = some (.int .i64 0) := (blk_cell hbox 2).trans rfl; have z3 : w15.cell? ⟨gb, 3, none⟩ = some (.string (⟨#[]⟩ : ByteArray)) := (blk_cell hbox 3).trans rfl; have y0 := blk_frozen hbox 0; have y1 := blk_frozen hbox 1; have y2 := blk_frozen hbox 2; have y3 := blk_frozen hbox 3; clear hb hbox hg) | fail)
            go_ret
            exact ⟨by rw [HM.out]; rfl, (by repeat (first | exact HB2.out | refine below_set ?_ HG.out | apply pw_below_drewN | apply below_drew1))⟩
      · by_cases hA1 : x1 ≥ 0
        · by_cases hA2 : x1 ≤ 200
          · by_cases hA3 : x2 ≥ 1
            · by_cases hA4 : x2 ≤ 200
              · by_cases hA5 : s3.size = 0
                · by_cases hT1 : x1 = 0
                  · by_cases hT2 : x2 = 0
                    · omega
                    · have hmp : mayP p = true := by rw [hpe]; exact may_copy x1 x2 s3 (by omega) (by omega) (by omega) (by omega) (by omega)
                      have HMP := Aside0.mk hmp
                      obtain ⟨a1, ha1⟩ : ∃ a1, a1 = a + x2 := ⟨_, rfl⟩
                      obtain ⟨a2, ha2⟩ : ∃ a2, a2 = a1 + (s3.size : Int) := ⟨_, rfl⟩
                      have w1 : IntKind.i64.wrap (a + x2) = a1 := by have := HA.out; have := HJ.out; have := HN.out; rw [wrap_ok _ (by omega) (by omega), ha1]
                      have w2 : IntKind.i64.wrap (a1 + (s3.size : Int)) = a2 := by have := HA.out; have := HJ.out; have := HN.out; rw [wrap_ok _ (by omega) (by omega), ha2]
                      have HA2 : Aside0 (a2 = a + (x2 + (s3.size : Int)) ∧ 0 ≤ x2 + (s3.size : Int) ∧ x2 + (s3.size : Int) ≤ 400) := ⟨by omega⟩
                      clear ha1 ha2 hmp
                      have fA10 : decide (x1 ≥ 0) = true := decide_eq_true (by omega)
                      have fA11 : decide (0 ≤ x1) = true := decide_eq_true (by omega)
                      have fA12 : (0 ≤ x1) = True := eq_true (by omega)
                      have fA20 : decide (x1 ≤ 200) = true := decide_eq_true (by omega)
                      have fA21 : (x1 ≤ 200) = True := eq_true (by omega)
                      have fA30 : decide (x2 ≥ 1) = true := decide_eq_true (by omega)
                      have fA31 : decide (1 ≤ x2) = true := decide_eq_true (by omega)
                      have fA32 : (1 ≤ x2) = True := eq_true (by omega)
                      have fA40 : decide (x2 ≤ 200) = true := decide_eq_true (by omega)
                      have fA41 : (x2 ≤ 200) = True := eq_true (by omega)
                      have fA50 : s3.toList.isEmpty = true := by rw [toList_nil hA5]; rfl
                      have fT10 : (x1 == 0) = true := by rw [hT1]; rfl
                      have fT20 : (x2 == 0) = false := by simpa using hT2
                      clear hjl hpd hpe hA1 hA2 hA3 hA4 hA5 hT1 hT2
                      go_wp2_with (first | ((with_reducible refine gate_dst (N := 5) rfl ?_); (try (refine gate_guard (by rfl) ?_; dsimp only)); refine box_event ?hg (N := 5) ?hd (cs := #[.bool false, .int .i64 0, .int .i64 0, .string (⟨#[]⟩ : ByteArray)]) (t := 67) ?hr ?_; (case hd => rfl); (case hg => rfl); (case hr => first | (go_simp; done) | (go_simp; rfl)); intro gb hg w15 hbox hb; have HG := Aside0.mk (show w.heap.size ≤ gb by rw [hg]; exact below_size HB.out); have HB2 := Aside0.mk (below_step HB.out hb); have z0 : w15.cell? ⟨gb, 0, none⟩ = some (.bool false) := (blk_cell hbox 0).trans rfl; have z1 : w15.cell? ⟨gb, 1, none⟩ = some (.int .i64 0) := (blk_cell hbox 1).trans rfl; have z2 : w15.cell? ⟨gb, 2, none⟩ = some (.int .i64 0) := (blk_cell hbox 2).trans rfl; have z3 : w15.cell? ⟨gb, 3, none⟩ = some (.string (⟨#[]⟩ : ByteArray)) := (blk_cell hbox 3).trans rfl; have y0 := blk_frozen hbox 0; have y1 := blk_frozen hbox 1; have y2 := blk_frozen hbox 2; have y3 := blk_frozen hbox 3; clear hb hbox hg) | fail)
                      go_roundg (n - (j + 1))
                      case measure => have := HJ.out; have := HJ2.out; omega
                      case rel => exact ⟨a2, j + 1, by simp, by simp [ew], ⟨by have := HJ2.out; omega⟩, ⟨by rw [take_snocD l j HJL.out, HPD.out, List.all_append, HT.out.1]; simp [HMP.out], by rw [take_snocD l j HJL.out, HPD.out, sumP_append, sumP_one, ← HT.out.2, HA2.out.1, HPE.out]⟩, ⟨by have := HA.out; have := HA2.out; omega⟩, ⟨(by repeat (first | exact HB2.out | refine below_set ?_ HG.out | apply pw_below_drewN | apply below_drew1))⟩⟩
                  · have hmp : mayP p = true := by rw [hpe]; exact may_copy x1 x2 s3 (by omega) (by omega) (by omega) (by omega) (by omega)
                    have HMP := Aside0.mk hmp
                    obtain ⟨a1, ha1⟩ : ∃ a1, a1 = a + x2 := ⟨_, rfl⟩
                    obtain ⟨a2, ha2⟩ : ∃ a2, a2 = a1 + (s3.size : Int) := ⟨_, rfl⟩
                    have w1 : IntKind.i64.wrap (a + x2) = a1 := by have := HA.out; have := HJ.out; have := HN.out; rw [wrap_ok _ (by omega) (by omega), ha1]
                    have w2 : IntKind.i64.wrap (a1 + (s3.size : Int)) = a2 := by have := HA.out; have := HJ.out; have := HN.out; rw [wrap_ok _ (by omega) (by omega), ha2]
                    have HA2 : Aside0 (a2 = a + (x2 + (s3.size : Int)) ∧ 0 ≤ x2 + (s3.size : Int) ∧ x2 + (s3.size : Int) ≤ 400) := ⟨by omega⟩
                    clear ha1 ha2 hmp
                    have fA10 : decide (x1 ≥ 0) = true := decide_eq_true (by omega)
                    have fA11 : decide (0 ≤ x1) = true := decide_eq_true (by omega)
                    have fA12 : (0 ≤ x1) = True := eq_true (by omega)
                    have fA20 : decide (x1 ≤ 200) = true := decide_eq_true (by omega)
                    have fA21 : (x1 ≤ 200) = True := eq_true (by omega)
                    have fA30 : decide (x2 ≥ 1) = true := decide_eq_true (by omega)
                    have fA31 : decide (1 ≤ x2) = true := decide_eq_true (by omega)
                    have fA32 : (1 ≤ x2) = True := eq_true (by omega)
                    have fA40 : decide (x2 ≤ 200) = true := decide_eq_true (by omega)
                    have fA41 : (x2 ≤ 200) = True := eq_true (by omega)
                    have fA50 : s3.toList.isEmpty = true := by rw [toList_nil hA5]; rfl
                    have fT10 : (x1 == 0) = false := by simpa using hT1
                    clear hjl hpd hpe hA1 hA2 hA3 hA4 hA5 hT1
                    go_wp2_with (first | ((with_reducible refine gate_dst (N := 5) rfl ?_); (try (refine gate_guard (by rfl) ?_; dsimp only)); refine box_event ?hg (N := 5) ?hd (cs := #[.bool false, .int .i64 0, .int .i64 0, .string (⟨#[]⟩ : ByteArray)]) (t := 67) ?hr ?_; (case hd => rfl); (case hg => rfl); (case hr => first | (go_simp; done) | (go_simp; rfl)); intro gb hg w15 hbox hb; have HG := Aside0.mk (show w.heap.size ≤ gb by rw [hg]; exact below_size HB.out); have HB2 := Aside0.mk (below_step HB.out hb); have z0 : w15.cell? ⟨gb, 0, none⟩ = some (.bool false) := (blk_cell hbox 0).trans rfl; have z1 : w15.cell? ⟨gb, 1, none⟩ = some (.int .i64 0) := (blk_cell hbox 1).trans rfl; have z2 : w15.cell? ⟨gb, 2, none⟩ = some (.int .i64 0) := (blk_cell hbox 2).trans rfl; have z3 : w15.cell? ⟨gb, 3, none⟩ = some (.string (⟨#[]⟩ : ByteArray)) := (blk_cell hbox 3).trans rfl; have y0 := blk_frozen hbox 0; have y1 := blk_frozen hbox 1; have y2 := blk_frozen hbox 2; have y3 := blk_frozen hbox 3; clear hb hbox hg) | fail)
                    go_roundg (n - (j + 1))
                    case measure => have := HJ.out; have := HJ2.out; omega
                    case rel => exact ⟨a2, j + 1, by simp, by simp [ew], ⟨by have := HJ2.out; omega⟩, ⟨by rw [take_snocD l j HJL.out, HPD.out, List.all_append, HT.out.1]; simp [HMP.out], by rw [take_snocD l j HJL.out, HPD.out, sumP_append, sumP_one, ← HT.out.2, HA2.out.1, HPE.out]⟩, ⟨by have := HA.out; have := HA2.out; omega⟩, ⟨(by repeat (first | exact HB2.out | refine below_set ?_ HG.out | apply pw_below_drewN | apply below_drew1))⟩⟩
                · by_cases hT1 : x1 = 0
                  · by_cases hT2 : x2 = 0
                    · omega
                    · have HM : Aside0 (b = false) := ⟨by rw [← HBE.out]; refine may_not hjl (j := j) ?_; rw [hpd, hpe]; cases hm : mayP ⟨true, x1, x2, s3⟩; rfl; have h : 0 ≤ x1 ∧ x1 ≤ 200 ∧ 1 ≤ x2 ∧ x2 ≤ 200 ∧ s3.size = 0 := (mayP_true hm).1 rfl; omega⟩
                      have fA10 : decide (x1 ≥ 0) = true := decide_eq_true (by omega)
                      have fA11 : decide (0 ≤ x1) = true := decide_eq_true (by omega)
                      have fA12 : (0 ≤ x1) = True := eq_true (by omega)
                      have fA20 : decide (x1 ≤ 200) = true := decide_eq_true (by omega)
                      have fA21 : (x1 ≤ 200) = True := eq_true (by omega)
                      have fA30 : decide (x2 ≥ 1) = true := decide_eq_true (by omega)
                      have fA31 : decide (1 ≤ x2) = true := decide_eq_true (by omega)
                      have fA32 : (1 ≤ x2) = True := eq_true (by omega)
                      have fA40 : decide (x2 ≤ 200) = true := decide_eq_true (by omega)
                      have fA41 : (x2 ≤ 200) = True := eq_true (by omega)
                      have fA50 : s3.toList.isEmpty = false := toList_cons hA5
                      have fT10 : (x1 == 0) = true := by rw [hT1]; rfl
                      have fT20 : (x2 == 0) = false := by simpa using hT2
                      clear hjl hpd hpe hA1 hA2 hA3 hA4 hA5 hT1 hT2
                      go_wp2_with (first | ((with_reducible refine gate_dst (N := 5) rfl ?_); (try (refine gate_guard (by rfl) ?_; dsimp only)); refine box_event ?hg (N := 5) ?hd (cs := #[.bool false, .int .i64 0, .int .i64 0, .string (⟨#[]⟩ : ByteArray)]) (t := 67) ?hr ?_; (case hd => rfl); (case hg => rfl); (case hr => first | (go_simp; done) | (go_simp; rfl)); intro gb hg w15 hbox hb; have HG := Aside0.mk (show w.heap.size ≤ gb by rw [hg]; exact below_size HB.out); have HB2 := Aside0.mk (below_step HB.out hb); have z0 : w15.cell? ⟨gb, 0, none⟩ = some (.bool false) := (blk_cell hbox 0).trans rfl; have z1 : w15.cell? ⟨gb, 1, none⟩ = some (.int .i64 0) := (blk_cell hbox 1).trans rfl; have z2 : w15.cell? ⟨gb, 2, none⟩ = some (.int .i64 0) := (blk_cell hbox 2).trans rfl; have z3 : w15.cell? ⟨gb, 3, none⟩ = some (.string (⟨#[]⟩ : ByteArray)) := (blk_cell hbox 3).trans rfl; have y0 := blk_frozen hbox 0; have y1 := blk_frozen hbox 1; have y2 := blk_frozen hbox 2; have y3 := blk_frozen hbox 3; clear hb hbox hg) | fail)
                      go_ret
                      exact ⟨by rw [HM.out]; rfl, (by repeat (first | exact HB2.out | refine below_set ?_ HG.out | apply pw_below_drewN | apply below_drew1))⟩
                  · have HM : Aside0 (b = false) := ⟨by rw [← HBE.out]; refine may_not hjl (j := j) ?_; rw [hpd, hpe]; cases hm : mayP ⟨true, x1, x2, s3⟩; rfl; have h : 0 ≤ x1 ∧ x1 ≤ 200 ∧ 1 ≤ x2 ∧ x2 ≤ 200 ∧ s3.size = 0 := (mayP_true hm).1 rfl; omega⟩
                    have fA10 : decide (x1 ≥ 0) = true := decide_eq_true (by omega)
                    have fA11 : decide (0 ≤ x1) = true := decide_eq_true (by omega)
                    have fA12 : (0 ≤ x1) = True := eq_true (by omega)
                    have fA20 : decide (x1 ≤ 200) = true := decide_eq_true (by omega)
                    have fA21 : (x1 ≤ 200) = True := eq_true (by omega)
                    have fA30 : decide (x2 ≥ 1) = true := decide_eq_true (by omega)
                    have fA31 : decide (1 ≤ x2) = true := decide_eq_true (by omega)
                    have fA32 : (1 ≤ x2) = True := eq_true (by omega)
                    have fA40 : decide (x2 ≤ 200) = true := decide_eq_true (by omega)
                    have fA41 : (x2 ≤ 200) = True := eq_true (by omega)
                    have fA50 : s3.toList.isEmpty = false := toList_cons hA5
                    have fT10 : (x1 == 0) = false := by simpa using hT1
                    clear hjl hpd hpe hA1 hA2 hA3 hA4 hA5 hT1
                    go_wp2_with (first | ((with_reducible refine gate_dst (N := 5) rfl ?_); (try (refine gate_guard (by rfl) ?_; dsimp only)); refine box_event ?hg (N := 5) ?hd (cs := #[.bool false, .int .i64 0, .int .i64 0, .string (⟨#[]⟩ : ByteArray)]) (t := 67) ?hr ?_; (case hd => rfl); (case hg => rfl); (case hr => first | (go_simp; done) | (go_simp; rfl)); intro gb hg w15 hbox hb; have HG := Aside0.mk (show w.heap.size ≤ gb by rw [hg]; exact below_size HB.out); have HB2 := Aside0.mk (below_step HB.out hb); have z0 : w15.cell? ⟨gb, 0, none⟩ = some (.bool false) := (blk_cell hbox 0).trans rfl; have z1 : w15.cell? ⟨gb, 1, none⟩ = some (.int .i64 0) := (blk_cell hbox 1).trans rfl; have z2 : w15.cell? ⟨gb, 2, none⟩ = some (.int .i64 0) := (blk_cell hbox 2).trans rfl; have z3 : w15.cell? ⟨gb, 3, none⟩ = some (.string (⟨#[]⟩ : ByteArray)) := (blk_cell hbox 3).trans rfl; have y0 := blk_frozen hbox 0; have y1 := blk_frozen hbox 1; have y2 := blk_frozen hbox 2; have y3 := blk_frozen hbox 3; clear hb hbox hg) | fail)
                    go_ret
                    exact ⟨by rw [HM.out]; rfl, (by repeat (first | exact HB2.out | refine below_set ?_ HG.out | apply pw_below_drewN | apply below_drew1))⟩
              · by_cases hT1 : x1 = 0
                · by_cases hT2 : x2 = 0
                  · omega
                  · have HM : Aside0 (b = false) := ⟨by rw [← HBE.out]; refine may_not hjl (j := j) ?_; rw [hpd, hpe]; cases hm : mayP ⟨true, x1, x2, s3⟩; rfl; have h : 0 ≤ x1 ∧ x1 ≤ 200 ∧ 1 ≤ x2 ∧ x2 ≤ 200 ∧ s3.size = 0 := (mayP_true hm).1 rfl; omega⟩
                    have fA10 : decide (x1 ≥ 0) = true := decide_eq_true (by omega)
                    have fA11 : decide (0 ≤ x1) = true := decide_eq_true (by omega)
                    have fA12 : (0 ≤ x1) = True := eq_true (by omega)
                    have fA20 : decide (x1 ≤ 200) = true := decide_eq_true (by omega)
                    have fA21 : (x1 ≤ 200) = True := eq_true (by omega)
                    have fA30 : decide (x2 ≥ 1) = true := decide_eq_true (by omega)
                    have fA31 : decide (1 ≤ x2) = true := decide_eq_true (by omega)
                    have fA32 : (1 ≤ x2) = True := eq_true (by omega)
                    have fA40 : decide (x2 ≤ 200) = false := decide_eq_false (by omega)
                    have fA41 : (x2 ≤ 200) = False := eq_false (by omega)
                    have fT10 : (x1 == 0) = true := by rw [hT1]; rfl
                    have fT20 : (x2 == 0) = false := by simpa using hT2
                    clear hjl hpd hpe hA1 hA2 hA3 hA4 hT1 hT2
                    go_wp2_with (first | ((with_reducible refine gate_dst (N := 5) rfl ?_); (try (refine gate_guard (by rfl) ?_; dsimp only)); refine box_event ?hg (N := 5) ?hd (cs := #[.bool false, .int .i64 0, .int .i64 0, .string (⟨#[]⟩ : ByteArray)]) (t := 67) ?hr ?_; (case hd => rfl); (case hg => rfl); (case hr => first | (go_simp; done) | (go_simp; rfl)); intro gb hg w15 hbox hb; have HG := Aside0.mk (show w.heap.size ≤ gb by rw [hg]; exact below_size HB.out); have HB2 := Aside0.mk (below_step HB.out hb); have z0 : w15.cell? ⟨gb, 0, none⟩ = some (.bool false) := (blk_cell hbox 0).trans rfl; have z1 : w15.cell? ⟨gb, 1, none⟩ = some (.int .i64 0) := (blk_cell hbox 1).trans rfl; have z2 : w15.cell? ⟨gb, 2, none⟩ = some (.int .i64 0) := (blk_cell hbox 2).trans rfl; have z3 : w15.cell? ⟨gb, 3, none⟩ = some (.string (⟨#[]⟩ : ByteArray)) := (blk_cell hbox 3).trans rfl; have y0 := blk_frozen hbox 0; have y1 := blk_frozen hbox 1; have y2 := blk_frozen hbox 2; have y3 := blk_frozen hbox 3; clear hb hbox hg) | fail)
                    go_ret
                    exact ⟨by rw [HM.out]; rfl, (by repeat (first | exact HB2.out | refine below_set ?_ HG.out | apply pw_below_drewN | apply below_drew1))⟩
                · have HM : Aside0 (b = false) := ⟨by rw [← HBE.out]; refine may_not hjl (j := j) ?_; rw [hpd, hpe]; cases hm : mayP ⟨true, x1, x2, s3⟩; rfl; have h : 0 ≤ x1 ∧ x1 ≤ 200 ∧ 1 ≤ x2 ∧ x2 ≤ 200 ∧ s3.size = 0 := (mayP_true hm).1 rfl; omega⟩
                  have fA10 : decide (x1 ≥ 0) = true := decide_eq_true (by omega)
                  have fA11 : decide (0 ≤ x1) = true := decide_eq_true (by omega)
                  have fA12 : (0 ≤ x1) = True := eq_true (by omega)
                  have fA20 : decide (x1 ≤ 200) = true := decide_eq_true (by omega)
                  have fA21 : (x1 ≤ 200) = True := eq_true (by omega)
                  have fA30 : decide (x2 ≥ 1) = true := decide_eq_true (by omega)
                  have fA31 : decide (1 ≤ x2) = true := decide_eq_true (by omega)
                  have fA32 : (1 ≤ x2) = True := eq_true (by omega)
                  have fA40 : decide (x2 ≤ 200) = false := decide_eq_false (by omega)
                  have fA41 : (x2 ≤ 200) = False := eq_false (by omega)
                  have fT10 : (x1 == 0) = false := by simpa using hT1
                  clear hjl hpd hpe hA1 hA2 hA3 hA4 hT1
                  go_wp2_with (first | ((with_reducible refine gate_dst (N := 5) rfl ?_); (try (refine gate_guard (by rfl) ?_; dsimp only)); refine box_event ?hg (N := 5) ?hd (cs := #[.bool false, .int .i64 0, .int .i64 0, .string (⟨#[]⟩ : ByteArray)]) (t := 67) ?hr ?_; (case hd => rfl); (case hg => rfl); (case hr => first | (go_simp; done) | (go_simp; rfl)); intro gb hg w15 hbox hb; have HG := Aside0.mk (show w.heap.size ≤ gb by rw [hg]; exact below_size HB.out); have HB2 := Aside0.mk (below_step HB.out hb); have z0 : w15.cell? ⟨gb, 0, none⟩ = some (.bool false) := (blk_cell hbox 0).trans rfl; have z1 : w15.cell? ⟨gb, 1, none⟩ = some (.int .i64 0) := (blk_cell hbox 1).trans rfl; have z2 : w15.cell? ⟨gb, 2, none⟩ = some (.int .i64 0) := (blk_cell hbox 2).trans rfl; have z3 : w15.cell? ⟨gb, 3, none⟩ = some (.string (⟨#[]⟩ : ByteArray)) := (blk_cell hbox 3).trans rfl; have y0 := blk_frozen hbox 0; have y1 := blk_frozen hbox 1; have y2 := blk_frozen hbox 2; have y3 := blk_frozen hbox 3; clear hb hbox hg) | fail)
                  go_ret
                  exact ⟨by rw [HM.out]; rfl, (by repeat (first | exact HB2.out | refine below_set ?_ HG.out | apply pw_below_drewN | apply below_drew1))⟩
            · by_cases hT1 : x1 = 0
              · by_cases hT2 : x2 = 0
                · by_cases hT3 : 1 ≤ s3.size
                  · by_cases hT4 : s3.size ≤ 200
                    · have HM : Aside0 (b = false) := ⟨by rw [← HBE.out]; refine may_not hjl (j := j) ?_; rw [hpd, hpe]; cases hm : mayP ⟨true, x1, x2, s3⟩; rfl; have h : 0 ≤ x1 ∧ x1 ≤ 200 ∧ 1 ≤ x2 ∧ x2 ≤ 200 ∧ s3.size = 0 := (mayP_true hm).1 rfl; omega⟩
                      have fA10 : decide (x1 ≥ 0) = true := decide_eq_true (by omega)
                      have fA11 : decide (0 ≤ x1) = true := decide_eq_true (by omega)
                      have fA12 : (0 ≤ x1) = True := eq_true (by omega)
                      have fA20 : decide (x1 ≤ 200) = true := decide_eq_true (by omega)
                      have fA21 : (x1 ≤ 200) = True := eq_true (by omega)
                      have fA30 : decide (x2 ≥ 1) = false := decide_eq_false (by omega)
                      have fA31 : decide (1 ≤ x2) = false := decide_eq_false (by omega)
                      have fA32 : (1 ≤ x2) = False := eq_false (by omega)
                      have fT10 : (x1 == 0) = true := by rw [hT1]; rfl
                      have fT20 : (x2 == 0) = true := by rw [hT2]; rfl
                      have fT30 : decide ((s3.size : Int) ≥ 1) = true := decide_eq_true (by omega)
                      have fT31 : decide (1 ≤ (s3.size : Int)) = true := decide_eq_true (by omega)
                      have fT32 : decide (1 ≤ s3.size) = true := decide_eq_true (by omega)
                      have fT33 : (1 ≤ s3.size) = True := eq_true (by omega)
                      have fT34 : (1 ≤ (s3.size : Int)) = True := eq_true (by omega)
                      have fT40 : decide ((s3.size : Int) ≤ 200) = true := decide_eq_true (by omega)
                      have fT41 : decide (s3.size ≤ 200) = true := decide_eq_true (by omega)
                      have fT42 : (s3.size ≤ 200) = True := eq_true (by omega)
                      have fT43 : ((s3.size : Int) ≤ 200) = True := eq_true (by omega)
                      clear hjl hpd hpe hA1 hA2 hA3 hT1 hT2 hT3 hT4
                      go_wp2_with (first | ((with_reducible refine gate_dst (N := 5) rfl ?_); (try (refine gate_guard (by rfl) ?_; dsimp only)); refine box_event ?hg (N := 5) ?hd (cs := #[.bool false, .int .i64 0, .int .i64 0, .string (⟨#[]⟩ : ByteArray)]) (t := 67) ?hr ?_; (case hd => rfl); (case hg => rfl); (case hr => first | (go_simp; done) | (go_simp; rfl)); intro gb hg w15 hbox hb; have HG := Aside0.mk (show w.heap.size ≤ gb by rw [hg]; exact below_size HB.out); have HB2 := Aside0.mk (below_step HB.out hb); have z0 : w15.cell? ⟨gb, 0, none⟩ = some (.bool false) := (blk_cell hbox 0).trans rfl; have z1 : w15.cell? ⟨gb, 1, none⟩ = some (.int .i64 0) := (blk_cell hbox 1).trans rfl; have z2 : w15.cell? ⟨gb, 2, none⟩ = some (.int .i64 0) := (blk_cell hbox 2).trans rfl; have z3 : w15.cell? ⟨gb, 3, none⟩ = some (.string (⟨#[]⟩ : ByteArray)) := (blk_cell hbox 3).trans rfl; have y0 := blk_frozen hbox 0; have y1 := blk_frozen hbox 1; have y2 := blk_frozen hbox 2; have y3 := blk_frozen hbox 3; clear hb hbox hg) | fail)
                      go_ret
                      exact ⟨by rw [HM.out]; rfl, (by repeat (first | exact HB2.out | refine below_set ?_ HG.out | apply pw_below_drewN | apply below_drew1))⟩
                    · have HM : Aside0 (b = false) := ⟨by rw [← HBE.out]; refine may_not hjl (j := j) ?_; rw [hpd, hpe]; cases hm : mayP ⟨true, x1, x2, s3⟩; rfl; have h : 0 ≤ x1 ∧ x1 ≤ 200 ∧ 1 ≤ x2 ∧ x2 ≤ 200 ∧ s3.size = 0 := (mayP_true hm).1 rfl; omega⟩
                      have fA10 : decide (x1 ≥ 0) = true := decide_eq_true (by omega)
                      have fA11 : decide (0 ≤ x1) = true := decide_eq_true (by omega)
                      have fA12 : (0 ≤ x1) = True := eq_true (by omega)
                      have fA20 : decide (x1 ≤ 200) = true := decide_eq_true (by omega)
                      have fA21 : (x1 ≤ 200) = True := eq_true (by omega)
                      have fA30 : decide (x2 ≥ 1) = false := decide_eq_false (by omega)
                      have fA31 : decide (1 ≤ x2) = false := decide_eq_false (by omega)
                      have fA32 : (1 ≤ x2) = False := eq_false (by omega)
                      have fT10 : (x1 == 0) = true := by rw [hT1]; rfl
                      have fT20 : (x2 == 0) = true := by rw [hT2]; rfl
                      have fT30 : decide ((s3.size : Int) ≥ 1) = true := decide_eq_true (by omega)
                      have fT31 : decide (1 ≤ (s3.size : Int)) = true := decide_eq_true (by omega)
                      have fT32 : decide (1 ≤ s3.size) = true := decide_eq_true (by omega)
                      have fT33 : (1 ≤ s3.size) = True := eq_true (by omega)
                      have fT34 : (1 ≤ (s3.size : Int)) = True := eq_true (by omega)
                      have fT40 : decide ((s3.size : Int) ≤ 200) = false := decide_eq_false (by omega)
                      have fT41 : decide (s3.size ≤ 200) = false := decide_eq_false (by omega)
                      have fT42 : (s3.size ≤ 200) = False := eq_false (by omega)
                      have fT43 : ((s3.size : Int) ≤ 200) = False := eq_false (by omega)
                      clear hjl hpd hpe hA1 hA2 hA3 hT1 hT2 hT3 hT4
                      go_wp2_with (first | ((with_reducible refine gate_dst (N := 5) rfl ?_); (try (refine gate_guard (by rfl) ?_; dsimp only)); refine box_event ?hg (N := 5) ?hd (cs := #[.bool false, .int .i64 0, .int .i64 0, .string (⟨#[]⟩ : ByteArray)]) (t := 67) ?hr ?_; (case hd => rfl); (case hg => rfl); (case hr => first | (go_simp; done) | (go_simp; rfl)); intro gb hg w15 hbox hb; have HG := Aside0.mk (show w.heap.size ≤ gb by rw [hg]; exact below_size HB.out); have HB2 := Aside0.mk (below_step HB.out hb); have z0 : w15.cell? ⟨gb, 0, none⟩ = some (.bool false) := (blk_cell hbox 0).trans rfl; have z1 : w15.cell? ⟨gb, 1, none⟩ = some (.int .i64 0) := (blk_cell hbox 1).trans rfl; have z2 : w15.cell? ⟨gb, 2, none⟩ = some (.int .i64 0) := (blk_cell hbox 2).trans rfl; have z3 : w15.cell? ⟨gb, 3, none⟩ = some (.string (⟨#[]⟩ : ByteArray)) := (blk_cell hbox 3).trans rfl; have y0 := blk_frozen hbox 0; have y1 := blk_frozen hbox 1; have y2 := blk_frozen hbox 2; have y3 := blk_frozen hbox 3; clear hb hbox hg) | fail)
                      go_ret
                      exact ⟨by rw [HM.out]; rfl, (by repeat (first | exact HB2.out | refine below_set ?_ HG.out | apply pw_below_drewN | apply below_drew1))⟩
                  · have HM : Aside0 (b = false) := ⟨by rw [← HBE.out]; refine may_not hjl (j := j) ?_; rw [hpd, hpe]; cases hm : mayP ⟨true, x1, x2, s3⟩; rfl; have h : 0 ≤ x1 ∧ x1 ≤ 200 ∧ 1 ≤ x2 ∧ x2 ≤ 200 ∧ s3.size = 0 := (mayP_true hm).1 rfl; omega⟩
                    have fA10 : decide (x1 ≥ 0) = true := decide_eq_true (by omega)
                    have fA11 : decide (0 ≤ x1) = true := decide_eq_true (by omega)
                    have fA12 : (0 ≤ x1) = True := eq_true (by omega)
                    have fA20 : decide (x1 ≤ 200) = true := decide_eq_true (by omega)
                    have fA21 : (x1 ≤ 200) = True := eq_true (by omega)
                    have fA30 : decide (x2 ≥ 1) = false := decide_eq_false (by omega)
                    have fA31 : decide (1 ≤ x2) = false := decide_eq_false (by omega)
                    have fA32 : (1 ≤ x2) = False := eq_false (by omega)
                    have fT10 : (x1 == 0) = true := by rw [hT1]; rfl
                    have fT20 : (x2 == 0) = true := by rw [hT2]; rfl
                    have fT30 : decide ((s3.size : Int) ≥ 1) = false := decide_eq_false (by omega)
                    have fT31 : decide (1 ≤ (s3.size : Int)) = false := decide_eq_false (by omega)
                    have fT32 : decide (1 ≤ s3.size) = false := decide_eq_false (by omega)
                    have fT33 : (1 ≤ s3.size) = False := eq_false (by omega)
                    have fT34 : (1 ≤ (s3.size : Int)) = False := eq_false (by omega)
                    clear hjl hpd hpe hA1 hA2 hA3 hT1 hT2 hT3
                    go_wp2_with (first | ((with_reducible refine gate_dst (N := 5) rfl ?_); (try (refine gate_guard (by rfl) ?_; dsimp only)); refine box_event ?hg (N := 5) ?hd (cs := #[.bool false, .int .i64 0, .int .i64 0, .string (⟨#[]⟩ : ByteArray)]) (t := 67) ?hr ?_; (case hd => rfl); (case hg => rfl); (case hr => first | (go_simp; done) | (go_simp; rfl)); intro gb hg w15 hbox hb; have HG := Aside0.mk (show w.heap.size ≤ gb by rw [hg]; exact below_size HB.out); have HB2 := Aside0.mk (below_step HB.out hb); have z0 : w15.cell? ⟨gb, 0, none⟩ = some (.bool false) := (blk_cell hbox 0).trans rfl; have z1 : w15.cell? ⟨gb, 1, none⟩ = some (.int .i64 0) := (blk_cell hbox 1).trans rfl; have z2 : w15.cell? ⟨gb, 2, none⟩ = some (.int .i64 0) := (blk_cell hbox 2).trans rfl; have z3 : w15.cell? ⟨gb, 3, none⟩ = some (.string (⟨#[]⟩ : ByteArray)) := (blk_cell hbox 3).trans rfl; have y0 := blk_frozen hbox 0; have y1 := blk_frozen hbox 1; have y2 := blk_frozen hbox 2; have y3 := blk_frozen hbox 3; clear hb hbox hg) | fail)
                    go_ret
                    exact ⟨by rw [HM.out]; rfl, (by repeat (first | exact HB2.out | refine below_set ?_ HG.out | apply pw_below_drewN | apply below_drew1))⟩
                · have HM : Aside0 (b = false) := ⟨by rw [← HBE.out]; refine may_not hjl (j := j) ?_; rw [hpd, hpe]; cases hm : mayP ⟨true, x1, x2, s3⟩; rfl; have h : 0 ≤ x1 ∧ x1 ≤ 200 ∧ 1 ≤ x2 ∧ x2 ≤ 200 ∧ s3.size = 0 := (mayP_true hm).1 rfl; omega⟩
                  have fA10 : decide (x1 ≥ 0) = true := decide_eq_true (by omega)
                  have fA11 : decide (0 ≤ x1) = true := decide_eq_true (by omega)
                  have fA12 : (0 ≤ x1) = True := eq_true (by omega)
                  have fA20 : decide (x1 ≤ 200) = true := decide_eq_true (by omega)
                  have fA21 : (x1 ≤ 200) = True := eq_true (by omega)
                  have fA30 : decide (x2 ≥ 1) = false := decide_eq_false (by omega)
                  have fA31 : decide (1 ≤ x2) = false := decide_eq_false (by omega)
                  have fA32 : (1 ≤ x2) = False := eq_false (by omega)
                  have fT10 : (x1 == 0) = true := by rw [hT1]; rfl
                  have fT20 : (x2 == 0) = false := by simpa using hT2
                  clear hjl hpd hpe hA1 hA2 hA3 hT1 hT2
                  go_wp2_with (first | ((with_reducible refine gate_dst (N := 5) rfl ?_); (try (refine gate_guard (by rfl) ?_; dsimp only)); refine box_event ?hg (N := 5) ?hd (cs := #[.bool false, .int .i64 0, .int .i64 0, .string (⟨#[]⟩ : ByteArray)]) (t := 67) ?hr ?_; (case hd => rfl); (case hg => rfl); (case hr => first | (go_simp; done) | (go_simp; rfl)); intro gb hg w15 hbox hb; have HG := Aside0.mk (show w.heap.size ≤ gb by rw [hg]; exact below_size HB.out); have HB2 := Aside0.mk (below_step HB.out hb); have z0 : w15.cell? ⟨gb, 0, none⟩ = some (.bool false) := (blk_cell hbox 0).trans rfl; have z1 : w15.cell? ⟨gb, 1, none⟩ = some (.int .i64 0) := (blk_cell hbox 1).trans rfl; have z2 : w15.cell? ⟨gb, 2, none⟩ = some (.int .i64 0) := (blk_cell hbox 2).trans rfl; have z3 : w15.cell? ⟨gb, 3, none⟩ = some (.string (⟨#[]⟩ : ByteArray)) := (blk_cell hbox 3).trans rfl; have y0 := blk_frozen hbox 0; have y1 := blk_frozen hbox 1; have y2 := blk_frozen hbox 2; have y3 := blk_frozen hbox 3; clear hb hbox hg) | fail)
                  go_ret
                  exact ⟨by rw [HM.out]; rfl, (by repeat (first | exact HB2.out | refine below_set ?_ HG.out | apply pw_below_drewN | apply below_drew1))⟩
              · have HM : Aside0 (b = false) := ⟨by rw [← HBE.out]; refine may_not hjl (j := j) ?_; rw [hpd, hpe]; cases hm : mayP ⟨true, x1, x2, s3⟩; rfl; have h : 0 ≤ x1 ∧ x1 ≤ 200 ∧ 1 ≤ x2 ∧ x2 ≤ 200 ∧ s3.size = 0 := (mayP_true hm).1 rfl; omega⟩
                have fA10 : decide (x1 ≥ 0) = true := decide_eq_true (by omega)
                have fA11 : decide (0 ≤ x1) = true := decide_eq_true (by omega)
                have fA12 : (0 ≤ x1) = True := eq_true (by omega)
                have fA20 : decide (x1 ≤ 200) = true := decide_eq_true (by omega)
                have fA21 : (x1 ≤ 200) = True := eq_true (by omega)
                have fA30 : decide (x2 ≥ 1) = false := decide_eq_false (by omega)
                have fA31 : decide (1 ≤ x2) = false := decide_eq_false (by omega)
                have fA32 : (1 ≤ x2) = False := eq_false (by omega)
                have fT10 : (x1 == 0) = false := by simpa using hT1
                clear hjl hpd hpe hA1 hA2 hA3 hT1
                go_wp2_with (first | ((with_reducible refine gate_dst (N := 5) rfl ?_); (try (refine gate_guard (by rfl) ?_; dsimp only)); refine box_event ?hg (N := 5) ?hd (cs := #[.bool false, .int .i64 0, .int .i64 0, .string (⟨#[]⟩ : ByteArray)]) (t := 67) ?hr ?_; (case hd => rfl); (case hg => rfl); (case hr => first | (go_simp; done) | (go_simp; rfl)); intro gb hg w15 hbox hb; have HG := Aside0.mk (show w.heap.size ≤ gb by rw [hg]; exact below_size HB.out); have HB2 := Aside0.mk (below_step HB.out hb); have z0 : w15.cell? ⟨gb, 0, none⟩ = some (.bool false) := (blk_cell hbox 0).trans rfl; have z1 : w15.cell? ⟨gb, 1, none⟩ = some (.int .i64 0) := (blk_cell hbox 1).trans rfl; have z2 : w15.cell? ⟨gb, 2, none⟩ = some (.int .i64 0) := (blk_cell hbox 2).trans rfl; have z3 : w15.cell? ⟨gb, 3, none⟩ = some (.string (⟨#[]⟩ : ByteArray)) := (blk_cell hbox 3).trans rfl; have y0 := blk_frozen hbox 0; have y1 := blk_frozen hbox 1; have y2 := blk_frozen hbox 2; have y3 := blk_frozen hbox 3; clear hb hbox hg) | fail)
                go_ret
                exact ⟨by rw [HM.out]; rfl, (by repeat (first | exact HB2.out | refine below_set ?_ HG.out | apply pw_below_drewN | apply below_drew1))⟩
          · by_cases hT1 : x1 = 0
            · omega
            · have HM : Aside0 (b = false) := ⟨by rw [← HBE.out]; refine may_not hjl (j := j) ?_; rw [hpd, hpe]; cases hm : mayP ⟨true, x1, x2, s3⟩; rfl; have h : 0 ≤ x1 ∧ x1 ≤ 200 ∧ 1 ≤ x2 ∧ x2 ≤ 200 ∧ s3.size = 0 := (mayP_true hm).1 rfl; omega⟩
              have fA10 : decide (x1 ≥ 0) = true := decide_eq_true (by omega)
              have fA11 : decide (0 ≤ x1) = true := decide_eq_true (by omega)
              have fA12 : (0 ≤ x1) = True := eq_true (by omega)
              have fA20 : decide (x1 ≤ 200) = false := decide_eq_false (by omega)
              have fA21 : (x1 ≤ 200) = False := eq_false (by omega)
              have fT10 : (x1 == 0) = false := by simpa using hT1
              clear hjl hpd hpe hA1 hA2 hT1
              go_wp2_with (first | ((with_reducible refine gate_dst (N := 5) rfl ?_); (try (refine gate_guard (by rfl) ?_; dsimp only)); refine box_event ?hg (N := 5) ?hd (cs := #[.bool false, .int .i64 0, .int .i64 0, .string (⟨#[]⟩ : ByteArray)]) (t := 67) ?hr ?_; (case hd => rfl); (case hg => rfl); (case hr => first | (go_simp; done) | (go_simp; rfl)); intro gb hg w15 hbox hb; have HG := Aside0.mk (show w.heap.size ≤ gb by rw [hg]; exact below_size HB.out); have HB2 := Aside0.mk (below_step HB.out hb); have z0 : w15.cell? ⟨gb, 0, none⟩ = some (.bool false) := (blk_cell hbox 0).trans rfl; have z1 : w15.cell? ⟨gb, 1, none⟩ = some (.int .i64 0) := (blk_cell hbox 1).trans rfl; have z2 : w15.cell? ⟨gb, 2, none⟩ = some (.int .i64 0) := (blk_cell hbox 2).trans rfl; have z3 : w15.cell? ⟨gb, 3, none⟩ = some (.string (⟨#[]⟩ : ByteArray)) := (blk_cell hbox 3).trans rfl; have y0 := blk_frozen hbox 0; have y1 := blk_frozen hbox 1; have y2 := blk_frozen hbox 2; have y3 := blk_frozen hbox 3; clear hb hbox hg) | fail)
              go_ret
              exact ⟨by rw [HM.out]; rfl, (by repeat (first | exact HB2.out | refine below_set ?_ HG.out | apply pw_below_drewN | apply below_drew1))⟩
        · by_cases hT1 : x1 = 0
          · omega
          · have HM : Aside0 (b = false) := ⟨by rw [← HBE.out]; refine may_not hjl (j := j) ?_; rw [hpd, hpe]; cases hm : mayP ⟨true, x1, x2, s3⟩; rfl; have h : 0 ≤ x1 ∧ x1 ≤ 200 ∧ 1 ≤ x2 ∧ x2 ≤ 200 ∧ s3.size = 0 := (mayP_true hm).1 rfl; omega⟩
            have fA10 : decide (x1 ≥ 0) = false := decide_eq_false (by omega)
            have fA11 : decide (0 ≤ x1) = false := decide_eq_false (by omega)
            have fA12 : (0 ≤ x1) = False := eq_false (by omega)
            have fT10 : (x1 == 0) = false := by simpa using hT1
            clear hjl hpd hpe hA1 hT1
            go_wp2_with (first | ((with_reducible refine gate_dst (N := 5) rfl ?_); (try (refine gate_guard (by rfl) ?_; dsimp only)); refine box_event ?hg (N := 5) ?hd (cs := #[.bool false, .int .i64 0, .int .i64 0, .string (⟨#[]⟩ : ByteArray)]) (t := 67) ?hr ?_; (case hd => rfl); (case hg => rfl); (case hr => first | (go_simp; done) | (go_simp; rfl)); intro gb hg w15 hbox hb; have HG := Aside0.mk (show w.heap.size ≤ gb by rw [hg]; exact below_size HB.out); have HB2 := Aside0.mk (below_step HB.out hb); have z0 : w15.cell? ⟨gb, 0, none⟩ = some (.bool false) := (blk_cell hbox 0).trans rfl; have z1 : w15.cell? ⟨gb, 1, none⟩ = some (.int .i64 0) := (blk_cell hbox 1).trans rfl; have z2 : w15.cell? ⟨gb, 2, none⟩ = some (.int .i64 0) := (blk_cell hbox 2).trans rfl; have z3 : w15.cell? ⟨gb, 3, none⟩ = some (.string (⟨#[]⟩ : ByteArray)) := (blk_cell hbox 3).trans rfl; have y0 := blk_frozen hbox 0; have y1 := blk_frozen hbox 1; have y2 := blk_frozen hbox 2; have y3 := blk_frozen hbox 3; clear hb hbox hg) | fail)
            go_ret
            exact ⟨by rw [HM.out]; rfl, (by repeat (first | exact HB2.out | refine below_set ?_ HG.out | apply pw_below_drewN | apply below_drew1))⟩
    · have e1 : decide ((j : Int) < (n : Int)) = false := by simpa using hj
      have e2 : ((j : Int) < (n : Int)) = False := by simpa using hj
      have htk : l.take j = l := List.take_of_length_le (by rw [HLN.out]; omega)
      have HT2 : Aside0 (l.all mayP = true ∧ a = sumP l) := ⟨by rw [← htk]; exact HT.out.1, by rw [← htk]; have := HT.out.2; rw [htk] at this ⊢; exact this⟩
      clear htk hj
      by_cases hq1 : n ≤ 60
      · have f1 : decide ((n : Int) ≤ 60) = true := decide_eq_true (by omega)
        have f2 : decide (n ≤ 60) = true := decide_eq_true hq1
        by_cases hq2 : a ≤ 200
        · have f3 : decide (a ≤ 200) = true := decide_eq_true hq2
          have HM : Aside0 (b = true) := ⟨by rw [← HBE.out, mayL_iff, HLN.out]; exact ⟨HT2.out.1, hq1, by rw [← HT2.out.2]; exact hq2⟩⟩
          clear hq1 hq2
          go_wp2_with fail
          go_ret
          exact ⟨by rw [HM.out]; rfl, HB.out⟩
        · have f3 : decide (a ≤ 200) = false := decide_eq_false hq2
          have HM : Aside0 (b = false) := ⟨by rw [← HBE.out]; cases hm : mayL l; rfl; have := ((mayL_iff l).1 hm).2.2; rw [← HT2.out.2] at this; omega⟩
          clear hq1 hq2
          go_wp2_with fail
          go_ret
          exact ⟨by rw [HM.out]; rfl, HB.out⟩
      · have f1 : decide ((n : Int) ≤ 60) = false := decide_eq_false (by omega)
        have f2 : decide (n ≤ 60) = false := decide_eq_false hq1
        have HM : Aside0 (b = false) := ⟨by rw [← HBE.out]; cases hm : mayL l; rfl; have := ((mayL_iff l).1 hm).2.1; rw [HLN.out] at this; omega⟩
        clear hq1
        go_wp2_with fail
        go_ret
        exact ⟨by rw [HM.out]; rfl, HB.out⟩
/-- In the printed form. -/
def rolodexref11_May.f (k : Nat) (l0 : List S67) : Option Bool := if l0.length ≤ 1000000000 then some (mayL l0) else none
theorem rolodexref11_May.mono : ∀ a0 k, LeO (rolodexref11_May.f k a0) (rolodexref11_May.f (k + 1) a0) := fun _ _ => LeO.refl _
theorem rolodexref11_May.calls (k : Nat) (A0 : Option Addr) (c0 : Nat) (l0 : List (S67)) (r : Bool) (w : World) (hr0 : Kd.C k67 w A0 l0.length l0) (hc0 : l0.length ≤ c0) (h : rolodexref11_May.f k l0 = some r) :
    Calls Try.prog 60 #[.slice A0 l0.length c0] w fun e w' => e = .returned (.bool r) ∧ Below w.heap.size w w' := by
  unfold rolodexref11_May.f at h
  split at h
  · rename_i hl
    exact rmay_call rfl A0 c0 w hr0 hl r (Option.some.inj h)
  · simp at h
end Go.Proofs.Ytchaegfdcdlfaaa.X

-- Printed for this session by a program of its own over an edited copy of the translation's print.
