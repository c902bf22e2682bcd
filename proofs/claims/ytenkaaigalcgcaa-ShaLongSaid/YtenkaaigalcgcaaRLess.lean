/- The document's digest of a text; which digest is less: the walks. -/
import Derived.Test.YtenkaaigalcgcaaRSum
import Derived.Test.YtenkaaigalcgcaaHShaOrder
namespace Go.Proofs.Ytenkaaigalcgcaa.X
set_option linter.unusedVariables false
set_option linter.unusedSimpArgs false
open Go.RowKit Go.Proofs.YtenkaaigalcgcaaW.PrintWords Go.Proofs.YtenkaaigalcgcaaW.PrintLast Go.Proofs.YtenkaaigalcgcaaW.PrintMore

theorem bytesOf_bytes8 (s : ByteArray) : Bytes8 (bytesOf s) := by
  intro x hx
  unfold bytesOf at hx
  obtain ⟨b, _, rfl⟩ := List.mem_map.1 hx
  have := b.toNat_lt
  omega
set_option maxHeartbeats 1000000 in
set_option maxRecDepth 100000 in
theorem refof_call (s : ByteArray) (w : World) (hs : s.size ≤ 1000) :
    Calls Try.prog 13 #[.string s] w fun e w' => e = .returned (.agg (cells8 (shaOf (bytesOf s)))) ∧ Below w.heap.size w w' := by
  have hcv := fun W => print_bytes (P := Try.prog) 9 22 5 Try.underlying9 Try.underlying22 Try.underlying5 s W
  have hz : (cells8 (shaOf (bytesOf s))).size = 32 := by rw [cells8_size, shaOf_length]
  obtain ⟨d, hd⟩ : ∃ d, d = shaOf (bytesOf s) := ⟨_, rfl⟩
  rw [← hd] at hz ⊢
  have HD : Aside0 (shaOf (bytesOf s) = d) := ⟨hd.symm⟩
  clear hd
  go_enter Try.func13, Try.ntmps13
  go_wp2_with fail
  obtain ⟨wA, hwA⟩ : ∃ wA : World, wA = Lib.bytesWorld (w.alloc (.cells #[.int .u8 0, .int .u8 0, .int .u8 0, .int .u8 0, .int .u8 0, .int .u8 0, .int .u8 0, .int .u8 0, .int .u8 0, .int .u8 0, .int .u8 0, .int .u8 0, .int .u8 0, .int .u8 0, .int .u8 0, .int .u8 0, .int .u8 0, .int .u8 0, .int .u8 0, .int .u8 0, .int .u8 0, .int .u8 0, .int .u8 0, .int .u8 0, .int .u8 0, .int .u8 0, .int .u8 0, .int .u8 0, .int .u8 0, .int .u8 0, .int .u8 0, .int .u8 0] 24 (0, 0))) 5 s := ⟨_, rfl⟩
  have HZA : Aside0 (Blk8 wA w.heap.size 24 (List.replicate 32 0)) := ⟨by rw [hwA]; unfold Blk8; rw [Lib.bytesWorld_at_old _ _ _ _ (by simp)]; exact heap_alloc_new w _⟩
  have HBA : Aside0 (Below w.heap.size w wA) := ⟨by rw [hwA]; exact bytes_below (below_alloc (Below.refl _ _) _) (by simp) _ _⟩
  have HRA : Aside0 (RdB wA (some ⟨w.heap.size + 1, 0, none⟩) s.size (bytesOf s)) := ⟨by rw [hwA]; have h_ := bytes_reads (w.alloc (.cells #[.int .u8 0, .int .u8 0, .int .u8 0, .int .u8 0, .int .u8 0, .int .u8 0, .int .u8 0, .int .u8 0, .int .u8 0, .int .u8 0, .int .u8 0, .int .u8 0, .int .u8 0, .int .u8 0, .int .u8 0, .int .u8 0, .int .u8 0, .int .u8 0, .int .u8 0, .int .u8 0, .int .u8 0, .int .u8 0, .int .u8 0, .int .u8 0, .int .u8 0, .int .u8 0, .int .u8 0, .int .u8 0, .int .u8 0, .int .u8 0, .int .u8 0, .int .u8 0] 24 (0, 0))) 5 s (by omega); rw [show (w.alloc (.cells #[.int .u8 0, .int .u8 0, .int .u8 0, .int .u8 0, .int .u8 0, .int .u8 0, .int .u8 0, .int .u8 0, .int .u8 0, .int .u8 0, .int .u8 0, .int .u8 0, .int .u8 0, .int .u8 0, .int .u8 0, .int .u8 0, .int .u8 0, .int .u8 0, .int .u8 0, .int .u8 0, .int .u8 0, .int .u8 0, .int .u8 0, .int .u8 0, .int .u8 0, .int .u8 0, .int .u8 0, .int .u8 0, .int .u8 0, .int .u8 0, .int .u8 0, .int .u8 0] 24 (0, 0))).heap.size = w.heap.size + 1 from Array.size_push ..] at h_; exact Kd.C_of_reads (h1 := fun _ => rfl) h_⟩
  rw [← hwA]
  clear hwA
  obtain ⟨cc, hcc⟩ : ∃ cc, cc = grownCap (w.alloc (.cells #[.int .u8 0, .int .u8 0, .int .u8 0, .int .u8 0, .int .u8 0, .int .u8 0, .int .u8 0, .int .u8 0, .int .u8 0, .int .u8 0, .int .u8 0, .int .u8 0, .int .u8 0, .int .u8 0, .int .u8 0, .int .u8 0, .int .u8 0, .int .u8 0, .int .u8 0, .int .u8 0, .int .u8 0, .int .u8 0, .int .u8 0, .int .u8 0, .int .u8 0, .int .u8 0, .int .u8 0, .int .u8 0, .int .u8 0, .int .u8 0, .int .u8 0, .int .u8 0] 24 (0, 0))) s.size 0 5 := ⟨_, rfl⟩
  have HCC : Aside0 (s.size ≤ cc) := ⟨by rw [hcc]; exact grownCap_ge _ _ _ _⟩
  rw [← hcc]
  clear hcc
  have hsum := refsum_call (some ⟨w.heap.size + 1, 0, none⟩) cc (bytesOf s) wA (by rw [bytesOf_length]; exact HRA.out) (by rw [bytesOf_length]; exact HCC.out) (by rw [bytesOf_length]; exact hs) (bytesOf_bytes8 s)
  rw [bytesOf_length, HD.out] at hsum
  refine hsum.mono ?_
  clear hsum
  rintro e w2 ⟨rfl, hb2⟩
  have HZ2 : Aside0 (Blk8 w2 w.heap.size 24 (List.replicate 32 0)) := ⟨Blk8.below HZA.out hb2 (Blk8.lt HZA.out)⟩
  have HB2 : Aside0 (Below w.heap.size w w2) := ⟨below_step HBA.out hb2⟩
  have HL2 : Aside0 (d.length = 32) := ⟨by rw [← HD.out, shaOf_length]⟩
  have hst := store8 (xs := d) HZ2.out (by rw [HL2.out]; rfl)
  clear hb2
  go_wp2_with fail
  refine bodyPost_ret (v := .agg (cells8 d)) ?_ rfl ⟨rfl, below_row HB2.out (Nat.le_refl _)⟩
  exact results_cell_row (P := Try.prog) Try.results13 _ _ w.heap.size 24 (cells8 d) (0, 0) _ rfl (setRow_heap _ _ _ _ _ _ HZ2.out) rfl (by kernel_rfl) (by rw [hz]; kernel_rfl)


theorem cmp_at : ∀ (l m : List UInt8) (i : Nat) (h1 : i < l.length) (h2 : i < m.length), (∀ j, j < i → l[j]? = m[j]?) → l[i] ≠ m[i] → Lib.compareBytes l m = if l[i] < m[i] then -1 else 1
  | [], _, i, h1, _, _, _ => by simp at h1
  | _ :: _, [], i, _, h2, _, _ => by simp at h2
  | x :: l, y :: m, 0, _, _, _, hne => by
    simp only [List.getElem_cons_zero] at hne ⊢
    simp only [Lib.compareBytes]
    by_cases h1 : x < y
    · simp [h1]
    · have h2 : y < x := by
        rw [UInt8.lt_iff_toNat_lt] at h1 ⊢
        have : x.toNat ≠ y.toNat := fun e => hne (UInt8.toNat_inj.1 e)
        omega
      simp [h1, h2]
  | x :: l, y :: m, i + 1, h1, h2, hp, hne => by
    have hxy : x = y := by have := hp 0 (by omega); simpa using this
    subst hxy
    simp only [List.getElem_cons_succ] at hne ⊢
    simp only [Lib.compareBytes]
    have hlt : ¬ x < x := by rw [UInt8.lt_iff_toNat_lt]; omega
    rw [if_neg hlt, if_neg hlt]
    exact cmp_at l m i (by simpa using h1) (by simpa using h2) (fun j hj => by have := hp (j + 1) (by omega); simpa using this) hne
theorem less_at {a b : List Int} (ha : Byt a) (hb : Byt b) (hal : a.length = 32) (hbl : b.length = 32) (i : Nat) (hi : i < 32) (hp : ∀ j, j < i → a.getD j 0 = b.getD j 0) (hne : a.getD i 0 ≠ b.getD i 0) :
    lessL a b = decide (a.getD i 0 < b.getD i 0) := by
  have hqn : (a == b) = false := by rw [beq_eq_false_iff_ne]; intro e; exact hne (by rw [e])
  have gx : a.getD i 0 = a[i] := by simp [hal, hi]
  have gy : b.getD i 0 = b[i] := by simp [hbl, hi]
  have rx := byt_range ha _ (List.getElem_mem (show i < a.length by omega))
  have ry := byt_range hb _ (List.getElem_mem (show i < b.length by omega))
  rw [gx, gy] at hne ⊢
  have ea : (Lib.bytesOf a)[i]'(by simp [Lib.bytesOf, hal, hi]) = a[i].toNat.toUInt8 := by simp [Lib.bytesOf]
  have eb : (Lib.bytesOf b)[i]'(by simp [Lib.bytesOf, hbl, hi]) = b[i].toNat.toUInt8 := by simp [Lib.bytesOf]
  have key := cmp_at (Lib.bytesOf a) (Lib.bytesOf b) i (by simp [Lib.bytesOf, hal, hi]) (by simp [Lib.bytesOf, hbl, hi]) (fun j hj => by
    have h1 := hp j hj
    have h2 : a.getD j 0 = a[j] := by simp [hal, show j < 32 by omega]
    have h3 : b.getD j 0 = b[j] := by simp [hbl, show j < 32 by omega]
    rw [h2, h3] at h1
    simp [Lib.bytesOf, hal, hbl, show j < 32 by omega, h1]) (by
    rw [ea, eb]
    intro e
    have := congrArg UInt8.toNat e
    simp at this
    omega)
  unfold lessL cmpL
  rw [hqn, Bool.not_false, Bool.true_and, key, ea, eb]
  by_cases hlt : a[i] < b[i]
  · rw [if_pos (by rw [UInt8.lt_iff_toNat_lt]; simp; omega), decide_eq_true hlt]; rfl
  · rw [if_neg (by rw [UInt8.lt_iff_toNat_lt]; simp; omega), decide_eq_false hlt]; rfl
set_option maxHeartbeats 2000000 in
set_option maxRecDepth 100000 in
theorem refless_call (a b : List Int) (w : World) (hal : a.length = 32) (hbl : b.length = 32) (ha : Byt a) (hb : Byt b) :
    Calls Try.prog 9 #[.agg (cells8 a), .agg (cells8 b)] w fun e w' => e = .returned (.bool (lessL a b)) ∧ Below w.heap.size w w' := by
  obtain ⟨r, hr⟩ : ∃ r, lessL a b = r := ⟨_, rfl⟩
  rw [hr]
  have HRR := Aside0.mk hr
  have HA := Aside0.mk hal
  have HB := Aside0.mk hbl
  have HBA := Aside0.mk ha
  have HBB := Aside0.mk hb
  have hza : (cells8 a).size = 32 := by rw [cells8_size, hal]
  have hzb : (cells8 b).size = 32 := by rw [cells8_size, hbl]
  clear hal hbl ha hb hr
  go_enter Try.func9, Try.ntmps9
  go_wp2_with fail
  go_loopg [5] 32 (fun k v5 w' => ∃ i : Nat, v5 = .int .i64 (i : Int) ∧ Aside0 (k = 32 - i ∧ i ≤ 32) ∧ Aside0 (∀ j, j < i → a.getD j 0 = b.getD j 0) ∧ Aside0 (Blk8 w' w.heap.size 24 a ∧ Blk8 w' (w.heap.size + 1) 24 b) ∧ Aside0 (Below w.heap.size w w'))
  case atStart => exact ⟨0, rfl, ⟨by omega, by omega⟩, ⟨fun j hj => by omega⟩, ⟨heap_alloc2_old w _ _, heap_alloc2_new w _ _⟩, ⟨below_alloc (below_alloc (Below.refl _ _) _) _⟩⟩
  case round =>
    obtain ⟨i, rfl, HI, HP, HS, HL⟩ := hrel
    by_cases hi : i < 32
    · have d1 : decide (i < 32) = true := decide_eq_true hi
      have d2 : decide ((i : Int) < 32) = true := decide_eq_true (by omega)
      have pi : (0 ≤ (i : Int)) = True := eq_true (by omega)
      have qi : ((i : Int) < 32) = True := eq_true (by omega)
      have hwr : IntKind.i64.wrap ((i : Int) + 1) = ((i + 1 : Nat) : Int) := by rw [i64_w]; unfold wrap64; omega
      obtain ⟨x, hx⟩ : ∃ x, x = a.getD i 0 := ⟨_, rfl⟩
      obtain ⟨y, hy⟩ : ∃ y, y = b.getD i 0 := ⟨_, rfl⟩
      have HX := Aside0.mk hx
      have HY := Aside0.mk hy
      clear hx hy
      by_cases hxy : x = y
      · have ne0 : (x != y) = false := by simp [hxy]
        have HXY := Aside0.mk hxy
        clear hxy
        go_wp2_with fail
        refine wp_region_held_drew (S := (fun W => Blk8 W w.heap.size 24 a ∧ Blk8 W (w.heap.size + 1) 24 b)) (by kernel_rfl) ((And.intro HS.out.1 HS.out.2)) (fun hHeld => ?_)
        refine wpAnyH_take (i := 0) (v := ?_) (by simp only [List.getElem?_toArray, List.getElem?_cons_succ, List.getElem?_cons_zero]; rfl) (by kernel_rfl) (by kernel_rfl) (by kernel_rfl) (by intro _ _ _ h; exact h) (Or.inl ⟨by rfl, ?hy⟩) (by assumption) ?_
        case hy => (intro W_ hW_; go_simp; first | done | with_reducible rfl)
        try simp only [Act.put, List.setIfInBounds_toArray, List.set_cons_zero, List.set_cons_succ]
        refine wpAnyH_take (i := 1) (v := ?_) (by simp only [List.getElem?_toArray, List.getElem?_cons_succ, List.getElem?_cons_zero]; rfl) (by kernel_rfl) (by kernel_rfl) (by kernel_rfl) (by intro _ _ _ h; exact h) (Or.inl ⟨by rfl, ?hy⟩) (by assumption) ?_
        case hy => (intro W_ hW_; go_simp; first | done | with_reducible rfl)
        try simp only [Act.put, List.setIfInBounds_toArray, List.set_cons_zero, List.set_cons_succ]
        refine wpAnyH_take (i := 2) (v := ?_) (by simp only [List.getElem?_toArray, List.getElem?_cons_succ, List.getElem?_cons_zero]; rfl) (by kernel_rfl) (by kernel_rfl) (by kernel_rfl) (by intro _ _ _ h; exact h) (Or.inl ⟨by rfl, ?hy⟩) (by assumption) ?_
        case hy => (intro W_ hW_; have f_ := hW_.1.cell (i := i) (by rw [HA.out]; exact hi); rw [← HX.out] at f_; go_simp; first | done | with_reducible rfl)
        try simp only [Act.put, List.setIfInBounds_toArray, List.set_cons_zero, List.set_cons_succ]
        refine wpAnyH_take (i := 3) (v := ?_) (by simp only [List.getElem?_toArray, List.getElem?_cons_succ, List.getElem?_cons_zero]; rfl) (by kernel_rfl) (by kernel_rfl) (by kernel_rfl) (by intro _ _ _ h; exact h) (Or.inl ⟨by rfl, ?hy⟩) (by assumption) ?_
        case hy => (intro W_ hW_; go_simp; first | done | with_reducible rfl)
        try simp only [Act.put, List.setIfInBounds_toArray, List.set_cons_zero, List.set_cons_succ]
        refine wpAnyH_take (i := 4) (v := ?_) (by simp only [List.getElem?_toArray, List.getElem?_cons_succ, List.getElem?_cons_zero]; rfl) (by kernel_rfl) (by kernel_rfl) (by kernel_rfl) (by intro _ _ _ h; exact h) (Or.inl ⟨by rfl, ?hy⟩) (by assumption) ?_
        case hy => (intro W_ hW_; go_simp; first | done | with_reducible rfl)
        try simp only [Act.put, List.setIfInBounds_toArray, List.set_cons_zero, List.set_cons_succ]
        refine wpAnyH_take (i := 5) (v := ?_) (by simp only [List.getElem?_toArray, List.getElem?_cons_succ, List.getElem?_cons_zero]; rfl) (by kernel_rfl) (by kernel_rfl) (by kernel_rfl) (by intro _ _ _ h; exact h) (Or.inl ⟨by rfl, ?hy⟩) (by assumption) ?_
        case hy => (intro W_ hW_; have f_ := hW_.2.cell (i := i) (by rw [HB.out]; exact hi); rw [← HY.out] at f_; go_simp; first | done | with_reducible rfl)
        try simp only [Act.put, List.setIfInBounds_toArray, List.set_cons_zero, List.set_cons_succ]
        refine wpAnyH_take (i := 6) (v := ?_) (by simp only [List.getElem?_toArray, List.getElem?_cons_succ, List.getElem?_cons_zero]; rfl) (by kernel_rfl) (by kernel_rfl) (by kernel_rfl) (by intro _ _ _ h; exact h) (Or.inl ⟨by rfl, ?hy⟩) (by assumption) ?_
        case hy => (intro W_ hW_; go_simp; first | done | with_reducible rfl)
        try simp only [Act.put, List.setIfInBounds_toArray, List.set_cons_zero, List.set_cons_succ]
        refine wpAnyH_done (by kernel_rfl) ?_ _
        go_wp2_with fail
        go_roundg (32 - (i + 1))
        case measure => have := HI.out; omega
        case rel =>
          refine ⟨i + 1, by simp, ⟨rfl, by omega⟩, ⟨fun j hj => ?_⟩, ⟨hHeld⟩, ⟨below_drew HL.out⟩⟩
          by_cases hji : j = i
          · rw [hji, ← HX.out, ← HY.out]; exact HXY.out
          · exact HP.out j (by omega)
      · have ne0 : (x != y) = true := by simp [hxy]
        have HV : Aside0 (decide (x < y) = r) := ⟨by rw [← HRR.out, less_at HBA.out HBB.out HA.out HB.out i hi HP.out (by rw [← HX.out, ← HY.out]; exact hxy), ← HX.out, ← HY.out]⟩
        have hv := HV.out
        clear hxy
        go_wp2_with fail
        refine wp_region_held_drew (S := (fun W => Blk8 W w.heap.size 24 a ∧ Blk8 W (w.heap.size + 1) 24 b)) (by kernel_rfl) ((And.intro HS.out.1 HS.out.2)) (fun hHeld => ?_)
        refine wpAnyH_take (i := 0) (v := ?_) (by simp only [List.getElem?_toArray, List.getElem?_cons_succ, List.getElem?_cons_zero]; rfl) (by kernel_rfl) (by kernel_rfl) (by kernel_rfl) (by intro _ _ _ h; exact h) (Or.inl ⟨by rfl, ?hy⟩) (by assumption) ?_
        case hy => (intro W_ hW_; go_simp; first | done | with_reducible rfl)
        try simp only [Act.put, List.setIfInBounds_toArray, List.set_cons_zero, List.set_cons_succ]
        refine wpAnyH_take (i := 1) (v := ?_) (by simp only [List.getElem?_toArray, List.getElem?_cons_succ, List.getElem?_cons_zero]; rfl) (by kernel_rfl) (by kernel_rfl) (by kernel_rfl) (by intro _ _ _ h; exact h) (Or.inl ⟨by rfl, ?hy⟩) (by assumption) ?_
        case hy => (intro W_ hW_; go_simp; first | done | with_reducible rfl)
        try simp only [Act.put, List.setIfInBounds_toArray, List.set_cons_zero, List.set_cons_succ]
        refine wpAnyH_take (i := 2) (v := ?_) (by simp only [List.getElem?_toArray, List.getElem?_cons_succ, List.getElem?_cons_zero]; rfl) (by kernel_rfl) (by kernel_rfl) (by kernel_rfl) (by intro _ _ _ h; exact h) (Or.inl ⟨by rfl, ?hy⟩) (by assumption) ?_
        case hy => (intro W_ hW_; have f_ := hW_.1.cell (i := i) (by rw [HA.out]; exact hi); rw [← HX.out] at f_; go_simp; first | done | with_reducible rfl)
        try simp only [Act.put, List.setIfInBounds_toArray, List.set_cons_zero, List.set_cons_succ]
        refine wpAnyH_take (i := 3) (v := ?_) (by simp only [List.getElem?_toArray, List.getElem?_cons_succ, List.getElem?_cons_zero]; rfl) (by kernel_rfl) (by kernel_rfl) (by kernel_rfl) (by intro _ _ _ h; exact h) (Or.inl ⟨by rfl, ?hy⟩) (by assumption) ?_
        case hy => (intro W_ hW_; go_simp; first | done | with_reducible rfl)
        try simp only [Act.put, List.setIfInBounds_toArray, List.set_cons_zero, List.set_cons_succ]
        refine wpAnyH_take (i := 4) (v := ?_) (by simp only [List.getElem?_toArray, List.getElem?_cons_succ, List.getElem?_cons_zero]; rfl) (by kernel_rfl) (by kernel_rfl) (by kernel_rfl) (by intro _ _ _ h; exact h) (Or.inl ⟨by rfl, ?hy⟩) (by assumption) ?_
        case hy => (intro W_ hW_; go_simp; first | done | with_reducible rfl)
        try simp only [Act.put, List.setIfInBounds_toArray, List.set_cons_zero, List.set_cons_succ]
        refine wpAnyH_take (i := 5) (v := ?_) (by simp only [List.getElem?_toArray, List.getElem?_cons_succ, List.getElem?_cons_zero]; rfl) (by kernel_rfl) (by kernel_rfl) (by kernel_rfl) (by intro _ _ _ h; exact h) (Or.inl ⟨by rfl, ?hy⟩) (by assumption) ?_
        case hy => (intro W_ hW_; have f_ := hW_.2.cell (i := i) (by rw [HB.out]; exact hi); rw [← HY.out] at f_; go_simp; first | done | with_reducible rfl)
        try simp only [Act.put, List.setIfInBounds_toArray, List.set_cons_zero, List.set_cons_succ]
        refine wpAnyH_take (i := 6) (v := ?_) (by simp only [List.getElem?_toArray, List.getElem?_cons_succ, List.getElem?_cons_zero]; rfl) (by kernel_rfl) (by kernel_rfl) (by kernel_rfl) (by intro _ _ _ h; exact h) (Or.inl ⟨by rfl, ?hy⟩) (by assumption) ?_
        case hy => (intro W_ hW_; go_simp; first | done | with_reducible rfl)
        try simp only [Act.put, List.setIfInBounds_toArray, List.set_cons_zero, List.set_cons_succ]
        refine wpAnyH_done (by kernel_rfl) ?_ _
        go_wp2_with fail
        refine wp_region_held_drew (S := (fun W => Blk8 W w.heap.size 24 a ∧ Blk8 W (w.heap.size + 1) 24 b)) (by kernel_rfl) (hHeld) (fun hHeld => ?_)
        refine wpAnyH_take (i := 0) (v := ?_) (by simp only [List.getElem?_toArray, List.getElem?_cons_succ, List.getElem?_cons_zero]; rfl) (by kernel_rfl) (by kernel_rfl) (by kernel_rfl) (by intro _ _ _ h; exact h) (Or.inl ⟨by rfl, ?hy⟩) (by assumption) ?_
        case hy => (intro W_ hW_; go_simp; first | done | with_reducible rfl)
        try simp only [Act.put, List.setIfInBounds_toArray, List.set_cons_zero, List.set_cons_succ]
        refine wpAnyH_take (i := 1) (v := ?_) (by simp only [List.getElem?_toArray, List.getElem?_cons_succ, List.getElem?_cons_zero]; rfl) (by kernel_rfl) (by kernel_rfl) (by kernel_rfl) (by intro _ _ _ h; exact h) (Or.inl ⟨by rfl, ?hy⟩) (by assumption) ?_
        case hy => (intro W_ hW_; go_simp; first | done | with_reducible rfl)
        try simp only [Act.put, List.setIfInBounds_toArray, List.set_cons_zero, List.set_cons_succ]
        refine wpAnyH_take (i := 2) (v := ?_) (by simp only [List.getElem?_toArray, List.getElem?_cons_succ, List.getElem?_cons_zero]; rfl) (by kernel_rfl) (by kernel_rfl) (by kernel_rfl) (by intro _ _ _ h; exact h) (Or.inl ⟨by rfl, ?hy⟩) (by assumption) ?_
        case hy => (intro W_ hW_; have f_ := hW_.1.cell (i := i) (by rw [HA.out]; exact hi); rw [← HX.out] at f_; go_simp; first | done | with_reducible rfl)
        try simp only [Act.put, List.setIfInBounds_toArray, List.set_cons_zero, List.set_cons_succ]
        refine wpAnyH_take (i := 3) (v := ?_) (by simp only [List.getElem?_toArray, List.getElem?_cons_succ, List.getElem?_cons_zero]; rfl) (by kernel_rfl) (by kernel_rfl) (by kernel_rfl) (by intro _ _ _ h; exact h) (Or.inl ⟨by rfl, ?hy⟩) (by assumption) ?_
        case hy => (intro W_ hW_; go_simp; first | done | with_reducible rfl)
        try simp only [Act.put, List.setIfInBounds_toArray, List.set_cons_zero, List.set_cons_succ]
        refine wpAnyH_take (i := 4) (v := ?_) (by simp only [List.getElem?_toArray, List.getElem?_cons_succ, List.getElem?_cons_zero]; rfl) (by kernel_rfl) (by kernel_rfl) (by kernel_rfl) (by intro _ _ _ h; exact h) (Or.inl ⟨by rfl, ?hy⟩) (by assumption) ?_
        case hy => (intro W_ hW_; go_simp; first | done | with_reducible rfl)
        try simp only [Act.put, List.setIfInBounds_toArray, List.set_cons_zero, List.set_cons_succ]
        refine wpAnyH_take (i := 5) (v := ?_) (by simp only [List.getElem?_toArray, List.getElem?_cons_succ, List.getElem?_cons_zero]; rfl) (by kernel_rfl) (by kernel_rfl) (by kernel_rfl) (by intro _ _ _ h; exact h) (Or.inl ⟨by rfl, ?hy⟩) (by assumption) ?_
        case hy => (intro W_ hW_; have f_ := hW_.2.cell (i := i) (by rw [HB.out]; exact hi); rw [← HY.out] at f_; go_simp; first | done | with_reducible rfl)
        try simp only [Act.put, List.setIfInBounds_toArray, List.set_cons_zero, List.set_cons_succ]
        refine wpAnyH_take (i := 6) (v := ?_) (by simp only [List.getElem?_toArray, List.getElem?_cons_succ, List.getElem?_cons_zero]; rfl) (by kernel_rfl) (by kernel_rfl) (by kernel_rfl) (by intro _ _ _ h; exact h) (Or.inl ⟨by rfl, ?hy⟩) (by assumption) ?_
        case hy => (intro W_ hW_; go_simp; first | done | with_reducible rfl)
        try simp only [Act.put, List.setIfInBounds_toArray, List.set_cons_zero, List.set_cons_succ]
        refine wpAnyH_take (i := 7) (v := ?_) (by simp only [List.getElem?_toArray, List.getElem?_cons_succ, List.getElem?_cons_zero]; rfl) (by kernel_rfl) (by kernel_rfl) (by kernel_rfl) (by intro _ _ _ h; exact h) (Or.inl ⟨by rfl, ?hy⟩) (by assumption) ?_
        case hy => (intro W_ hW_; go_simp; first | done | with_reducible rfl)
        try simp only [Act.put, List.setIfInBounds_toArray, List.set_cons_zero, List.set_cons_succ]
        refine wpAnyH_done (by kernel_rfl) ?_ _
        go_wp2_with fail
        go_ret
        exact ⟨rfl, below_drew (below_drew HL.out)⟩
    · have d1 : decide (i < 32) = false := decide_eq_false hi
      have d2 : decide ((i : Int) < 32) = false := decide_eq_false (by omega)
      obtain rfl : i = 32 := by have := HI.out; omega
      have HF : Aside0 (r = false) := ⟨by
        rw [← HRR.out]
        have : a = b := by
          apply List.ext_getElem (by rw [HA.out, HB.out])
          intro j h1 h2
          have := HP.out j (by have := HA.out; omega)
          simpa [h1, h2] using this
        rw [this]
        exact less_self b⟩
      go_wp2_with fail
      go_ret
      exact ⟨by rw [HF.out]; rfl, HL.out⟩

end Go.Proofs.Ytenkaaigalcgcaa.X
