/- For every input of the law WireTexts its answer is true (more than 100 bytes are let by): the walk, by hand. -/
import Derived.WalkLawsBesides
import Derived.Test.YtghafocfbamcdaaWTools
namespace Go.Proofs.Ytghafocfbamcdaa.X
set_option linter.unusedVariables false
set_option linter.unusedSimpArgs false
open Go.RowKit Go.Proofs.YtghafocfbamcdaaW.PrintWords Go.Proofs.YtghafocfbamcdaaW.PrintLast Go.Proofs.YtghafocfbamcdaaW.PrintMore

theorem strOf_bytesOf (s : ByteArray) : strOfNums (bytesOf s) = s := by
  have h : (bytesOf s).map (fun n => UInt8.ofNat n.toNat) = s.data.toList := by
    unfold bytesOf
    rw [List.map_map]
    refine (List.map_congr_left (fun b _ => ?_)).trans (List.map_id _)
    simp
  unfold strOfNums
  rw [h]
/-- What is read of a text's bytes, whatever stands behind. -/
theorem read_text (s : ByteArray) (b : List Int) (m : Int) :
    readR (put s.size ++ bytesOf s ++ b) ((s.size : Int), ((put s.size).length : Int), true) m = if (s.size : Int) ≤ m then (s, ((put s.size).length : Int) + s.size, true) else (⟨#[]⟩, 0, false) := by
  unfold readR
  simp only [true_and]
  by_cases h : (s.size : Int) ≤ m
  · rw [if_pos h, if_pos ⟨by omega, h, by simp only [List.length_append, bytesOf_length]; omega⟩]
    congr 1
    rw [Int.toNat_natCast, Int.toNat_natCast, List.append_assoc, List.drop_left, List.take_left' (bytesOf_length s), strOf_bytesOf]
  · rw [if_neg h, if_neg (by omega)]
/-- What is read is put as the same bytes. -/
theorem read_back {l : List Int} {r : Int × Int × Bool} (hb : Bytes l) (h : IsGet l r) (m : Int) (s : ByteArray) (k : Int) (hr : readR l r m = (s, k, true)) :
    ∃ kn : Nat, k = kn ∧ kn ≤ l.length ∧ (s.size : Int) ≤ m ∧ put s.size ++ bytesOf s = l.take kn := by
  unfold readR at hr
  split at hr
  · rename_i hc
    obtain ⟨h1, h2, h3, h4⟩ := hc
    rcases h with ⟨n, hn, hp, rfl⟩ | ⟨_, rfl⟩
    · simp only [Int.toNat_natCast, Prod.mk.injEq, and_true] at hr h3 h4
      obtain ⟨rfl, rfl⟩ := hr
      have hpl := hp.length_le
      have hlen : ((l.drop (put n).length).take n).length = n := by rw [List.length_take, List.length_drop]; omega
      have hsz : (strOfNums ((l.drop (put n).length).take n)).size = n := by rw [strOfNums_size, hlen]
      have hbo : bytesOf (strOfNums ((l.drop (put n).length).take n)) = (l.drop (put n).length).take n := by
        apply List.ext_getElem
        · rw [bytesOf_length, hsz, hlen]
        · intro i h5 h6
          have hx := hb _ (List.mem_of_mem_drop (List.mem_of_mem_take (List.getElem_mem h6)))
          simp only [bytesOf, strOfNums, List.getElem_map, List.toList_toArray]
          simp only [UInt8.toNat_ofNat']
          omega
      refine ⟨(put n).length + n, by omega, by omega, by rw [hsz]; exact h3, ?_⟩
      rw [hsz, hbo, List.take_add]
      congr 1
      exact List.prefix_iff_eq_take.1 hp
    · simp at h1
  · cases hr

/- WALKS -/
theorem text_call' (s : ByteArray) (hs : s.size ≤ 140737488351232) (L : List Int) (hL : L = put s.size ++ bytesOf s) (w : World) : Calls Try.prog 15 #[.string s] w fun e w' => ∃ A c, e = .returned (.slice A L.length c) ∧ L.length ≤ c ∧ RdB w' A L.length L ∧ Below w.heap.size w w' := by
  subst hL
  exact text_call s hs w

set_option maxHeartbeats 800000 in
set_option maxRecDepth 100000 in
theorem texts_long1 (s : ByteArray) (A1 : Option Addr) (c1 : Nat) (l1 : List Int) (a2 : Int) (w : World) (h : 100 < s.size) :
    Calls Try.prog 4 #[.string s, .slice A1 l1.length c1, .int .i64 a2] w fun e w' => e = .returned (.bool true) ∧ Below w.heap.size w w' := by
  have c1' : decide (100 < s.size) = true := decide_eq_true (by omega)
  have c2' : decide (100 < (s.size : Int)) = true := decide_eq_true (by omega)
  go_enter Try.func4, Try.ntmps4
  go_wp2_with fail
  refine (awake_call _).mono ?_
  rintro e w1 ⟨rfl, hb1⟩
  go_wp2_with fail
  go_ret
  exact ⟨rfl, hb1⟩

set_option maxHeartbeats 800000 in
set_option maxRecDepth 100000 in
theorem texts_long2 (s : ByteArray) (A1 : Option Addr) (c1 : Nat) (l1 : List Int) (a2 : Int) (w : World) (h : s.size ≤ 100) (h2 : 100 < l1.length) :
    Calls Try.prog 4 #[.string s, .slice A1 l1.length c1, .int .i64 a2] w fun e w' => e = .returned (.bool true) ∧ Below w.heap.size w w' := by
  have c1' : decide (100 < s.size) = false := decide_eq_false (by omega)
  have c2' : decide (100 < (s.size : Int)) = false := decide_eq_false (by omega)
  have c3' : decide (100 < l1.length) = true := decide_eq_true (by omega)
  have c4' : decide (100 < (l1.length : Int)) = true := decide_eq_true (by omega)
  go_enter Try.func4, Try.ntmps4
  go_wp2_with fail
  refine (awake_call _).mono ?_
  rintro e w1 ⟨rfl, hb1⟩
  go_wp2_with fail
  go_ret
  exact ⟨rfl, hb1⟩

set_option maxHeartbeats 800000 in
set_option maxRecDepth 100000 in
theorem texts_yy (s : ByteArray) (A1 : Option Addr) (c1 : Nat) (l1 : List Int) (a2 : Int) (w : World) (hr1 : RdB w A1 l1.length l1) (hc1 : l1.length ≤ c1) (hb : Bytes l1) (h : s.size ≤ 100) (h2 : l1.length ≤ 100) (hf : (s.size : Int) ≤ a2)
    (r : Int × Int × Bool) (hg : IsGet l1 r) (v : ByteArray) (k : Nat) (hrr : readR l1 r a2 = (v, (k : Int), true)) (hk : k ≤ l1.length) (hv : (v.size : Int) ≤ a2) (hvl : put v.size ++ bytesOf v = l1.take k) :
    Calls Try.prog 4 #[.string s, .slice A1 l1.length c1, .int .i64 a2] w fun e w' => e = .returned (.bool true) ∧ Below w.heap.size w w' := by
  have c1' : decide (100 < s.size) = false := decide_eq_false (by omega)
  have c2' : decide (100 < (s.size : Int)) = false := decide_eq_false (by omega)
  have c3' : decide (100 < l1.length) = false := decide_eq_false (by omega)
  have c4' : decide (100 < (l1.length : Int)) = false := decide_eq_false (by omega)
  have c5' : decide ((s.size : Int) ≤ a2) = true := decide_eq_true (by omega)
  obtain ⟨L, hL⟩ : ∃ L, L = put s.size ++ bytesOf s := ⟨_, rfl⟩
  have hLl : L.length = (put s.size).length + s.size := by rw [hL, List.length_append, bytesOf_length]
  have hLb : Bytes L := by rw [hL]; exact bytes_app (put_range _) (bytesOf_bytes s)
  have h10 := put_length s.size (by omega)
  have hgt : IsGet (L ++ l1) ((s.size : Int), ((put s.size).length : Int), true) := by
    rw [hL, List.append_assoc]
    exact isGet_put s.size (by omega) _
  have hrt : readR (L ++ l1) ((s.size : Int), ((put s.size).length : Int), true) a2 = (s, (L.length : Int), true) := by
    rw [hL, read_text, if_pos hf]
    rw [List.length_append, bytesOf_length]
    simp
  have HL := Aside0.mk hL
  have HLl := Aside0.mk hLl
  clear hL hLl
  have hvs : v.size ≤ 100 := by
    have := congrArg List.length hvl
    rw [List.length_append, bytesOf_length, List.length_take] at this
    omega
  have d1 : decide ((k : Int) ≤ (l1.length : Int)) = true := decide_eq_true (by omega)
  have d1' : decide (k ≤ l1.length) = true := decide_eq_true (by omega)
  have d2 : decide ((v.size : Int) ≤ a2) = true := decide_eq_true (by omega)
  have hcut := rdb_cut A1 c1 l1 k hk hc1
  obtain ⟨Lv, hLv⟩ : ∃ L, L = put v.size ++ bytesOf v := ⟨_, rfl⟩
  have hvl2 : l1.take k = Lv := by rw [hLv, hvl]
  have seq : ((strOfNums Lv).toList == (strOfNums Lv).toList) = true := beq_self_eq_true _
  have HLv := Aside0.mk hLv
  have HVL := Aside0.mk hvl2
  have HK := Aside0.mk hk
  have HVS := Aside0.mk hvs
  clear hLv hvl hvl2 hk hvs
  have HRR := Aside0.mk hrr
  have HRT := Aside0.mk hrt
  have HG := Aside0.mk hg
  have HGT := Aside0.mk hgt
  clear hrr hrt hg hgt
  go_enter Try.func4, Try.ntmps4
  go_wp2_with fail
  refine (awake_call _).mono ?_
  rintro e w1 ⟨rfl, hb1⟩
  go_wp2_with fail
  refine (text_call' s (by omega) L HL.out _).mono ?_
  rintro e w2 ⟨A, c, rfl, hc, hA, hb2⟩
  have hB2 : Below w.heap.size w w2 := hb1.trans (hb2.mono hb1.size)
  go_wp2_with (first
    | ((with_reducible refine gate_builtin (b := .append) (xs := #[.const (.slice none 0 0), .tmp 32]) rfl ?_); at_builtin; refine print_append_row (w0 := w) w.heap.size rfl _ _ 23 5 .u8 1 rfl Try.underlying23 info5 (by decide) (.slice none 0 0) [] L A L.length c rfl rfl (own_nil _ _ _ _) (Kd.reads_of_C hA) hB2 hB2.size (by have := HLl.out; simp; omega) ?_; intro v1 w3 ho3 hB3 hg3 _; obtain ⟨A3, k3, rfl, hk3, hr3⟩ := own_row ho3)
    | ((with_reducible refine gate_builtin (b := .append) (xs := #[.tmp 33, .tmp 34]) rfl ?_); at_builtin; refine print_append_row (w0 := w) w.heap.size rfl _ _ 23 5 .u8 1 rfl Try.underlying23 info5 (by decide) _ _ l1 A1 l1.length c1 rfl rfl ho3 (Kd.reads_of_C (rdb_below hr1 hB3)) hB3 hB3.size (by have := HLl.out; simp; omega) ?_; intro v2 w4 ho4 hB4 hg4 _; obtain ⟨A4, k4, rfl, hk4, hr4⟩ := own_row ho4)
    | fail)
  clear ho3 hB3 hg3 hr3 hg4 ho4 hb2 hA hc hb1 hB2
  rw [List.length_append] at hk4
  refine (read_call' HGT.out (bytes_app hLb hb) (by have := HLl.out; rw [List.length_append]; omega) a2 _ (by simp) A4 k4 w4 (by simpa using hr4) (by simpa using hk4) _ HRT.out).mono ?_
  rintro e w5 ⟨rfl, hb5⟩
  clear hr4 hk4
  have hB5 : Below w.heap.size w w5 := hB4.trans (hb5.mono hB4.size)
  have hl5 := rdb_below hr1 hB5
  dsimp only
  go_wp2_with fail
  refine (read_call' HG.out hb (by omega) a2 _ rfl A1 c1 _ hl5 hc1 _ HRR.out).mono ?_
  rintro e w6 ⟨rfl, hb6⟩
  have hB6 : Below w.heap.size w w6 := hB5.trans (hb6.mono hB5.size)
  dsimp only
  go_wp2_with fail
  have hl6 := rdb_take (rdb_below hr1 hB6) k HK.out
  rw [HVL.out] at hl6
  clear hl5 hB5 hr1 hb5 hb6 hB4
  refine wp_region_held_drew (S := (fun W => RdB W A1 k Lv)) (by kernel_rfl) (Kd.C_drew hl6) (fun hHeld => ?_)
  refine wpAnyH_take (i := 0) (v := ?_) (by simp only [List.getElem?_toArray, List.getElem?_cons_succ, List.getElem?_cons_zero]; rfl) (by kernel_rfl) (by kernel_rfl) (by kernel_rfl) (by intro _ _ _ h; exact h) (Or.inl ⟨by rfl, ?hy⟩) (by assumption) ?_
  case hy => (intro W_ hW_; go_simp; first | done | with_reducible rfl)
  try simp only [Act.put, List.setIfInBounds_toArray, List.set_cons_zero, List.set_cons_succ]
  refine wpAnyH_take (i := 1) (v := ?_) (by simp only [List.getElem?_toArray, List.getElem?_cons_succ, List.getElem?_cons_zero]; rfl) (by kernel_rfl) (by kernel_rfl) (by kernel_rfl) (by intro _ _ _ h; exact h) (Or.inl ⟨by rfl, ?hy⟩) (by assumption) ?_
  case hy => (intro W_ hW_; go_simp; first | done | with_reducible rfl)
  try simp only [Act.put, List.setIfInBounds_toArray, List.set_cons_zero, List.set_cons_succ]
  refine wpAnyH_take (i := 2) (v := ?_) (by simp only [List.getElem?_toArray, List.getElem?_cons_succ, List.getElem?_cons_zero]; rfl) (by kernel_rfl) (by kernel_rfl) (by kernel_rfl) (by intro _ _ _ h; exact h) (Or.inl ⟨by rfl, ?hy⟩) (by assumption) ?_
  case hy => (intro W_ hW_; go_simp; first | done | with_reducible rfl)
  try simp only [Act.put, List.setIfInBounds_toArray, List.set_cons_zero, List.set_cons_succ]
  refine wpAnyH_take (i := 3) (v := ?_) (by simp only [List.getElem?_toArray, List.getElem?_cons_succ, List.getElem?_cons_zero]; rfl) (by kernel_rfl) (by kernel_rfl) (by kernel_rfl) (by intro _ _ _ h; exact h) (Or.inl ⟨by rfl, ?hy⟩) (by assumption) ?_
  case hy => (intro W_ hW_; go_simp; first | done | with_reducible rfl)
  try simp only [Act.put, List.setIfInBounds_toArray, List.set_cons_zero, List.set_cons_succ]
  refine wpAnyH_take (i := 4) (v := ?_) (by simp only [List.getElem?_toArray, List.getElem?_cons_succ, List.getElem?_cons_zero]; rfl) (by kernel_rfl) (by kernel_rfl) (by kernel_rfl) (by intro _ _ _ h; exact h) (Or.inl ⟨by rfl, ?hy⟩) (by assumption) ?_
  case hy => (intro W_ hW_; go_simp; first | done | with_reducible rfl)
  try simp only [Act.put, List.setIfInBounds_toArray, List.set_cons_zero, List.set_cons_succ]
  refine wpAnyH_take (i := 5) (v := ?_) (by simp only [List.getElem?_toArray, List.getElem?_cons_succ, List.getElem?_cons_zero]; rfl) (by kernel_rfl) (by kernel_rfl) (by kernel_rfl) (by intro _ _ _ h; exact h) (Or.inl ⟨by rfl, ?hy⟩) (by assumption) ?_
  case hy => (intro W_ hW_; go_simp; first | done | with_reducible rfl)
  try simp only [Act.put, List.setIfInBounds_toArray, List.set_cons_zero, List.set_cons_succ]
  refine wpAnyH_take (i := 6) (v := ?_) (by simp only [List.getElem?_toArray, List.getElem?_cons_succ, List.getElem?_cons_zero]; rfl) (by kernel_rfl) (by kernel_rfl) (by kernel_rfl) (by intro _ _ _ h; exact h) (Or.inl ⟨by rfl, ?hy⟩) (by assumption) ?_
  case hy => (intro W_ hW_; go_simp; first | done | with_reducible rfl)
  try simp only [Act.put, List.setIfInBounds_toArray, List.set_cons_zero, List.set_cons_succ]
  refine wpAnyH_take (i := 7) (v := ?_) (by simp only [List.getElem?_toArray, List.getElem?_cons_succ, List.getElem?_cons_zero]; rfl) (by kernel_rfl) (by kernel_rfl) (by kernel_rfl) (by intro _ _ _ h; exact h) (Or.inl ⟨by rfl, ?hy⟩) (by assumption) ?_
  case hy => (intro W_ hW_; go_simp; first | done | with_reducible rfl)
  try simp only [Act.put, List.setIfInBounds_toArray, List.set_cons_zero, List.set_cons_succ]
  refine wpAnyH_take (i := 8) (v := ?_) (by simp only [List.getElem?_toArray, List.getElem?_cons_succ, List.getElem?_cons_zero]; rfl) (by kernel_rfl) (by kernel_rfl) (by kernel_rfl) (by intro _ _ _ h; exact h) (Or.inl ⟨by rfl, ?hy⟩) (by assumption) ?_
  case hy => (intro W_ hW_; go_simp; first | done | with_reducible rfl)
  try simp only [Act.put, List.setIfInBounds_toArray, List.set_cons_zero, List.set_cons_succ]
  refine wpAnyH_take (i := 9) (v := ?_) (by simp only [List.getElem?_toArray, List.getElem?_cons_succ, List.getElem?_cons_zero]; rfl) (by kernel_rfl) (by kernel_rfl) (by kernel_rfl) (by intro _ _ _ h; exact h) (Or.inl ⟨by rfl, ?hy⟩) (by assumption) ?_
  case hy => (intro W_ hW_; go_simp; first | done | with_reducible rfl)
  try simp only [Act.put, List.setIfInBounds_toArray, List.set_cons_zero, List.set_cons_succ]
  refine wpAnyH_take (i := 10) (v := ?_) (by simp only [List.getElem?_toArray, List.getElem?_cons_succ, List.getElem?_cons_zero]; rfl) (by kernel_rfl) (by kernel_rfl) (by kernel_rfl) (by intro _ _ _ h; exact h) (Or.inl ⟨by rfl, ?hy⟩) (by assumption) ?_
  case hy => (intro W_ hW_; go_simp; first | done | with_reducible rfl)
  try simp only [Act.put, List.setIfInBounds_toArray, List.set_cons_zero, List.set_cons_succ]
  refine wpAnyH_take (i := 11) (v := ?_) (by simp only [List.getElem?_toArray, List.getElem?_cons_succ, List.getElem?_cons_zero]; rfl) (by kernel_rfl) (by kernel_rfl) (by kernel_rfl) (by intro _ _ _ h; exact h) (Or.inl ⟨by rfl, ?hy⟩) (by assumption) ?_
  case hy => (intro W_ hW_; go_simp; first | done | with_reducible rfl)
  try simp only [Act.put, List.setIfInBounds_toArray, List.set_cons_zero, List.set_cons_succ]
  refine wpAnyH_take (i := 12) (v := ?_) (by simp only [List.getElem?_toArray, List.getElem?_cons_succ, List.getElem?_cons_zero]; rfl) (by kernel_rfl) (by kernel_rfl) (by kernel_rfl) (by intro _ _ _ h; exact h) (Or.inl ⟨by rfl, ?hy⟩) (by assumption) ?_
  case hy => (intro W_ hW_; go_simp; first | done | with_reducible rfl)
  try simp only [Act.put, List.setIfInBounds_toArray, List.set_cons_zero, List.set_cons_succ]
  refine wpAnyH_take (i := 13) (v := ?_) (by simp only [List.getElem?_toArray, List.getElem?_cons_succ, List.getElem?_cons_zero]; rfl) (by kernel_rfl) (by kernel_rfl) (by kernel_rfl) (by intro _ _ _ h; exact h) (Or.inl ⟨by rfl, ?hy⟩) (by assumption) ?_
  case hy => (intro W_ hW_; go_simp; first | done | with_reducible rfl)
  try simp only [Act.put, List.setIfInBounds_toArray, List.set_cons_zero, List.set_cons_succ]
  refine wpAnyH_take (i := 14) (v := ?_) (by simp only [List.getElem?_toArray, List.getElem?_cons_succ, List.getElem?_cons_zero]; rfl) (by kernel_rfl) (by kernel_rfl) (by kernel_rfl) (by intro _ _ _ h; exact h) (Or.inl ⟨by rfl, ?hy⟩) (by assumption) ?_
  case hy => (intro W_ hW_; go_simp; first | done | with_reducible rfl)
  try simp only [Act.put, List.setIfInBounds_toArray, List.set_cons_zero, List.set_cons_succ]
  refine wpAnyH_take (i := 17) (v := ?_) (by simp only [List.getElem?_toArray, List.getElem?_cons_succ, List.getElem?_cons_zero]; rfl) (by kernel_rfl) (by kernel_rfl) (by kernel_rfl) (by intro _ _ _ h; exact h) (Or.inl ⟨by rfl, ?hy⟩) (by assumption) ?_
  case hy => (intro W_ hW_; go_simp; first | done | with_reducible rfl)
  try simp only [Act.put, List.setIfInBounds_toArray, List.set_cons_zero, List.set_cons_succ]
  refine wpAnyH_take (i := 18) (v := ?_) (by simp only [List.getElem?_toArray, List.getElem?_cons_succ, List.getElem?_cons_zero]; rfl) (by kernel_rfl) (by kernel_rfl) (by kernel_rfl) (by intro _ _ _ h; exact h) (Or.inl ⟨by rfl, ?hy⟩) (by assumption) ?_
  case hy => (intro W_ hW_; go_simp; first | done | with_reducible rfl)
  try simp only [Act.put, List.setIfInBounds_toArray, List.set_cons_zero, List.set_cons_succ]
  refine wpAnyH_take (i := 19) (v := ?_) (by simp only [List.getElem?_toArray, List.getElem?_cons_succ, List.getElem?_cons_zero]; rfl) (by kernel_rfl) (by kernel_rfl) (by kernel_rfl) (by intro _ _ _ h; exact h) (Or.inl ⟨by rfl, ?hy⟩) (by assumption) ?_
  case hy => (intro W_ hW_; go_simp; first | done | with_reducible rfl)
  try simp only [Act.put, List.setIfInBounds_toArray, List.set_cons_zero, List.set_cons_succ]
  refine wpAnyH_take (i := 20) (v := ?_) (by simp only [List.getElem?_toArray, List.getElem?_cons_succ, List.getElem?_cons_zero]; rfl) (by kernel_rfl) (by kernel_rfl) (by kernel_rfl) (by intro _ _ _ h; exact h) (Or.inl ⟨by rfl, ?hy⟩) (by assumption) ?_
  case hy => (intro W_ hW_; have f_ := conv0 hW_ c1; go_simp; first | done | with_reducible rfl)
  try simp only [Act.put, List.setIfInBounds_toArray, List.set_cons_zero, List.set_cons_succ]
  refine wpAnyH_ready (rs := [15]) (by kernel_rfl) (by simp) ?_
  refine AllReadyH.cons (by simp only [List.getElem?_toArray, List.getElem?_cons_succ, List.getElem?_cons_zero]; rfl) (fun K hK => ?_) AllReadyH.nil
  rw [if_pos (by rfl)]
  go_wp2_with fail
  refine (text_call' v (by have := HVS.out; omega) Lv HLv.out _).mono ?_
  rintro e w7 ⟨A7, c7, rfl, hc7, hA7, hb7⟩
  refine hK.out _ _ (rdb_below hHeld hb7) (fun hHeld2 => ?_)
  clear hK K hHeld
  try simp only [Act.put, List.setIfInBounds_toArray, List.set_cons_zero, List.set_cons_succ]
  refine wpAnyH_str (S2 := (fun W => RdB W A1 k Lv ∧ RdB W A7 Lv.length Lv)) (fun W h => h.1) _ _ _ _ ?_
  have hHeld := (And.intro hHeld2 hA7)
  clear hHeld2
  refine wpAnyH_take (i := 16) (v := ?_) (by simp only [List.getElem?_toArray, List.getElem?_cons_succ, List.getElem?_cons_zero]; rfl) (by kernel_rfl) (by kernel_rfl) (by kernel_rfl) (by intro _ _ _ h; exact h) (Or.inl ⟨by rfl, ?hy⟩) (by assumption) ?_
  case hy => (intro W_ hW_; have f_ := conv0 hW_.2 c7; go_simp; first | done | with_reducible rfl)
  try simp only [Act.put, List.setIfInBounds_toArray, List.set_cons_zero, List.set_cons_succ]
  refine wpAnyH_take (i := 21) (v := ?_) (by simp only [List.getElem?_toArray, List.getElem?_cons_succ, List.getElem?_cons_zero]; rfl) (by kernel_rfl) (by kernel_rfl) (by kernel_rfl) (by intro _ _ _ h; exact h) (Or.inl ⟨by rfl, ?hy⟩) (by assumption) ?_
  case hy => (intro W_ hW_; go_simp; first | done | with_reducible rfl)
  try simp only [Act.put, List.setIfInBounds_toArray, List.set_cons_zero, List.set_cons_succ]
  refine wpAnyH_take (i := 22) (v := ?_) (by simp only [List.getElem?_toArray, List.getElem?_cons_succ, List.getElem?_cons_zero]; rfl) (by kernel_rfl) (by kernel_rfl) (by kernel_rfl) (by intro _ _ _ h; exact h) (Or.inl ⟨by rfl, ?hy⟩) (by assumption) ?_
  case hy => (intro W_ hW_; go_simp; first | done | with_reducible rfl)
  try simp only [Act.put, List.setIfInBounds_toArray, List.set_cons_zero, List.set_cons_succ]
  refine wpAnyH_take (i := 23) (v := ?_) (by simp only [List.getElem?_toArray, List.getElem?_cons_succ, List.getElem?_cons_zero]; rfl) (by kernel_rfl) (by kernel_rfl) (by kernel_rfl) (by intro _ _ _ h; exact h) (Or.inl ⟨by rfl, ?hy⟩) (by assumption) ?_
  case hy => (intro W_ hW_; go_simp; first | done | with_reducible rfl)
  try simp only [Act.put, List.setIfInBounds_toArray, List.set_cons_zero, List.set_cons_succ]
  refine wpAnyH_take (i := 24) (v := ?_) (by simp only [List.getElem?_toArray, List.getElem?_cons_succ, List.getElem?_cons_zero]; rfl) (by kernel_rfl) (by kernel_rfl) (by kernel_rfl) (by intro _ _ _ h; exact h) (Or.inl ⟨by rfl, ?hy⟩) (by assumption) ?_
  case hy => (intro W_ hW_; go_simp; first | done | with_reducible rfl)
  try simp only [Act.put, List.setIfInBounds_toArray, List.set_cons_zero, List.set_cons_succ]
  refine wpAnyH_done (by kernel_rfl) ?_ _
  go_wp2_with fail
  go_ret
  exact ⟨rfl, (hB6.trans (below_drew (Below.refl _ _))).trans (hb7.mono hB6.size)⟩

set_option maxHeartbeats 800000 in
set_option maxRecDepth 100000 in
theorem texts_yn (s : ByteArray) (A1 : Option Addr) (c1 : Nat) (l1 : List Int) (a2 : Int) (w : World) (hr1 : RdB w A1 l1.length l1) (hc1 : l1.length ≤ c1) (hb : Bytes l1) (h : s.size ≤ 100) (h2 : l1.length ≤ 100) (hf : (s.size : Int) ≤ a2)
    (r : Int × Int × Bool) (hg : IsGet l1 r) (v : ByteArray) (k : Nat) (hrr : readR l1 r a2 = (⟨#[]⟩, 0, false)) :
    Calls Try.prog 4 #[.string s, .slice A1 l1.length c1, .int .i64 a2] w fun e w' => e = .returned (.bool true) ∧ Below w.heap.size w w' := by
  have c1' : decide (100 < s.size) = false := decide_eq_false (by omega)
  have c2' : decide (100 < (s.size : Int)) = false := decide_eq_false (by omega)
  have c3' : decide (100 < l1.length) = false := decide_eq_false (by omega)
  have c4' : decide (100 < (l1.length : Int)) = false := decide_eq_false (by omega)
  have c5' : decide ((s.size : Int) ≤ a2) = true := decide_eq_true (by omega)
  obtain ⟨L, hL⟩ : ∃ L, L = put s.size ++ bytesOf s := ⟨_, rfl⟩
  have hLl : L.length = (put s.size).length + s.size := by rw [hL, List.length_append, bytesOf_length]
  have hLb : Bytes L := by rw [hL]; exact bytes_app (put_range _) (bytesOf_bytes s)
  have h10 := put_length s.size (by omega)
  have hgt : IsGet (L ++ l1) ((s.size : Int), ((put s.size).length : Int), true) := by
    rw [hL, List.append_assoc]
    exact isGet_put s.size (by omega) _
  have hrt : readR (L ++ l1) ((s.size : Int), ((put s.size).length : Int), true) a2 = (s, (L.length : Int), true) := by
    rw [hL, read_text, if_pos hf]
    rw [List.length_append, bytesOf_length]
    simp
  have HL := Aside0.mk hL
  have HLl := Aside0.mk hLl
  clear hL hLl
  have HRR := Aside0.mk hrr
  have HRT := Aside0.mk hrt
  have HG := Aside0.mk hg
  have HGT := Aside0.mk hgt
  clear hrr hrt hg hgt
  go_enter Try.func4, Try.ntmps4
  go_wp2_with fail
  refine (awake_call _).mono ?_
  rintro e w1 ⟨rfl, hb1⟩
  go_wp2_with fail
  refine (text_call' s (by omega) L HL.out _).mono ?_
  rintro e w2 ⟨A, c, rfl, hc, hA, hb2⟩
  have hB2 : Below w.heap.size w w2 := hb1.trans (hb2.mono hb1.size)
  go_wp2_with (first
    | ((with_reducible refine gate_builtin (b := .append) (xs := #[.const (.slice none 0 0), .tmp 32]) rfl ?_); at_builtin; refine print_append_row (w0 := w) w.heap.size rfl _ _ 23 5 .u8 1 rfl Try.underlying23 info5 (by decide) (.slice none 0 0) [] L A L.length c rfl rfl (own_nil _ _ _ _) (Kd.reads_of_C hA) hB2 hB2.size (by have := HLl.out; simp; omega) ?_; intro v1 w3 ho3 hB3 hg3 _; obtain ⟨A3, k3, rfl, hk3, hr3⟩ := own_row ho3)
    | ((with_reducible refine gate_builtin (b := .append) (xs := #[.tmp 33, .tmp 34]) rfl ?_); at_builtin; refine print_append_row (w0 := w) w.heap.size rfl _ _ 23 5 .u8 1 rfl Try.underlying23 info5 (by decide) _ _ l1 A1 l1.length c1 rfl rfl ho3 (Kd.reads_of_C (rdb_below hr1 hB3)) hB3 hB3.size (by have := HLl.out; simp; omega) ?_; intro v2 w4 ho4 hB4 hg4 _; obtain ⟨A4, k4, rfl, hk4, hr4⟩ := own_row ho4)
    | fail)
  clear ho3 hB3 hg3 hr3 hg4 ho4 hb2 hA hc hb1 hB2
  rw [List.length_append] at hk4
  refine (read_call' HGT.out (bytes_app hLb hb) (by have := HLl.out; rw [List.length_append]; omega) a2 _ (by simp) A4 k4 w4 (by simpa using hr4) (by simpa using hk4) _ HRT.out).mono ?_
  rintro e w5 ⟨rfl, hb5⟩
  clear hr4 hk4
  have hB5 : Below w.heap.size w w5 := hB4.trans (hb5.mono hB4.size)
  have hl5 := rdb_below hr1 hB5
  dsimp only
  go_wp2_with fail
  refine (read_call' HG.out hb (by omega) a2 _ rfl A1 c1 _ hl5 hc1 _ HRR.out).mono ?_
  rintro e w6 ⟨rfl, hb6⟩
  have hB6 : Below w.heap.size w w6 := hB5.trans (hb6.mono hB5.size)
  dsimp only
  go_wp2_with fail
  go_quiet (fail)
  go_wp2_with fail
  go_ret
  exact ⟨rfl, pw_below_drewN hB6 _⟩

set_option maxHeartbeats 800000 in
set_option maxRecDepth 100000 in
theorem texts_ny (s : ByteArray) (A1 : Option Addr) (c1 : Nat) (l1 : List Int) (a2 : Int) (w : World) (hr1 : RdB w A1 l1.length l1) (hc1 : l1.length ≤ c1) (hb : Bytes l1) (h : s.size ≤ 100) (h2 : l1.length ≤ 100) (hf : a2 < (s.size : Int))
    (r : Int × Int × Bool) (hg : IsGet l1 r) (v : ByteArray) (k : Nat) (hrr : readR l1 r a2 = (v, (k : Int), true)) (hk : k ≤ l1.length) (hv : (v.size : Int) ≤ a2) (hvl : put v.size ++ bytesOf v = l1.take k) :
    Calls Try.prog 4 #[.string s, .slice A1 l1.length c1, .int .i64 a2] w fun e w' => e = .returned (.bool true) ∧ Below w.heap.size w w' := by
  have c1' : decide (100 < s.size) = false := decide_eq_false (by omega)
  have c2' : decide (100 < (s.size : Int)) = false := decide_eq_false (by omega)
  have c3' : decide (100 < l1.length) = false := decide_eq_false (by omega)
  have c4' : decide (100 < (l1.length : Int)) = false := decide_eq_false (by omega)
  have c5' : decide ((s.size : Int) ≤ a2) = false := decide_eq_false (by omega)
  obtain ⟨L, hL⟩ : ∃ L, L = put s.size ++ bytesOf s := ⟨_, rfl⟩
  have hLl : L.length = (put s.size).length + s.size := by rw [hL, List.length_append, bytesOf_length]
  have hLb : Bytes L := by rw [hL]; exact bytes_app (put_range _) (bytesOf_bytes s)
  have h10 := put_length s.size (by omega)
  have hgt : IsGet (L ++ l1) ((s.size : Int), ((put s.size).length : Int), true) := by
    rw [hL, List.append_assoc]
    exact isGet_put s.size (by omega) _
  have hrt : readR (L ++ l1) ((s.size : Int), ((put s.size).length : Int), true) a2 = (⟨#[]⟩, 0, false) := by
    rw [hL, read_text, if_neg (by omega)]
  have HL := Aside0.mk hL
  have HLl := Aside0.mk hLl
  clear hL hLl
  have hvs : v.size ≤ 100 := by
    have := congrArg List.length hvl
    rw [List.length_append, bytesOf_length, List.length_take] at this
    omega
  have d1 : decide ((k : Int) ≤ (l1.length : Int)) = true := decide_eq_true (by omega)
  have d1' : decide (k ≤ l1.length) = true := decide_eq_true (by omega)
  have d2 : decide ((v.size : Int) ≤ a2) = true := decide_eq_true (by omega)
  have hcut := rdb_cut A1 c1 l1 k hk hc1
  obtain ⟨Lv, hLv⟩ : ∃ L, L = put v.size ++ bytesOf v := ⟨_, rfl⟩
  have hvl2 : l1.take k = Lv := by rw [hLv, hvl]
  have seq : ((strOfNums Lv).toList == (strOfNums Lv).toList) = true := beq_self_eq_true _
  have HLv := Aside0.mk hLv
  have HVL := Aside0.mk hvl2
  have HK := Aside0.mk hk
  have HVS := Aside0.mk hvs
  clear hLv hvl hvl2 hk hvs
  have HRR := Aside0.mk hrr
  have HRT := Aside0.mk hrt
  have HG := Aside0.mk hg
  have HGT := Aside0.mk hgt
  clear hrr hrt hg hgt
  go_enter Try.func4, Try.ntmps4
  go_wp2_with fail
  refine (awake_call _).mono ?_
  rintro e w1 ⟨rfl, hb1⟩
  go_wp2_with fail
  refine (text_call' s (by omega) L HL.out _).mono ?_
  rintro e w2 ⟨A, c, rfl, hc, hA, hb2⟩
  have hB2 : Below w.heap.size w w2 := hb1.trans (hb2.mono hb1.size)
  go_wp2_with (first
    | ((with_reducible refine gate_builtin (b := .append) (xs := #[.const (.slice none 0 0), .tmp 32]) rfl ?_); at_builtin; refine print_append_row (w0 := w) w.heap.size rfl _ _ 23 5 .u8 1 rfl Try.underlying23 info5 (by decide) (.slice none 0 0) [] L A L.length c rfl rfl (own_nil _ _ _ _) (Kd.reads_of_C hA) hB2 hB2.size (by have := HLl.out; simp; omega) ?_; intro v1 w3 ho3 hB3 hg3 _; obtain ⟨A3, k3, rfl, hk3, hr3⟩ := own_row ho3)
    | ((with_reducible refine gate_builtin (b := .append) (xs := #[.tmp 33, .tmp 34]) rfl ?_); at_builtin; refine print_append_row (w0 := w) w.heap.size rfl _ _ 23 5 .u8 1 rfl Try.underlying23 info5 (by decide) _ _ l1 A1 l1.length c1 rfl rfl ho3 (Kd.reads_of_C (rdb_below hr1 hB3)) hB3 hB3.size (by have := HLl.out; simp; omega) ?_; intro v2 w4 ho4 hB4 hg4 _; obtain ⟨A4, k4, rfl, hk4, hr4⟩ := own_row ho4)
    | fail)
  clear ho3 hB3 hg3 hr3 hg4 ho4 hb2 hA hc hb1 hB2
  rw [List.length_append] at hk4
  refine (read_call' HGT.out (bytes_app hLb hb) (by have := HLl.out; rw [List.length_append]; omega) a2 _ (by simp) A4 k4 w4 (by simpa using hr4) (by simpa using hk4) _ HRT.out).mono ?_
  rintro e w5 ⟨rfl, hb5⟩
  clear hr4 hk4
  have hB5 : Below w.heap.size w w5 := hB4.trans (hb5.mono hB4.size)
  have hl5 := rdb_below hr1 hB5
  dsimp only
  go_wp2_with fail
  refine (read_call' HG.out hb (by omega) a2 _ rfl A1 c1 _ hl5 hc1 _ HRR.out).mono ?_
  rintro e w6 ⟨rfl, hb6⟩
  have hB6 : Below w.heap.size w w6 := hB5.trans (hb6.mono hB5.size)
  dsimp only
  go_wp2_with fail
  have hl6 := rdb_take (rdb_below hr1 hB6) k HK.out
  rw [HVL.out] at hl6
  clear hl5 hB5 hr1 hb5 hb6 hB4
  refine wp_region_held_drew (S := (fun W => RdB W A1 k Lv)) (by kernel_rfl) (Kd.C_drew hl6) (fun hHeld => ?_)
  refine wpAnyH_take (i := 0) (v := ?_) (by simp only [List.getElem?_toArray, List.getElem?_cons_succ, List.getElem?_cons_zero]; rfl) (by kernel_rfl) (by kernel_rfl) (by kernel_rfl) (by intro _ _ _ h; exact h) (Or.inl ⟨by rfl, ?hy⟩) (by assumption) ?_
  case hy => (intro W_ hW_; go_simp; first | done | with_reducible rfl)
  try simp only [Act.put, List.setIfInBounds_toArray, List.set_cons_zero, List.set_cons_succ]
  refine wpAnyH_take (i := 1) (v := ?_) (by simp only [List.getElem?_toArray, List.getElem?_cons_succ, List.getElem?_cons_zero]; rfl) (by kernel_rfl) (by kernel_rfl) (by kernel_rfl) (by intro _ _ _ h; exact h) (Or.inl ⟨by rfl, ?hy⟩) (by assumption) ?_
  case hy => (intro W_ hW_; go_simp; first | done | with_reducible rfl)
  try simp only [Act.put, List.setIfInBounds_toArray, List.set_cons_zero, List.set_cons_succ]
  refine wpAnyH_take (i := 2) (v := ?_) (by simp only [List.getElem?_toArray, List.getElem?_cons_succ, List.getElem?_cons_zero]; rfl) (by kernel_rfl) (by kernel_rfl) (by kernel_rfl) (by intro _ _ _ h; exact h) (Or.inl ⟨by rfl, ?hy⟩) (by assumption) ?_
  case hy => (intro W_ hW_; go_simp; first | done | with_reducible rfl)
  try simp only [Act.put, List.setIfInBounds_toArray, List.set_cons_zero, List.set_cons_succ]
  refine wpAnyH_take (i := 3) (v := ?_) (by simp only [List.getElem?_toArray, List.getElem?_cons_succ, List.getElem?_cons_zero]; rfl) (by kernel_rfl) (by kernel_rfl) (by kernel_rfl) (by intro _ _ _ h; exact h) (Or.inl ⟨by rfl, ?hy⟩) (by assumption) ?_
  case hy => (intro W_ hW_; go_simp; first | done | with_reducible rfl)
  try simp only [Act.put, List.setIfInBounds_toArray, List.set_cons_zero, List.set_cons_succ]
  refine wpAnyH_take (i := 4) (v := ?_) (by simp only [List.getElem?_toArray, List.getElem?_cons_succ, List.getElem?_cons_zero]; rfl) (by kernel_rfl) (by kernel_rfl) (by kernel_rfl) (by intro _ _ _ h; exact h) (Or.inl ⟨by rfl, ?hy⟩) (by assumption) ?_
  case hy => (intro W_ hW_; go_simp; first | done | with_reducible rfl)
  try simp only [Act.put, List.setIfInBounds_toArray, List.set_cons_zero, List.set_cons_succ]
  refine wpAnyH_take (i := 5) (v := ?_) (by simp only [List.getElem?_toArray, List.getElem?_cons_succ, List.getElem?_cons_zero]; rfl) (by kernel_rfl) (by kernel_rfl) (by kernel_rfl) (by intro _ _ _ h; exact h) (Or.inl ⟨by rfl, ?hy⟩) (by assumption) ?_
  case hy => (intro W_ hW_; go_simp; first | done | with_reducible rfl)
  try simp only [Act.put, List.setIfInBounds_toArray, List.set_cons_zero, List.set_cons_succ]
  refine wpAnyH_take (i := 6) (v := ?_) (by simp only [List.getElem?_toArray, List.getElem?_cons_succ, List.getElem?_cons_zero]; rfl) (by kernel_rfl) (by kernel_rfl) (by kernel_rfl) (by intro _ _ _ h; exact h) (Or.inl ⟨by rfl, ?hy⟩) (by assumption) ?_
  case hy => (intro W_ hW_; go_simp; first | done | with_reducible rfl)
  try simp only [Act.put, List.setIfInBounds_toArray, List.set_cons_zero, List.set_cons_succ]
  refine wpAnyH_take (i := 7) (v := ?_) (by simp only [List.getElem?_toArray, List.getElem?_cons_succ, List.getElem?_cons_zero]; rfl) (by kernel_rfl) (by kernel_rfl) (by kernel_rfl) (by intro _ _ _ h; exact h) (Or.inl ⟨by rfl, ?hy⟩) (by assumption) ?_
  case hy => (intro W_ hW_; go_simp; first | done | with_reducible rfl)
  try simp only [Act.put, List.setIfInBounds_toArray, List.set_cons_zero, List.set_cons_succ]
  refine wpAnyH_take (i := 8) (v := ?_) (by simp only [List.getElem?_toArray, List.getElem?_cons_succ, List.getElem?_cons_zero]; rfl) (by kernel_rfl) (by kernel_rfl) (by kernel_rfl) (by intro _ _ _ h; exact h) (Or.inl ⟨by rfl, ?hy⟩) (by assumption) ?_
  case hy => (intro W_ hW_; go_simp; first | done | with_reducible rfl)
  try simp only [Act.put, List.setIfInBounds_toArray, List.set_cons_zero, List.set_cons_succ]
  refine wpAnyH_take (i := 9) (v := ?_) (by simp only [List.getElem?_toArray, List.getElem?_cons_succ, List.getElem?_cons_zero]; rfl) (by kernel_rfl) (by kernel_rfl) (by kernel_rfl) (by intro _ _ _ h; exact h) (Or.inl ⟨by rfl, ?hy⟩) (by assumption) ?_
  case hy => (intro W_ hW_; go_simp; first | done | with_reducible rfl)
  try simp only [Act.put, List.setIfInBounds_toArray, List.set_cons_zero, List.set_cons_succ]
  refine wpAnyH_take (i := 10) (v := ?_) (by simp only [List.getElem?_toArray, List.getElem?_cons_succ, List.getElem?_cons_zero]; rfl) (by kernel_rfl) (by kernel_rfl) (by kernel_rfl) (by intro _ _ _ h; exact h) (Or.inl ⟨by rfl, ?hy⟩) (by assumption) ?_
  case hy => (intro W_ hW_; go_simp; first | done | with_reducible rfl)
  try simp only [Act.put, List.setIfInBounds_toArray, List.set_cons_zero, List.set_cons_succ]
  refine wpAnyH_take (i := 11) (v := ?_) (by simp only [List.getElem?_toArray, List.getElem?_cons_succ, List.getElem?_cons_zero]; rfl) (by kernel_rfl) (by kernel_rfl) (by kernel_rfl) (by intro _ _ _ h; exact h) (Or.inl ⟨by rfl, ?hy⟩) (by assumption) ?_
  case hy => (intro W_ hW_; go_simp; first | done | with_reducible rfl)
  try simp only [Act.put, List.setIfInBounds_toArray, List.set_cons_zero, List.set_cons_succ]
  refine wpAnyH_take (i := 12) (v := ?_) (by simp only [List.getElem?_toArray, List.getElem?_cons_succ, List.getElem?_cons_zero]; rfl) (by kernel_rfl) (by kernel_rfl) (by kernel_rfl) (by intro _ _ _ h; exact h) (Or.inl ⟨by rfl, ?hy⟩) (by assumption) ?_
  case hy => (intro W_ hW_; go_simp; first | done | with_reducible rfl)
  try simp only [Act.put, List.setIfInBounds_toArray, List.set_cons_zero, List.set_cons_succ]
  refine wpAnyH_take (i := 13) (v := ?_) (by simp only [List.getElem?_toArray, List.getElem?_cons_succ, List.getElem?_cons_zero]; rfl) (by kernel_rfl) (by kernel_rfl) (by kernel_rfl) (by intro _ _ _ h; exact h) (Or.inl ⟨by rfl, ?hy⟩) (by assumption) ?_
  case hy => (intro W_ hW_; go_simp; first | done | with_reducible rfl)
  try simp only [Act.put, List.setIfInBounds_toArray, List.set_cons_zero, List.set_cons_succ]
  refine wpAnyH_take (i := 14) (v := ?_) (by simp only [List.getElem?_toArray, List.getElem?_cons_succ, List.getElem?_cons_zero]; rfl) (by kernel_rfl) (by kernel_rfl) (by kernel_rfl) (by intro _ _ _ h; exact h) (Or.inl ⟨by rfl, ?hy⟩) (by assumption) ?_
  case hy => (intro W_ hW_; go_simp; first | done | with_reducible rfl)
  try simp only [Act.put, List.setIfInBounds_toArray, List.set_cons_zero, List.set_cons_succ]
  refine wpAnyH_take (i := 17) (v := ?_) (by simp only [List.getElem?_toArray, List.getElem?_cons_succ, List.getElem?_cons_zero]; rfl) (by kernel_rfl) (by kernel_rfl) (by kernel_rfl) (by intro _ _ _ h; exact h) (Or.inl ⟨by rfl, ?hy⟩) (by assumption) ?_
  case hy => (intro W_ hW_; go_simp; first | done | with_reducible rfl)
  try simp only [Act.put, List.setIfInBounds_toArray, List.set_cons_zero, List.set_cons_succ]
  refine wpAnyH_take (i := 18) (v := ?_) (by simp only [List.getElem?_toArray, List.getElem?_cons_succ, List.getElem?_cons_zero]; rfl) (by kernel_rfl) (by kernel_rfl) (by kernel_rfl) (by intro _ _ _ h; exact h) (Or.inl ⟨by rfl, ?hy⟩) (by assumption) ?_
  case hy => (intro W_ hW_; go_simp; first | done | with_reducible rfl)
  try simp only [Act.put, List.setIfInBounds_toArray, List.set_cons_zero, List.set_cons_succ]
  refine wpAnyH_take (i := 19) (v := ?_) (by simp only [List.getElem?_toArray, List.getElem?_cons_succ, List.getElem?_cons_zero]; rfl) (by kernel_rfl) (by kernel_rfl) (by kernel_rfl) (by intro _ _ _ h; exact h) (Or.inl ⟨by rfl, ?hy⟩) (by assumption) ?_
  case hy => (intro W_ hW_; go_simp; first | done | with_reducible rfl)
  try simp only [Act.put, List.setIfInBounds_toArray, List.set_cons_zero, List.set_cons_succ]
  refine wpAnyH_take (i := 20) (v := ?_) (by simp only [List.getElem?_toArray, List.getElem?_cons_succ, List.getElem?_cons_zero]; rfl) (by kernel_rfl) (by kernel_rfl) (by kernel_rfl) (by intro _ _ _ h; exact h) (Or.inl ⟨by rfl, ?hy⟩) (by assumption) ?_
  case hy => (intro W_ hW_; have f_ := conv0 hW_ c1; go_simp; first | done | with_reducible rfl)
  try simp only [Act.put, List.setIfInBounds_toArray, List.set_cons_zero, List.set_cons_succ]
  refine wpAnyH_ready (rs := [15]) (by kernel_rfl) (by simp) ?_
  refine AllReadyH.cons (by simp only [List.getElem?_toArray, List.getElem?_cons_succ, List.getElem?_cons_zero]; rfl) (fun K hK => ?_) AllReadyH.nil
  rw [if_pos (by rfl)]
  go_wp2_with fail
  refine (text_call' v (by have := HVS.out; omega) Lv HLv.out _).mono ?_
  rintro e w7 ⟨A7, c7, rfl, hc7, hA7, hb7⟩
  refine hK.out _ _ (rdb_below hHeld hb7) (fun hHeld2 => ?_)
  clear hK K hHeld
  try simp only [Act.put, List.setIfInBounds_toArray, List.set_cons_zero, List.set_cons_succ]
  refine wpAnyH_str (S2 := (fun W => RdB W A1 k Lv ∧ RdB W A7 Lv.length Lv)) (fun W h => h.1) _ _ _ _ ?_
  have hHeld := (And.intro hHeld2 hA7)
  clear hHeld2
  refine wpAnyH_take (i := 16) (v := ?_) (by simp only [List.getElem?_toArray, List.getElem?_cons_succ, List.getElem?_cons_zero]; rfl) (by kernel_rfl) (by kernel_rfl) (by kernel_rfl) (by intro _ _ _ h; exact h) (Or.inl ⟨by rfl, ?hy⟩) (by assumption) ?_
  case hy => (intro W_ hW_; have f_ := conv0 hW_.2 c7; go_simp; first | done | with_reducible rfl)
  try simp only [Act.put, List.setIfInBounds_toArray, List.set_cons_zero, List.set_cons_succ]
  refine wpAnyH_take (i := 21) (v := ?_) (by simp only [List.getElem?_toArray, List.getElem?_cons_succ, List.getElem?_cons_zero]; rfl) (by kernel_rfl) (by kernel_rfl) (by kernel_rfl) (by intro _ _ _ h; exact h) (Or.inl ⟨by rfl, ?hy⟩) (by assumption) ?_
  case hy => (intro W_ hW_; go_simp; first | done | with_reducible rfl)
  try simp only [Act.put, List.setIfInBounds_toArray, List.set_cons_zero, List.set_cons_succ]
  refine wpAnyH_take (i := 22) (v := ?_) (by simp only [List.getElem?_toArray, List.getElem?_cons_succ, List.getElem?_cons_zero]; rfl) (by kernel_rfl) (by kernel_rfl) (by kernel_rfl) (by intro _ _ _ h; exact h) (Or.inl ⟨by rfl, ?hy⟩) (by assumption) ?_
  case hy => (intro W_ hW_; go_simp; first | done | with_reducible rfl)
  try simp only [Act.put, List.setIfInBounds_toArray, List.set_cons_zero, List.set_cons_succ]
  refine wpAnyH_take (i := 23) (v := ?_) (by simp only [List.getElem?_toArray, List.getElem?_cons_succ, List.getElem?_cons_zero]; rfl) (by kernel_rfl) (by kernel_rfl) (by kernel_rfl) (by intro _ _ _ h; exact h) (Or.inl ⟨by rfl, ?hy⟩) (by assumption) ?_
  case hy => (intro W_ hW_; go_simp; first | done | with_reducible rfl)
  try simp only [Act.put, List.setIfInBounds_toArray, List.set_cons_zero, List.set_cons_succ]
  refine wpAnyH_take (i := 24) (v := ?_) (by simp only [List.getElem?_toArray, List.getElem?_cons_succ, List.getElem?_cons_zero]; rfl) (by kernel_rfl) (by kernel_rfl) (by kernel_rfl) (by intro _ _ _ h; exact h) (Or.inl ⟨by rfl, ?hy⟩) (by assumption) ?_
  case hy => (intro W_ hW_; go_simp; first | done | with_reducible rfl)
  try simp only [Act.put, List.setIfInBounds_toArray, List.set_cons_zero, List.set_cons_succ]
  refine wpAnyH_done (by kernel_rfl) ?_ _
  go_wp2_with fail
  go_ret
  exact ⟨rfl, (hB6.trans (below_drew (Below.refl _ _))).trans (hb7.mono hB6.size)⟩

set_option maxHeartbeats 800000 in
set_option maxRecDepth 100000 in
theorem texts_nn (s : ByteArray) (A1 : Option Addr) (c1 : Nat) (l1 : List Int) (a2 : Int) (w : World) (hr1 : RdB w A1 l1.length l1) (hc1 : l1.length ≤ c1) (hb : Bytes l1) (h : s.size ≤ 100) (h2 : l1.length ≤ 100) (hf : a2 < (s.size : Int))
    (r : Int × Int × Bool) (hg : IsGet l1 r) (v : ByteArray) (k : Nat) (hrr : readR l1 r a2 = (⟨#[]⟩, 0, false)) :
    Calls Try.prog 4 #[.string s, .slice A1 l1.length c1, .int .i64 a2] w fun e w' => e = .returned (.bool true) ∧ Below w.heap.size w w' := by
  have c1' : decide (100 < s.size) = false := decide_eq_false (by omega)
  have c2' : decide (100 < (s.size : Int)) = false := decide_eq_false (by omega)
  have c3' : decide (100 < l1.length) = false := decide_eq_false (by omega)
  have c4' : decide (100 < (l1.length : Int)) = false := decide_eq_false (by omega)
  have c5' : decide ((s.size : Int) ≤ a2) = false := decide_eq_false (by omega)
  obtain ⟨L, hL⟩ : ∃ L, L = put s.size ++ bytesOf s := ⟨_, rfl⟩
  have hLl : L.length = (put s.size).length + s.size := by rw [hL, List.length_append, bytesOf_length]
  have hLb : Bytes L := by rw [hL]; exact bytes_app (put_range _) (bytesOf_bytes s)
  have h10 := put_length s.size (by omega)
  have hgt : IsGet (L ++ l1) ((s.size : Int), ((put s.size).length : Int), true) := by
    rw [hL, List.append_assoc]
    exact isGet_put s.size (by omega) _
  have hrt : readR (L ++ l1) ((s.size : Int), ((put s.size).length : Int), true) a2 = (⟨#[]⟩, 0, false) := by
    rw [hL, read_text, if_neg (by omega)]
  have HL := Aside0.mk hL
  have HLl := Aside0.mk hLl
  clear hL hLl
  have HRR := Aside0.mk hrr
  have HRT := Aside0.mk hrt
  have HG := Aside0.mk hg
  have HGT := Aside0.mk hgt
  clear hrr hrt hg hgt
  go_enter Try.func4, Try.ntmps4
  go_wp2_with fail
  refine (awake_call _).mono ?_
  rintro e w1 ⟨rfl, hb1⟩
  go_wp2_with fail
  refine (text_call' s (by omega) L HL.out _).mono ?_
  rintro e w2 ⟨A, c, rfl, hc, hA, hb2⟩
  have hB2 : Below w.heap.size w w2 := hb1.trans (hb2.mono hb1.size)
  go_wp2_with (first
    | ((with_reducible refine gate_builtin (b := .append) (xs := #[.const (.slice none 0 0), .tmp 32]) rfl ?_); at_builtin; refine print_append_row (w0 := w) w.heap.size rfl _ _ 23 5 .u8 1 rfl Try.underlying23 info5 (by decide) (.slice none 0 0) [] L A L.length c rfl rfl (own_nil _ _ _ _) (Kd.reads_of_C hA) hB2 hB2.size (by have := HLl.out; simp; omega) ?_; intro v1 w3 ho3 hB3 hg3 _; obtain ⟨A3, k3, rfl, hk3, hr3⟩ := own_row ho3)
    | ((with_reducible refine gate_builtin (b := .append) (xs := #[.tmp 33, .tmp 34]) rfl ?_); at_builtin; refine print_append_row (w0 := w) w.heap.size rfl _ _ 23 5 .u8 1 rfl Try.underlying23 info5 (by decide) _ _ l1 A1 l1.length c1 rfl rfl ho3 (Kd.reads_of_C (rdb_below hr1 hB3)) hB3 hB3.size (by have := HLl.out; simp; omega) ?_; intro v2 w4 ho4 hB4 hg4 _; obtain ⟨A4, k4, rfl, hk4, hr4⟩ := own_row ho4)
    | fail)
  clear ho3 hB3 hg3 hr3 hg4 ho4 hb2 hA hc hb1 hB2
  rw [List.length_append] at hk4
  refine (read_call' HGT.out (bytes_app hLb hb) (by have := HLl.out; rw [List.length_append]; omega) a2 _ (by simp) A4 k4 w4 (by simpa using hr4) (by simpa using hk4) _ HRT.out).mono ?_
  rintro e w5 ⟨rfl, hb5⟩
  clear hr4 hk4
  have hB5 : Below w.heap.size w w5 := hB4.trans (hb5.mono hB4.size)
  have hl5 := rdb_below hr1 hB5
  dsimp only
  go_wp2_with fail
  refine (read_call' HG.out hb (by omega) a2 _ rfl A1 c1 _ hl5 hc1 _ HRR.out).mono ?_
  rintro e w6 ⟨rfl, hb6⟩
  have hB6 : Below w.heap.size w w6 := hB5.trans (hb6.mono hB5.size)
  dsimp only
  go_wp2_with fail
  go_quiet (fail)
  go_wp2_with fail
  go_ret
  exact ⟨rfl, pw_below_drewN hB6 _⟩

theorem rolodexlaw01_WireTexts.walk (a0 : ByteArray) (a1 : Option Addr) (len1 cap1 : Nat) (z1 : List Int) (a2 : Int) (w : World) (w0 : a0.size ≤ 140737488351232) (w1 : (a1 = none ∧ len1 = 0 ∧ cap1 = 0 ∧ z1 = []) ∨ ∃ x, a1 = some x ∧ len1 ≤ cap1 ∧ cap1 ≤ maxLen ∧ z1.length = cap1 ∧ (∀ i, i < z1.length → w.cell? (x.add i) = some (.int .u8 (z1.getD i 0))) ∧ ∀ n ∈ z1, (Lit.int .u8 n).wf = true) (y1 : len1 * 1 ≤ 140737488351232) (w2 : (Lit.int .i64 a2).wf = true) :
    Calls Try.prog 4 #[.string a0, .slice a1 len1 cap1, .int .i64 a2] w fun e w' => e = .returned (.bool true) ∧ Below w.heap.size w w' := by
  obtain ⟨l1, rfl, hr1, hm1, hw1, hc1⟩ := ReadsInt.ofRowC w1
  have hr : RdB w a1 l1.length l1 := Kd.C_of_reads (d := (0 : Int)) (h1 := fun _ => rfl) hr1
  have hb := bytes_of_wf hw1
  by_cases h : 100 < a0.size
  · exact texts_long1 a0 a1 cap1 l1 a2 w h
  by_cases h2 : 100 < l1.length
  · exact texts_long2 a0 a1 cap1 l1 a2 w (by omega) h2
  obtain ⟨r, _, hi⟩ := Get_is l1 hb (by omega) (2 * l1.length + 3) (by omega)
  obtain ⟨v, kk, was, hrr⟩ : ∃ v kk was, readR l1 r a2 = (v, kk, was) := ⟨_, _, _, rfl⟩
  cases was with
  | true =>
    obtain ⟨k, rfl, hk, hv, hvl⟩ := read_back hb hi a2 v kk hrr
    by_cases hf : (a0.size : Int) ≤ a2
    · exact texts_yy a0 a1 cap1 l1 a2 w hr hc1 hb (by omega) (by omega) hf r hi v k hrr hk hv hvl
    · exact texts_ny a0 a1 cap1 l1 a2 w hr hc1 hb (by omega) (by omega) (by omega) r hi v k hrr hk hv hvl
  | false =>
    have hz : readR l1 r a2 = (⟨#[]⟩, 0, false) := by
      unfold readR at hrr ⊢
      split at hrr
      · cases hrr
      · rename_i hc; rw [if_neg hc]
    by_cases hf : (a0.size : Int) ≤ a2
    · exact texts_yn a0 a1 cap1 l1 a2 w hr hc1 hb (by omega) (by omega) hf r hi ⟨#[]⟩ 0 hz
    · exact texts_nn a0 a1 cap1 l1 a2 w hr hc1 hb (by omega) (by omega) (by omega) r hi ⟨#[]⟩ 0 hz

end Go.Proofs.Ytghafocfbamcdaa.X
