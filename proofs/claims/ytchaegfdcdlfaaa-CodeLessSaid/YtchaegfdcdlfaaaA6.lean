/- Texts of this claim, what it reaches -/
import Derived.Test.YtchaegfdcdlfaaaA5
set_option linter.unusedVariables false
set_option linter.unusedSimpArgs false
set_option maxRecDepth 100000
namespace Go.Proofs.Ytchaegfdcdlfaaa.X
section
open Go.RowKit Go.Proofs.YtchaegfdcdlfaaaW.PrintWords Go.Proofs.YtchaegfdcdlfaaaW.PrintLast Go.Proofs.YtchaegfdcdlfaaaW.PrintMore
open Go.Proofs.Ytchaegfdcdlfaaa.Y (readR Bytes RdB IsGet rdb_below rdb_drop rdb_take get_call read_call Get_eq put put_length)
attribute [local go_sem] max2_int min2_int max_two min_two max_three min_three max_four min_four
theorem RoSt.set {w0 W : World} {rb : Nat} {s : Rd} (h : RoSt w0 W rb s) {g : Nat} (hg : g ≠ rb) (hw : w0.heap.size ≤ g) (j : Nat) (u : Value) : RoSt w0 (W.setCell ⟨g, j, none⟩ u) rb s := by
 obtain ⟨A, c, hr, hc, hA⟩ := h.row
 exact ⟨h.base, ⟨A, c, (Below.heap_setCell _ _ _ _ (by show rb ≠ g; omega)).trans hr, hc, hA⟩, h.byt, h.len, below_set h.bel hw⟩
structure OgSt (w W : World) (rb g : Nat) (os : Array Value) (s : Rd) : Prop where
 rd : RoSt w W rb s
 op : W.heap[g]? = some (.cells os 98 (0, 0))
 sz : os.size = 71
 res : W.heap[w.heap.size]? = some (.cells Try.zeroCells98 98 (0, 0))
 ne1 : g ≠ rb
 ne2 : w.heap.size ≠ rb
 ne3 : w.heap.size < g
theorem OgSt.below {w W W1 : World} {rb g : Nat} {os : Array Value} {s : Rd} (h : OgSt w W rb g os s) (hb : Below W.heap.size W W1) : OgSt w W1 rb g os s := ⟨h.rd.below hb, blk_below h.op hb, h.sz, blk_below h.res hb, h.ne1, h.ne2, h.ne3⟩
theorem OgSt.read {w W W1 : World} {rb g : Nat} {os : Array Value} {s s1 : Rd} (h : OgSt w W rb g os s) (hst : RoSt w W1 rb s1) (hg : W.grownBy W1 (some rb)) : OgSt w W1 rb g os s1 :=
 ⟨hst, blk_grown h.op hg (fun he => h.ne1 (by injection he)), h.sz, blk_grown h.res hg (fun he => h.ne2 (by injection he)), h.ne1, h.ne2, h.ne3⟩
theorem OgSt.put {w W : World} {rb g : Nat} {os : Array Value} {s : Rd} (h : OgSt w W rb g os s) (k : Nat) (v : Value) : OgSt w (W.setCell ⟨g, k, none⟩ v) rb g (os.setIfInBounds k v) s :=
 ⟨h.rd.set h.ne1 (by have := h.ne3; omega) k v, blk_put h.op k v rfl, by rw [Array.size_setIfInBounds]; exact h.sz, (Below.heap_setCell _ _ _ _ (by show w.heap.size ≠ g; have := h.ne3; omega)).trans h.res, h.ne1, h.ne2, h.ne3⟩
theorem OgSt.puts {w : World} {rb g : Nat} {s : Rd} : ∀ (vs : List Value) {W : World} {os : Array Value} (h : OgSt w W rb g os s) (o : Nat), OgSt w (W.setCells g o vs) rb g (setL os o vs) s
 | [], _, _, h, _ => h
 | v :: r, _, _, h, o => OgSt.puts r (h.put o v) (o + 1)
theorem OgSt.cell {w W : World} {rb g : Nat} {os : Array Value} {s : Rd} (h : OgSt w W rb g os s) (k : Nat) : W.cell? ⟨g, k, none⟩ = os[k]? := blk_cell h.op k
theorem OgSt.fro {w W : World} {rb g : Nat} {os : Array Value} {s : Rd} (h : OgSt w W rb g os s) (k : Nat) : W.frozen? ⟨g, k, none⟩ = false := blk_frozen h.op k
theorem OgSt.arr {w W : World} {rb g : Nat} {os : Array Value} {s : Rd} (h : OgSt w W rb g os s) {d : List Int} (o : Nat) (hl : o + d.length ≤ 71) : (storeCells ⟨g, o, none⟩ (cells8 d).toList).run Try.prog W = .ok () (W.setCells g o (cells8 d).toList) :=
 setCells_run h.op o (cells8 d).toList (by rw [h.sz]; simp [cells8]; omega) (fun v hv => (Array.all_eq_true_iff_forall_mem.1 (cells8_all d)) v (by simpa using hv))
theorem OgSt.rcell {w W : World} {rb g : Nat} {os : Array Value} {s : Rd} (h : OgSt w W rb g os s) : ∃ A c, W.cell? ⟨rb, 0, none⟩ = some (.slice A s.b.length c) ∧ W.cell? ⟨rb, 1, none⟩ = some (.bool s.bad) ∧ s.b.length ≤ c ∧ RdB W A s.b.length s.b := by
 obtain ⟨A, c, hr, hc, hA⟩ := h.rd.row
 obtain ⟨x0, x1, _, _⟩ := RoSt.cell0 hr (w0 := w)
 exact ⟨A, c, x0, x1, hc, rdb_below hA h.rd.bel⟩
theorem built_head (k : Int) (d : List Int) (hd : d.length = 16) : Try.prog.built 98 [(0, .int .i64 k), (1, .agg (cells8 d))] = some (opC ⟨k, d, 0, 0, 0, ⟨#[]⟩, [], z16, 0, z32⟩ none 0).toArray := by
 obtain ⟨i, hi, hz0⟩ := Option.map_eq_some_iff.1 zeroOp
 unfold Program.built
 have e0 : (Try.prog.info? 3).map (·.size) = some 1 := by kernel_rfl
 have e1 : (Try.prog.info? 94).map (·.size) = some 16 := by kernel_rfl
 have e2 : (Try.prog.info? 96).map (·.size) = some 2 := by kernel_rfl
 have e3 : (Try.prog.info? 9).map (·.size) = some 1 := by kernel_rfl
 have e4 : (Try.prog.info? 55).map (·.size) = some 1 := by kernel_rfl
 have e5 : (Try.prog.info? 28).map (·.size) = some 32 := by kernel_rfl
 obtain ⟨i0, hi0, hs0⟩ := Option.map_eq_some_iff.1 e0
 obtain ⟨i1, hi1, hs1⟩ := Option.map_eq_some_iff.1 e1
 obtain ⟨i2, hi2, hs2⟩ := Option.map_eq_some_iff.1 e2
 obtain ⟨i3, hi3, hs3⟩ := Option.map_eq_some_iff.1 e3
 obtain ⟨i4, hi4, hs4⟩ := Option.map_eq_some_iff.1 e4
 obtain ⟨i5, hi5, hs5⟩ := Option.map_eq_some_iff.1 e5
 rw [hi, Try.underlying98]
 simp only [hz0, List.mapM_cons, List.mapM_nil, hi0, hi1, hi2, hi3, hi4, hi5, Option.map_some, hs0, hs1, hs2, hs3, hs4, hs5, Option.pure_def, Option.bind_eq_bind, Option.bind_some]
 have := fill_some (([(0, 1), (1, 16), (17, 2), (19, 1), (20, 1), (21, 1), (22, 16), (38, 1), (39, 32)] : List (Nat × Nat)).toArray[·]?) [(0, .int .i64 k), (1, .agg (cells8 d))] 0 #[.int .i64 0, .int .u8 0, .int .u8 0, .int .u8 0, .int .u8 0, .int .u8 0, .int .u8 0, .int .u8 0, .int .u8 0, .int .u8 0, .int .u8 0, .int .u8 0, .int .u8 0, .int .u8 0, .int .u8 0, .int .u8 0, .int .u8 0, .int .i64 0, .int .i64 0, .int .i64 0, .string ⟨#[]⟩, .slice none 0 0, .int .u8 0, .int .u8 0, .int .u8 0, .int .u8 0, .int .u8 0, .int .u8 0, .int .u8 0, .int .u8 0, .int .u8 0, .int .u8 0, .int .u8 0, .int .u8 0, .int .u8 0, .int .u8 0, .int .u8 0, .int .u8 0, .int .i64 0, .int .u8 0, .int .u8 0, .int .u8 0, .int .u8 0, .int .u8 0, .int .u8 0, .int .u8 0, .int .u8 0, .int .u8 0, .int .u8 0, .int .u8 0, .int .u8 0, .int .u8 0, .int .u8 0, .int .u8 0, .int .u8 0, .int .u8 0, .int .u8 0, .int .u8 0, .int .u8 0, .int .u8 0, .int .u8 0, .int .u8 0, .int .u8 0, .int .u8 0, .int .u8 0, .int .u8 0, .int .u8 0, .int .u8 0, .int .u8 0, .int .u8 0, .int .u8 0] ⟨by simp [Value.cells], by simp [Value.cells, cells8, hd], trivial⟩ (by simp [partsL, Value.cells, cells8, hd])
 rw [show (Value.agg #[.int .i64 0, .int .u8 0, .int .u8 0, .int .u8 0, .int .u8 0, .int .u8 0, .int .u8 0, .int .u8 0, .int .u8 0, .int .u8 0, .int .u8 0, .int .u8 0, .int .u8 0, .int .u8 0, .int .u8 0, .int .u8 0, .int .u8 0, .int .i64 0, .int .i64 0, .int .i64 0, .string ⟨#[]⟩, .slice none 0 0, .int .u8 0, .int .u8 0, .int .u8 0, .int .u8 0, .int .u8 0, .int .u8 0, .int .u8 0, .int .u8 0, .int .u8 0, .int .u8 0, .int .u8 0, .int .u8 0, .int .u8 0, .int .u8 0, .int .u8 0, .int .u8 0, .int .i64 0, .int .u8 0, .int .u8 0, .int .u8 0, .int .u8 0, .int .u8 0, .int .u8 0, .int .u8 0, .int .u8 0, .int .u8 0, .int .u8 0, .int .u8 0, .int .u8 0, .int .u8 0, .int .u8 0, .int .u8 0, .int .u8 0, .int .u8 0, .int .u8 0, .int .u8 0, .int .u8 0, .int .u8 0, .int .u8 0, .int .u8 0, .int .u8 0, .int .u8 0, .int .u8 0, .int .u8 0, .int .u8 0, .int .u8 0, .int .u8 0, .int .u8 0, .int .u8 0]).cells = #[.int .i64 0, .int .u8 0, .int .u8 0, .int .u8 0, .int .u8 0, .int .u8 0, .int .u8 0, .int .u8 0, .int .u8 0, .int .u8 0, .int .u8 0, .int .u8 0, .int .u8 0, .int .u8 0, .int .u8 0, .int .u8 0, .int .u8 0, .int .i64 0, .int .i64 0, .int .i64 0, .string ⟨#[]⟩, .slice none 0 0, .int .u8 0, .int .u8 0, .int .u8 0, .int .u8 0, .int .u8 0, .int .u8 0, .int .u8 0, .int .u8 0, .int .u8 0, .int .u8 0, .int .u8 0, .int .u8 0, .int .u8 0, .int .u8 0, .int .u8 0, .int .u8 0, .int .i64 0, .int .u8 0, .int .u8 0, .int .u8 0, .int .u8 0, .int .u8 0, .int .u8 0, .int .u8 0, .int .u8 0, .int .u8 0, .int .u8 0, .int .u8 0, .int .u8 0, .int .u8 0, .int .u8 0, .int .u8 0, .int .u8 0, .int .u8 0, .int .u8 0, .int .u8 0, .int .u8 0, .int .u8 0, .int .u8 0, .int .u8 0, .int .u8 0, .int .u8 0, .int .u8 0, .int .u8 0, .int .u8 0, .int .u8 0, .int .u8 0, .int .u8 0, .int .u8 0] from rfl]
 rw [this]
 simp [partsL, Value.cells, cells8, hd, opC, nums, z16, z32, List.replicate]
theorem setN (k n r : Int) (d : List Int) (hd : d.length = 16) : ((opC ⟨k, d, 0, 0, 0, ⟨#[]⟩, [], z16, 0, z32⟩ none 0).toArray.setIfInBounds 17 (.int .i64 n)).setIfInBounds 18 (.int .i64 r) = (opC ⟨k, d, n, r, 0, ⟨#[]⟩, [], z16, 0, z32⟩ none 0).toArray := by
 have hl : (nums .u8 d).length = 16 := by simp [nums, hd]
 simp only [List.setIfInBounds_toArray, opC]
 congr 1
 simp only [List.set_cons_succ, List.set_append, hl, Nat.lt_irrefl, if_false, Nat.reduceSub, Nat.reduceLT]
 rfl
theorem set4 (k n r no : Int) (d : List Int) (hd : d.length = 16) : (opC ⟨k, d, n, r, 0, ⟨#[]⟩, [], z16, 0, z32⟩ none 0).toArray.setIfInBounds 19 (.int .i64 no) = (opC ⟨k, d, n, r, no, ⟨#[]⟩, [], z16, 0, z32⟩ none 0).toArray := by
 have hl : (nums .u8 d).length = 16 := by simp [nums, hd]
 simp only [List.setIfInBounds_toArray, opC]
 congr 1
 simp only [List.set_cons_succ, List.set_append, hl, Nat.lt_irrefl, if_false, Nat.reduceSub, Nat.reduceLT]
 rfl
theorem built_zero : Try.prog.built 98 [] = some (opC zO none 0).toArray := by kernel_rfl
def OgQ (w : World) (r : OpT × Int × Bool) (e : Ending) (w' : World) : Prop :=
 (∃ A c, e = .returned (.tuple #[.agg (opC r.1 A c).toArray, .int .i64 r.2.1, .bool r.2.2]) ∧ Kd.R k67 67 w' w.heap.size (fun _ => True) (.slice A r.1.p.length c) r.1.p) ∧ Below w.heap.size w w'
theorem og_no {w W : World} {rb g : Nat} {os : Array Value} {s : Rd} (h : OgSt w W rb g os s) (cs : Array Value) (hcs : (opC zO none 0).toArray = cs) : OgQ w (zO, 0, false) (.returned (.tuple #[.agg cs, .int .i64 0, .bool false])) (W.setRow w.heap.size cs) :=
 ⟨⟨none, 0, by rw [hcs], Kd.R_nil _ _ _ _ _⟩, below_row h.rd.bel (Nat.le_refl _)⟩
theorem stGet_ex (g : Int × Int × Bool) (hu : ∃ gu : Nat, g.2.1 = (gu : Int) ∧ gu ≤ 10) : ∃ (sn sr : Int) (su : Nat) (si : Bool), stGetP g = ((sn, sr), (su : Int), si) ∧ su ≤ 10 := by
 obtain ⟨gu, e, h10⟩ := hu
 unfold stGetP
 split
 ·exact ⟨_, _, gu, true, by rw [e], h10⟩
 ·exact ⟨0, 0, 0, false, rfl, by decide⟩
theorem getP_nat {l : List Int} (hb : Bytes l) (hl : l.length ≤ 1000000) : ∃ (v : List S67) (n : Nat) (is : Bool), getP l = (v, (n : Int), is) ∧ n ≤ 1000000 ∧ v.length ≤ 60 := by
 rcases getP_is l hb hl with h | ⟨v, rest, e, hm, hq⟩
 ·exact ⟨[], 0, false, h, by decide, by decide⟩
 ·exact ⟨v, (putL v).length, true, hq, by have := congrArg List.length e; rw [List.length_append] at this; omega, ((mayL_iff v).1 hm).2.1⟩
theorem dget_call (l : List Int) (A : Option Addr) (c : Nat) (w : World) (hr : RdB w A l.length l) (hc : l.length ≤ c) (hb : Bytes l) (hl : l.length ≤ 1000000) (v : List S67) (n : Nat) (is : Bool) (hq : getP l = (v, (n : Int), is)) :
  Calls Try.prog 52 #[.slice A l.length c] w fun e w' => (∃ A2 c2, e = .returned (.tuple #[.slice A2 v.length c2, .int .i64 n, .bool is]) ∧ Kd.R k67 67 w' w.heap.size (fun _ => True) (.slice A2 v.length c2) v) ∧ Below w.heap.size w w' := by
 refine (delta_Get.calls (2 * l.length + 401) A c l v n is w hr hc (by rw [DGet_eq l hb hl _ (by omega), hq])).mono ?_
 rintro e w' ⟨u, rfl, ho, hb⟩
 obtain ⟨A2, c2, rfl⟩ := Kd.R_slice ho
 exact ⟨⟨A2, c2, rfl, ho⟩, hb⟩
theorem pc_types : ∀ q, q ∈ 67 :: k67.E → q ≠ 98 := fun q hq => by
 rcases List.mem_cons.1 hq with rfl | h
 ·decide
 ·exact absurd h (by have : k67.E = [] := rfl; rw [this]; simp)
theorem grown_sets {W0 : World} {g : Nat} : ∀ (vs : List Value) {W : World} (h : W0.grownBy W (some g)) (o : Nat), W0.grownBy (W.setCells g o vs) (some g)
 | [], _, h, _ => h
 | v :: r, _, h, o => grown_sets r (grown_set h o v) (o + 1)
set_option maxHeartbeats 8000000 in
theorem oget_call (A0 : Option Addr) (c0_ : Nat) (l : List Int) (w : World) (hr : RdB w A0 l.length l) (hc : l.length ≤ c0_) (hb : Bytes l) (hl : l.length ≤ 1000000) :
  Calls Try.prog 160 #[.slice A0 l.length c0_] w (OgQ w (getO l)) := by
 have hk : 0 ≤ (byteR ⟨l, false⟩).1 := by
  show 0 ≤ (skipR ⟨l, false⟩ 1 true).1.getD 0 0
  rw [List.getD_eq_getElem?_getD]
  cases hq : (skipR ⟨l, false⟩ 1 true).1[0]? with
  | none => exact Int.le_refl _
  | some b => exact (skip_byt (s := ⟨l, false⟩) hb 1 true b (List.mem_of_getElem? hq)).1
 have HR := am hr
 have HC := am hc
 have HB := am hb
 have HL := am hl
 have H0 : Aside0 (RoSt w ((w.alloc (.cells Try.zeroCells98 98)).alloc (.cells #[.slice A0 l.length c0_, .bool false] 240)) (w.heap.size + 1) ⟨l, false⟩) := ⟨by
  have hn := blk_new (w.alloc (.cells Try.zeroCells98 98)) (.cells #[.slice A0 l.length c0_, .bool false] 240)
  rw [alloc_size] at hn
  exact ⟨by omega, ⟨A0, c0_, hn, hc, hr⟩, hb, hl, below_alloc (below_alloc (Below.refl _ _) _) _⟩⟩
 have HZ0 := am (blk_alloc (blk_new w (.cells Try.zeroCells98 98)) (.cells #[.slice A0 l.length c0_, .bool false] 240))
 have HSZ0 : Aside0 (w.heap.size + 1 < ((w.alloc (.cells Try.zeroCells98 98)).alloc (.cells #[.slice A0 l.length c0_, .bool false] 240)).heap.size) := ⟨by rw [alloc_size, alloc_size]; omega⟩
 obtain ⟨s0, hs0⟩ : ∃ s0, (⟨l, false⟩ : Rd) = s0 := ⟨_, rfl⟩
 obtain ⟨kd, hkd⟩ : ∃ kd, (byteR s0).1 = kd := ⟨_, rfl⟩
 obtain ⟨s1, hs1⟩ : ∃ s1, (byteR s0).2 = s1 := ⟨_, rfl⟩
 obtain ⟨id, hid⟩ : ∃ id, (takeR 16 s1).1 = id := ⟨_, rfl⟩
 obtain ⟨s2, hs2⟩ : ∃ s2, (takeR 16 s1).2 = s2 := ⟨_, rfl⟩
 have HIDL : Aside0 (id.length = 16) := ⟨by rw [← hid]; exact skipR_len _ _ _⟩
 have HKD : Aside0 ((byteR s0) = (kd, s1)) := ⟨by rw [← hkd, ← hs1]⟩
 have HID : Aside0 ((takeR 16 s1) = (id, s2)) := ⟨by rw [← hid, ← hs2]⟩
 rw [hs0, hkd] at hk
 have HBB := am hk
 have HS0 := am hs0
 rw [hs0] at H0
 obtain ⟨os, hos⟩ : ∃ os, (opC ⟨kd, id, 0, 0, 0, ⟨#[]⟩, [], z16, 0, z32⟩ none 0).toArray = os := ⟨_, rfl⟩
 have HOS := am hos
 have HBU := am (built_head kd id HIDL.out)
 have hoz : os.size = 71 := by rw [← hos, List.size_toArray, opC_len ⟨HIDL.out, rfl, rfl⟩]
 have HO1 : Aside0 (os.all (·.oneCell') = true) := ⟨by rw [← hos]; exact opC_one _ _ _⟩
 rw [hos] at HBU
 have k0 : os[0]? = some (.int .i64 kd) := by rw [← hos]; rfl
 have K0 := am k0
 clear hr hc hb hl hs0 hkd hs1 hid hs2 hos k0 hk
 go_enter Try.func160, Try.ntmps160
 go_wp2_with fail
 refine (oone_call w _ (w.heap.size + 1) s0 H0.out).mono ?_
 rintro e_ w1 ⟨rfl, hst1, hg1⟩
 rw [HKD.out] at hst1 ⊢
 have H1 := am hst1
 have HZ1 := am (blk_grown HZ0.out hg1 (fun he => by injection he with he; omega))
 have HSZ1 : Aside0 (w.heap.size + 1 < w1.heap.size) := ⟨Nat.lt_of_lt_of_le HSZ0.out hg1.size⟩
 clear hst1 hg1
 dsimp only
 go_wp2_with fail
 refine (oid_call w _ (w.heap.size + 1) s1 H1.out).mono ?_
 rintro e_ w2 ⟨rfl, hst2, hg2⟩
 rw [HID.out] at hst2 ⊢
 have HSZ2 : Aside0 (w.heap.size + 1 < w2.heap.size) := ⟨Nat.lt_of_lt_of_le HSZ1.out hg2.size⟩
 have H2 : Aside0 (OgSt w (w2.alloc (.cells os 98)) (w.heap.size + 1) w2.heap.size os s2) := ⟨⟨hst2.below (below_alloc (Below.refl _ _) _), blk_new w2 _, hoz, blk_alloc (blk_grown HZ1.out hg2 (fun he => by injection he with he; omega)) _, by have := HSZ2.out; omega, by omega, by have := HSZ2.out; omega⟩⟩
 have hsn := store_new w2 Try.zeroCells98 os 98 (by rw [hoz]; kernel_rfl) HO1.out
 obtain ⟨A2, c2, x0, x1, hc2, hr2⟩ := H2.out.rcell
 have HR2 := am (And.intro hc2 hr2)
 clear hst2 hg2 hc2 hr2
 dsimp only
 obtain ⟨gn, gu, gi, hget, hgn, hgu, hg10⟩ := getL_nat H2.out.rd.byt H2.out.rd.len
 have HG : Aside0 (IsGet s2.b ((gn : Int), (gu : Int), gi)) := ⟨by have := getL_is H2.out.rd.byt (by have := H2.out.rd.len; omega); rwa [hget] at this⟩
 obtain ⟨sn, sr, su, si, hsg, hsu⟩ := stGet_ex ((gn : Int), (gu : Int), gi) ⟨gu, rfl, hg10⟩
 obtain ⟨s3, hs3⟩ : ∃ s3, (skipR s2 su si).2 = s3 := ⟨_, rfl⟩
 have HS : Aside0 (stR s2 = ((sn, sr), s3)) := ⟨by unfold stR; rw [hget, hsg]; dsimp only; rw [Int.toNat_natCast, hs3]⟩
 have hstg := stamp_Get.calls (2 * s2.b.length + 3) A2 c2 s2.b gn gu gi (w2.alloc (.cells os 98)) HR2.out.2 HR2.out.1 (Get_eq HG.out H2.out.rd.byt (by have := H2.out.rd.len; omega) _ (by omega)) hgn
 rw [hsg] at hstg
 have HST := am hstg
 have HSU := am hsu
 have HS3 := am hs3
 clear hget hgn hgu hg10 hsg hsu hs3 hstg
 go_wp2_with (first
  | ((with_reducible refine gate_dst (N := 23) rfl ?_); refine wpList_build_cells rfl 98 _ rfl os ?hb ?_; case hb => (simp only [List.map_toArray, List.map_cons, List.map_nil]; exact HBU.out))
  | fail)
 refine HST.out.mono ?_
 rintro e_ w3 ⟨rfl, hb3⟩
 have H3 := am ((H2.out.below hb3).below (below_alloc (Below.refl w3.heap.size w3) (.cells #[.int .i64 sn, .int .i64 sr] 96)))
 have HW3 : Aside0 (w2.heap.size < w3.heap.size) := ⟨by have := hb3.size; rw [alloc_size] at this; omega⟩
 clear hb3 x0 x1 hsn
 dsimp only
 go_wp2_with fail
 refine (oskip_call w _ (w.heap.size + 1) s2 su si H3.out.rd (by have := HSU.out; omega)).mono ?_
 rintro e_ w4 ⟨⟨A4, c4, rfl, _, _⟩, hst4, hg4⟩
 rw [HS3.out] at hst4
 have H4 := am (H3.out.read hst4 hg4)
 have HQ4 := am (blk_grown (blk_new w3 (.cells #[.int .i64 sn, .int .i64 sr] 96)) hg4 (fun he => by injection he with he; have := HW3.out; have := HSZ2.out; omega))
 have q0 := (blk_cell HQ4.out 0).trans rfl
 have q1 := (blk_cell HQ4.out 1).trans rfl
 have z17 := H4.out.fro 17
 have z18 := H4.out.fro 18
 obtain ⟨_, o17, o18, _⟩ := opC_at (x := ⟨kd, id, 0, 0, 0, ⟨#[]⟩, [], z16, 0, z32⟩) ⟨HIDL.out, rfl, rfl⟩ none 0
 rw [HOS.out] at o17 o18
 have u17 := (H4.out.cell 17).trans o17
 have u18 := (H4.out.cell 18).trans o18
 obtain ⟨_, _, _, n19, n20, n21, n38⟩ := opC_at (x := ⟨kd, id, sn, sr, 0, ⟨#[]⟩, [], z16, 0, z32⟩) ⟨HIDL.out, rfl, rfl⟩ none 0
 obtain ⟨on, hon⟩ : ∃ on, (opC ⟨kd, id, sn, sr, 0, ⟨#[]⟩, [], z16, 0, z32⟩ none 0).toArray = on := ⟨_, rfl⟩
 have HON := am hon
 rw [hon] at n19 n20 n21 n38
 have HNS := am (And.intro n19 (And.intro n20 (And.intro n21 n38)))
 have H5 : Aside0 (OgSt w ((w4.setCell ⟨w2.heap.size, 17, none⟩ (.int .i64 sn)).setCell ⟨w2.heap.size, 18, none⟩ (.int .i64 sr)) (w.heap.size + 1) w2.heap.size on s3) := ⟨by
  have := (H4.out.put 17 (.int .i64 sn)).put 18 (.int .i64 sr)
  rw [← HOS.out, setN kd sn sr id HIDL.out, hon] at this
  exact this⟩
 have kn : on[0]? = some (.int .i64 kd) := by rw [← hon]; rfl
 have KN := am kn
 have y0 := (H5.out.cell 0).trans kn
 clear hst4 hg4 hon kn o17 o18 n19 n20 n21 n38
 by_cases hk : kd = 0
 ·have c0 : (kd != 0) = false := by rw [hk]; rfl
  have c00 : (kd == 0) = true := by rw [hk]; rfl
  have c1 : (kd == 1) = false := by rw [hk]; rfl
  have c2 : (kd == 2) = false := by rw [hk]; rfl
  have c3 : (kd == 3) = false := by rw [hk]; rfl
  have HKK := am hk
  clear hk
  have H9 : Aside0 (OgSt w ((w4.setCell ⟨w2.heap.size, 17, none⟩ (.int .i64 sn)).setCell ⟨w2.heap.size, 18, none⟩ (.int .i64 sr)) (w.heap.size + 1) w2.heap.size (opC ⟨kd, id, sn, sr, 0, ⟨#[]⟩, [], z16, 0, z32⟩ none 0).toArray s3) := ⟨by
   have := H5.out
   rw [← HON.out] at this
   exact this⟩
  have HFX : Aside0 (opR ⟨l, false⟩ = (⟨kd, id, sn, sr, 0, ⟨#[]⟩, [], z16, 0, z32⟩, s3)) := ⟨by
   rw [HS0.out]
   unfold opR opT seqR
   dsimp only
   rw [HKD.out]
   dsimp only
   rw [HID.out]
   dsimp only
   rw [HS.out]
   dsimp only
   unfold tailR
   rw [if_pos HKK.out]
   unfold opU
   rfl⟩
  have HXL : Aside0 ((⟨kd, id, sn, sr, 0, ⟨#[]⟩, [], z16, 0, z32⟩ : OpT).id.length = 16 ∧ (⟨kd, id, sn, sr, 0, ⟨#[]⟩, [], z16, 0, z32⟩ : OpT).fro.length = 16 ∧ (⟨kd, id, sn, sr, 0, ⟨#[]⟩, [], z16, 0, z32⟩ : OpT).d.length = 32) := ⟨HIDL.out, rfl, rfl⟩
  have HRR : Aside0 (Kd.R k67 67 ((w4.setCell ⟨w2.heap.size, 17, none⟩ (.int .i64 sn)).setCell ⟨w2.heap.size, 18, none⟩ (.int .i64 sr)) w.heap.size (fun _ => True) (.slice none (⟨kd, id, sn, sr, 0, ⟨#[]⟩, [], z16, 0, z32⟩ : OpT).p.length 0) (⟨kd, id, sn, sr, 0, ⟨#[]⟩, [], z16, 0, z32⟩ : OpT).p) := ⟨Kd.R_nil _ _ _ _ _⟩
  have HRC : Aside0 ((⟨kd, id, sn, sr, 0, ⟨#[]⟩, [], z16, 0, z32⟩ : OpT).p.length ≤ 0 ∧ Kd.C k67 ((w4.setCell ⟨w2.heap.size, 17, none⟩ (.int .i64 sn)).setCell ⟨w2.heap.size, 18, none⟩ (.int .i64 sr)) none (⟨kd, id, sn, sr, 0, ⟨#[]⟩, [], z16, 0, z32⟩ : OpT).p.length (⟨kd, id, sn, sr, 0, ⟨#[]⟩, [], z16, 0, z32⟩ : OpT).p) := ⟨Nat.le_refl _, ⟨rfl, by show (0 : Nat) ≤ 9223372036854775807; decide, fun h => absurd h (by show ¬ (0 < 0); decide)⟩⟩
  have HPL : Aside0 ((⟨kd, id, sn, sr, 0, ⟨#[]⟩, [], z16, 0, z32⟩ : OpT).p.length ≤ 60) := ⟨by show (0 : Nat) ≤ 60; decide⟩
  obtain ⟨xo, hxo⟩ : ∃ xo : OpT, (⟨kd, id, sn, sr, 0, ⟨#[]⟩, [], z16, 0, z32⟩ : OpT) = xo := ⟨_, rfl⟩
  rw [hxo] at H9 HFX HXL HRR HRC HPL
  clear hxo
  obtain ⟨oa, hoa⟩ : ∃ oa, (opC xo none 0).toArray = oa := ⟨_, rfl⟩
  have HOA := am hoa
  rw [hoa] at H9
  obtain ⟨A9, c9, v0, v1, hc9, hr9⟩ := H9.out.rcell
  have HINF : Aside0 ((Try.prog.info? 98).map (·.size) = some oa.size) := ⟨by rw [H9.out.sz]; exact infoOp⟩
  have hm9 := mayo_call xo none 0 ((w4.setCell ⟨w2.heap.size, 17, none⟩ (.int .i64 sn)).setCell ⟨w2.heap.size, 18, none⟩ (.int .i64 sr)) HXL.out HRC.out.1 HRC.out.2 (by have := HPL.out; omega)
  rw [hoa] at hm9
  have HM9 := am hm9
  have HR9 := am (And.intro hc9 hr9)
  obtain ⟨zs, hzs⟩ : ∃ zs, (opC zO none 0).toArray = zs := ⟨_, rfl⟩
  have HZS := am hzs
  have hbz := built_zero
  rw [hzs] at hbz
  have HBZ := am hbz
  have hzz : zs.size = 71 := by rw [← hzs, List.size_toArray, opC_len ⟨rfl, rfl, rfl⟩]
  have HZ1 : Aside0 (zs.all (·.oneCell') = true) := ⟨by rw [← hzs]; exact opC_one _ _ _⟩
  have hoz9 := H9.out.sz
  have HO9 : Aside0 (oa.all (·.oneCell') = true) := ⟨by rw [← hoa]; exact opC_one _ _ _⟩
  clear hoa hm9 hc9 hr9 hzs hbz
  cases hbad : s3.bad
  ·rw [hbad] at v1
   cases hmay : mayO xo
   ·have HGE : Aside0 (getO l = (zO, 0, false)) := ⟨by unfold getO; rw [HFX.out]; dsimp only; rw [if_pos (.inr hmay)]⟩
    rw [hmay] at HM9
    clear hmay hbad
    go_wp2_with (first
     | ((with_reducible refine gate_dst (N := 100) rfl ?_); (refine wpList_load_row_g (by rfl) 98 (.tmp 6) rfl w2.heap.size rfl 98 oa (0, 0) _ H9.out.op Try.underlying98 rfl HINF.out ?_))
     | fail)
    refine HM9.out.mono ?_
    rintro e_ wA ⟨rfl, hbA⟩
    have HA := am (H9.out.below hbA)
    clear hbA v0 v1
    have hst := storeA (cs := zs) HA.out.res (by rw [hzz]; kernel_rfl) HZ1.out
    go_wp2_with (first
     | ((with_reducible refine gate_dst (N := 104) rfl ?_); refine wpList_build_cells rfl 98 _ rfl zs ?hb ?_; case hb => (simp only [List.map_toArray, List.map_nil]; exact HBZ.out))
     | fail)
    rw [HGE.out]
    refine bodyPost_ret (results_ctt rfl _ _ w.heap.size 98 zs (0, 0) _ rfl (setRow_heap _ _ _ _ _ _ HA.out.res) Try.underlying98 rfl (by rw [hzz]; exact infoOp)) rfl ?_
    exact og_no HA.out zs HZS.out
   ·have HGE : Aside0 (getO l = (xo, (l.length : Int) - (s3.b.length : Int), true)) := ⟨by unfold getO; rw [HFX.out]; dsimp only; rw [if_neg (by rw [hbad, hmay]; simp)]⟩
    rw [hmay] at HM9
    clear hmay hbad
    have HLE : Aside0 (s3.b.length ≤ l.length) := ⟨by
     obtain ⟨k_, hk_⟩ := op_tame.suf ⟨l, false⟩
     rw [HFX.out] at hk_
     have hk2 : s3.b = l.drop k_ := hk_
     rw [hk2, List.length_drop]
     exact Nat.sub_le _ _⟩
    have hws : wrap64 ((l.length : Int) - (s3.b.length : Int)) = (l.length : Int) - (s3.b.length : Int) := by have := HLE.out; have := HL.out; unfold wrap64; omega
    have hws2 : IntKind.i64.wrap ((l.length : Int) - (s3.b.length : Int)) = (l.length : Int) - (s3.b.length : Int) := by have := HLE.out; have := HL.out; simp [IntKind.wrap, IntKind.bits, IntKind.signed]; omega
    go_wp2_with (first
     | ((with_reducible refine gate_dst (N := 100) rfl ?_); (refine wpList_load_row_g (by rfl) 98 (.tmp 6) rfl w2.heap.size rfl 98 oa (0, 0) _ H9.out.op Try.underlying98 rfl HINF.out ?_))
     | fail)
    refine HM9.out.mono ?_
    rintro e_ wA ⟨rfl, hbA⟩
    have HA := am (H9.out.below hbA)
    have HRA := am (Kd.R_below HRR.out hbA)
    have HV := am v0
    clear hbA v0 v1
    go_wp2_with fail
    have HAD := am (HA.out.below (below_drew (Below.refl _ _)))
    have HRAD := am (Kd.R_below HRA.out (below_drew (Below.refl _ _)))
    obtain ⟨Aa, ca, va, _, _, _⟩ := HAD.out.rcell
    have HVA := am va
    have HFIN : Aside0 (OgQ w (xo, (l.length : Int) - (s3.b.length : Int), true) (.returned (.tuple #[.agg oa, .int .i64 ((l.length : Int) - (s3.b.length : Int)), .bool true])) (wA.drew.setRow w.heap.size oa)) := ⟨⟨⟨_, _, by rw [HOA.out], R_row HRAD.out HAD.out.res pc_types oa⟩, below_row HAD.out.rd.bel (Nat.le_refl _)⟩⟩
    clear va
    refine wp_region_held_drew (S := (fun W => W.heap[w2.heap.size]? = some (.cells oa 98 (0, 0)) ∧ W.cell? ⟨w.heap.size + 1, 0, none⟩ = some (.slice Aa s3.b.length ca))) (by kernel_rfl) (⟨HAD.out.op, HVA.out⟩) (fun hHeld => ?_)
    refine tq (i := 0) (v := ?_) ?hy ?_
    case hy => (intro W_ hW_; refine Eq.trans (exec_load_row 98 (.tmp 6) ?_ w2.heap.size ?_ 98 oa (0, 0) _ hW_.1 Try.underlying98 rfl HINF.out) ?_ <;> (first | with_reducible rfl | rfl))
    try simp only [sp]
    refine th (i := 1) ?_
    refine th (i := 2) ?_
    refine th (i := 3) ?_
    refine th (i := 4) ?_
    refine th (i := 5) ?_
    refine tu (i := 6) (fun W_ hW_ => hW_.2) ?_
    refine th (i := 7) ?_
    refine th (i := 8) ?_
    refine tr (i := 9) (fun K hK => ?_)
    have hst := storeA (cs := oa) HAD.out.res (by rw [hoz9]; kernel_rfl) HO9.out
    go_wp2_with fail
    refine hK.out _ _ (⟨(setRow_other _ _ _ _ (by have := HAD.out.ne3; omega)).trans hHeld.1, (World.cell?_of_block (setRow_other _ _ _ _ (by show w.heap.size + 1 ≠ w.heap.size; omega))).trans hHeld.2⟩) ?_
    clear hK K hHeld
    intro hHeld
    try simp only [sp]
    refine th (i := 10) ?_
    refine th (i := 11) ?_
    refine td ?_
    have HF := am hHeld
    clear hHeld
    go_wp2_with fail
    rw [HGE.out]
    refine bodyPost_ret (results_ctt rfl _ _ w.heap.size 98 oa (0, 0) _ rfl (setRow_heap _ _ _ _ _ _ HAD.out.res) Try.underlying98 rfl HINF.out) rfl ?_
    exact HFIN.out
  ·rw [hbad] at v1
   have HGE : Aside0 (getO l = (zO, 0, false)) := ⟨by unfold getO; rw [HFX.out]; dsimp only; rw [if_pos (.inl hbad)]⟩
   clear hbad
   have hst := storeA (cs := zs) H9.out.res (by rw [hzz]; kernel_rfl) HZ1.out
   go_wp2_with (first
    | ((with_reducible refine gate_dst (N := 104) rfl ?_); refine wpList_build_cells rfl 98 _ rfl zs ?hb ?_; case hb => (simp only [List.map_toArray, List.map_nil]; exact HBZ.out))
    | fail)
   rw [HGE.out]
   refine bodyPost_ret (results_ctt rfl _ _ w.heap.size 98 zs (0, 0) _ rfl (setRow_heap _ _ _ _ _ _ H9.out.res) Try.underlying98 rfl (by rw [hzz]; exact infoOp)) rfl ?_
   exact og_no H9.out zs HZS.out
 have HN0 := am hk
 clear hk
 by_cases hk : kd = 1
 ·have c0 : (kd != 0) = true := by rw [hk]; rfl
  have c00 : (kd == 0) = false := by rw [hk]; rfl
  have c1 : (kd == 1) = true := by rw [hk]; rfl
  have HKK := am hk
  clear hk
  go_wp2_with fail
  refine (oone_call w _ (w.heap.size + 1) s3 H5.out.rd).mono ?_
  rintro e_ w6 ⟨rfl, hst6, hg6⟩
  obtain ⟨no, hno⟩ : ∃ no, (byteR s3).1 = no := ⟨_, rfl⟩
  obtain ⟨s4, hs4⟩ : ∃ s4, (byteR s3).2 = s4 := ⟨_, rfl⟩
  have HNO : Aside0 (byteR s3 = (no, s4)) := ⟨by rw [← hno, ← hs4]⟩
  rw [hs4] at hst6
  rw [hno]
  have H6a := am (H5.out.read hst6 hg6)
  have H6 := am (H6a.out.put 19 (.int .i64 no))
  have z19 := H6a.out.fro 19
  have u19 := (H6a.out.cell 19).trans HNS.out.1
  have y6 := (H6.out.cell 0).trans ((show (on.setIfInBounds 19 (.int .i64 no))[0]? = on[0]? from Array.getElem?_setIfInBounds_ne (by decide)).trans KN.out)
  clear hst6 hg6 hno hs4 y0 z17 z18 u17 u18 q0 q1
  obtain ⟨A6, c6, x0, x1, hc6, hr6⟩ := H6.out.rcell
  obtain ⟨v, n, is, hq, hn⟩ := textQ_nat H6.out.rd.byt H6.out.rd.len
  have hrd := read_call (getL_is H6.out.rd.byt (by have := H6.out.rd.len; omega)) H6.out.rd.byt (by have := H6.out.rd.len; omega) 200 A6 c6 (w6.setCell ⟨w2.heap.size, 19, none⟩ (.int .i64 no)) hr6 hc6
  have hq' : readR s4.b (getL s4.b) 200 = (v, (n : Int), is) := hq
  rw [hq'] at hrd
  have HRD := am hrd
  obtain ⟨s5, hs5⟩ : ∃ s5, (skipR s4 n is).2 = s5 := ⟨_, rfl⟩
  have HTX : Aside0 (textR s4 = (v, s5)) := ⟨by
   unfold textR parR
   rw [hq]
   dsimp only
   rw [Int.toNat_natCast, hs5]⟩
  have HN := am hn
  have HS5 := am hs5
  clear hq hn hrd hq' hs5 hc6 hr6
  go_wp2_with fail
  refine HRD.out.mono ?_
  rintro e_ w7 ⟨rfl, hb7⟩
  have H7 := am (H6.out.below hb7)
  clear hb7 x0 x1 y6 z19 u19
  go_wp2_with fail
  refine (oskip_call w _ (w.heap.size + 1) s4 n is H7.out.rd HN.out).mono ?_
  rintro e_ w8 ⟨⟨A8, c8, rfl, _, _⟩, hst8, hg8⟩
  rw [HS5.out] at hst8
  have H8a := am (H7.out.read hst8 hg8)
  have H8 := am (H8a.out.put 20 (.string v))
  have z20 := H8a.out.fro 20
  have u20 := (H8a.out.cell 20).trans ((show (on.setIfInBounds 19 (.int .i64 no))[20]? = on[20]? from Array.getElem?_setIfInBounds_ne (by decide)).trans HNS.out.2.1)
  clear hst8 hg8
  have H9 : Aside0 (OgSt w (w8.setCell ⟨w2.heap.size, 20, none⟩ (.string v)) (w.heap.size + 1) w2.heap.size (opC ⟨kd, id, sn, sr, no, v, [], z16, 0, z32⟩ none 0).toArray s5) := ⟨by
   have := H8.out
   rw [← HON.out, set1 kd sn sr no v id HIDL.out] at this
   exact this⟩
  have HFX : Aside0 (opR ⟨l, false⟩ = (⟨kd, id, sn, sr, no, v, [], z16, 0, z32⟩, s5)) := ⟨by
   rw [HS0.out]
   unfold opR opT seqR
   dsimp only
   rw [HKD.out]
   dsimp only
   rw [HID.out]
   dsimp only
   rw [HS.out]
   dsimp only
   unfold tailR
   rw [if_neg (by rw [HKK.out]; decide), if_pos HKK.out]
   unfold t1R seqR
   dsimp only
   rw [HNO.out]
   dsimp only
   rw [HTX.out]
   unfold opU
   rfl⟩
  have HXL : Aside0 ((⟨kd, id, sn, sr, no, v, [], z16, 0, z32⟩ : OpT).id.length = 16 ∧ (⟨kd, id, sn, sr, no, v, [], z16, 0, z32⟩ : OpT).fro.length = 16 ∧ (⟨kd, id, sn, sr, no, v, [], z16, 0, z32⟩ : OpT).d.length = 32) := ⟨HIDL.out, rfl, rfl⟩
  have HRR : Aside0 (Kd.R k67 67 (w8.setCell ⟨w2.heap.size, 20, none⟩ (.string v)) w.heap.size (fun _ => True) (.slice none (⟨kd, id, sn, sr, no, v, [], z16, 0, z32⟩ : OpT).p.length 0) (⟨kd, id, sn, sr, no, v, [], z16, 0, z32⟩ : OpT).p) := ⟨Kd.R_nil _ _ _ _ _⟩
  have HRC : Aside0 ((⟨kd, id, sn, sr, no, v, [], z16, 0, z32⟩ : OpT).p.length ≤ 0 ∧ Kd.C k67 (w8.setCell ⟨w2.heap.size, 20, none⟩ (.string v)) none (⟨kd, id, sn, sr, no, v, [], z16, 0, z32⟩ : OpT).p.length (⟨kd, id, sn, sr, no, v, [], z16, 0, z32⟩ : OpT).p) := ⟨Nat.le_refl _, ⟨rfl, by show (0 : Nat) ≤ 9223372036854775807; decide, fun h => absurd h (by show ¬ (0 < 0); decide)⟩⟩
  have HPL : Aside0 ((⟨kd, id, sn, sr, no, v, [], z16, 0, z32⟩ : OpT).p.length ≤ 60) := ⟨by show (0 : Nat) ≤ 60; decide⟩
  obtain ⟨xo, hxo⟩ : ∃ xo : OpT, (⟨kd, id, sn, sr, no, v, [], z16, 0, z32⟩ : OpT) = xo := ⟨_, rfl⟩
  rw [hxo] at H9 HFX HXL HRR HRC HPL
  clear hxo
  obtain ⟨oa, hoa⟩ : ∃ oa, (opC xo none 0).toArray = oa := ⟨_, rfl⟩
  have HOA := am hoa
  rw [hoa] at H9
  obtain ⟨A9, c9, v0, v1, hc9, hr9⟩ := H9.out.rcell
  have HINF : Aside0 ((Try.prog.info? 98).map (·.size) = some oa.size) := ⟨by rw [H9.out.sz]; exact infoOp⟩
  have hm9 := mayo_call xo none 0 (w8.setCell ⟨w2.heap.size, 20, none⟩ (.string v)) HXL.out HRC.out.1 HRC.out.2 (by have := HPL.out; omega)
  rw [hoa] at hm9
  have HM9 := am hm9
  have HR9 := am (And.intro hc9 hr9)
  obtain ⟨zs, hzs⟩ : ∃ zs, (opC zO none 0).toArray = zs := ⟨_, rfl⟩
  have HZS := am hzs
  have hbz := built_zero
  rw [hzs] at hbz
  have HBZ := am hbz
  have hzz : zs.size = 71 := by rw [← hzs, List.size_toArray, opC_len ⟨rfl, rfl, rfl⟩]
  have HZ1 : Aside0 (zs.all (·.oneCell') = true) := ⟨by rw [← hzs]; exact opC_one _ _ _⟩
  have hoz9 := H9.out.sz
  have HO9 : Aside0 (oa.all (·.oneCell') = true) := ⟨by rw [← hoa]; exact opC_one _ _ _⟩
  clear hoa hm9 hc9 hr9 hzs hbz
  cases hbad : s5.bad
  ·rw [hbad] at v1
   cases hmay : mayO xo
   ·have HGE : Aside0 (getO l = (zO, 0, false)) := ⟨by unfold getO; rw [HFX.out]; dsimp only; rw [if_pos (.inr hmay)]⟩
    rw [hmay] at HM9
    clear hmay hbad
    go_wp2_with (first
     | ((with_reducible refine gate_dst (N := 100) rfl ?_); (refine wpList_load_row_g (by rfl) 98 (.tmp 6) rfl w2.heap.size rfl 98 oa (0, 0) _ H9.out.op Try.underlying98 rfl HINF.out ?_))
     | fail)
    refine HM9.out.mono ?_
    rintro e_ wA ⟨rfl, hbA⟩
    have HA := am (H9.out.below hbA)
    clear hbA v0 v1
    have hst := storeA (cs := zs) HA.out.res (by rw [hzz]; kernel_rfl) HZ1.out
    go_wp2_with (first
     | ((with_reducible refine gate_dst (N := 104) rfl ?_); refine wpList_build_cells rfl 98 _ rfl zs ?hb ?_; case hb => (simp only [List.map_toArray, List.map_nil]; exact HBZ.out))
     | fail)
    rw [HGE.out]
    refine bodyPost_ret (results_ctt rfl _ _ w.heap.size 98 zs (0, 0) _ rfl (setRow_heap _ _ _ _ _ _ HA.out.res) Try.underlying98 rfl (by rw [hzz]; exact infoOp)) rfl ?_
    exact og_no HA.out zs HZS.out
   ·have HGE : Aside0 (getO l = (xo, (l.length : Int) - (s5.b.length : Int), true)) := ⟨by unfold getO; rw [HFX.out]; dsimp only; rw [if_neg (by rw [hbad, hmay]; simp)]⟩
    rw [hmay] at HM9
    clear hmay hbad
    have HLE : Aside0 (s5.b.length ≤ l.length) := ⟨by
     obtain ⟨k_, hk_⟩ := op_tame.suf ⟨l, false⟩
     rw [HFX.out] at hk_
     have hk2 : s5.b = l.drop k_ := hk_
     rw [hk2, List.length_drop]
     exact Nat.sub_le _ _⟩
    have hws : wrap64 ((l.length : Int) - (s5.b.length : Int)) = (l.length : Int) - (s5.b.length : Int) := by have := HLE.out; have := HL.out; unfold wrap64; omega
    have hws2 : IntKind.i64.wrap ((l.length : Int) - (s5.b.length : Int)) = (l.length : Int) - (s5.b.length : Int) := by have := HLE.out; have := HL.out; simp [IntKind.wrap, IntKind.bits, IntKind.signed]; omega
    go_wp2_with (first
     | ((with_reducible refine gate_dst (N := 100) rfl ?_); (refine wpList_load_row_g (by rfl) 98 (.tmp 6) rfl w2.heap.size rfl 98 oa (0, 0) _ H9.out.op Try.underlying98 rfl HINF.out ?_))
     | fail)
    refine HM9.out.mono ?_
    rintro e_ wA ⟨rfl, hbA⟩
    have HA := am (H9.out.below hbA)
    have HRA := am (Kd.R_below HRR.out hbA)
    have HV := am v0
    clear hbA v0 v1
    go_wp2_with fail
    have HAD := am (HA.out.below (below_drew (Below.refl _ _)))
    have HRAD := am (Kd.R_below HRA.out (below_drew (Below.refl _ _)))
    obtain ⟨Aa, ca, va, _, _, _⟩ := HAD.out.rcell
    have HVA := am va
    have HFIN : Aside0 (OgQ w (xo, (l.length : Int) - (s5.b.length : Int), true) (.returned (.tuple #[.agg oa, .int .i64 ((l.length : Int) - (s5.b.length : Int)), .bool true])) (wA.drew.setRow w.heap.size oa)) := ⟨⟨⟨_, _, by rw [HOA.out], R_row HRAD.out HAD.out.res pc_types oa⟩, below_row HAD.out.rd.bel (Nat.le_refl _)⟩⟩
    clear va
    refine wp_region_held_drew (S := (fun W => W.heap[w2.heap.size]? = some (.cells oa 98 (0, 0)) ∧ W.cell? ⟨w.heap.size + 1, 0, none⟩ = some (.slice Aa s5.b.length ca))) (by kernel_rfl) (⟨HAD.out.op, HVA.out⟩) (fun hHeld => ?_)
    refine tq (i := 0) (v := ?_) ?hy ?_
    case hy => (intro W_ hW_; refine Eq.trans (exec_load_row 98 (.tmp 6) ?_ w2.heap.size ?_ 98 oa (0, 0) _ hW_.1 Try.underlying98 rfl HINF.out) ?_ <;> (first | with_reducible rfl | rfl))
    try simp only [sp]
    refine th (i := 1) ?_
    refine th (i := 2) ?_
    refine th (i := 3) ?_
    refine th (i := 4) ?_
    refine th (i := 5) ?_
    refine tu (i := 6) (fun W_ hW_ => hW_.2) ?_
    refine th (i := 7) ?_
    refine th (i := 8) ?_
    refine tr (i := 9) (fun K hK => ?_)
    have hst := storeA (cs := oa) HAD.out.res (by rw [hoz9]; kernel_rfl) HO9.out
    go_wp2_with fail
    refine hK.out _ _ (⟨(setRow_other _ _ _ _ (by have := HAD.out.ne3; omega)).trans hHeld.1, (World.cell?_of_block (setRow_other _ _ _ _ (by show w.heap.size + 1 ≠ w.heap.size; omega))).trans hHeld.2⟩) ?_
    clear hK K hHeld
    intro hHeld
    try simp only [sp]
    refine th (i := 10) ?_
    refine th (i := 11) ?_
    refine td ?_
    have HF := am hHeld
    clear hHeld
    go_wp2_with fail
    rw [HGE.out]
    refine bodyPost_ret (results_ctt rfl _ _ w.heap.size 98 oa (0, 0) _ rfl (setRow_heap _ _ _ _ _ _ HAD.out.res) Try.underlying98 rfl HINF.out) rfl ?_
    exact HFIN.out
  ·rw [hbad] at v1
   have HGE : Aside0 (getO l = (zO, 0, false)) := ⟨by unfold getO; rw [HFX.out]; dsimp only; rw [if_pos (.inl hbad)]⟩
   clear hbad
   have hst := storeA (cs := zs) H9.out.res (by rw [hzz]; kernel_rfl) HZ1.out
   go_wp2_with (first
    | ((with_reducible refine gate_dst (N := 104) rfl ?_); refine wpList_build_cells rfl 98 _ rfl zs ?hb ?_; case hb => (simp only [List.map_toArray, List.map_nil]; exact HBZ.out))
    | fail)
   rw [HGE.out]
   refine bodyPost_ret (results_ctt rfl _ _ w.heap.size 98 zs (0, 0) _ rfl (setRow_heap _ _ _ _ _ _ H9.out.res) Try.underlying98 rfl (by rw [hzz]; exact infoOp)) rfl ?_
   exact og_no H9.out zs HZS.out
 have HN1 := am hk
 clear hk
 by_cases hk : kd = 2
 ·have c0 : (kd != 0) = true := by rw [hk]; rfl
  have c00 : (kd == 0) = false := by rw [hk]; rfl
  have c1 : (kd == 1) = false := by rw [hk]; rfl
  have c2 : (kd == 2) = true := by rw [hk]; rfl
  have HKK := am hk
  clear hk
  go_wp2_with fail
  refine (oone_call w _ (w.heap.size + 1) s3 H5.out.rd).mono ?_
  rintro e_ w6 ⟨rfl, hst6, hg6⟩
  obtain ⟨no, hno⟩ : ∃ no, (byteR s3).1 = no := ⟨_, rfl⟩
  obtain ⟨s4, hs4⟩ : ∃ s4, (byteR s3).2 = s4 := ⟨_, rfl⟩
  have HNO : Aside0 (byteR s3 = (no, s4)) := ⟨by rw [← hno, ← hs4]⟩
  rw [hs4] at hst6
  rw [hno]
  have H6a := am (H5.out.read hst6 hg6)
  have H6 := am (H6a.out.put 19 (.int .i64 no))
  have z19 := H6a.out.fro 19
  have u19 := (H6a.out.cell 19).trans HNS.out.1
  have y6 := (H6.out.cell 0).trans ((show (on.setIfInBounds 19 (.int .i64 no))[0]? = on[0]? from Array.getElem?_setIfInBounds_ne (by decide)).trans KN.out)
  clear hst6 hg6 hno hs4 y0 z17 z18 u17 u18 q0 q1
  obtain ⟨fr, hfr⟩ : ∃ fr, (takeR 16 s4).1 = fr := ⟨_, rfl⟩
  obtain ⟨s5, hs5⟩ : ∃ s5, (takeR 16 s4).2 = s5 := ⟨_, rfl⟩
  obtain ⟨fno, hfno⟩ : ∃ fno, (byteR s5).1 = fno := ⟨_, rfl⟩
  obtain ⟨s6, hs6⟩ : ∃ s6, (byteR s5).2 = s6 := ⟨_, rfl⟩
  obtain ⟨d, hd⟩ : ∃ d, (takeR 32 s6).1 = d := ⟨_, rfl⟩
  obtain ⟨s7, hs7⟩ : ∃ s7, (takeR 32 s6).2 = s7 := ⟨_, rfl⟩
  have HFR : Aside0 (takeR 16 s4 = (fr, s5)) := ⟨by rw [← hfr, ← hs5]⟩
  have HFN : Aside0 (byteR s5 = (fno, s6)) := ⟨by rw [← hfno, ← hs6]⟩
  have HDD : Aside0 (takeR 32 s6 = (d, s7)) := ⟨by rw [← hd, ← hs7]⟩
  have HFL : Aside0 (fr.length = 16) := ⟨by rw [← hfr]; exact skipR_len _ _ _⟩
  have HDL : Aside0 (d.length = 32) := ⟨by rw [← hd]; exact skipR_len _ _ _⟩
  clear hfr hs5 hfno hs6 hd hs7
  go_wp2_with fail
  refine (oid_call w _ (w.heap.size + 1) s4 H6.out.rd).mono ?_
  rintro e_ w7 ⟨rfl, hst7, hg7⟩
  rw [HFR.out] at hst7 ⊢
  have H7 := am (H6.out.read hst7 hg7)
  clear hst7 hg7 y6 z19 u19
  dsimp only
  go_wp2_with fail
  refine (oone_call w _ (w.heap.size + 1) s5 H7.out.rd).mono ?_
  rintro e_ w8 ⟨rfl, hst8, hg8⟩
  rw [HFN.out] at hst8 ⊢
  have H8 := am (H7.out.read hst8 hg8)
  clear hst8 hg8
  dsimp only
  go_wp2_with fail
  refine (odig_call w _ (w.heap.size + 1) s6 H8.out.rd).mono ?_
  rintro e_ w9 ⟨rfl, hst9, hg9⟩
  rw [HDD.out] at hst9 ⊢
  have H9a := am (H8.out.read hst9 hg9)
  clear hst9 hg9
  dsimp only
  have hs16 : (cells8 fr).size = 16 := by rw [cells8_size, HFL.out]
  have hs32 : (cells8 d).size = 32 := by rw [cells8_size, HDL.out]
  have hsc1 := H9a.out.arr (d := fr) 22 (by rw [HFL.out]; decide)
  have H9b := am (OgSt.puts (cells8 fr).toList H9a.out 22)
  have z38 := H9b.out.fro 38
  have u38 := (H9b.out.cell 38).trans ((setL_far (cells8 fr).toList _ 22 38 (by simp [cells8, HFL.out])).trans ((show (on.setIfInBounds 19 (.int .i64 no))[38]? = on[38]? from Array.getElem?_setIfInBounds_ne (by decide)).trans HNS.out.2.2.2))
  have H9c := am (H9b.out.put 38 (.int .i64 fno))
  have hsc2 := H9c.out.arr (d := d) 39 (by rw [HDL.out]; decide)
  have H9d := am (OgSt.puts (cells8 d).toList H9c.out 39)
  have H9 : Aside0 (OgSt w (((w9.setCells w2.heap.size 22 (cells8 fr).toList).setCell ⟨w2.heap.size, 38, none⟩ (.int .i64 fno)).setCells w2.heap.size 39 (cells8 d).toList) (w.heap.size + 1) w2.heap.size (opC ⟨kd, id, sn, sr, no, ⟨#[]⟩, [], fr, fno, d⟩ none 0).toArray s7) := ⟨by
   have := H9d.out
   rw [← HON.out, set2 kd sn sr no fno id fr d HIDL.out HFL.out HDL.out] at this
   exact this⟩
  have HFX : Aside0 (opR ⟨l, false⟩ = (⟨kd, id, sn, sr, no, ⟨#[]⟩, [], fr, fno, d⟩, s7)) := ⟨by
   rw [HS0.out]
   unfold opR opT seqR
   dsimp only
   rw [HKD.out]
   dsimp only
   rw [HID.out]
   dsimp only
   rw [HS.out]
   dsimp only
   unfold tailR
   rw [if_neg (by rw [HKK.out]; decide), if_neg (by rw [HKK.out]; decide), if_pos HKK.out]
   unfold t2R seqR
   dsimp only
   rw [HNO.out]
   dsimp only
   rw [HFR.out]
   dsimp only
   rw [HFN.out]
   dsimp only
   rw [HDD.out]
   unfold opU
   rfl⟩
  have HXL : Aside0 ((⟨kd, id, sn, sr, no, ⟨#[]⟩, [], fr, fno, d⟩ : OpT).id.length = 16 ∧ (⟨kd, id, sn, sr, no, ⟨#[]⟩, [], fr, fno, d⟩ : OpT).fro.length = 16 ∧ (⟨kd, id, sn, sr, no, ⟨#[]⟩, [], fr, fno, d⟩ : OpT).d.length = 32) := ⟨HIDL.out, HFL.out, HDL.out⟩
  have HRR : Aside0 (Kd.R k67 67 (((w9.setCells w2.heap.size 22 (cells8 fr).toList).setCell ⟨w2.heap.size, 38, none⟩ (.int .i64 fno)).setCells w2.heap.size 39 (cells8 d).toList) w.heap.size (fun _ => True) (.slice none (⟨kd, id, sn, sr, no, ⟨#[]⟩, [], fr, fno, d⟩ : OpT).p.length 0) (⟨kd, id, sn, sr, no, ⟨#[]⟩, [], fr, fno, d⟩ : OpT).p) := ⟨Kd.R_nil _ _ _ _ _⟩
  have HRC : Aside0 ((⟨kd, id, sn, sr, no, ⟨#[]⟩, [], fr, fno, d⟩ : OpT).p.length ≤ 0 ∧ Kd.C k67 (((w9.setCells w2.heap.size 22 (cells8 fr).toList).setCell ⟨w2.heap.size, 38, none⟩ (.int .i64 fno)).setCells w2.heap.size 39 (cells8 d).toList) none (⟨kd, id, sn, sr, no, ⟨#[]⟩, [], fr, fno, d⟩ : OpT).p.length (⟨kd, id, sn, sr, no, ⟨#[]⟩, [], fr, fno, d⟩ : OpT).p) := ⟨Nat.le_refl _, ⟨rfl, by show (0 : Nat) ≤ 9223372036854775807; decide, fun h => absurd h (by show ¬ (0 < 0); decide)⟩⟩
  have HPL : Aside0 ((⟨kd, id, sn, sr, no, ⟨#[]⟩, [], fr, fno, d⟩ : OpT).p.length ≤ 60) := ⟨by show (0 : Nat) ≤ 60; decide⟩
  obtain ⟨xo, hxo⟩ : ∃ xo : OpT, (⟨kd, id, sn, sr, no, ⟨#[]⟩, [], fr, fno, d⟩ : OpT) = xo := ⟨_, rfl⟩
  rw [hxo] at H9 HFX HXL HRR HRC HPL
  clear hxo
  obtain ⟨oa, hoa⟩ : ∃ oa, (opC xo none 0).toArray = oa := ⟨_, rfl⟩
  have HOA := am hoa
  rw [hoa] at H9
  obtain ⟨A9, c9, v0, v1, hc9, hr9⟩ := H9.out.rcell
  have HINF : Aside0 ((Try.prog.info? 98).map (·.size) = some oa.size) := ⟨by rw [H9.out.sz]; exact infoOp⟩
  have hm9 := mayo_call xo none 0 (((w9.setCells w2.heap.size 22 (cells8 fr).toList).setCell ⟨w2.heap.size, 38, none⟩ (.int .i64 fno)).setCells w2.heap.size 39 (cells8 d).toList) HXL.out HRC.out.1 HRC.out.2 (by have := HPL.out; omega)
  rw [hoa] at hm9
  have HM9 := am hm9
  have HR9 := am (And.intro hc9 hr9)
  obtain ⟨zs, hzs⟩ : ∃ zs, (opC zO none 0).toArray = zs := ⟨_, rfl⟩
  have HZS := am hzs
  have hbz := built_zero
  rw [hzs] at hbz
  have HBZ := am hbz
  have hzz : zs.size = 71 := by rw [← hzs, List.size_toArray, opC_len ⟨rfl, rfl, rfl⟩]
  have HZ1 : Aside0 (zs.all (·.oneCell') = true) := ⟨by rw [← hzs]; exact opC_one _ _ _⟩
  have hoz9 := H9.out.sz
  have HO9 : Aside0 (oa.all (·.oneCell') = true) := ⟨by rw [← hoa]; exact opC_one _ _ _⟩
  clear hoa hm9 hc9 hr9 hzs hbz
  cases hbad : s7.bad
  ·rw [hbad] at v1
   cases hmay : mayO xo
   ·have HGE : Aside0 (getO l = (zO, 0, false)) := ⟨by unfold getO; rw [HFX.out]; dsimp only; rw [if_pos (.inr hmay)]⟩
    rw [hmay] at HM9
    clear hmay hbad
    go_wp2_with (first
     | ((with_reducible refine gate_dst (N := 100) rfl ?_); (refine wpList_load_row_g (by rfl) 98 (.tmp 6) rfl w2.heap.size rfl 98 oa (0, 0) _ H9.out.op Try.underlying98 rfl HINF.out ?_))
     | fail)
    refine HM9.out.mono ?_
    rintro e_ wA ⟨rfl, hbA⟩
    have HA := am (H9.out.below hbA)
    clear hbA v0 v1
    have hst := storeA (cs := zs) HA.out.res (by rw [hzz]; kernel_rfl) HZ1.out
    go_wp2_with (first
     | ((with_reducible refine gate_dst (N := 104) rfl ?_); refine wpList_build_cells rfl 98 _ rfl zs ?hb ?_; case hb => (simp only [List.map_toArray, List.map_nil]; exact HBZ.out))
     | fail)
    rw [HGE.out]
    refine bodyPost_ret (results_ctt rfl _ _ w.heap.size 98 zs (0, 0) _ rfl (setRow_heap _ _ _ _ _ _ HA.out.res) Try.underlying98 rfl (by rw [hzz]; exact infoOp)) rfl ?_
    exact og_no HA.out zs HZS.out
   ·have HGE : Aside0 (getO l = (xo, (l.length : Int) - (s7.b.length : Int), true)) := ⟨by unfold getO; rw [HFX.out]; dsimp only; rw [if_neg (by rw [hbad, hmay]; simp)]⟩
    rw [hmay] at HM9
    clear hmay hbad
    have HLE : Aside0 (s7.b.length ≤ l.length) := ⟨by
     obtain ⟨k_, hk_⟩ := op_tame.suf ⟨l, false⟩
     rw [HFX.out] at hk_
     have hk2 : s7.b = l.drop k_ := hk_
     rw [hk2, List.length_drop]
     exact Nat.sub_le _ _⟩
    have hws : wrap64 ((l.length : Int) - (s7.b.length : Int)) = (l.length : Int) - (s7.b.length : Int) := by have := HLE.out; have := HL.out; unfold wrap64; omega
    have hws2 : IntKind.i64.wrap ((l.length : Int) - (s7.b.length : Int)) = (l.length : Int) - (s7.b.length : Int) := by have := HLE.out; have := HL.out; simp [IntKind.wrap, IntKind.bits, IntKind.signed]; omega
    go_wp2_with (first
     | ((with_reducible refine gate_dst (N := 100) rfl ?_); (refine wpList_load_row_g (by rfl) 98 (.tmp 6) rfl w2.heap.size rfl 98 oa (0, 0) _ H9.out.op Try.underlying98 rfl HINF.out ?_))
     | fail)
    refine HM9.out.mono ?_
    rintro e_ wA ⟨rfl, hbA⟩
    have HA := am (H9.out.below hbA)
    have HRA := am (Kd.R_below HRR.out hbA)
    have HV := am v0
    clear hbA v0 v1
    go_wp2_with fail
    have HAD := am (HA.out.below (below_drew (Below.refl _ _)))
    have HRAD := am (Kd.R_below HRA.out (below_drew (Below.refl _ _)))
    obtain ⟨Aa, ca, va, _, _, _⟩ := HAD.out.rcell
    have HVA := am va
    have HFIN : Aside0 (OgQ w (xo, (l.length : Int) - (s7.b.length : Int), true) (.returned (.tuple #[.agg oa, .int .i64 ((l.length : Int) - (s7.b.length : Int)), .bool true])) (wA.drew.setRow w.heap.size oa)) := ⟨⟨⟨_, _, by rw [HOA.out], R_row HRAD.out HAD.out.res pc_types oa⟩, below_row HAD.out.rd.bel (Nat.le_refl _)⟩⟩
    clear va
    refine wp_region_held_drew (S := (fun W => W.heap[w2.heap.size]? = some (.cells oa 98 (0, 0)) ∧ W.cell? ⟨w.heap.size + 1, 0, none⟩ = some (.slice Aa s7.b.length ca))) (by kernel_rfl) (⟨HAD.out.op, HVA.out⟩) (fun hHeld => ?_)
    refine tq (i := 0) (v := ?_) ?hy ?_
    case hy => (intro W_ hW_; refine Eq.trans (exec_load_row 98 (.tmp 6) ?_ w2.heap.size ?_ 98 oa (0, 0) _ hW_.1 Try.underlying98 rfl HINF.out) ?_ <;> (first | with_reducible rfl | rfl))
    try simp only [sp]
    refine th (i := 1) ?_
    refine th (i := 2) ?_
    refine th (i := 3) ?_
    refine th (i := 4) ?_
    refine th (i := 5) ?_
    refine tu (i := 6) (fun W_ hW_ => hW_.2) ?_
    refine th (i := 7) ?_
    refine th (i := 8) ?_
    refine tr (i := 9) (fun K hK => ?_)
    have hst := storeA (cs := oa) HAD.out.res (by rw [hoz9]; kernel_rfl) HO9.out
    go_wp2_with fail
    refine hK.out _ _ (⟨(setRow_other _ _ _ _ (by have := HAD.out.ne3; omega)).trans hHeld.1, (World.cell?_of_block (setRow_other _ _ _ _ (by show w.heap.size + 1 ≠ w.heap.size; omega))).trans hHeld.2⟩) ?_
    clear hK K hHeld
    intro hHeld
    try simp only [sp]
    refine th (i := 10) ?_
    refine th (i := 11) ?_
    refine td ?_
    have HF := am hHeld
    clear hHeld
    go_wp2_with fail
    rw [HGE.out]
    refine bodyPost_ret (results_ctt rfl _ _ w.heap.size 98 oa (0, 0) _ rfl (setRow_heap _ _ _ _ _ _ HAD.out.res) Try.underlying98 rfl HINF.out) rfl ?_
    exact HFIN.out
  ·rw [hbad] at v1
   have HGE : Aside0 (getO l = (zO, 0, false)) := ⟨by unfold getO; rw [HFX.out]; dsimp only; rw [if_pos (.inl hbad)]⟩
   clear hbad
   have hst := storeA (cs := zs) H9.out.res (by rw [hzz]; kernel_rfl) HZ1.out
   go_wp2_with (first
    | ((with_reducible refine gate_dst (N := 104) rfl ?_); refine wpList_build_cells rfl 98 _ rfl zs ?hb ?_; case hb => (simp only [List.map_toArray, List.map_nil]; exact HBZ.out))
    | fail)
   rw [HGE.out]
   refine bodyPost_ret (results_ctt rfl _ _ w.heap.size 98 zs (0, 0) _ rfl (setRow_heap _ _ _ _ _ _ H9.out.res) Try.underlying98 rfl (by rw [hzz]; exact infoOp)) rfl ?_
   exact og_no H9.out zs HZS.out
 have HN2 := am hk
 clear hk
 by_cases hk : kd = 3
 ·have c0 : (kd != 0) = true := by rw [hk]; rfl
  have c00 : (kd == 0) = false := by rw [hk]; rfl
  have c1 : (kd == 1) = false := by rw [hk]; rfl
  have c2 : (kd == 2) = false := by rw [hk]; rfl
  have c3 : (kd == 3) = true := by rw [hk]; rfl
  have HKK := am hk
  clear hk
  go_wp2_with fail
  refine (oone_call w _ (w.heap.size + 1) s3 H5.out.rd).mono ?_
  rintro e_ w6 ⟨rfl, hst6, hg6⟩
  obtain ⟨no, hno⟩ : ∃ no, (byteR s3).1 = no := ⟨_, rfl⟩
  obtain ⟨s4, hs4⟩ : ∃ s4, (byteR s3).2 = s4 := ⟨_, rfl⟩
  have HNO : Aside0 (byteR s3 = (no, s4)) := ⟨by rw [← hno, ← hs4]⟩
  rw [hs4] at hst6
  rw [hno]
  have H6a := am (H5.out.read hst6 hg6)
  have H6 := am (H6a.out.put 19 (.int .i64 no))
  have z19 := H6a.out.fro 19
  have u19 := (H6a.out.cell 19).trans HNS.out.1
  have y6 := (H6.out.cell 0).trans ((show (on.setIfInBounds 19 (.int .i64 no))[0]? = on[0]? from Array.getElem?_setIfInBounds_ne (by decide)).trans KN.out)
  clear hst6 hg6 hno hs4 y0 z17 z18 u17 u18 q0 q1
  obtain ⟨A6, c6, x0, x1, hc6, hr6⟩ := H6.out.rcell
  obtain ⟨pv, n, is, hq, hn, hpv⟩ := getP_nat H6.out.rd.byt H6.out.rd.len
  have hdg := dget_call s4.b A6 c6 (w6.setCell ⟨w2.heap.size, 19, none⟩ (.int .i64 no)) hr6 hc6 H6.out.rd.byt H6.out.rd.len pv n is hq
  have HDG := am hdg
  obtain ⟨s5, hs5⟩ : ∃ s5, (skipR s4 n is).2 = s5 := ⟨_, rfl⟩
  have HTX : Aside0 (piecesR s4 = (pv, s5)) := ⟨by
   unfold piecesR parR
   rw [hq]
   dsimp only
   rw [Int.toNat_natCast, hs5]⟩
  obtain ⟨d, hd⟩ : ∃ d, (takeR 32 s5).1 = d := ⟨_, rfl⟩
  obtain ⟨s6, hs6⟩ : ∃ s6, (takeR 32 s5).2 = s6 := ⟨_, rfl⟩
  have HDD : Aside0 (takeR 32 s5 = (d, s6)) := ⟨by rw [← hd, ← hs6]⟩
  have HDL : Aside0 (d.length = 32) := ⟨by rw [← hd]; exact skipR_len _ _ _⟩
  have HN := am hn
  have HPV := am hpv
  have HS5 := am hs5
  have HRB := am H6.out.rd.lt
  have HGB := am (blk_lt H6.out.op)
  clear hq hn hdg hs5 hc6 hr6 hd hs6 hpv
  go_wp2_with fail
  refine HDG.out.mono ?_
  rintro e_ w7 ⟨⟨A7, c7, rfl, hR7⟩, hb7⟩
  have H7 := am (H6.out.below hb7)
  have HR7 := am hR7
  clear hb7 hR7 x0 x1 y6 z19 u19
  go_wp2_with fail
  refine (oskip_call w _ (w.heap.size + 1) s4 n is H7.out.rd HN.out).mono ?_
  rintro e_ w8 ⟨⟨A8, c8, rfl, _, _⟩, hst8, hg8⟩
  rw [HS5.out] at hst8
  have H8 := am (H7.out.read hst8 hg8)
  have HR8 := am (R_old HR7.out hg8 HRB.out)
  clear hst8 hg8
  go_wp2_with fail
  refine (odig_call w _ (w.heap.size + 1) s5 H8.out.rd).mono ?_
  rintro e_ w9 ⟨rfl, hst9, hg9⟩
  rw [HDD.out] at hst9 ⊢
  have H9a := am (H8.out.read hst9 hg9)
  have HR9a := am (R_old HR8.out hg9 HRB.out)
  clear hst9 hg9
  dsimp only
  have hs32 : (cells8 d).size = 32 := by rw [cells8_size, HDL.out]
  have z21 := H9a.out.fro 21
  have u21 := (H9a.out.cell 21).trans ((show (on.setIfInBounds 19 (.int .i64 no))[21]? = on[21]? from Array.getElem?_setIfInBounds_ne (by decide)).trans HNS.out.2.2.1)
  have H9b := am (H9a.out.put 21 (.slice A7 pv.length c7))
  have hsc2 := H9b.out.arr (d := d) 39 (by rw [HDL.out]; decide)
  have H9d := am (OgSt.puts (cells8 d).toList H9b.out 39)
  have HR9 := am (Kd.R_lower (R_old HR9a.out (grown_sets (cells8 d).toList (grown_set (World.grownBy.refl w9 (some w2.heap.size)) 21 (.slice A7 pv.length c7)) 39) HGB.out) (show w.heap.size ≤ _ by have := HRB.out; omega))
  have H9 : Aside0 (OgSt w ((w9.setCell ⟨w2.heap.size, 21, none⟩ (.slice A7 pv.length c7)).setCells w2.heap.size 39 (cells8 d).toList) (w.heap.size + 1) w2.heap.size (opC ⟨kd, id, sn, sr, no, ⟨#[]⟩, pv, z16, 0, d⟩ A7 c7).toArray s6) := ⟨by
   have := H9d.out
   rw [← HON.out, set3 kd sn sr no id d pv A7 c7 HIDL.out HDL.out] at this
   exact this⟩
  have HFX : Aside0 (opR ⟨l, false⟩ = (⟨kd, id, sn, sr, no, ⟨#[]⟩, pv, z16, 0, d⟩, s6)) := ⟨by
   rw [HS0.out]
   unfold opR opT seqR
   dsimp only
   rw [HKD.out]
   dsimp only
   rw [HID.out]
   dsimp only
   rw [HS.out]
   dsimp only
   unfold tailR
   rw [if_neg (by rw [HKK.out]; decide), if_neg (by rw [HKK.out]; decide), if_neg (by rw [HKK.out]; decide), if_pos HKK.out]
   unfold t3R seqR
   dsimp only
   rw [HNO.out]
   dsimp only
   rw [HTX.out]
   dsimp only
   rw [HDD.out]
   unfold opU
   rfl⟩
  have HXL : Aside0 ((⟨kd, id, sn, sr, no, ⟨#[]⟩, pv, z16, 0, d⟩ : OpT).id.length = 16 ∧ (⟨kd, id, sn, sr, no, ⟨#[]⟩, pv, z16, 0, d⟩ : OpT).fro.length = 16 ∧ (⟨kd, id, sn, sr, no, ⟨#[]⟩, pv, z16, 0, d⟩ : OpT).d.length = 32) := ⟨HIDL.out, rfl, HDL.out⟩
  have HRR : Aside0 (Kd.R k67 67 ((w9.setCell ⟨w2.heap.size, 21, none⟩ (.slice A7 pv.length c7)).setCells w2.heap.size 39 (cells8 d).toList) w.heap.size (fun _ => True) (.slice A7 (⟨kd, id, sn, sr, no, ⟨#[]⟩, pv, z16, 0, d⟩ : OpT).p.length c7) (⟨kd, id, sn, sr, no, ⟨#[]⟩, pv, z16, 0, d⟩ : OpT).p) := ⟨HR9.out⟩
  have HRC : Aside0 ((⟨kd, id, sn, sr, no, ⟨#[]⟩, pv, z16, 0, d⟩ : OpT).p.length ≤ c7 ∧ Kd.C k67 ((w9.setCell ⟨w2.heap.size, 21, none⟩ (.slice A7 pv.length c7)).setCells w2.heap.size 39 (cells8 d).toList) A7 (⟨kd, id, sn, sr, no, ⟨#[]⟩, pv, z16, 0, d⟩ : OpT).p.length (⟨kd, id, sn, sr, no, ⟨#[]⟩, pv, z16, 0, d⟩ : OpT).p) := ⟨by
   obtain ⟨Ax, cx, hv, hcx, hCx⟩ := Kd.R_reads HR9.out
   injection hv with h1 h2 h3
   subst h1
   subst h3
   exact ⟨hcx, hCx⟩⟩
  have HPL : Aside0 ((⟨kd, id, sn, sr, no, ⟨#[]⟩, pv, z16, 0, d⟩ : OpT).p.length ≤ 60) := ⟨HPV.out⟩
  obtain ⟨xo, hxo⟩ : ∃ xo : OpT, (⟨kd, id, sn, sr, no, ⟨#[]⟩, pv, z16, 0, d⟩ : OpT) = xo := ⟨_, rfl⟩
  rw [hxo] at H9 HFX HXL HRR HRC HPL
  clear hxo
  obtain ⟨oa, hoa⟩ : ∃ oa, (opC xo A7 c7).toArray = oa := ⟨_, rfl⟩
  have HOA := am hoa
  rw [hoa] at H9
  obtain ⟨A9, c9, v0, v1, hc9, hr9⟩ := H9.out.rcell
  have HINF : Aside0 ((Try.prog.info? 98).map (·.size) = some oa.size) := ⟨by rw [H9.out.sz]; exact infoOp⟩
  have hm9 := mayo_call xo A7 c7 ((w9.setCell ⟨w2.heap.size, 21, none⟩ (.slice A7 pv.length c7)).setCells w2.heap.size 39 (cells8 d).toList) HXL.out HRC.out.1 HRC.out.2 (by have := HPL.out; omega)
  rw [hoa] at hm9
  have HM9 := am hm9
  have HR9 := am (And.intro hc9 hr9)
  obtain ⟨zs, hzs⟩ : ∃ zs, (opC zO none 0).toArray = zs := ⟨_, rfl⟩
  have HZS := am hzs
  have hbz := built_zero
  rw [hzs] at hbz
  have HBZ := am hbz
  have hzz : zs.size = 71 := by rw [← hzs, List.size_toArray, opC_len ⟨rfl, rfl, rfl⟩]
  have HZ1 : Aside0 (zs.all (·.oneCell') = true) := ⟨by rw [← hzs]; exact opC_one _ _ _⟩
  have hoz9 := H9.out.sz
  have HO9 : Aside0 (oa.all (·.oneCell') = true) := ⟨by rw [← hoa]; exact opC_one _ _ _⟩
  clear hoa hm9 hc9 hr9 hzs hbz
  cases hbad : s6.bad
  ·rw [hbad] at v1
   cases hmay : mayO xo
   ·have HGE : Aside0 (getO l = (zO, 0, false)) := ⟨by unfold getO; rw [HFX.out]; dsimp only; rw [if_pos (.inr hmay)]⟩
    rw [hmay] at HM9
    clear hmay hbad
    go_wp2_with (first
     | ((with_reducible refine gate_dst (N := 100) rfl ?_); (refine wpList_load_row_g (by rfl) 98 (.tmp 6) rfl w2.heap.size rfl 98 oa (0, 0) _ H9.out.op Try.underlying98 rfl HINF.out ?_))
     | fail)
    refine HM9.out.mono ?_
    rintro e_ wA ⟨rfl, hbA⟩
    have HA := am (H9.out.below hbA)
    clear hbA v0 v1
    have hst := storeA (cs := zs) HA.out.res (by rw [hzz]; kernel_rfl) HZ1.out
    go_wp2_with (first
     | ((with_reducible refine gate_dst (N := 104) rfl ?_); refine wpList_build_cells rfl 98 _ rfl zs ?hb ?_; case hb => (simp only [List.map_toArray, List.map_nil]; exact HBZ.out))
     | fail)
    rw [HGE.out]
    refine bodyPost_ret (results_ctt rfl _ _ w.heap.size 98 zs (0, 0) _ rfl (setRow_heap _ _ _ _ _ _ HA.out.res) Try.underlying98 rfl (by rw [hzz]; exact infoOp)) rfl ?_
    exact og_no HA.out zs HZS.out
   ·have HGE : Aside0 (getO l = (xo, (l.length : Int) - (s6.b.length : Int), true)) := ⟨by unfold getO; rw [HFX.out]; dsimp only; rw [if_neg (by rw [hbad, hmay]; simp)]⟩
    rw [hmay] at HM9
    clear hmay hbad
    have HLE : Aside0 (s6.b.length ≤ l.length) := ⟨by
     obtain ⟨k_, hk_⟩ := op_tame.suf ⟨l, false⟩
     rw [HFX.out] at hk_
     have hk2 : s6.b = l.drop k_ := hk_
     rw [hk2, List.length_drop]
     exact Nat.sub_le _ _⟩
    have hws : wrap64 ((l.length : Int) - (s6.b.length : Int)) = (l.length : Int) - (s6.b.length : Int) := by have := HLE.out; have := HL.out; unfold wrap64; omega
    have hws2 : IntKind.i64.wrap ((l.length : Int) - (s6.b.length : Int)) = (l.length : Int) - (s6.b.length : Int) := by have := HLE.out; have := HL.out; simp [IntKind.wrap, IntKind.bits, IntKind.signed]; omega
    go_wp2_with (first
     | ((with_reducible refine gate_dst (N := 100) rfl ?_); (refine wpList_load_row_g (by rfl) 98 (.tmp 6) rfl w2.heap.size rfl 98 oa (0, 0) _ H9.out.op Try.underlying98 rfl HINF.out ?_))
     | fail)
    refine HM9.out.mono ?_
    rintro e_ wA ⟨rfl, hbA⟩
    have HA := am (H9.out.below hbA)
    have HRA := am (Kd.R_below HRR.out hbA)
    have HV := am v0
    clear hbA v0 v1
    go_wp2_with fail
    have HAD := am (HA.out.below (below_drew (Below.refl _ _)))
    have HRAD := am (Kd.R_below HRA.out (below_drew (Below.refl _ _)))
    obtain ⟨Aa, ca, va, _, _, _⟩ := HAD.out.rcell
    have HVA := am va
    have HFIN : Aside0 (OgQ w (xo, (l.length : Int) - (s6.b.length : Int), true) (.returned (.tuple #[.agg oa, .int .i64 ((l.length : Int) - (s6.b.length : Int)), .bool true])) (wA.drew.setRow w.heap.size oa)) := ⟨⟨⟨_, _, by rw [HOA.out], R_row HRAD.out HAD.out.res pc_types oa⟩, below_row HAD.out.rd.bel (Nat.le_refl _)⟩⟩
    clear va
    refine wp_region_held_drew (S := (fun W => W.heap[w2.heap.size]? = some (.cells oa 98 (0, 0)) ∧ W.cell? ⟨w.heap.size + 1, 0, none⟩ = some (.slice Aa s6.b.length ca))) (by kernel_rfl) (⟨HAD.out.op, HVA.out⟩) (fun hHeld => ?_)
    refine tq (i := 0) (v := ?_) ?hy ?_
    case hy => (intro W_ hW_; refine Eq.trans (exec_load_row 98 (.tmp 6) ?_ w2.heap.size ?_ 98 oa (0, 0) _ hW_.1 Try.underlying98 rfl HINF.out) ?_ <;> (first | with_reducible rfl | rfl))
    try simp only [sp]
    refine th (i := 1) ?_
    refine th (i := 2) ?_
    refine th (i := 3) ?_
    refine th (i := 4) ?_
    refine th (i := 5) ?_
    refine tu (i := 6) (fun W_ hW_ => hW_.2) ?_
    refine th (i := 7) ?_
    refine th (i := 8) ?_
    refine tr (i := 9) (fun K hK => ?_)
    have hst := storeA (cs := oa) HAD.out.res (by rw [hoz9]; kernel_rfl) HO9.out
    go_wp2_with fail
    refine hK.out _ _ (⟨(setRow_other _ _ _ _ (by have := HAD.out.ne3; omega)).trans hHeld.1, (World.cell?_of_block (setRow_other _ _ _ _ (by show w.heap.size + 1 ≠ w.heap.size; omega))).trans hHeld.2⟩) ?_
    clear hK K hHeld
    intro hHeld
    try simp only [sp]
    refine th (i := 10) ?_
    refine th (i := 11) ?_
    refine td ?_
    have HF := am hHeld
    clear hHeld
    go_wp2_with fail
    rw [HGE.out]
    refine bodyPost_ret (results_ctt rfl _ _ w.heap.size 98 oa (0, 0) _ rfl (setRow_heap _ _ _ _ _ _ HAD.out.res) Try.underlying98 rfl HINF.out) rfl ?_
    exact HFIN.out
  ·rw [hbad] at v1
   have HGE : Aside0 (getO l = (zO, 0, false)) := ⟨by unfold getO; rw [HFX.out]; dsimp only; rw [if_pos (.inl hbad)]⟩
   clear hbad
   have hst := storeA (cs := zs) H9.out.res (by rw [hzz]; kernel_rfl) HZ1.out
   go_wp2_with (first
    | ((with_reducible refine gate_dst (N := 104) rfl ?_); refine wpList_build_cells rfl 98 _ rfl zs ?hb ?_; case hb => (simp only [List.map_toArray, List.map_nil]; exact HBZ.out))
    | fail)
   rw [HGE.out]
   refine bodyPost_ret (results_ctt rfl _ _ w.heap.size 98 zs (0, 0) _ rfl (setRow_heap _ _ _ _ _ _ H9.out.res) Try.underlying98 rfl (by rw [hzz]; exact infoOp)) rfl ?_
   exact og_no H9.out zs HZS.out
 have HN3 := am hk
 clear hk
 have hk : 4 ≤ kd := by have := HN0.out; have := HN1.out; have := HN2.out; have := HN3.out; have := HBB.out; omega
 have c0 : (kd != 0) = true := by simp; omega
 have c00 : (kd == 0) = false := by simp; omega
 have c1 : (kd == 1) = false := by simp; omega
 have c2 : (kd == 2) = false := by simp; omega
 have c3 : (kd == 3) = false := by simp; omega
 have HKK := am hk
 clear hk
 go_wp2_with fail
 refine (oone_call w _ (w.heap.size + 1) s3 H5.out.rd).mono ?_
 rintro e_ w6 ⟨rfl, hst6, hg6⟩
 obtain ⟨no, hno⟩ : ∃ no, (byteR s3).1 = no := ⟨_, rfl⟩
 obtain ⟨s4, hs4⟩ : ∃ s4, (byteR s3).2 = s4 := ⟨_, rfl⟩
 have HNO : Aside0 (byteR s3 = (no, s4)) := ⟨by rw [← hno, ← hs4]⟩
 rw [hs4] at hst6
 rw [hno]
 have H6a := am (H5.out.read hst6 hg6)
 have H6 := am (H6a.out.put 19 (.int .i64 no))
 have z19 := H6a.out.fro 19
 have u19 := (H6a.out.cell 19).trans HNS.out.1
 have y6 := (H6.out.cell 0).trans ((show (on.setIfInBounds 19 (.int .i64 no))[0]? = on[0]? from Array.getElem?_setIfInBounds_ne (by decide)).trans KN.out)
 clear hst6 hg6 hno hs4 y0 z17 z18 u17 u18 q0 q1
 have H9 : Aside0 (OgSt w (w6.setCell ⟨w2.heap.size, 19, none⟩ (.int .i64 no)) (w.heap.size + 1) w2.heap.size (opC ⟨kd, id, sn, sr, no, ⟨#[]⟩, [], z16, 0, z32⟩ none 0).toArray s4) := ⟨by
  have := H6.out
  rw [← HON.out, set4 kd sn sr no id HIDL.out] at this
  exact this⟩
 have HFX : Aside0 (opR ⟨l, false⟩ = (⟨kd, id, sn, sr, no, ⟨#[]⟩, [], z16, 0, z32⟩, s4)) := ⟨by
  rw [HS0.out]
  unfold opR opT seqR
  dsimp only
  rw [HKD.out]
  dsimp only
  rw [HID.out]
  dsimp only
  rw [HS.out]
  dsimp only
  unfold tailR
  rw [if_neg (by have := HKK.out; omega), if_neg (by have := HKK.out; omega), if_neg (by have := HKK.out; omega), if_neg (by have := HKK.out; omega), HNO.out]
  unfold opU
  rfl⟩
 have HXL : Aside0 ((⟨kd, id, sn, sr, no, ⟨#[]⟩, [], z16, 0, z32⟩ : OpT).id.length = 16 ∧ (⟨kd, id, sn, sr, no, ⟨#[]⟩, [], z16, 0, z32⟩ : OpT).fro.length = 16 ∧ (⟨kd, id, sn, sr, no, ⟨#[]⟩, [], z16, 0, z32⟩ : OpT).d.length = 32) := ⟨HIDL.out, rfl, rfl⟩
 have HRR : Aside0 (Kd.R k67 67 (w6.setCell ⟨w2.heap.size, 19, none⟩ (.int .i64 no)) w.heap.size (fun _ => True) (.slice none (⟨kd, id, sn, sr, no, ⟨#[]⟩, [], z16, 0, z32⟩ : OpT).p.length 0) (⟨kd, id, sn, sr, no, ⟨#[]⟩, [], z16, 0, z32⟩ : OpT).p) := ⟨Kd.R_nil _ _ _ _ _⟩
 have HRC : Aside0 ((⟨kd, id, sn, sr, no, ⟨#[]⟩, [], z16, 0, z32⟩ : OpT).p.length ≤ 0 ∧ Kd.C k67 (w6.setCell ⟨w2.heap.size, 19, none⟩ (.int .i64 no)) none (⟨kd, id, sn, sr, no, ⟨#[]⟩, [], z16, 0, z32⟩ : OpT).p.length (⟨kd, id, sn, sr, no, ⟨#[]⟩, [], z16, 0, z32⟩ : OpT).p) := ⟨Nat.le_refl _, ⟨rfl, by show (0 : Nat) ≤ 9223372036854775807; decide, fun h => absurd h (by show ¬ (0 < 0); decide)⟩⟩
 have HPL : Aside0 ((⟨kd, id, sn, sr, no, ⟨#[]⟩, [], z16, 0, z32⟩ : OpT).p.length ≤ 60) := ⟨by show (0 : Nat) ≤ 60; decide⟩
 obtain ⟨xo, hxo⟩ : ∃ xo : OpT, (⟨kd, id, sn, sr, no, ⟨#[]⟩, [], z16, 0, z32⟩ : OpT) = xo := ⟨_, rfl⟩
 rw [hxo] at H9 HFX HXL HRR HRC HPL
 clear hxo
 obtain ⟨oa, hoa⟩ : ∃ oa, (opC xo none 0).toArray = oa := ⟨_, rfl⟩
 have HOA := am hoa
 rw [hoa] at H9
 obtain ⟨A9, c9, v0, v1, hc9, hr9⟩ := H9.out.rcell
 have HINF : Aside0 ((Try.prog.info? 98).map (·.size) = some oa.size) := ⟨by rw [H9.out.sz]; exact infoOp⟩
 have hm9 := mayo_call xo none 0 (w6.setCell ⟨w2.heap.size, 19, none⟩ (.int .i64 no)) HXL.out HRC.out.1 HRC.out.2 (by have := HPL.out; omega)
 rw [hoa] at hm9
 have HM9 := am hm9
 have HR9 := am (And.intro hc9 hr9)
 obtain ⟨zs, hzs⟩ : ∃ zs, (opC zO none 0).toArray = zs := ⟨_, rfl⟩
 have HZS := am hzs
 have hbz := built_zero
 rw [hzs] at hbz
 have HBZ := am hbz
 have hzz : zs.size = 71 := by rw [← hzs, List.size_toArray, opC_len ⟨rfl, rfl, rfl⟩]
 have HZ1 : Aside0 (zs.all (·.oneCell') = true) := ⟨by rw [← hzs]; exact opC_one _ _ _⟩
 have hoz9 := H9.out.sz
 have HO9 : Aside0 (oa.all (·.oneCell') = true) := ⟨by rw [← hoa]; exact opC_one _ _ _⟩
 clear hoa hm9 hc9 hr9 hzs hbz
 cases hbad : s4.bad
 ·rw [hbad] at v1
  cases hmay : mayO xo
  ·have HGE : Aside0 (getO l = (zO, 0, false)) := ⟨by unfold getO; rw [HFX.out]; dsimp only; rw [if_pos (.inr hmay)]⟩
   rw [hmay] at HM9
   clear hmay hbad
   go_wp2_with (first
    | ((with_reducible refine gate_dst (N := 100) rfl ?_); (refine wpList_load_row_g (by rfl) 98 (.tmp 6) rfl w2.heap.size rfl 98 oa (0, 0) _ H9.out.op Try.underlying98 rfl HINF.out ?_))
    | fail)
   refine HM9.out.mono ?_
   rintro e_ wA ⟨rfl, hbA⟩
   have HA := am (H9.out.below hbA)
   clear hbA v0 v1
   have hst := storeA (cs := zs) HA.out.res (by rw [hzz]; kernel_rfl) HZ1.out
   go_wp2_with (first
    | ((with_reducible refine gate_dst (N := 104) rfl ?_); refine wpList_build_cells rfl 98 _ rfl zs ?hb ?_; case hb => (simp only [List.map_toArray, List.map_nil]; exact HBZ.out))
    | fail)
   rw [HGE.out]
   refine bodyPost_ret (results_ctt rfl _ _ w.heap.size 98 zs (0, 0) _ rfl (setRow_heap _ _ _ _ _ _ HA.out.res) Try.underlying98 rfl (by rw [hzz]; exact infoOp)) rfl ?_
   exact og_no HA.out zs HZS.out
  ·have HGE : Aside0 (getO l = (xo, (l.length : Int) - (s4.b.length : Int), true)) := ⟨by unfold getO; rw [HFX.out]; dsimp only; rw [if_neg (by rw [hbad, hmay]; simp)]⟩
   rw [hmay] at HM9
   clear hmay hbad
   have HLE : Aside0 (s4.b.length ≤ l.length) := ⟨by
    obtain ⟨k_, hk_⟩ := op_tame.suf ⟨l, false⟩
    rw [HFX.out] at hk_
    have hk2 : s4.b = l.drop k_ := hk_
    rw [hk2, List.length_drop]
    exact Nat.sub_le _ _⟩
   have hws : wrap64 ((l.length : Int) - (s4.b.length : Int)) = (l.length : Int) - (s4.b.length : Int) := by have := HLE.out; have := HL.out; unfold wrap64; omega
   have hws2 : IntKind.i64.wrap ((l.length : Int) - (s4.b.length : Int)) = (l.length : Int) - (s4.b.length : Int) := by have := HLE.out; have := HL.out; simp [IntKind.wrap, IntKind.bits, IntKind.signed]; omega
   go_wp2_with (first
    | ((with_reducible refine gate_dst (N := 100) rfl ?_); (refine wpList_load_row_g (by rfl) 98 (.tmp 6) rfl w2.heap.size rfl 98 oa (0, 0) _ H9.out.op Try.underlying98 rfl HINF.out ?_))
    | fail)
   refine HM9.out.mono ?_
   rintro e_ wA ⟨rfl, hbA⟩
   have HA := am (H9.out.below hbA)
   have HRA := am (Kd.R_below HRR.out hbA)
   have HV := am v0
   clear hbA v0 v1
   go_wp2_with fail
   have HAD := am (HA.out.below (below_drew (Below.refl _ _)))
   have HRAD := am (Kd.R_below HRA.out (below_drew (Below.refl _ _)))
   obtain ⟨Aa, ca, va, _, _, _⟩ := HAD.out.rcell
   have HVA := am va
   have HFIN : Aside0 (OgQ w (xo, (l.length : Int) - (s4.b.length : Int), true) (.returned (.tuple #[.agg oa, .int .i64 ((l.length : Int) - (s4.b.length : Int)), .bool true])) (wA.drew.setRow w.heap.size oa)) := ⟨⟨⟨_, _, by rw [HOA.out], R_row HRAD.out HAD.out.res pc_types oa⟩, below_row HAD.out.rd.bel (Nat.le_refl _)⟩⟩
   clear va
   refine wp_region_held_drew (S := (fun W => W.heap[w2.heap.size]? = some (.cells oa 98 (0, 0)) ∧ W.cell? ⟨w.heap.size + 1, 0, none⟩ = some (.slice Aa s4.b.length ca))) (by kernel_rfl) (⟨HAD.out.op, HVA.out⟩) (fun hHeld => ?_)
   refine tq (i := 0) (v := ?_) ?hy ?_
   case hy => (intro W_ hW_; refine Eq.trans (exec_load_row 98 (.tmp 6) ?_ w2.heap.size ?_ 98 oa (0, 0) _ hW_.1 Try.underlying98 rfl HINF.out) ?_ <;> (first | with_reducible rfl | rfl))
   try simp only [sp]
   refine th (i := 1) ?_
   refine th (i := 2) ?_
   refine th (i := 3) ?_
   refine th (i := 4) ?_
   refine th (i := 5) ?_
   refine tu (i := 6) (fun W_ hW_ => hW_.2) ?_
   refine th (i := 7) ?_
   refine th (i := 8) ?_
   refine tr (i := 9) (fun K hK => ?_)
   have hst := storeA (cs := oa) HAD.out.res (by rw [hoz9]; kernel_rfl) HO9.out
   go_wp2_with fail
   refine hK.out _ _ (⟨(setRow_other _ _ _ _ (by have := HAD.out.ne3; omega)).trans hHeld.1, (World.cell?_of_block (setRow_other _ _ _ _ (by show w.heap.size + 1 ≠ w.heap.size; omega))).trans hHeld.2⟩) ?_
   clear hK K hHeld
   intro hHeld
   try simp only [sp]
   refine th (i := 10) ?_
   refine th (i := 11) ?_
   refine td ?_
   have HF := am hHeld
   clear hHeld
   go_wp2_with fail
   rw [HGE.out]
   refine bodyPost_ret (results_ctt rfl _ _ w.heap.size 98 oa (0, 0) _ rfl (setRow_heap _ _ _ _ _ _ HAD.out.res) Try.underlying98 rfl HINF.out) rfl ?_
   exact HFIN.out
 ·rw [hbad] at v1
  have HGE : Aside0 (getO l = (zO, 0, false)) := ⟨by unfold getO; rw [HFX.out]; dsimp only; rw [if_pos (.inl hbad)]⟩
  clear hbad
  have hst := storeA (cs := zs) H9.out.res (by rw [hzz]; kernel_rfl) HZ1.out
  go_wp2_with (first
   | ((with_reducible refine gate_dst (N := 104) rfl ?_); refine wpList_build_cells rfl 98 _ rfl zs ?hb ?_; case hb => (simp only [List.map_toArray, List.map_nil]; exact HBZ.out))
   | fail)
  rw [HGE.out]
  refine bodyPost_ret (results_ctt rfl _ _ w.heap.size 98 zs (0, 0) _ rfl (setRow_heap _ _ _ _ _ _ H9.out.res) Try.underlying98 rfl (by rw [hzz]; exact infoOp)) rfl ?_
  exact og_no H9.out zs HZS.out
end
section
open Go.RowKit Go.Proofs.YtchaegfdcdlfaaaW.PrintWords Go.Proofs.YtchaegfdcdlfaaaW.PrintLast Go.Proofs.YtchaegfdcdlfaaaW.PrintMore
open Go.Proofs.Ytchaegfdcdlfaaa.Y (Bytes RdB rdb_below rdb_drop rdb_take)
attribute [local go_sem] max2_int min2_int max_two min_two max_three min_three max_four min_four
structure CdSt (dv : Value) (w0 W : World) (rb : Nat) (s : Rd) : Prop where
 base : w0.heap.size ≤ rb
 row : ∃ A c, W.heap[rb]? = some (.cells #[.slice A s.b.length c, dv, .bool s.bad] 174 (0, 0)) ∧ s.b.length ≤ c ∧ RdB w0 A s.b.length s.b
 byt : Bytes s.b
 len : s.b.length ≤ 1000000
 bel : Below w0.heap.size w0 W
theorem CdSt.lt {dv : Value} {w0 W : World} {rb : Nat} {s : Rd} (h : CdSt dv w0 W rb s) : rb < W.heap.size := by
 obtain ⟨A, c, hr, _⟩ := h.row
 exact blk_lt hr
theorem CdSt.below {dv : Value} {w0 W W1 : World} {rb : Nat} {s : Rd} (h : CdSt dv w0 W rb s) (hb : Below W.heap.size W W1) : CdSt dv w0 W1 rb s := by
 obtain ⟨A, c, hr, hc, hA⟩ := h.row
 exact ⟨h.base, ⟨A, c, blk_below hr hb, hc, hA⟩, h.byt, h.len, below_step h.bel hb⟩
theorem CdSt.grown {dv : Value} {w0 W W1 : World} {rb : Nat} {s : Rd} (h : CdSt dv w0 W rb s) {row : Option Nat} (hg : W.grownBy W1 row) (hne : some rb ≠ row) (hB : Below w0.heap.size w0 W1) : CdSt dv w0 W1 rb s := by
 obtain ⟨A, c, hr, hc, hA⟩ := h.row
 exact ⟨h.base, ⟨A, c, blk_grown hr hg hne, hc, hA⟩, h.byt, h.len, hB⟩
theorem CdSt.cell0 {dv : Value} {w0 W : World} {rb : Nat} {A : Option Addr} {n c : Nat} {b : Bool} (h : W.heap[rb]? = some (.cells #[.slice A n c, dv, .bool b] 174 (0, 0))) : W.cell? ⟨rb, 0, none⟩ = some (.slice A n c) ∧ W.cell? ⟨rb, 2, none⟩ = some (.bool b) ∧ W.frozen? ⟨rb, 0, none⟩ = false ∧ W.frozen? ⟨rb, 2, none⟩ = false :=
 ⟨(blk_cell h 0).trans rfl, (blk_cell h 2).trans rfl, blk_frozen h 0, blk_frozen h 2⟩
theorem CdSt.cell1 {dv : Value} {W : World} {rb : Nat} {A : Option Addr} {n c : Nat} {b : Bool} (h : W.heap[rb]? = some (.cells #[.slice A n c, dv, .bool b] 174 (0, 0))) : W.cell? ⟨rb, 1, none⟩ = some dv ∧ W.frozen? ⟨rb, 1, none⟩ = false :=
 ⟨(blk_cell h 1).trans rfl, blk_frozen h 1⟩
def CskQ (dv : Value) (w0 W : World) (rb : Nat) (s : Rd) (n : Nat) (is : Bool) (e : Ending) (W' : World) : Prop :=
 (∃ A c, e = .returned (.slice A n c) ∧ n ≤ c ∧ RdB W' A n (skipR s n is).1) ∧ CdSt dv w0 W' rb (skipR s n is).2 ∧ W.grownBy W' (some rb)
theorem cdst_after {dv : Value} {w0 W : World} {rb : Nat} {s : Rd} (h : CdSt dv w0 W rb s) {W1 : World} (hg : W.grownBy W1 (some rb)) (s1 : Rd) (A : Option Addr) (c : Nat) (hr : W1.heap[rb]? = some (.cells #[.slice A s1.b.length c, dv, .bool s1.bad] 174 (0, 0))) (hc : s1.b.length ≤ c) (hA : RdB w0 A s1.b.length s1.b) (k : Nat) (hk : s1.b = s.b.drop k) : CdSt dv w0 W1 rb s1 :=
 ⟨h.base, ⟨A, c, hr, hc, hA⟩, by rw [hk]; exact by_drop h.byt k, by rw [hk, List.length_drop]; have := h.len; omega, below_grown h.bel hg h.bel.size (fun k hk => by injection hk with hk; subst hk; exact h.base)⟩
set_option maxHeartbeats 1000000 in
theorem csk_ok (dv : Value) (w0 W : World) (rb : Nat) (s : Rd) (n : Nat) (h : CdSt dv w0 W rb s) (hbad : s.bad = false) (hn : n ≤ s.b.length) :
  Calls Try.prog 123 #[.pointer (some ⟨rb, 0, none⟩), .int .i64 n, .bool true] W (CskQ dv w0 W rb s n true) := by
 obtain ⟨A, c, hr, hc, hA⟩ := h.row
 rw [hbad] at hr
 have H := am h
 have HR := am hr
 have HC := am hc
 have HA := am hA
 have HBAD := am hbad
 have HN := am hn
 obtain ⟨A', hcut, hA', hC'⟩ := rdb_drop A c s.b n hn hc
 have HA2 := am (hA' w0 hA)
 have HC2 := am hC'
 obtain ⟨x0, x1, f0, f1⟩ := CdSt.cell0 hr (w0 := w0)
 have c1 : decide ((n : Int) > (s.b.length : Int)) = false := decide_eq_false (by omega)
 have c2 : decide (n > s.b.length) = false := decide_eq_false (by omega)
 have c3 : ((n : Int) ≤ (s.b.length : Int)) = True := eq_true (by omega)
 have c4 : (n ≤ s.b.length) = True := eq_true (by omega)
 have c5 : (0 ≤ (n : Int)) = True := by simp
 have c6 : ((n : Int) ≤ (c : Int)) = True := eq_true (by omega)
 have c7 : (n ≤ c) = True := eq_true (by omega)
 clear h hr hc hA hbad hn hA' hC'
 go_enter Try.func123, Try.ntmps123
 go_wp2_with fail
 go_ret
 have hS := skipR_ok HBAD.out rfl HN.out (is := true)
 have hg : W.grownBy ((W.setCell ⟨rb, 2, none⟩ (.bool false)).setCell ⟨rb, 0, none⟩ (.slice A' (s.b.length - n) (c - n))) (some rb) := grown_set (grown_set (World.grownBy.refl W (some rb)) 2 _) 0 _
 have hst : CdSt dv w0 ((W.setCell ⟨rb, 2, none⟩ (.bool false)).setCell ⟨rb, 0, none⟩ (.slice A' (s.b.length - n) (c - n))) rb ⟨s.b.drop n, false⟩ := by
  refine cdst_after H.out hg ⟨s.b.drop n, false⟩ A' (c - n) ?_ (by rw [List.length_drop]; exact HC2.out) (by rw [List.length_drop]; exact HA2.out) n rfl
  rw [List.length_drop]
  exact blk_put (blk_put HR.out 2 _ rfl) 0 _ rfl
 unfold CskQ
 rw [hS]
 refine ⟨⟨A, c, rfl, by have := HC.out; have := HN.out; omega, ?_⟩, hst, hg⟩
 exact rdb_below (rdb_take HA.out n HN.out) hst.bel
set_option maxHeartbeats 1000000 in
theorem csk_no (dv : Value) (w0 W : World) (rb : Nat) (s : Rd) (n : Nat) (is : Bool) (h : CdSt dv w0 W rb s) (hno : s.bad = true ∨ is = false ∨ s.b.length < n) (hn : n ≤ 1000000) :
  Calls Try.prog 123 #[.pointer (some ⟨rb, 0, none⟩), .int .i64 n, .bool is] W (CskQ dv w0 W rb s n is) := by
 obtain ⟨A, c, hr, hc, hA⟩ := h.row
 have hS := am (skipR_bad hno)
 have hmk := print_make (P := Try.prog) 40 5 .u8 1 Try.underlying40 info5 (by decide) n (by omega)
 have hmx : max (n : Int) 0 = (n : Int) := by omega
 have H := am h
 have HC := am hc
 have HA := am hA
 have HN := am hn
 have HFIN : Aside0 (W.heap[rb]? = some (.cells #[.slice A s.b.length c, dv, .bool s.bad] 174 (0, 0)) → CskQ dv w0 W rb s n is (.returned (.slice (some ⟨W.heap.size, 0, none⟩) n n)) ((W.setCell ⟨rb, 2, none⟩ (.bool true)).alloc (.cells (madeCells #[.int .u8 0] n) 5))) := ⟨fun hr => by
  have hz : (W.setCell ⟨rb, 2, none⟩ (.bool true)).heap.size = W.heap.size := by simp [World.setCell]
  rw [← hz]
  have hg : W.grownBy (W.setCell ⟨rb, 2, none⟩ (.bool true)) (some rb) := grown_set (World.grownBy.refl W (some rb)) 2 _
  have hst : CdSt dv w0 (W.setCell ⟨rb, 2, none⟩ (.bool true)) rb ⟨s.b, true⟩ := cdst_after h hg ⟨s.b, true⟩ A c (blk_put hr 2 _ rfl) hc hA 0 rfl
  unfold CskQ
  rw [hS.out]
  refine ⟨⟨_, _, rfl, Nat.le_refl _, ?_⟩, hst.below (below_alloc (Below.refl _ _) _), hg.trans (World.grownBy_alloc _ _ _)⟩
  have := own_made (W.setCell ⟨rb, 2, none⟩ (.bool true)) 0 5 .u8 n (Nat.zero_le _) (by omega)
  obtain ⟨A9, c9, hv, hc9, hr9⟩ := Y.own_row (l := List.replicate n 0) this
  injection hv with h1 h2 h3
  rw [h1]
  exact hr9⟩
 cases hb : s.bad
 ·rw [hb] at hr
  obtain ⟨x0, x1, f0, f1⟩ := CdSt.cell0 hr (w0 := w0)
  cases is
  ·have HF := am (HFIN.out (by rw [hb]; exact hr))
   clear h hno hr hc hA hb hn HFIN
   go_enter Try.func123, Try.ntmps123
   go_wp2_with fail
   go_ret
   exact HF.out
  ·have hlt : s.b.length < n := by
    rcases hno with h1 | h1 | h1
    ·rw [hb] at h1; cases h1
    ·cases h1
    ·exact h1
   have c1 : decide ((n : Int) > (s.b.length : Int)) = true := decide_eq_true (by omega)
   have c2 : decide (n > s.b.length) = true := decide_eq_true (by omega)
   have HF := am (HFIN.out (by rw [hb]; exact hr))
   clear h hno hr hc hA hb hn hlt HFIN
   go_enter Try.func123, Try.ntmps123
   go_wp2_with fail
   go_ret
   exact HF.out
 ·rw [hb] at hr
  obtain ⟨x0, x1, f0, f1⟩ := CdSt.cell0 hr (w0 := w0)
  have HF := am (HFIN.out (by rw [hb]; exact hr))
  clear h hno hr hc hA hb hn HFIN
  go_enter Try.func123, Try.ntmps123
  go_wp2_with fail
  go_ret
  exact HF.out
theorem cskip_call (dv : Value) (w0 W : World) (rb : Nat) (s : Rd) (n : Nat) (is : Bool) (h : CdSt dv w0 W rb s) (hn : n ≤ 1000000) :
  Calls Try.prog 123 #[.pointer (some ⟨rb, 0, none⟩), .int .i64 n, .bool is] W (CskQ dv w0 W rb s n is) := by
 by_cases hno : s.bad = true ∨ is = false ∨ s.b.length < n
 ·exact csk_no dv w0 W rb s n is h hno hn
 ·have h1 : s.bad = false := by
   cases hb : s.bad
   ·rfl
   ·exact absurd (.inl hb) hno
  have h2 : is = true := by
   cases hb : is
   ·exact absurd (.inr (.inl hb)) hno
   ·rfl
  subst h2
  exact csk_ok dv w0 W rb s n h h1 (by have : ¬ s.b.length < n := fun h => hno (.inr (.inr h)); omega)
end
section
open Go.RowKit Go.Proofs.YtchaegfdcdlfaaaW.PrintWords Go.Proofs.YtchaegfdcdlfaaaW.PrintLast Go.Proofs.YtchaegfdcdlfaaaW.PrintMore
open Go.Proofs.Ytchaegfdcdlfaaa.Y (readR Bytes RdB IsGet rdb_below rdb_drop rdb_take get_call read_call Get_eq put put_length)
attribute [local go_sem] max2_int min2_int max_two min_two max_three min_three max_four min_four
def CnuQ (dv : Value) (w0 W : World) (rb : Nat) (s : Rd) (most : Int) (e : Ending) (W' : World) : Prop := e = .returned (.int .i64 (numR most s).1) ∧ CdSt dv w0 W' rb (numR most s).2 ∧ W.grownBy W' (some rb)
set_option maxHeartbeats 2000000 in
theorem cnum_call (dv : Value) (w0 W : World) (rb : Nat) (s : Rd) (most : Int) (h : CdSt dv w0 W rb s) (h0 : -1 ≤ most) (h1 : most ≤ 1000) :
  Calls Try.prog 126 #[.pointer (some ⟨rb, 0, none⟩), .int .i64 most] W (CnuQ dv w0 W rb s most) := by
 obtain ⟨A, c, hr, hc, hA⟩ := h.row
 obtain ⟨gn, gu, gi, hget, hgn, hgu, hg10⟩ := getL_nat h.byt h.len
 have HG : Aside0 (IsGet s.b ((gn : Int), (gu : Int), gi)) := ⟨by have := getL_is h.byt (by have := h.len; omega); rwa [hget] at this⟩
 have hnum : ∀ b, (gi && decide ((gn : Int) ≤ most)) = b → numR most s = (if (skipR s gu b).2.bad = true then 0 else (gn : Int), (skipR s gu b).2) := fun b hb => by
  unfold numR
  dsimp only
  rw [hget]
  dsimp only
  rw [Int.toNat_natCast, hb]
 have HNUM := am hnum
 have H := am h
 have HR := am hr
 have HC := am hc
 have HA := am (rdb_below hA h.bel)
 have HG10 := am hg10
 obtain ⟨x0, x1, f0, f1⟩ := CdSt.cell0 hr (w0 := w0)
 have HM := am h1
 have HM0 := am h0
 have hw0 : IntKind.u64.wrap 0 = 0 := by rfl
 clear h hr hc hA hget hnum hgn hgu hg10 h0 h1
 cases gi
 ·have hz_ : True := trivial
  have hn := HNUM.out false (rfl)
  have hbad : (skipR s gu false).2.bad = true := by rw [skipR_bad (.inr (.inl rfl))]
  rw [if_pos hbad] at hn
  have HN := am hn
  have HB := am hbad
  clear hn hbad
  go_enter Try.func126, Try.ntmps126
  go_wp2_with fail
  refine (get_call HG.out H.out.byt (by have := H.out.len; omega) A c _ HA.out HC.out).mono ?_
  rintro e_ w1 ⟨rfl, q, rfl⟩
  go_wp2_with fail
  refine (cskip_call dv w0 _ rb s gu false (H.out.below (pw_below_drewN (Below.refl _ _) q)) (by have := HG10.out; omega)).mono ?_
  rintro e_ w2 ⟨⟨A2, c2, rfl, _, _⟩, hst, hg⟩
  have HST := am hst
  have HGR := am ((grown_of_below (pw_below_drewN (Below.refl W.heap.size W) q) (some rb)).trans hg)
  obtain ⟨A3, c3, hr3, hc3, hA3⟩ := hst.row
  rw [HB.out] at hr3
  obtain ⟨y0, y1, z0, z1⟩ := CdSt.cell0 hr3 (w0 := w0)
  clear hst hg hr3 hc3 hA3 x0 x1 f0 f1
  go_wp2_with fail
  go_ret
  unfold CnuQ
  rw [HN.out]
  exact ⟨rfl, HST.out, HGR.out⟩
 ·by_cases hm : (0 : Int) ≤ most
  ·have e0 : decide (most ≥ 0) = true := decide_eq_true hm
   have e1 : decide (0 ≤ most) = true := decide_eq_true hm
   have e2 : (most < 0) = False := eq_false (by omega)
   have hwm : IntKind.u64.wrap most = most := by have := HM.out; simp [IntKind.wrap, IntKind.bits, IntKind.signed]; omega
   by_cases hle : (gn : Int) ≤ most
   ·have c1 : decide ((gn : Int) ≤ most) = true := decide_eq_true hle
    have hw2 : IntKind.i64.wrap (gn : Int) = (gn : Int) := by have := HM.out; simp [IntKind.wrap, IntKind.bits, IntKind.signed]; omega
    have hn := HNUM.out true (by rw [c1]; rfl)
    have HN := am hn
    clear hle hn hm
    go_enter Try.func126, Try.ntmps126
    go_wp2_with fail
    refine (get_call HG.out H.out.byt (by have := H.out.len; omega) A c _ HA.out HC.out).mono ?_
    rintro e_ w1 ⟨rfl, q, rfl⟩
    go_wp2_with fail
    refine (cskip_call dv w0 _ rb s gu true (H.out.below (pw_below_drewN (Below.refl _ _) q)) (by have := HG10.out; omega)).mono ?_
    rintro e_ w2 ⟨⟨A2, c2, rfl, _, _⟩, hst, hg⟩
    have HST := am hst
    have HGR := am ((grown_of_below (pw_below_drewN (Below.refl W.heap.size W) q) (some rb)).trans hg)
    obtain ⟨A3, c3, hr3, hc3, hA3⟩ := hst.row
    cases hbad : (skipR s gu true).2.bad
    ·rw [hbad] at hr3
     obtain ⟨y0, y1, z0, z1⟩ := CdSt.cell0 hr3 (w0 := w0)
     have HB := am hbad
     clear hst hg hbad hr3 hc3 hA3 x0 x1 f0 f1
     go_wp2_with fail
     go_ret
     unfold CnuQ
     rw [HN.out, if_neg (by rw [HB.out]; decide)]
     exact ⟨rfl, HST.out, HGR.out⟩
    ·rw [hbad] at hr3
     obtain ⟨y0, y1, z0, z1⟩ := CdSt.cell0 hr3 (w0 := w0)
     have HB := am hbad
     clear hst hg hbad hr3 hc3 hA3 x0 x1 f0 f1
     go_wp2_with fail
     go_ret
     unfold CnuQ
     rw [HN.out, if_pos HB.out]
     exact ⟨rfl, HST.out, HGR.out⟩
   ·have c1 : decide ((gn : Int) ≤ most) = false := decide_eq_false hle
    have hgm : ¬ ((gn : Int) ≤ most) := by omega
    have HGM := am hgm
    clear hle hm hgm
    have hn := HNUM.out false (by rw [decide_eq_false HGM.out]; rfl)
    have hbad : (skipR s gu false).2.bad = true := by rw [skipR_bad (.inr (.inl rfl))]
    rw [if_pos hbad] at hn
    have HN := am hn
    have HB := am hbad
    clear hn hbad
    go_enter Try.func126, Try.ntmps126
    go_wp2_with fail
    refine (get_call HG.out H.out.byt (by have := H.out.len; omega) A c _ HA.out HC.out).mono ?_
    rintro e_ w1 ⟨rfl, q, rfl⟩
    go_wp2_with fail
    refine (cskip_call dv w0 _ rb s gu false (H.out.below (pw_below_drewN (Below.refl _ _) q)) (by have := HG10.out; omega)).mono ?_
    rintro e_ w2 ⟨⟨A2, c2, rfl, _, _⟩, hst, hg⟩
    have HST := am hst
    have HGR := am ((grown_of_below (pw_below_drewN (Below.refl W.heap.size W) q) (some rb)).trans hg)
    obtain ⟨A3, c3, hr3, hc3, hA3⟩ := hst.row
    rw [HB.out] at hr3
    obtain ⟨y0, y1, z0, z1⟩ := CdSt.cell0 hr3 (w0 := w0)
    clear hst hg hr3 hc3 hA3 x0 x1 f0 f1
    go_wp2_with fail
    go_ret
    unfold CnuQ
    rw [HN.out]
    exact ⟨rfl, HST.out, HGR.out⟩
  ·have e0 : decide (most ≥ 0) = false := decide_eq_false hm
   have e1 : decide (0 ≤ most) = false := decide_eq_false hm
   have e2 : (most < 0) = True := eq_true (by omega)
   have hgm : ¬ ((gn : Int) ≤ most) := by omega
   have HGM := am hgm
   clear hm hgm
   cases c1 : decide ((gn : Int) ≤ 0)
   ·have c1' : decide (gn = 0) = false := by simp at c1 ⊢; omega
    have c1x : decide (gn ≤ 0) = false := by simp at c1 ⊢; omega
    have hn := HNUM.out false (by rw [decide_eq_false HGM.out]; rfl)
    have hbad : (skipR s gu false).2.bad = true := by rw [skipR_bad (.inr (.inl rfl))]
    rw [if_pos hbad] at hn
    have HN := am hn
    have HB := am hbad
    clear hn hbad
    go_enter Try.func126, Try.ntmps126
    go_wp2_with fail
    refine (get_call HG.out H.out.byt (by have := H.out.len; omega) A c _ HA.out HC.out).mono ?_
    rintro e_ w1 ⟨rfl, q, rfl⟩
    go_wp2_with fail
    refine (cskip_call dv w0 _ rb s gu false (H.out.below (pw_below_drewN (Below.refl _ _) q)) (by have := HG10.out; omega)).mono ?_
    rintro e_ w2 ⟨⟨A2, c2, rfl, _, _⟩, hst, hg⟩
    have HST := am hst
    have HGR := am ((grown_of_below (pw_below_drewN (Below.refl W.heap.size W) q) (some rb)).trans hg)
    obtain ⟨A3, c3, hr3, hc3, hA3⟩ := hst.row
    rw [HB.out] at hr3
    obtain ⟨y0, y1, z0, z1⟩ := CdSt.cell0 hr3 (w0 := w0)
    clear hst hg hr3 hc3 hA3 x0 x1 f0 f1
    go_wp2_with fail
    go_ret
    unfold CnuQ
    rw [HN.out]
    exact ⟨rfl, HST.out, HGR.out⟩
   ·have c1' : gn = 0 := by simp at c1; omega
    subst c1'
    have c1x : decide ((0 : Nat) ≤ 0) = true := by decide
    have hn := HNUM.out false (by rw [decide_eq_false HGM.out]; rfl)
    have hbad : (skipR s gu false).2.bad = true := by rw [skipR_bad (.inr (.inl rfl))]
    rw [if_pos hbad] at hn
    have HN := am hn
    have HB := am hbad
    clear hn hbad
    go_enter Try.func126, Try.ntmps126
    go_wp2_with fail
    refine (get_call HG.out H.out.byt (by have := H.out.len; omega) A c _ HA.out HC.out).mono ?_
    rintro e_ w1 ⟨rfl, q, rfl⟩
    go_wp2_with fail
    refine (cskip_call dv w0 _ rb s gu false (H.out.below (pw_below_drewN (Below.refl _ _) q)) (by have := HG10.out; omega)).mono ?_
    rintro e_ w2 ⟨⟨A2, c2, rfl, _, _⟩, hst, hg⟩
    have HST := am hst
    have HGR := am ((grown_of_below (pw_below_drewN (Below.refl W.heap.size W) q) (some rb)).trans hg)
    obtain ⟨A3, c3, hr3, hc3, hA3⟩ := hst.row
    rw [HB.out] at hr3
    obtain ⟨y0, y1, z0, z1⟩ := CdSt.cell0 hr3 (w0 := w0)
    clear hst hg hr3 hc3 hA3 x0 x1 f0 f1
    go_wp2_with fail
    go_ret
    unfold CnuQ
    rw [HN.out]
    exact ⟨rfl, HST.out, HGR.out⟩
def CwoQ (dv : Value) (w0 W : World) (rb : Nat) (s : Rd) (e : Ending) (W' : World) : Prop := e = .returned (.string (textR s).1) ∧ CdSt dv w0 W' rb (textR s).2 ∧ W.grownBy W' (some rb)
set_option maxHeartbeats 2000000 in
theorem cword_call (dv : Value) (w0 W : World) (rb : Nat) (s : Rd) (h : CdSt dv w0 W rb s) : Calls Try.prog 124 #[.pointer (some ⟨rb, 0, none⟩)] W (CwoQ dv w0 W rb s) := by
 obtain ⟨A, c, hr, hc, hA⟩ := h.row
 obtain ⟨v, n, is, hq, hn⟩ := textQ_nat h.byt h.len
 have htx : textR s = (v, (skipR s n is).2) := by
  unfold textR parR
  rw [hq]
  dsimp only
  rw [Int.toNat_natCast]
 have HTX := am htx
 have hrd := read_call (getL_is h.byt (by have := h.len; omega)) h.byt (by have := h.len; omega) 200 A c W (rdb_below hA h.bel) hc
 have hq' : readR s.b (getL s.b) 200 = (v, (n : Int), is) := hq
 rw [hq'] at hrd
 have HRD := am hrd
 have H := am h
 have HN := am hn
 obtain ⟨x0, x1, f0, f1⟩ := CdSt.cell0 hr (w0 := w0)
 clear h hr hc hA hq hn htx hrd hq'
 go_enter Try.func124, Try.ntmps124
 go_wp2_with fail
 refine HRD.out.mono ?_
 rintro e_ w1 ⟨rfl, hb1⟩
 have HB1 := am hb1
 clear hb1 x0 x1 f0 f1
 go_wp2_with fail
 refine (cskip_call dv w0 _ rb s n is (H.out.below HB1.out) HN.out).mono ?_
 rintro e_ w2 ⟨⟨A2, c2, rfl, _, _⟩, hst, hg⟩
 have HST := am hst
 have HGR := am ((grown_of_below HB1.out (some rb)).trans hg)
 clear hst hg
 go_wp2_with fail
 go_ret
 unfold CwoQ
 rw [HTX.out]
 exact ⟨rfl, HST.out, HGR.out⟩
end
section
open Go.RowKit Go.Proofs.YtchaegfdcdlfaaaW.PrintWords Go.Proofs.YtchaegfdcdlfaaaW.PrintLast Go.Proofs.YtchaegfdcdlfaaaW.PrintMore
open Go.Proofs.Ytchaegfdcdlfaaa.Y (Bytes RdB rdb_below rdb_drop rdb_take)
attribute [local go_sem] max2_int min2_int max_two min_two max_three min_three max_four min_four
def CskX (dv : Value) (w0 W : World) (rb : Nat) (s : Rd) (n : Nat) (is : Bool) (e : Ending) (W' : World) : Prop :=
 CskQ dv w0 W rb s n is e W' ∧ (0 < n → ∀ ad c, e = .returned (.slice (some ad) n c) → ad.block < w0.heap.size ∨ W.heap.size ≤ ad.block)
set_option maxHeartbeats 1000000 in
theorem cskx_ok (dv : Value) (w0 W : World) (rb : Nat) (s : Rd) (n : Nat) (h : CdSt dv w0 W rb s) (hbad : s.bad = false) (hn : n ≤ s.b.length) :
  Calls Try.prog 123 #[.pointer (some ⟨rb, 0, none⟩), .int .i64 n, .bool true] W (CskX dv w0 W rb s n true) := by
 obtain ⟨A, c, hr, hc, hA⟩ := h.row
 rw [hbad] at hr
 have H := am h
 have HR := am hr
 have HC := am hc
 have HA := am hA
 have HBAD := am hbad
 have HN := am hn
 obtain ⟨A', hcut, hA', hC'⟩ := rdb_drop A c s.b n hn hc
 have HA2 := am (hA' w0 hA)
 have HC2 := am hC'
 obtain ⟨x0, x1, f0, f1⟩ := CdSt.cell0 hr (w0 := w0)
 have c1 : decide ((n : Int) > (s.b.length : Int)) = false := decide_eq_false (by omega)
 have c2 : decide (n > s.b.length) = false := decide_eq_false (by omega)
 have c3 : ((n : Int) ≤ (s.b.length : Int)) = True := eq_true (by omega)
 have c4 : (n ≤ s.b.length) = True := eq_true (by omega)
 have c5 : (0 ≤ (n : Int)) = True := by simp
 have c6 : ((n : Int) ≤ (c : Int)) = True := eq_true (by omega)
 have c7 : (n ≤ c) = True := eq_true (by omega)
 clear h hr hc hA hbad hn hA' hC'
 go_enter Try.func123, Try.ntmps123
 go_wp2_with fail
 go_ret
 have hS := skipR_ok HBAD.out rfl HN.out (is := true)
 have hg : W.grownBy ((W.setCell ⟨rb, 2, none⟩ (.bool false)).setCell ⟨rb, 0, none⟩ (.slice A' (s.b.length - n) (c - n))) (some rb) := grown_set (grown_set (World.grownBy.refl W (some rb)) 2 _) 0 _
 have hst : CdSt dv w0 ((W.setCell ⟨rb, 2, none⟩ (.bool false)).setCell ⟨rb, 0, none⟩ (.slice A' (s.b.length - n) (c - n))) rb ⟨s.b.drop n, false⟩ := by
  refine cdst_after H.out hg ⟨s.b.drop n, false⟩ A' (c - n) ?_ (by rw [List.length_drop]; exact HC2.out) (by rw [List.length_drop]; exact HA2.out) n rfl
  rw [List.length_drop]
  exact blk_put (blk_put HR.out 2 _ rfl) 0 _ rfl
 unfold CskX CskQ
 rw [hS]
 refine ⟨⟨⟨A, c, rfl, by have := HC.out; have := HN.out; omega, ?_⟩, hst, hg⟩, fun h0 ad c' he => .inl ?_⟩
 ·exact rdb_below (rdb_take HA.out n HN.out) hst.bel
 ·have he' : Value.slice A n c = .slice (some ad) n c' := by injection he
  injection he' with hA1
  obtain ⟨ad2, hA2, hcell⟩ := Kd.at_int HA.out 0 (by omega) (by have := HN.out; omega)
  rw [hA1] at hA2
  injection hA2 with hA2
  subst hA2
  have := World.block_lt_of_cell? w0 _ hcell
  simpa [Addr.add] using this
set_option maxHeartbeats 1000000 in
theorem cskx_no (dv : Value) (w0 W : World) (rb : Nat) (s : Rd) (n : Nat) (is : Bool) (h : CdSt dv w0 W rb s) (hno : s.bad = true ∨ is = false ∨ s.b.length < n) (hn : n ≤ 1000000) :
  Calls Try.prog 123 #[.pointer (some ⟨rb, 0, none⟩), .int .i64 n, .bool is] W (CskX dv w0 W rb s n is) := by
 obtain ⟨A, c, hr, hc, hA⟩ := h.row
 have hS := am (skipR_bad hno)
 have hmk := print_make (P := Try.prog) 40 5 .u8 1 Try.underlying40 info5 (by decide) n (by omega)
 have hmx : max (n : Int) 0 = (n : Int) := by omega
 have H := am h
 have HC := am hc
 have HA := am hA
 have HN := am hn
 have HFIN : Aside0 (W.heap[rb]? = some (.cells #[.slice A s.b.length c, dv, .bool s.bad] 174 (0, 0)) → CskX dv w0 W rb s n is (.returned (.slice (some ⟨W.heap.size, 0, none⟩) n n)) ((W.setCell ⟨rb, 2, none⟩ (.bool true)).alloc (.cells (madeCells #[.int .u8 0] n) 5))) := ⟨fun hr => by
  have hz : (W.setCell ⟨rb, 2, none⟩ (.bool true)).heap.size = W.heap.size := by simp [World.setCell]
  rw [← hz]
  have hg : W.grownBy (W.setCell ⟨rb, 2, none⟩ (.bool true)) (some rb) := grown_set (World.grownBy.refl W (some rb)) 2 _
  have hst : CdSt dv w0 (W.setCell ⟨rb, 2, none⟩ (.bool true)) rb ⟨s.b, true⟩ := cdst_after h hg ⟨s.b, true⟩ A c (blk_put hr 2 _ rfl) hc hA 0 rfl
  unfold CskX CskQ
  rw [hS.out]
  refine ⟨⟨⟨_, _, rfl, Nat.le_refl _, ?_⟩, hst.below (below_alloc (Below.refl _ _) _), hg.trans (World.grownBy_alloc _ _ _)⟩, fun _ ad c' he => .inr ?_⟩
  ·have := own_made (W.setCell ⟨rb, 2, none⟩ (.bool true)) 0 5 .u8 n (Nat.zero_le _) (by omega)
   obtain ⟨A9, c9, hv, hc9, hr9⟩ := Y.own_row (l := List.replicate n 0) this
   injection hv with h1 h2 h3
   rw [h1]
   exact hr9
  ·have he' : Value.slice (some ⟨(W.setCell ⟨rb, 2, none⟩ (.bool true)).heap.size, 0, none⟩) n n = .slice (some ad) n c' := by injection he
   injection he' with hA1
   injection hA1 with hA1
   rw [← hA1, hz]
   exact Nat.le_refl _⟩
 cases hb : s.bad
 ·rw [hb] at hr
  obtain ⟨x0, x1, f0, f1⟩ := CdSt.cell0 hr (w0 := w0)
  cases is
  ·have HF := am (HFIN.out (by rw [hb]; exact hr))
   clear h hno hr hc hA hb hn HFIN
   go_enter Try.func123, Try.ntmps123
   go_wp2_with fail
   go_ret
   exact HF.out
  ·have hlt : s.b.length < n := by
    rcases hno with h1 | h1 | h1
    ·rw [hb] at h1; cases h1
    ·cases h1
    ·exact h1
   have c1 : decide ((n : Int) > (s.b.length : Int)) = true := decide_eq_true (by omega)
   have c2 : decide (n > s.b.length) = true := decide_eq_true (by omega)
   have HF := am (HFIN.out (by rw [hb]; exact hr))
   clear h hno hr hc hA hb hn hlt HFIN
   go_enter Try.func123, Try.ntmps123
   go_wp2_with fail
   go_ret
   exact HF.out
 ·rw [hb] at hr
  obtain ⟨x0, x1, f0, f1⟩ := CdSt.cell0 hr (w0 := w0)
  have HF := am (HFIN.out (by rw [hb]; exact hr))
  clear h hno hr hc hA hb hn HFIN
  go_enter Try.func123, Try.ntmps123
  go_wp2_with fail
  go_ret
  exact HF.out
theorem cskx_call (dv : Value) (w0 W : World) (rb : Nat) (s : Rd) (n : Nat) (is : Bool) (h : CdSt dv w0 W rb s) (hn : n ≤ 1000000) :
  Calls Try.prog 123 #[.pointer (some ⟨rb, 0, none⟩), .int .i64 n, .bool is] W (CskX dv w0 W rb s n is) := by
 by_cases hno : s.bad = true ∨ is = false ∨ s.b.length < n
 ·exact cskx_no dv w0 W rb s n is h hno hn
 ·have h1 : s.bad = false := by
   cases hb : s.bad
   ·rfl
   ·exact absurd (.inl hb) hno
  have h2 : is = true := by
   cases hb : is
   ·exact absurd (.inr (.inl hb)) hno
   ·rfl
  subst h2
  exact cskx_ok dv w0 W rb s n h h1 (by have : ¬ s.b.length < n := fun h => hno (.inr (.inr h)); omega)
end
section
open Go.RowKit Go.Proofs.YtchaegfdcdlfaaaW.PrintWords Go.Proofs.YtchaegfdcdlfaaaW.PrintLast Go.Proofs.YtchaegfdcdlfaaaW.PrintMore
attribute [local go_sem] max2_int min2_int max_two min_two max_three min_three max_four min_four
def opN : Kd OpT where
 sz := 71
 E := []
 K := fun _ x cs => ∃ A c, cs = opC x A c ∧ (x.id.length = 16 ∧ x.fro.length = 16 ∧ x.d.length = 32)
 M := fun _ _ _ x cs => ∃ A c, cs = opC x A c ∧ (x.id.length = 16 ∧ x.fro.length = 16 ∧ x.d.length = 32)
 K_len := fun h => by
  obtain ⟨A, c, rfl, hl⟩ := h
  exact opC_len hl A c
 K_one := fun h u hu => by
  obtain ⟨A, c, rfl, hl⟩ := h
  exact Array.all_eq_true_iff_forall_mem.1 (opC_one _ A c) u (by simpa using hu)
 K_below := fun _ h => h
 K_of_M := fun h => h
 M_mono := fun _ h => h
 M_bound := fun h => h
 M_move := fun _ h => h
 M_lower := fun _ h => h
theorem opN_C {W : World} {A : Option Addr} {n : Nat} {l : List OpT} (h : Kd.C opK W A n l) : Kd.C opN W A n l :=
 ReadsRow.imp_ h (Below.refl _ _) (fun p c hp => by
  obtain ⟨B, k, rfl, h1, h2, h3, _, _⟩ := opK_K.1 hp
  exact ⟨B, k, rfl, h1, h2, h3⟩)
theorem opn_at {W : World} {A : Option Addr} {n : Nat} {l : List OpT} (h : Kd.C opN W A n l) {i : Nat} (hi : i < n) (x : OpT) (hx : l.getD i zOp = x) :
  ∃ ad B c, A = some ad ∧ (x.id.length = 16 ∧ x.fro.length = 16 ∧ x.d.length = 32) ∧ At W (ad.add (i * 71)) (opC x B c).toArray := by
 obtain ⟨ad, cs, hA, hcl, hk, hcell⟩ := Kd.C_get h zOp (i : Int) (by omega) (by omega)
 rw [Int.toNat_natCast, hx] at hk
 rw [Int.toNat_natCast] at hcell
 obtain ⟨B, c, rfl, hl⟩ := hk
 refine ⟨ad, B, c, hA, hl, fun j v hv => ?_⟩
 rw [show (ad.add (i * 71)).add j = ad.add (i * 71 + j) by unfold Addr.add; by_cases h1 : i * 71 = 0 <;> by_cases h2 : j = 0 <;> simp [h1, h2, Nat.add_assoc]]
 exact hcell j v (by simpa using hv)
theorem zeroOp3 : (Try.prog.info? 98).map (fun i => (i.zero, i.size, i.bytes)) = some (some (.agg Try.zeroCells98), 71, 144) := by kernel_rfl
theorem zeroOp3s : (Value.agg Try.zeroCells98).cells.size = 71 := by kernel_rfl
set_option maxHeartbeats 2000000 in
theorem growo_call (n : Nat) (hn : n ≤ 1000000) (w : World) :
  Calls Try.prog 162 #[.slice none 0 0, .int .i64 n] w fun e w' => ∃ v, e = .returned v ∧ Kd.R opN 98 w' w.heap.size (fun _ => True) v [] ∧ Below w.heap.size w w' := by
 have e1 : decide ((n : Int) < 0) = false := decide_eq_false (by omega)
 by_cases h0 : 0 < n
 ·obtain ⟨i0, hi0, hz⟩ := Option.map_eq_some_iff.1 zeroOp3
  simp only [Prod.mk.injEq] at hz
  obtain ⟨hz0, hs0, hb0⟩ := hz
  have e2 : decide ((n : Int) > 0) = true := decide_eq_true (by omega)
  have e3 : IntKind.i64.wrap ((n : Int) - 0) = (n : Int) := by rw [i64_w]; unfold wrap64; omega
  have hrun := Go.Lib.run_append_nil_zeros (P := Try.prog) w 92 3 92 98 i0 _ .i64 .i64 Try.underlying92 Try.underlying3 hi0 hz0 n h0 (by omega) (by omega) (by rw [hb0]; omega)
  have hgc := grownCap_ge w n 0 98
  have hgm : grownCap w n 0 98 ≤ maxLen := grownCap_le_maxLen w n 0 98 (by unfold maxLen; omega)
  have hsz : (Builtin.zeroCells (Value.agg Try.zeroCells98).cells n ++ Builtin.zeroCells (Value.agg Try.zeroCells98).cells (grownCap w n 0 98 - n)).size = grownCap w n 0 98 * 71 := by
   rw [Array.size_append, size_zeroCells, size_zeroCells, zeroOp3s, ← Nat.add_mul]
   congr 1
   omega
  have HSZ := am hsz
  have HGM := am hgm
  obtain ⟨zc, hzc⟩ : ∃ zc, Builtin.zeroCells (Value.agg Try.zeroCells98).cells n ++ Builtin.zeroCells (Value.agg Try.zeroCells98).cells (grownCap w n 0 98 - n) = zc := ⟨_, rfl⟩
  rw [hzc] at hrun HSZ
  clear hzc hsz hgm
  obtain ⟨cp, hcp⟩ : ∃ cp, grownCap w n 0 98 = cp := ⟨_, rfl⟩
  rw [hcp] at hrun HSZ HGM hgc
  clear hcp
  go_enter Try.func162, Try.ntmps162
  go_wp2_with (first
   | ((with_reducible refine gate_builtin (b := .append) (xs := #[.tmp 20, .tmp 21]) rfl ?_); at_builtin; refine Go.Lib.wpList_append_run _ rfl _ _ _ _ rfl _ _ rfl rfl _ _ hrun ?_)
   | fail)
  go_ret
  refine ⟨_, rfl, ⟨fun _ _ => trivial, [], ⟨rfl, .inr ⟨w.heap.size, cp, zc, rfl, Nat.le_refl _, heap_alloc_new _ _, Nat.zero_le _, HGM.out, HSZ.out, rfl⟩⟩, Reps.none _ _⟩, below_drew (below_alloc (Below.refl _ _) _)⟩
 ·obtain rfl : n = 0 := by omega
  have e2 : decide (((0 : Nat) : Int) > 0) = false := by decide
  have e3 : IntKind.i64.wrap ((0 : Int) - 0) = 0 := by decide
  go_enter Try.func162, Try.ntmps162
  go_wp2_with fail
  go_ret
  exact ⟨_, rfl, Kd.R_nil _ _ _ _ _, Below.refl _ _⟩
def lenO (l : List (List OpT)) (i : Nat) : Nat := (l.take i).flatten.length
theorem lenO_succ {l : List (List OpT)} {i : Nat} (hi : i < l.length) : (l.take (i + 1)).flatten = (l.take i).flatten ++ l.getD i [] := by
 have : l.take (i + 1) = l.take i ++ [l.getD i []] := by
  rw [List.getD_eq_getElem?_getD, List.getElem?_eq_getElem hi, Option.getD_some, List.take_succ_eq_append_getElem hi]
 rw [this, List.flatten_append]
 simp
theorem lenO_le (l : List (List OpT)) (i : Nat) : lenO l i ≤ l.flatten.length := by
 have : l.flatten = (l.take i).flatten ++ (l.drop i).flatten := by rw [← List.flatten_append, List.take_append_drop]
 unfold lenO
 rw [this, List.length_append]
 omega
set_option maxHeartbeats 4000000 in
theorem cato_call (A : Option Addr) (c : Nat) (l : List (List OpT)) (w : World) (hr : Kd.C batK w A l.length l) (hl : l.flatten.length ≤ 1000000) (hn : l.length ≤ 1000000) :
  Calls Try.prog 132 #[.slice A l.length c] w fun e w' => ∃ v, e = .returned v ∧ Kd.R opN 98 w' w.heap.size (fun _ => True) v l.flatten ∧ Below w.heap.size w w' := by
 have HR := am hr
 have HL := am hl
 have HN := am hn
 clear hr hl
 go_enter Try.func132, Try.ntmps132
 go_wp2_with fail
 go_loopg [3, 11] l.length (fun k v3 v11 w' => ∃ i : Nat, v3 = .int .i64 (lenO l i : Int) ∧ v11 = .int .i64 i ∧ Aside0 (k = l.length - i ∧ i ≤ l.length) ∧ Aside0 (Below w.heap.size w w'))
 case atStart => exact ⟨0, by simp [lenO], rfl, ⟨by omega, by omega⟩, ⟨Below.refl _ _⟩⟩
 case round =>
  obtain ⟨i, rfl, rfl, HI, HB⟩ := hrel
  by_cases hi : i < l.length
  ·have d1 : decide (i < l.length) = true := decide_eq_true hi
   have d2 : decide ((i : Int) < (l.length : Int)) = true := decide_eq_true (by omega)
   have pi : ((i : Int) < (l.length : Int)) = True := eq_true (by omega)
   have qi : (0 ≤ (i : Int)) = True := eq_true (by omega)
   have hwi : IntKind.i64.wrap ((i : Int) + 1) = ((i + 1 : Nat) : Int) := by rw [i64_w]; unfold wrap64; omega
   obtain ⟨x, hx⟩ : ∃ x, l.getD i [] = x := ⟨_, rfl⟩
   obtain ⟨ad0, A0, c0, e0, hc0, hC0, x0⟩ := bat_at (Kd.C_below HR.out HB.out) hi x hx
   subst e0
   have HE := lenO_succ hi
   rw [hx] at HE
   have hs : lenO l (i + 1) = lenO l i + x.length := by unfold lenO; rw [HE, List.length_append]
   have hle := lenO_le l (i + 1)
   have hll := HL.out
   have hw2 : IntKind.i64.wrap ((lenO l i : Int) + (x.length : Int)) = (lenO l (i + 1) : Int) := by rw [i64_w]; unfold wrap64; omega
   have d3 : decide ((lenO l (i + 1) : Int) < 0) = false := decide_eq_false (by omega)
   clear HE hs hle hll hx hC0
   go_wp2_with fail
   go_roundg (l.length - (i + 1))
   case measure => have := HI.out; omega
   case rel => exact ⟨i + 1, rfl, by simp, ⟨rfl, by omega⟩, HB⟩
  ·have d1 : decide (i < l.length) = false := decide_eq_false hi
   have d2 : decide ((i : Int) < (l.length : Int)) = false := decide_eq_false (by omega)
   obtain rfl : i = l.length := by have := HI.out; omega
   have hle := lenO_le l l.length
   have hll := HL.out
   clear hi
   go_wp2_with fail
   refine (growo_call (lenO l l.length) (by omega) _).mono ?_
   rintro e w1 ⟨v, rfl, ho1, hb1⟩
   have HO := am (Kd.R_lower ho1 HB.out.size)
   have HB1 := am (below_step HB.out hb1)
   clear ho1 hb1 hle hll HB
   go_wp2_with fail
   go_loopg [6, 27] l.length (fun k v6 v27 w' => ∃ i : Nat, v27 = .int .i64 i ∧ Aside0 (k = l.length - i ∧ i ≤ l.length) ∧ Aside0 (Kd.R opN 98 w' w.heap.size (fun _ => True) v6 (l.take i).flatten) ∧ Aside0 (Below w.heap.size w w'))
   case atStart => exact ⟨0, rfl, ⟨by omega, by omega⟩, ⟨by simpa using HO.out⟩, HB1⟩
   case round =>
    clear HO HB1 HI
    obtain ⟨i, rfl, HI, HO, HB⟩ := hrel
    by_cases hi : i < l.length
    ·have d1 : decide (i < l.length) = true := decide_eq_true hi
     have d2 : decide ((i : Int) < (l.length : Int)) = true := decide_eq_true (by omega)
     have pi : ((i : Int) < (l.length : Int)) = True := eq_true (by omega)
     have qi : (0 ≤ (i : Int)) = True := eq_true (by omega)
     have hwi : IntKind.i64.wrap ((i : Int) + 1) = ((i + 1 : Nat) : Int) := by rw [i64_w]; unfold wrap64; omega
     obtain ⟨x, hx⟩ : ∃ x, l.getD i [] = x := ⟨_, rfl⟩
     obtain ⟨ad0, A0, c0, e0, hc0, hi0, x0⟩ := bat_at (Kd.C_below HR.out HB.out) hi x hx
     subst e0
     have HI0 := am (opN_C hi0)
     have hse := lenO_succ hi
     rw [hx] at hse
     have HE := am hse
     have hs : lenO l (i + 1) = lenO l i + x.length := by unfold lenO; rw [HE.out, List.length_append]
     have hle := lenO_le l (i + 1)
     have HLE : Aside0 (((l.take i).flatten.length + x.length) * 144 ≤ 140737488355328) := ⟨by have := HL.out; have := hs; unfold lenO at this hle; omega⟩
     clear hi0 hs hle hse hx
     go_wp2_with (first | ((with_reducible refine gate_builtin (b := .append) (xs := #[.tmp 31, .tmp 32]) rfl ?_); at_builtin; refine Kd.R_append_rows opN (w0 := w) w.heap.size rfl (.tmp 31) (.tmp 32) 92 98 (.agg Try.zeroCells98) 144 rfl Try.underlying92 zeroOp3 zeroOp3s (by decide) (by omega) u6 (l.take i).flatten x _ _ _ (fun _ => True) (fun _ => False) rfl rfl HO.out HI0.out (fun _ _ h => h) (fun _ h => h.elim) (fun _ _ => trivial) HB.out HB.out.size (by have := HLE.out; omega) ?_; intro v1 w1 ho hb hg hat; have HO1 := am ho; have HB1 := am hb; clear ho hb hg hat) | fail)
     go_roundg (l.length - (i + 1))
     case measure => have := HI.out; omega
     case rel => exact ⟨i + 1, by simp, ⟨rfl, by omega⟩, ⟨by rw [HE.out]; exact HO1.out⟩, HB1⟩
    ·have d1 : decide (i < l.length) = false := decide_eq_false hi
     have d2 : decide ((i : Int) < (l.length : Int)) = false := decide_eq_false (by omega)
     have hil : i = l.length := by have := HI.out; omega
     have HX : Aside0 ((l.take i).flatten = l.flatten) := ⟨by rw [hil, List.take_length]⟩
     clear hi hil
     go_wp2_with fail
     go_ret
     exact ⟨_, rfl, by rw [← HX.out]; exact HO.out, HB.out⟩
end
section
open Go.RowKit Go.Proofs.YtchaegfdcdlfaaaW.PrintWords Go.Proofs.YtchaegfdcdlfaaaW.PrintLast Go.Proofs.YtchaegfdcdlfaaaW.PrintMore
open Go.Proofs.Ytchaegfdcdlfaaa.Y (Bytes RdB put put_range put_length put_length_pos word word_length word_bytes rdb_below rdb_drewN put_call text_call row_slice)
attribute [local go_sem] max2_int min2_int max_two min_two max_three min_three max_four min_four
theorem dput_call {l : List S67} (hm : mayL l = true) (A : Option Addr) (c : Nat) (w : World) (hC : Kd.C k67 w A l.length l) (hc : l.length ≤ c) : Calls Try.prog 50 #[.slice A l.length c] w fun e w' => (∃ A2 c2, e = .returned (.tuple #[.slice A2 (putL l).length c2, .bool true]) ∧ (putL l).length ≤ c2 ∧ RdB w' A2 (putL l).length (putL l)) ∧ Below w.heap.size w w' := by
 refine (delta_Put.calls 200 A c l (putL l) true w hC hc (DPut_eq hm 200 (by decide))).mono ?_
 rintro e w' ⟨v, rfl, ho, hb⟩
 obtain ⟨A2, c2, rfl, hc2, hr⟩ := Kd.R_reads ho
 exact ⟨⟨A2, c2, rfl, hc2, hr⟩, hb⟩
abbrev ObS (w0 : World) (cs : Array Value) (W : World) : Prop := W.heap[w0.heap.size]? = some (.cells cs 98 (0, 0)) ∧ Below w0.heap.size w0 W
theorem ObS.step {w0 : World} {cs : Array Value} {W W1 : World} (h : ObS w0 cs W) (hb : Below W.heap.size W W1) : ObS w0 cs W1 := ⟨blk_below h.1 hb, below_step h.2 hb⟩
def ohB (x : OpT) : List Int := [x.kind] ++ (x.id ++ put (stNum x.n x.rep))
theorem opB_oh (x : OpT) : opB x = ohB x ++ tailB x.kind (x.no, x.v, x.p, x.fro, x.fno, x.d) := by unfold opB ohB; simp only [List.append_assoc]
def PutQ (w : World) (l : List Int) (e : Ending) (w' : World) : Prop := (∃ A2 c2, e = .returned (.tuple #[.slice A2 l.length c2, .bool true]) ∧ l.length ≤ c2 ∧ RdB w' A2 l.length l) ∧ Below w.heap.size w w'
set_option maxHeartbeats 4000000 in
theorem put_o0 (x : OpT) (A : Option Addr) (c : Nat) (w : World) (h : OkO x) (hc : x.p.length ≤ c) (hC : Kd.C k67 w A x.p.length x.p) (c0 : x.kind = 0) (c1 : (x.kind == 1) = false) (c2 : (x.kind == 2) = false) (c3 : (x.kind == 3) = false) :
  Calls Try.prog 135 #[.agg (opC x A c).toArray] w (PutQ w (opB x)) := by
 have hx : x.id.length = 16 ∧ x.fro.length = 16 ∧ x.d.length = 32 := ⟨h.2.id.1, h.2.fro.1, h.2.d.1⟩
 have hf := mayO_facts h.1
 have HF := am hf
 have HX := am hx
 have HCC := am hc
 have HC := am hC
 have HI := am (opInfo hx A c)
 have hm := mayo_call x A c (w.alloc (.cells (opC x A c).toArray 98)) hx hc (Kd.C_alloc hC _) (by have := ((mayL_iff _).1 hf.2.2.2.2.2.2.2.2.2).2.1; omega)
 rw [h.1] at hm
 obtain ⟨k0, k17, k18, k19, k20, k21, k38⟩ := opC_at hx A c
 have HAT := am (fun (W : World) (h : W.heap[w.heap.size]? = some (.cells (opC x A c).toArray 98 (0, 0))) => by
  have := opC_arr hx A c (At.blk h)
  rwa [add_at, add_at, add_at] at this)
 have hwk : IntKind.u8.wrap x.kind = x.kind := by have := HF.out; simp [IntKind.wrap, IntKind.bits, IntKind.signed]; omega
 have hwn : IntKind.u8.wrap x.no = x.no := by have := HF.out; simp [IntKind.wrap, IntKind.bits, IntKind.signed]; omega
 have hwf : IntKind.u8.wrap x.fno = x.fno := by have := HF.out; simp [IntKind.wrap, IntKind.bits, IntKind.signed]; omega
 have hstp := stput_call x.n x.rep hf.2.2.2.1
 have HSL : Aside0 ((put (stNum x.n x.rep)).length ≤ 10) := ⟨by have hr := stMay_range hf.2.2.2.1; exact put_length _ (by unfold stNum; omega)⟩
 obtain ⟨st, hst⟩ : ∃ st, put (stNum x.n x.rep) = st := ⟨_, rfl⟩
 have HH : Aside0 ([[x.kind], x.id, st].flatten = ohB x) := ⟨by unfold ohB; rw [hst]; simp⟩
 rw [hst] at hstp HSL
 have HSTP := am hstp
 obtain ⟨oh, hoh⟩ : ∃ oh, ohB x = oh := ⟨_, rfl⟩
 have HOB : Aside0 (opB x = oh ++ tailB x.kind (x.no, x.v, x.p, x.fro, x.fno, x.d)) := ⟨by rw [opB_oh, hoh]⟩
 have HOL : Aside0 (oh.length ≤ 30) := ⟨by rw [← hoh]; unfold ohB; have := HSL.out; rw [hst]; simp only [List.length_append, List.length_cons, List.length_nil]; have := hx.1; omega⟩
 rw [hoh] at HH
 obtain ⟨rs, hrs⟩ : ∃ rs, opB x = rs := ⟨_, rfl⟩
 rw [hrs] at HOB ⊢
 obtain ⟨cs, hcs⟩ : ∃ cs, (opC x A c).toArray = cs := ⟨_, rfl⟩
 rw [hcs] at k0 k17 k18 k19 k20 k21 k38 HAT HI hm ⊢
 have HM := am hm
 have HK := am (And.intro k0 (And.intro k19 (And.intro k20 (And.intro k21 k38))))
 have HBK := am (blk_new w (.cells cs 98))
 have HRS : Aside0 (rs = oh) := ⟨by rw [HOB.out]; unfold tailB; rw [if_pos (by simpa using c0), List.append_nil]⟩
 clear c0
 clear hx hf hc hC hm hst hstp hoh hrs hcs h k0 k19 k20 k21 k38
 go_enter Try.func135, Try.ntmps135
 go_wp2_with (first
  | ((with_reducible refine gate_dst (N := 10) rfl ?_); refine wpList_load_row rfl 98 (.tmp 1) rfl w.heap.size rfl 98 cs (0, 0) _ HBK.out Try.underlying98 rfl HI.out ?_)
  | fail)
 refine HM.out.mono ?_
 rintro e_ w1 ⟨rfl, hb1⟩
 have H1 : Aside0 (ObS w cs w1) := ⟨ObS.step ⟨HBK.out, below_alloc (Below.refl _ _) _⟩ hb1⟩
 have g17 := (blk_cell H1.out.1 17).trans k17
 have g18 := (blk_cell H1.out.1 18).trans k18
 clear hb1 k17 k18
 go_wp2_with fail
 refine (HSTP.out _).mono ?_
 rintro e_ w2 ⟨⟨A1, c1_, rfl, hc1, hr1⟩, hb2⟩
 have S1 : Aside0 (SlB w2 (.slice A1 st.length c1_) st) := ⟨⟨A1, c1_, rfl, hc1, hr1⟩⟩
 have H2 : Aside0 (ObS w cs w2) := ⟨ObS.step H1.out hb2⟩
 clear hc1 hr1 hb2 g17 g18
 go_wp2_with fail
 refine wp_region_held_drew (S := (fun W => ObS w cs W)) (by kernel_rfl) (ObS.step H2.out (below_drew (Below.refl _ _))) (fun hHeld => ?_)
 refine th (i := 0) ?_
 refine tu (i := 1) (fun W_ hW_ => (blk_cell hW_.1 0).trans HK.out.1) ?_
 refine th (i := 2) ?_
 refine th (i := 4) ?_
 refine th (i := 5) ?_
 refine th (i := 6) ?_
 refine tr (i := 3) (fun K hK => ?_)
 go_wp2_with fail
 refine hK.out _ _ (ObS.step hHeld (below_alloc (Below.refl _ _) _)) ?_
 clear hK K hHeld
 intro hHeld
 try simp only [sp]
 have SO : Aside0 (SlB (w2.drew.alloc (.cells #[.int .u8 x.kind] 5)) (.slice (some ⟨w2.drew.heap.size, 0, none⟩) 1 1) [x.kind]) := ⟨SlB.one _ _⟩
 have S12 := am (S1.out.drew.alloc (.cells #[.int .u8 x.kind] 5))
 have HB3 := am hHeld
 refine tr (i := 7) (fun K hK => ?_)
 go_wp2_with fail
 refine hK.out _ _ (ObS.step hHeld (below_alloc (Below.refl _ _) _)) ?_
 clear hK K hHeld
 intro hHeld
 try simp only [sp]
 have SD : Aside0 (SlB (w2.drew.alloc (.cells #[.int .u8 x.kind] 5)) (.slice (some ⟨w.heap.size, 1, none⟩) 16 16) x.id) := ⟨SlB.at (HAT.out _ HB3.out.1).1 16 16 HX.out.1 (by decide) (by decide)⟩
 have SS : Aside0 (SlBs (w2.drew.alloc (.cells #[.int .u8 x.kind] 5)) [.slice (some ⟨w2.drew.heap.size, 0, none⟩) 1 1, .slice (some ⟨w.heap.size, 1, none⟩) 16 16, .slice A1 st.length c1_] [[x.kind], x.id, st]) := ⟨.cons SO.out (.cons SD.out (.cons S12.out .nil))⟩
 refine tr (i := 8) (fun K hK => ?_)
 go_wp2_with fail
 refine (cat_rows SS.out (by show _ + 1 ≤ 1000; simp) (w2.heap.size + 1) (Array.size_push ..) 3 rfl (by have := HSL.out; have := HX.out.1; simp; omega) oh HH.out).mono ?_
 rintro e_ w3 ⟨⟨A3, c3_, rfl, hc3, hr3⟩, hb3⟩
 refine hK.out _ _ (ObS.step HB3.out hb3) ?_
 clear hK K hHeld
 intro hHeld
 try simp only [sp]
 have S3 : Aside0 (SlB w3 (.slice A3 oh.length c3_) oh) := ⟨⟨A3, c3_, rfl, hc3, hr3⟩⟩
 have HE3 := am (And.intro hc3 hr3)
 clear hc3 hr3 hb3
 refine th (i := 9) ?_
 refine td ?_
 have H3 := am hHeld
 clear hHeld
 have f0 := (blk_cell H3.out.1 0).trans HK.out.1
 have f19 := (blk_cell H3.out.1 19).trans HK.out.2.1
 go_wp2_with fail
 go_ret2
 refine ⟨⟨A3, c3_, ?_, ?_, ?_⟩, H3.out.2⟩
 ·rw [HRS.out]; rfl
 ·rw [HRS.out]; exact HE3.out.1
 ·rw [HRS.out]; exact HE3.out.2
set_option maxHeartbeats 4000000 in
theorem put_o1 (x : OpT) (A : Option Addr) (c : Nat) (w : World) (h : OkO x) (hc : x.p.length ≤ c) (hC : Kd.C k67 w A x.p.length x.p) (c1 : (x.kind == 1) = true) :
  Calls Try.prog 135 #[.agg (opC x A c).toArray] w (PutQ w (opB x)) := by
 have hx : x.id.length = 16 ∧ x.fro.length = 16 ∧ x.d.length = 32 := ⟨h.2.id.1, h.2.fro.1, h.2.d.1⟩
 have hf := mayO_facts h.1
 have HF := am hf
 have HX := am hx
 have HCC := am hc
 have HC := am hC
 have HI := am (opInfo hx A c)
 have hm := mayo_call x A c (w.alloc (.cells (opC x A c).toArray 98)) hx hc (Kd.C_alloc hC _) (by have := ((mayL_iff _).1 hf.2.2.2.2.2.2.2.2.2).2.1; omega)
 rw [h.1] at hm
 obtain ⟨k0, k17, k18, k19, k20, k21, k38⟩ := opC_at hx A c
 have HAT := am (fun (W : World) (h : W.heap[w.heap.size]? = some (.cells (opC x A c).toArray 98 (0, 0))) => by
  have := opC_arr hx A c (At.blk h)
  rwa [add_at, add_at, add_at] at this)
 have hwk : IntKind.u8.wrap x.kind = x.kind := by have := HF.out; simp [IntKind.wrap, IntKind.bits, IntKind.signed]; omega
 have hwn : IntKind.u8.wrap x.no = x.no := by have := HF.out; simp [IntKind.wrap, IntKind.bits, IntKind.signed]; omega
 have hwf : IntKind.u8.wrap x.fno = x.fno := by have := HF.out; simp [IntKind.wrap, IntKind.bits, IntKind.signed]; omega
 have hstp := stput_call x.n x.rep hf.2.2.2.1
 have HSL : Aside0 ((put (stNum x.n x.rep)).length ≤ 10) := ⟨by have hr := stMay_range hf.2.2.2.1; exact put_length _ (by unfold stNum; omega)⟩
 obtain ⟨st, hst⟩ : ∃ st, put (stNum x.n x.rep) = st := ⟨_, rfl⟩
 have HH : Aside0 ([[x.kind], x.id, st].flatten = ohB x) := ⟨by unfold ohB; rw [hst]; simp⟩
 rw [hst] at hstp HSL
 have HSTP := am hstp
 obtain ⟨oh, hoh⟩ : ∃ oh, ohB x = oh := ⟨_, rfl⟩
 have HOB : Aside0 (opB x = oh ++ tailB x.kind (x.no, x.v, x.p, x.fro, x.fno, x.d)) := ⟨by rw [opB_oh, hoh]⟩
 have HOL : Aside0 (oh.length ≤ 30) := ⟨by rw [← hoh]; unfold ohB; have := HSL.out; rw [hst]; simp only [List.length_append, List.length_cons, List.length_nil]; have := hx.1; omega⟩
 rw [hoh] at HH
 obtain ⟨rs, hrs⟩ : ∃ rs, opB x = rs := ⟨_, rfl⟩
 rw [hrs] at HOB ⊢
 obtain ⟨cs, hcs⟩ : ∃ cs, (opC x A c).toArray = cs := ⟨_, rfl⟩
 rw [hcs] at k0 k17 k18 k19 k20 k21 k38 HAT HI hm ⊢
 have HM := am hm
 have HK := am (And.intro k0 (And.intro k19 (And.intro k20 (And.intro k21 k38))))
 have HBK := am (blk_new w (.cells cs 98))
 have HFL : Aside0 ([oh, [x.no], textB x.v].flatten = rs) := ⟨by
  have e : x.kind = 1 := by simpa using c1
  rw [HOB.out]; unfold tailB; rw [if_neg (by omega), if_pos e]; simp⟩
 have HTL : Aside0 ((textB x.v).length ≤ 210) := ⟨by have := textB_len x.v (by have := HF.out.2.2.2.2.2.2.2.2.1; omega); have := HF.out.2.2.2.2.2.2.2.2.1; omega⟩
 have htc : ∀ W : World, Calls Try.prog 93 #[.string x.v] W fun e w' => ∃ A c, e = .returned (.slice A (textB x.v).length c) ∧ (textB x.v).length ≤ c ∧ RdB w' A (textB x.v).length (textB x.v) ∧ Below W.heap.size W w' := fun W => text_call x.v (by have := HF.out.2.2.2.2.2.2.2.2.1; omega) W
 obtain ⟨tb, htb⟩ : ∃ tb, textB x.v = tb := ⟨_, rfl⟩
 rw [htb] at HFL HTL htc
 have HTC := am htc
 clear htc htb
 clear hx hf hc hC hm hst hstp hoh hrs hcs h k0 k19 k20 k21 k38
 go_enter Try.func135, Try.ntmps135
 go_wp2_with (first
  | ((with_reducible refine gate_dst (N := 10) rfl ?_); refine wpList_load_row rfl 98 (.tmp 1) rfl w.heap.size rfl 98 cs (0, 0) _ HBK.out Try.underlying98 rfl HI.out ?_)
  | fail)
 refine HM.out.mono ?_
 rintro e_ w1 ⟨rfl, hb1⟩
 have H1 : Aside0 (ObS w cs w1) := ⟨ObS.step ⟨HBK.out, below_alloc (Below.refl _ _) _⟩ hb1⟩
 have g17 := (blk_cell H1.out.1 17).trans k17
 have g18 := (blk_cell H1.out.1 18).trans k18
 clear hb1 k17 k18
 go_wp2_with fail
 refine (HSTP.out _).mono ?_
 rintro e_ w2 ⟨⟨A1, c1_, rfl, hc1, hr1⟩, hb2⟩
 have S1 : Aside0 (SlB w2 (.slice A1 st.length c1_) st) := ⟨⟨A1, c1_, rfl, hc1, hr1⟩⟩
 have H2 : Aside0 (ObS w cs w2) := ⟨ObS.step H1.out hb2⟩
 clear hc1 hr1 hb2 g17 g18
 go_wp2_with fail
 refine wp_region_held_drew (S := (fun W => ObS w cs W)) (by kernel_rfl) (ObS.step H2.out (below_drew (Below.refl _ _))) (fun hHeld => ?_)
 refine th (i := 0) ?_
 refine tu (i := 1) (fun W_ hW_ => (blk_cell hW_.1 0).trans HK.out.1) ?_
 refine th (i := 2) ?_
 refine th (i := 4) ?_
 refine th (i := 5) ?_
 refine th (i := 6) ?_
 refine tr (i := 3) (fun K hK => ?_)
 go_wp2_with fail
 refine hK.out _ _ (ObS.step hHeld (below_alloc (Below.refl _ _) _)) ?_
 clear hK K hHeld
 intro hHeld
 try simp only [sp]
 have SO : Aside0 (SlB (w2.drew.alloc (.cells #[.int .u8 x.kind] 5)) (.slice (some ⟨w2.drew.heap.size, 0, none⟩) 1 1) [x.kind]) := ⟨SlB.one _ _⟩
 have S12 := am (S1.out.drew.alloc (.cells #[.int .u8 x.kind] 5))
 have HB3 := am hHeld
 refine tr (i := 7) (fun K hK => ?_)
 go_wp2_with fail
 refine hK.out _ _ (ObS.step hHeld (below_alloc (Below.refl _ _) _)) ?_
 clear hK K hHeld
 intro hHeld
 try simp only [sp]
 have SD : Aside0 (SlB (w2.drew.alloc (.cells #[.int .u8 x.kind] 5)) (.slice (some ⟨w.heap.size, 1, none⟩) 16 16) x.id) := ⟨SlB.at (HAT.out _ HB3.out.1).1 16 16 HX.out.1 (by decide) (by decide)⟩
 have SS : Aside0 (SlBs (w2.drew.alloc (.cells #[.int .u8 x.kind] 5)) [.slice (some ⟨w2.drew.heap.size, 0, none⟩) 1 1, .slice (some ⟨w.heap.size, 1, none⟩) 16 16, .slice A1 st.length c1_] [[x.kind], x.id, st]) := ⟨.cons SO.out (.cons SD.out (.cons S12.out .nil))⟩
 refine tr (i := 8) (fun K hK => ?_)
 go_wp2_with fail
 refine (cat_rows SS.out (by show _ + 1 ≤ 1000; simp) (w2.heap.size + 1) (Array.size_push ..) 3 rfl (by have := HSL.out; have := HX.out.1; simp; omega) oh HH.out).mono ?_
 rintro e_ w3 ⟨⟨A3, c3_, rfl, hc3, hr3⟩, hb3⟩
 refine hK.out _ _ (ObS.step HB3.out hb3) ?_
 clear hK K hHeld
 intro hHeld
 try simp only [sp]
 have S3 : Aside0 (SlB w3 (.slice A3 oh.length c3_) oh) := ⟨⟨A3, c3_, rfl, hc3, hr3⟩⟩
 have HE3 := am (And.intro hc3 hr3)
 clear hc3 hr3 hb3
 refine th (i := 9) ?_
 refine td ?_
 have H3 := am hHeld
 clear hHeld
 have f0 := (blk_cell H3.out.1 0).trans HK.out.1
 have f19 := (blk_cell H3.out.1 19).trans HK.out.2.1
 have f20 := (blk_cell (ObS.step H3.out (below_alloc (Below.refl _ _) (.cells #[.int .u8 x.no] 5))).1 20).trans HK.out.2.2.1
 go_wp2_with fail
 refine (HTC.out _).mono ?_
 rintro e_ w4 ⟨A4, c4, rfl, hc4, hr4, hb4⟩
 have ST : Aside0 (SlB w4 (.slice A4 tb.length c4) tb) := ⟨⟨A4, c4, rfl, hc4, hr4⟩⟩
 have SN : Aside0 (SlB w4 (.slice (some ⟨w3.heap.size, 0, none⟩) 1 1) [x.no]) := ⟨(SlB.one w3 x.no).below hb4⟩
 have S4 := am ((S3.out.alloc (.cells #[.int .u8 x.no] 5)).below hb4)
 have H4 := am (ObS.step (ObS.step H3.out (below_alloc (Below.refl _ _) (.cells #[.int .u8 x.no] 5))) hb4)
 clear hc4 hr4 hb4 f20 f0 f19
 have SS2 : Aside0 (SlBs w4 [.slice A3 oh.length c3_, .slice (some ⟨w3.heap.size, 0, none⟩) 1 1, .slice A4 tb.length c4] [oh, [x.no], tb]) := ⟨.cons S4.out (.cons SN.out (.cons ST.out .nil))⟩
 go_wp2_with fail
 refine (cat_rows SS2.out (by show _ + 1 ≤ 1000; simp) _ rfl 3 rfl (by have := HOL.out; have := HTL.out; simp; omega) rs HFL.out).mono ?_
 rintro e_ w9 ⟨⟨A9, c9, rfl, hc9, hr9⟩, hb9⟩
 have HQ := am (And.intro hc9 (And.intro hr9 (below_step H4.out.2 hb9)))
 clear hc9 hr9 hb9
 go_wp2_with fail
 go_ret2
 exact ⟨⟨_, _, rfl, HQ.out.1, HQ.out.2.1⟩, HQ.out.2.2⟩
set_option maxHeartbeats 4000000 in
theorem put_o2 (x : OpT) (A : Option Addr) (c : Nat) (w : World) (h : OkO x) (hc : x.p.length ≤ c) (hC : Kd.C k67 w A x.p.length x.p) (c1 : (x.kind == 1) = false) (c2 : (x.kind == 2) = true) :
  Calls Try.prog 135 #[.agg (opC x A c).toArray] w (PutQ w (opB x)) := by
 have hx : x.id.length = 16 ∧ x.fro.length = 16 ∧ x.d.length = 32 := ⟨h.2.id.1, h.2.fro.1, h.2.d.1⟩
 have hf := mayO_facts h.1
 have HF := am hf
 have HX := am hx
 have HCC := am hc
 have HC := am hC
 have HI := am (opInfo hx A c)
 have hm := mayo_call x A c (w.alloc (.cells (opC x A c).toArray 98)) hx hc (Kd.C_alloc hC _) (by have := ((mayL_iff _).1 hf.2.2.2.2.2.2.2.2.2).2.1; omega)
 rw [h.1] at hm
 obtain ⟨k0, k17, k18, k19, k20, k21, k38⟩ := opC_at hx A c
 have HAT := am (fun (W : World) (h : W.heap[w.heap.size]? = some (.cells (opC x A c).toArray 98 (0, 0))) => by
  have := opC_arr hx A c (At.blk h)
  rwa [add_at, add_at, add_at] at this)
 have hwk : IntKind.u8.wrap x.kind = x.kind := by have := HF.out; simp [IntKind.wrap, IntKind.bits, IntKind.signed]; omega
 have hwn : IntKind.u8.wrap x.no = x.no := by have := HF.out; simp [IntKind.wrap, IntKind.bits, IntKind.signed]; omega
 have hwf : IntKind.u8.wrap x.fno = x.fno := by have := HF.out; simp [IntKind.wrap, IntKind.bits, IntKind.signed]; omega
 have hstp := stput_call x.n x.rep hf.2.2.2.1
 have HSL : Aside0 ((put (stNum x.n x.rep)).length ≤ 10) := ⟨by have hr := stMay_range hf.2.2.2.1; exact put_length _ (by unfold stNum; omega)⟩
 obtain ⟨st, hst⟩ : ∃ st, put (stNum x.n x.rep) = st := ⟨_, rfl⟩
 have HH : Aside0 ([[x.kind], x.id, st].flatten = ohB x) := ⟨by unfold ohB; rw [hst]; simp⟩
 rw [hst] at hstp HSL
 have HSTP := am hstp
 obtain ⟨oh, hoh⟩ : ∃ oh, ohB x = oh := ⟨_, rfl⟩
 have HOB : Aside0 (opB x = oh ++ tailB x.kind (x.no, x.v, x.p, x.fro, x.fno, x.d)) := ⟨by rw [opB_oh, hoh]⟩
 have HOL : Aside0 (oh.length ≤ 30) := ⟨by rw [← hoh]; unfold ohB; have := HSL.out; rw [hst]; simp only [List.length_append, List.length_cons, List.length_nil]; have := hx.1; omega⟩
 rw [hoh] at HH
 obtain ⟨rs, hrs⟩ : ∃ rs, opB x = rs := ⟨_, rfl⟩
 rw [hrs] at HOB ⊢
 obtain ⟨cs, hcs⟩ : ∃ cs, (opC x A c).toArray = cs := ⟨_, rfl⟩
 rw [hcs] at k0 k17 k18 k19 k20 k21 k38 HAT HI hm ⊢
 have HM := am hm
 have HK := am (And.intro k0 (And.intro k19 (And.intro k20 (And.intro k21 k38))))
 have HBK := am (blk_new w (.cells cs 98))
 have HFL : Aside0 ([oh, [x.no], x.fro, [x.fno], x.d].flatten = rs) := ⟨by
  have e : x.kind = 2 := by simpa using c2
  rw [HOB.out]; unfold tailB; rw [if_neg (by omega), if_neg (by omega), if_pos e]; simp⟩
 clear hx hf hc hC hm hst hstp hoh hrs hcs h k0 k19 k20 k21 k38
 go_enter Try.func135, Try.ntmps135
 go_wp2_with (first
  | ((with_reducible refine gate_dst (N := 10) rfl ?_); refine wpList_load_row rfl 98 (.tmp 1) rfl w.heap.size rfl 98 cs (0, 0) _ HBK.out Try.underlying98 rfl HI.out ?_)
  | fail)
 refine HM.out.mono ?_
 rintro e_ w1 ⟨rfl, hb1⟩
 have H1 : Aside0 (ObS w cs w1) := ⟨ObS.step ⟨HBK.out, below_alloc (Below.refl _ _) _⟩ hb1⟩
 have g17 := (blk_cell H1.out.1 17).trans k17
 have g18 := (blk_cell H1.out.1 18).trans k18
 clear hb1 k17 k18
 go_wp2_with fail
 refine (HSTP.out _).mono ?_
 rintro e_ w2 ⟨⟨A1, c1_, rfl, hc1, hr1⟩, hb2⟩
 have S1 : Aside0 (SlB w2 (.slice A1 st.length c1_) st) := ⟨⟨A1, c1_, rfl, hc1, hr1⟩⟩
 have H2 : Aside0 (ObS w cs w2) := ⟨ObS.step H1.out hb2⟩
 clear hc1 hr1 hb2 g17 g18
 go_wp2_with fail
 refine wp_region_held_drew (S := (fun W => ObS w cs W)) (by kernel_rfl) (ObS.step H2.out (below_drew (Below.refl _ _))) (fun hHeld => ?_)
 refine th (i := 0) ?_
 refine tu (i := 1) (fun W_ hW_ => (blk_cell hW_.1 0).trans HK.out.1) ?_
 refine th (i := 2) ?_
 refine th (i := 4) ?_
 refine th (i := 5) ?_
 refine th (i := 6) ?_
 refine tr (i := 3) (fun K hK => ?_)
 go_wp2_with fail
 refine hK.out _ _ (ObS.step hHeld (below_alloc (Below.refl _ _) _)) ?_
 clear hK K hHeld
 intro hHeld
 try simp only [sp]
 have SO : Aside0 (SlB (w2.drew.alloc (.cells #[.int .u8 x.kind] 5)) (.slice (some ⟨w2.drew.heap.size, 0, none⟩) 1 1) [x.kind]) := ⟨SlB.one _ _⟩
 have S12 := am (S1.out.drew.alloc (.cells #[.int .u8 x.kind] 5))
 have HB3 := am hHeld
 refine tr (i := 7) (fun K hK => ?_)
 go_wp2_with fail
 refine hK.out _ _ (ObS.step hHeld (below_alloc (Below.refl _ _) _)) ?_
 clear hK K hHeld
 intro hHeld
 try simp only [sp]
 have SD : Aside0 (SlB (w2.drew.alloc (.cells #[.int .u8 x.kind] 5)) (.slice (some ⟨w.heap.size, 1, none⟩) 16 16) x.id) := ⟨SlB.at (HAT.out _ HB3.out.1).1 16 16 HX.out.1 (by decide) (by decide)⟩
 have SS : Aside0 (SlBs (w2.drew.alloc (.cells #[.int .u8 x.kind] 5)) [.slice (some ⟨w2.drew.heap.size, 0, none⟩) 1 1, .slice (some ⟨w.heap.size, 1, none⟩) 16 16, .slice A1 st.length c1_] [[x.kind], x.id, st]) := ⟨.cons SO.out (.cons SD.out (.cons S12.out .nil))⟩
 refine tr (i := 8) (fun K hK => ?_)
 go_wp2_with fail
 refine (cat_rows SS.out (by show _ + 1 ≤ 1000; simp) (w2.heap.size + 1) (Array.size_push ..) 3 rfl (by have := HSL.out; have := HX.out.1; simp; omega) oh HH.out).mono ?_
 rintro e_ w3 ⟨⟨A3, c3_, rfl, hc3, hr3⟩, hb3⟩
 refine hK.out _ _ (ObS.step HB3.out hb3) ?_
 clear hK K hHeld
 intro hHeld
 try simp only [sp]
 have S3 : Aside0 (SlB w3 (.slice A3 oh.length c3_) oh) := ⟨⟨A3, c3_, rfl, hc3, hr3⟩⟩
 have HE3 := am (And.intro hc3 hr3)
 clear hc3 hr3 hb3
 refine th (i := 9) ?_
 refine td ?_
 have H3 := am hHeld
 clear hHeld
 have f0 := (blk_cell H3.out.1 0).trans HK.out.1
 have f19 := (blk_cell H3.out.1 19).trans HK.out.2.1
 go_wp2_with fail
 clear f0 f19
 refine wp_region_held_drew (S := (fun W => ObS w cs W)) (by kernel_rfl) (ObS.step H3.out (below_drew (Below.refl _ _))) (fun hHeld => ?_)
 refine th (i := 0) ?_
 refine th (i := 1) ?_
 refine th (i := 3) ?_
 refine th (i := 4) ?_
 refine th (i := 5) ?_
 refine tu (i := 6) (fun W_ hW_ => (blk_cell hW_.1 38).trans HK.out.2.2.2.2) ?_
 refine th (i := 7) ?_
 refine th (i := 9) ?_
 refine th (i := 10) ?_
 refine wpAnyH_ready (rs := [2, 8]) (by kernel_rfl) (by simp) ?_
 refine AllReadyH.cons (by simp only [List.getElem?_toArray, List.getElem?_cons_succ, List.getElem?_cons_zero]; rfl) (fun K hK => ?_) (AllReadyH.cons (by simp only [List.getElem?_toArray, List.getElem?_cons_succ, List.getElem?_cons_zero]; rfl) (fun K hK => ?_) AllReadyH.nil)
 ·rw [if_pos (by rfl)]
  go_wp2_with fail
  refine hK.out _ _ (ObS.step hHeld (below_alloc (Below.refl _ _) _)) ?_
  clear hK K hHeld
  intro hHeld
  try simp only [sp]
  have SN : Aside0 (SlB (w3.drew.alloc (.cells #[.int .u8 x.no] 5)) (.slice (some ⟨w3.drew.heap.size, 0, none⟩) 1 1) [x.no]) := ⟨SlB.one _ _⟩
  refine tr (i := 8) (fun K hK => ?_)
  go_wp2_with fail
  refine hK.out _ _ (ObS.step hHeld (below_alloc (Below.refl _ _) _)) ?_
  clear hK K hHeld
  intro hHeld
  try simp only [sp]
  have SF : Aside0 (SlB ((w3.drew.alloc (.cells #[.int .u8 x.no] 5)).alloc (.cells #[.int .u8 x.fno] 5)) (.slice (some ⟨(w3.drew.alloc (.cells #[.int .u8 x.no] 5)).heap.size, 0, none⟩) 1 1) [x.fno]) := ⟨SlB.one _ _⟩
  have SN2 := am (SN.out.alloc (.cells #[.int .u8 x.fno] 5))
  have HB4 := am hHeld
  refine tr (i := 11) (fun K hK => ?_)
  go_wp2_with fail
  refine hK.out _ _ (ObS.step hHeld (below_alloc (Below.refl _ _) _)) ?_
  clear hK K hHeld
  intro hHeld
  try simp only [sp]
  have SA : Aside0 (SlB ((w3.drew.alloc (.cells #[.int .u8 x.no] 5)).alloc (.cells #[.int .u8 x.fno] 5)) (.slice (some ⟨w.heap.size, 22, none⟩) 16 16) x.fro) := ⟨SlB.at (HAT.out _ HB4.out.1).2.1 16 16 HX.out.2.1 (by decide) (by decide)⟩
  have SD : Aside0 (SlB ((w3.drew.alloc (.cells #[.int .u8 x.no] 5)).alloc (.cells #[.int .u8 x.fno] 5)) (.slice (some ⟨w.heap.size, 39, none⟩) 32 32) x.d) := ⟨SlB.at (HAT.out _ HB4.out.1).2.2 32 32 HX.out.2.2 (by decide) (by decide)⟩
  have S5 := am ((S3.out.drew.alloc (.cells #[.int .u8 x.no] 5)).alloc (.cells #[.int .u8 x.fno] 5))
  have SN9 := am SN2.out
  have SF9 := am SF.out
  rw [show (w3.drew.alloc (.cells #[.int .u8 x.no] 5)).heap.size = w3.heap.size + 1 from Array.size_push ..] at SF9
  have SS2 : Aside0 (SlBs ((w3.drew.alloc (.cells #[.int .u8 x.no] 5)).alloc (.cells #[.int .u8 x.fno] 5)) [.slice A3 oh.length c3_, .slice (some ⟨w3.heap.size, 0, none⟩) 1 1, .slice (some ⟨w.heap.size, 22, none⟩) 16 16, .slice (some ⟨(w3.heap.size + 1), 0, none⟩) 1 1, .slice (some ⟨w.heap.size, 39, none⟩) 32 32] [oh, [x.no], x.fro, [x.fno], x.d]) := ⟨.cons S5.out (.cons SN9.out (.cons SA.out (.cons SF9.out (.cons SD.out .nil))))⟩
  refine tr (i := 12) (fun K hK => ?_)
  go_wp2_with fail
  refine (cat_rows SS2.out (by show _ + 1 ≤ 1000; simp) (w3.heap.size + 1 + 1) (by rw [alloc_size, alloc_size]; rfl) 5 rfl (by have := HOL.out; have := HX.out; simp; omega) rs HFL.out).mono ?_
  rintro e_ w9 ⟨⟨A9, c9, rfl, hc9, hr9⟩, hb9⟩
  refine hK.out _ _ (ObS.step HB4.out hb9) ?_
  clear hK K hHeld
  intro hHeld
  try simp only [sp]
  have HQ := am (And.intro hc9 hr9)
  clear hc9 hr9 hb9
  refine th (i := 13) ?_
  refine td ?_
  have H9 := am hHeld
  clear hHeld
  go_wp2_with fail
  go_ret2
  exact ⟨⟨_, _, rfl, HQ.out.1, HQ.out.2⟩, H9.out.2⟩
 ·rw [if_pos (by rfl)]
  go_wp2_with fail
  refine hK.out _ _ (ObS.step hHeld (below_alloc (Below.refl _ _) _)) ?_
  clear hK K hHeld
  intro hHeld
  try simp only [sp]
  have SF : Aside0 (SlB (w3.drew.alloc (.cells #[.int .u8 x.fno] 5)) (.slice (some ⟨w3.drew.heap.size, 0, none⟩) 1 1) [x.fno]) := ⟨SlB.one _ _⟩
  refine tr (i := 2) (fun K hK => ?_)
  go_wp2_with fail
  refine hK.out _ _ (ObS.step hHeld (below_alloc (Below.refl _ _) _)) ?_
  clear hK K hHeld
  intro hHeld
  try simp only [sp]
  have SN : Aside0 (SlB ((w3.drew.alloc (.cells #[.int .u8 x.fno] 5)).alloc (.cells #[.int .u8 x.no] 5)) (.slice (some ⟨(w3.drew.alloc (.cells #[.int .u8 x.fno] 5)).heap.size, 0, none⟩) 1 1) [x.no]) := ⟨SlB.one _ _⟩
  have SF2 := am (SF.out.alloc (.cells #[.int .u8 x.no] 5))
  have HB4 := am hHeld
  refine tr (i := 11) (fun K hK => ?_)
  go_wp2_with fail
  refine hK.out _ _ (ObS.step hHeld (below_alloc (Below.refl _ _) _)) ?_
  clear hK K hHeld
  intro hHeld
  try simp only [sp]
  have SA : Aside0 (SlB ((w3.drew.alloc (.cells #[.int .u8 x.fno] 5)).alloc (.cells #[.int .u8 x.no] 5)) (.slice (some ⟨w.heap.size, 22, none⟩) 16 16) x.fro) := ⟨SlB.at (HAT.out _ HB4.out.1).2.1 16 16 HX.out.2.1 (by decide) (by decide)⟩
  have SD : Aside0 (SlB ((w3.drew.alloc (.cells #[.int .u8 x.fno] 5)).alloc (.cells #[.int .u8 x.no] 5)) (.slice (some ⟨w.heap.size, 39, none⟩) 32 32) x.d) := ⟨SlB.at (HAT.out _ HB4.out.1).2.2 32 32 HX.out.2.2 (by decide) (by decide)⟩
  have S5 := am ((S3.out.drew.alloc (.cells #[.int .u8 x.fno] 5)).alloc (.cells #[.int .u8 x.no] 5))
  have SN9 := am SN.out
  have SF9 := am SF2.out
  rw [show (w3.drew.alloc (.cells #[.int .u8 x.fno] 5)).heap.size = w3.heap.size + 1 from Array.size_push ..] at SN9
  have SS2 : Aside0 (SlBs ((w3.drew.alloc (.cells #[.int .u8 x.fno] 5)).alloc (.cells #[.int .u8 x.no] 5)) [.slice A3 oh.length c3_, .slice (some ⟨(w3.heap.size + 1), 0, none⟩) 1 1, .slice (some ⟨w.heap.size, 22, none⟩) 16 16, .slice (some ⟨w3.heap.size, 0, none⟩) 1 1, .slice (some ⟨w.heap.size, 39, none⟩) 32 32] [oh, [x.no], x.fro, [x.fno], x.d]) := ⟨.cons S5.out (.cons SN9.out (.cons SA.out (.cons SF9.out (.cons SD.out .nil))))⟩
  refine tr (i := 12) (fun K hK => ?_)
  go_wp2_with fail
  refine (cat_rows SS2.out (by show _ + 1 ≤ 1000; simp) (w3.heap.size + 1 + 1) (by rw [alloc_size, alloc_size]; rfl) 5 rfl (by have := HOL.out; have := HX.out; simp; omega) rs HFL.out).mono ?_
  rintro e_ w9 ⟨⟨A9, c9, rfl, hc9, hr9⟩, hb9⟩
  refine hK.out _ _ (ObS.step HB4.out hb9) ?_
  clear hK K hHeld
  intro hHeld
  try simp only [sp]
  have HQ := am (And.intro hc9 hr9)
  clear hc9 hr9 hb9
  refine th (i := 13) ?_
  refine td ?_
  have H9 := am hHeld
  clear hHeld
  go_wp2_with fail
  go_ret2
  exact ⟨⟨_, _, rfl, HQ.out.1, HQ.out.2⟩, H9.out.2⟩
set_option maxHeartbeats 4000000 in
theorem put_o3 (x : OpT) (A : Option Addr) (c : Nat) (w : World) (h : OkO x) (hc : x.p.length ≤ c) (hC : Kd.C k67 w A x.p.length x.p) (c1 : (x.kind == 1) = false) (c2 : (x.kind == 2) = false) (c3 : (x.kind == 3) = true) :
  Calls Try.prog 135 #[.agg (opC x A c).toArray] w (PutQ w (opB x)) := by
 have hx : x.id.length = 16 ∧ x.fro.length = 16 ∧ x.d.length = 32 := ⟨h.2.id.1, h.2.fro.1, h.2.d.1⟩
 have hf := mayO_facts h.1
 have HF := am hf
 have HX := am hx
 have HCC := am hc
 have HC := am hC
 have HI := am (opInfo hx A c)
 have hm := mayo_call x A c (w.alloc (.cells (opC x A c).toArray 98)) hx hc (Kd.C_alloc hC _) (by have := ((mayL_iff _).1 hf.2.2.2.2.2.2.2.2.2).2.1; omega)
 rw [h.1] at hm
 obtain ⟨k0, k17, k18, k19, k20, k21, k38⟩ := opC_at hx A c
 have HAT := am (fun (W : World) (h : W.heap[w.heap.size]? = some (.cells (opC x A c).toArray 98 (0, 0))) => by
  have := opC_arr hx A c (At.blk h)
  rwa [add_at, add_at, add_at] at this)
 have hwk : IntKind.u8.wrap x.kind = x.kind := by have := HF.out; simp [IntKind.wrap, IntKind.bits, IntKind.signed]; omega
 have hwn : IntKind.u8.wrap x.no = x.no := by have := HF.out; simp [IntKind.wrap, IntKind.bits, IntKind.signed]; omega
 have hwf : IntKind.u8.wrap x.fno = x.fno := by have := HF.out; simp [IntKind.wrap, IntKind.bits, IntKind.signed]; omega
 have hstp := stput_call x.n x.rep hf.2.2.2.1
 have HSL : Aside0 ((put (stNum x.n x.rep)).length ≤ 10) := ⟨by have hr := stMay_range hf.2.2.2.1; exact put_length _ (by unfold stNum; omega)⟩
 obtain ⟨st, hst⟩ : ∃ st, put (stNum x.n x.rep) = st := ⟨_, rfl⟩
 have HH : Aside0 ([[x.kind], x.id, st].flatten = ohB x) := ⟨by unfold ohB; rw [hst]; simp⟩
 rw [hst] at hstp HSL
 have HSTP := am hstp
 obtain ⟨oh, hoh⟩ : ∃ oh, ohB x = oh := ⟨_, rfl⟩
 have HOB : Aside0 (opB x = oh ++ tailB x.kind (x.no, x.v, x.p, x.fro, x.fno, x.d)) := ⟨by rw [opB_oh, hoh]⟩
 have HOL : Aside0 (oh.length ≤ 30) := ⟨by rw [← hoh]; unfold ohB; have := HSL.out; rw [hst]; simp only [List.length_append, List.length_cons, List.length_nil]; have := hx.1; omega⟩
 rw [hoh] at HH
 obtain ⟨rs, hrs⟩ : ∃ rs, opB x = rs := ⟨_, rfl⟩
 rw [hrs] at HOB ⊢
 obtain ⟨cs, hcs⟩ : ∃ cs, (opC x A c).toArray = cs := ⟨_, rfl⟩
 rw [hcs] at k0 k17 k18 k19 k20 k21 k38 HAT HI hm ⊢
 have HM := am hm
 have HK := am (And.intro k0 (And.intro k19 (And.intro k20 (And.intro k21 k38))))
 have HBK := am (blk_new w (.cells cs 98))
 have HFL : Aside0 ([oh, [x.no], putL x.p, x.d].flatten = rs) := ⟨by
  have e : x.kind = 3 := by simpa using c3
  rw [HOB.out]; unfold tailB; rw [if_neg (by omega), if_neg (by omega), if_neg (by omega), if_pos e]; simp⟩
 have HPL := am (putL_short HF.out.2.2.2.2.2.2.2.2.2)
 have hdp := fun (W : World) (hb : Below w.heap.size w W) => dput_call HF.out.2.2.2.2.2.2.2.2.2 A c W (Kd.C_below HC.out hb) HCC.out
 obtain ⟨pb, hpb⟩ : ∃ pb, putL x.p = pb := ⟨_, rfl⟩
 rw [hpb] at HFL HPL hdp
 have HDP := am hdp
 clear hdp hpb
 clear hx hf hc hC hm hst hstp hoh hrs hcs h k0 k19 k20 k21 k38
 go_enter Try.func135, Try.ntmps135
 go_wp2_with (first
  | ((with_reducible refine gate_dst (N := 10) rfl ?_); refine wpList_load_row rfl 98 (.tmp 1) rfl w.heap.size rfl 98 cs (0, 0) _ HBK.out Try.underlying98 rfl HI.out ?_)
  | fail)
 refine HM.out.mono ?_
 rintro e_ w1 ⟨rfl, hb1⟩
 have H1 : Aside0 (ObS w cs w1) := ⟨ObS.step ⟨HBK.out, below_alloc (Below.refl _ _) _⟩ hb1⟩
 have g17 := (blk_cell H1.out.1 17).trans k17
 have g18 := (blk_cell H1.out.1 18).trans k18
 clear hb1 k17 k18
 go_wp2_with fail
 refine (HSTP.out _).mono ?_
 rintro e_ w2 ⟨⟨A1, c1_, rfl, hc1, hr1⟩, hb2⟩
 have S1 : Aside0 (SlB w2 (.slice A1 st.length c1_) st) := ⟨⟨A1, c1_, rfl, hc1, hr1⟩⟩
 have H2 : Aside0 (ObS w cs w2) := ⟨ObS.step H1.out hb2⟩
 clear hc1 hr1 hb2 g17 g18
 go_wp2_with fail
 refine wp_region_held_drew (S := (fun W => ObS w cs W)) (by kernel_rfl) (ObS.step H2.out (below_drew (Below.refl _ _))) (fun hHeld => ?_)
 refine th (i := 0) ?_
 refine tu (i := 1) (fun W_ hW_ => (blk_cell hW_.1 0).trans HK.out.1) ?_
 refine th (i := 2) ?_
 refine th (i := 4) ?_
 refine th (i := 5) ?_
 refine th (i := 6) ?_
 refine tr (i := 3) (fun K hK => ?_)
 go_wp2_with fail
 refine hK.out _ _ (ObS.step hHeld (below_alloc (Below.refl _ _) _)) ?_
 clear hK K hHeld
 intro hHeld
 try simp only [sp]
 have SO : Aside0 (SlB (w2.drew.alloc (.cells #[.int .u8 x.kind] 5)) (.slice (some ⟨w2.drew.heap.size, 0, none⟩) 1 1) [x.kind]) := ⟨SlB.one _ _⟩
 have S12 := am (S1.out.drew.alloc (.cells #[.int .u8 x.kind] 5))
 have HB3 := am hHeld
 refine tr (i := 7) (fun K hK => ?_)
 go_wp2_with fail
 refine hK.out _ _ (ObS.step hHeld (below_alloc (Below.refl _ _) _)) ?_
 clear hK K hHeld
 intro hHeld
 try simp only [sp]
 have SD : Aside0 (SlB (w2.drew.alloc (.cells #[.int .u8 x.kind] 5)) (.slice (some ⟨w.heap.size, 1, none⟩) 16 16) x.id) := ⟨SlB.at (HAT.out _ HB3.out.1).1 16 16 HX.out.1 (by decide) (by decide)⟩
 have SS : Aside0 (SlBs (w2.drew.alloc (.cells #[.int .u8 x.kind] 5)) [.slice (some ⟨w2.drew.heap.size, 0, none⟩) 1 1, .slice (some ⟨w.heap.size, 1, none⟩) 16 16, .slice A1 st.length c1_] [[x.kind], x.id, st]) := ⟨.cons SO.out (.cons SD.out (.cons S12.out .nil))⟩
 refine tr (i := 8) (fun K hK => ?_)
 go_wp2_with fail
 refine (cat_rows SS.out (by show _ + 1 ≤ 1000; simp) (w2.heap.size + 1) (Array.size_push ..) 3 rfl (by have := HSL.out; have := HX.out.1; simp; omega) oh HH.out).mono ?_
 rintro e_ w3 ⟨⟨A3, c3_, rfl, hc3, hr3⟩, hb3⟩
 refine hK.out _ _ (ObS.step HB3.out hb3) ?_
 clear hK K hHeld
 intro hHeld
 try simp only [sp]
 have S3 : Aside0 (SlB w3 (.slice A3 oh.length c3_) oh) := ⟨⟨A3, c3_, rfl, hc3, hr3⟩⟩
 have HE3 := am (And.intro hc3 hr3)
 clear hc3 hr3 hb3
 refine th (i := 9) ?_
 refine td ?_
 have H3 := am hHeld
 clear hHeld
 have f0 := (blk_cell H3.out.1 0).trans HK.out.1
 have f19 := (blk_cell H3.out.1 19).trans HK.out.2.1
 have f21 := (blk_cell H3.out.1 21).trans HK.out.2.2.2.1
 go_wp2_with fail
 refine (HDP.out _ H3.out.2).mono ?_
 rintro e_ w4 ⟨⟨A4, c4, rfl, hc4, hr4⟩, hb4⟩
 have SP : Aside0 (SlB w4 (.slice A4 pb.length c4) pb) := ⟨⟨A4, c4, rfl, hc4, hr4⟩⟩
 have S4 := am (S3.out.below hb4)
 have H4 := am (ObS.step H3.out hb4)
 clear hc4 hr4 hb4 f21 f0 f19
 have H5 := am (ObS.step H4.out (below_alloc (Below.refl _ _) (.cells #[.int .u8 x.no] 5)))
 have SD : Aside0 (SlB (w4.alloc (.cells #[.int .u8 x.no] 5)) (.slice (some ⟨w.heap.size, 39, none⟩) 32 32) x.d) := ⟨SlB.at (HAT.out _ H5.out.1).2.2 32 32 HX.out.2.2 (by decide) (by decide)⟩
 have SS2 : Aside0 (SlBs (w4.alloc (.cells #[.int .u8 x.no] 5)) [.slice A3 oh.length c3_, .slice (some ⟨w4.heap.size, 0, none⟩) 1 1, .slice A4 pb.length c4, .slice (some ⟨w.heap.size, 39, none⟩) 32 32] [oh, [x.no], pb, x.d]) := ⟨.cons (S4.out.alloc _) (.cons (SlB.one _ _) (.cons (SP.out.alloc _) (.cons SD.out .nil)))⟩
 go_wp2_with fail
 refine (cat_rows SS2.out (by show _ + 1 ≤ 1000; simp) (w4.heap.size + 1) (Array.size_push ..) 4 rfl (by have := HOL.out; have := HPL.out; have := HX.out; simp; omega) rs HFL.out).mono ?_
 rintro e_ w9 ⟨⟨A9, c9, rfl, hc9, hr9⟩, hb9⟩
 have HQ := am (And.intro hc9 (And.intro hr9 (below_step H5.out.2 hb9)))
 clear hc9 hr9 hb9
 go_wp2_with fail
 go_ret2
 exact ⟨⟨_, _, rfl, HQ.out.1, HQ.out.2.1⟩, HQ.out.2.2⟩
theorem oput_call (x : OpT) (A : Option Addr) (c : Nat) (w : World) (h : OkO x) (hc : x.p.length ≤ c) (hC : Kd.C k67 w A x.p.length x.p) :
  Calls Try.prog 135 #[.agg (opC x A c).toArray] w (PutQ w (opB x)) := by
 obtain ⟨h0, h1, _⟩ := mayO_facts h.1
 by_cases e0 : x.kind = 0
 ·exact put_o0 x A c w h hc hC e0 (by rw [e0]; rfl) (by rw [e0]; rfl) (by rw [e0]; rfl)
 by_cases e1 : x.kind = 1
 ·exact put_o1 x A c w h hc hC (by rw [e1]; rfl)
 by_cases e2 : x.kind = 2
 ·exact put_o2 x A c w h hc hC (by rw [e2]; rfl) (by rw [e2]; rfl)
 have e3 : x.kind = 3 := by omega
 exact put_o3 x A c w h hc hC (by rw [e3]; rfl) (by rw [e3]; rfl) (by rw [e3]; rfl)
end
section
open Go.RowKit Go.Proofs.YtchaegfdcdlfaaaW.PrintWords Go.Proofs.YtchaegfdcdlfaaaW.PrintLast Go.Proofs.YtchaegfdcdlfaaaW.PrintMore
attribute [local go_sem] max2_int min2_int max_two min_two max_three min_three max_four min_four
def slices_Index_string_string.l0 : Nat → List ByteArray → ByteArray → Int → Int → Option (Int)
 | 0, _, _, _, _ => none
 | k + 1, x0, x1, x7, x8 => if x8 < x7 then (if 0 ≤ x8 then (if x8 < (x0.length : Int) then (if x1.toList = (rdOf ByteArray.empty x0 x8).toList then (some x8) else (slices_Index_string_string.l0 k x0 x1 x7 (wrap64 (x8 + 1)))) else (none)) else (none)) else (some (-1))
def slices_Index_string_string.f (k : Nat) (l0 : List ByteArray) (a1 : ByteArray) : Option (Int) := slices_Index_string_string.l0 k l0 a1 (l0.length : Int) 0
set_option maxHeartbeats 8000000 in
theorem slices_Index_string_string.calls (k : Nat) (A0 : Option Addr) (c0 : Nat) (l0 : List ByteArray) (a1 : ByteArray) (r : Int) (w : World) (hr0 : Kd.C Kd.string w A0 l0.length l0) (hc0 : l0.length ≤ c0) (h : slices_Index_string_string.f k l0 a1 = some r) :
  Calls Try.prog 155 #[.slice A0 l0.length c0, .string a1] w fun e w' => e = .returned (.int .i64 r) ∧ Drawn0 w w' := by
 have HR0 := am hr0
 have HC0 := am hc0
 clear hr0 hc0
 have H : (slices_Index_string_string.l0 k l0 a1 (l0.length : Int) 0) = some r := h
 clear h
 have H' := am H
 clear H
 go_enter Try.func155, Try.ntmps155
 go_wp2
 go_loopg [8] k (fun kq v8 w' => ∃ (x8_1 : Int), v8 = .int .i64 x8_1 ∧ Aside0 (slices_Index_string_string.l0 kq l0 a1 (l0.length : Int) x8_1 = some r) ∧ Aside0 (kq ≤ k) ∧ Drawn0 w w')
 case atStart => exact ⟨(0), (by first | rfl | (simp; done) | (simp [*]; done)), H', ⟨Nat.le_refl _⟩, by repeat (first | exact Drawn0.refl _ | apply Drawn0.step)⟩
 case round =>
  clear H'
  try clear c1
  try clear p2
  obtain ⟨x8_1, rfl, HA, HK1, ⟨m1, rfl⟩⟩ := hrel
  cases gk with
  | zero => exact absurd HA.out (by simp [slices_Index_string_string.l0])
  | succ k1 =>
   have H := HA.out
   clear HA
   simp only [slices_Index_string_string.l0] at H
   by_cases c3 : x8_1 < (l0.length : Int)
   ·rw [if_pos c3] at H
    have c3b0 : decide (x8_1 < (l0.length : Int)) = true := decide_eq_true c3
    clear c3
    by_cases c4 : 0 ≤ x8_1
    ·rw [if_pos c4] at H
     have c4b0 : decide (0 ≤ x8_1) = true := decide_eq_true c4
     clear c4
     by_cases c5 : x8_1 < (l0.length : Int)
     ·rw [if_pos c5] at H
      have c5b0 : decide (x8_1 < (l0.length : Int)) = true := decide_eq_true c5
      clear c5
      by_cases c6 : a1.toList = (rdOf ByteArray.empty l0 x8_1).toList
      ·rw [if_pos c6] at H
       have c6b0 : (a1.toList == (rdOf ByteArray.empty l0 x8_1).toList) = true := beq_iff_eq.mpr c6
       have c6b1 : (a1.toList != (rdOf ByteArray.empty l0 x8_1).toList) = false := bne_eq_false_iff_eq.mpr c6
       clear c6
       obtain rfl := Option.some.inj H
       have p641 : 0 ≤ (x8_1 : Int) := of_decide_eq_true (by first | (with_reducible assumption) | assumption)
       have q641 : x8_1 < (l0.length : Int) := of_decide_eq_true (by first | (with_reducible assumption) | assumption)
       obtain ⟨ad641, e641, hx641_0⟩ := Kd.at_string HR0.out x8_1 p641 q641
       cases e641
       replace p641 := eq_true p641
       replace q641 := eq_true q641
       go_wp2
       go_ret
       exact ⟨by first | rfl | (simp; done) | (simp [*]; done), by repeat (first | exact Drawn0.refl _ | apply Drawn0.step)⟩
      ·rw [if_neg c6] at H
       have c6b0 : (a1.toList == (rdOf ByteArray.empty l0 x8_1).toList) = false := beq_eq_false_iff_ne.mpr c6
       have c6b1 : (a1.toList != (rdOf ByteArray.empty l0 x8_1).toList) = true := bne_iff_ne.mpr c6
       have H' := am H
       clear H
       have p641 : 0 ≤ (x8_1 : Int) := of_decide_eq_true (by first | (with_reducible assumption) | assumption)
       have q641 : x8_1 < (l0.length : Int) := of_decide_eq_true (by first | (with_reducible assumption) | assumption)
       obtain ⟨ad641, e641, hx641_0⟩ := Kd.at_string HR0.out x8_1 p641 q641
       cases e641
       replace p641 := eq_true p641
       replace q641 := eq_true q641
       go_wp2
       go_roundg k1
       case measure => have := HK1.out; omega
       case rel => exact ⟨(wrap64 (x8_1 + 1)), (by first | rfl | (simp; done) | (simp [*]; done)), H', ⟨by have := HK1.out; omega⟩, by repeat (first | exact Drawn0.refl _ | apply Drawn0.step)⟩
     ·rw [if_neg c5] at H
      exact absurd H (by simp)
    ·rw [if_neg c4] at H
     exact absurd H (by simp)
   ·rw [if_neg c3] at H
    have c3b0 : decide (x8_1 < (l0.length : Int)) = false := decide_eq_false c3
    clear c3
    obtain rfl := Option.some.inj H
    go_wp2
    go_ret
    exact ⟨by first | rfl | (simp; done) | (simp [*]; done), by repeat (first | exact Drawn0.refl _ | apply Drawn0.step)⟩
end
section
open Go.RowKit Go.Proofs.YtchaegfdcdlfaaaW.PrintWords Go.Proofs.YtchaegfdcdlfaaaW.PrintLast Go.Proofs.YtchaegfdcdlfaaaW.PrintMore
open Go.Proofs.Ytchaegfdcdlfaaa.Y (Bytes RdB put put_range put_length put_length_pos word word_length word_bytes rdb_below rdb_drewN put_call text_call row_slice)
attribute [local go_sem] max2_int min2_int max_two min_two max_three min_three max_four min_four
theorem idx_l0 (d : List ByteArray) (v : ByteArray) (hl : d.length ≤ 1000000) : ∀ (n i k : Nat), d.length = i + n → n < k →
  slices_Index_string_string.l0 k d v (d.length : Int) (i : Int) = some (if atL v (d.drop i) < 0 then -1 else atL v (d.drop i) + i)
 | 0, i, k, hi, hk => by
  obtain ⟨k, rfl⟩ : ∃ j, k = j + 1 := ⟨k - 1, by omega⟩
  rw [slices_Index_string_string.l0, if_neg (by omega), List.drop_of_length_le (by omega)]
  rfl
 | n + 1, i, k, hi, hk => by
  obtain ⟨k, rfl⟩ : ∃ j, k = j + 1 := ⟨k - 1, by omega⟩
  have hlt : i < d.length := by omega
  have hd : d.drop i = d[i] :: d.drop (i + 1) := List.drop_eq_getElem_cons hlt
  have hr : rdOf ByteArray.empty d (i : Int) = d[i] := by
   unfold rdOf
   rw [Int.toNat_natCast, List.getD_eq_getElem?_getD, List.getElem?_eq_getElem hlt]
   rfl
  rw [slices_Index_string_string.l0, if_pos (by omega), if_pos (by omega), if_pos (by omega), hr, hd]
  by_cases h : d[i] = v
  ·rw [if_pos (by rw [h])]
   have e : atL v (d[i] :: d.drop (i + 1)) = 0 := by unfold atL; rw [if_pos h]
   rw [e, if_neg (by omega)]
   congr 1
   omega
  ·rw [if_neg (fun h2 => h (bytes_inj h2.symm)), wrap_next i (by omega), idx_l0 d v hl n (i + 1) k (by omega) (by omega)]
   have e : atL v (d[i] :: d.drop (i + 1)) = if atL v (d.drop (i + 1)) < 0 then -1 else atL v (d.drop (i + 1)) + 1 := by
    rw [atL, if_neg h]
   rw [e]
   congr 1
   by_cases h2 : atL v (d.drop (i + 1)) < 0
   ·rw [if_pos h2, if_pos h2, if_pos (by omega)]
   ·rw [if_neg h2, if_neg h2, if_neg (by omega)]
    omega
theorem index_call (d : List ByteArray) (v : ByteArray) (hl : d.length ≤ 1000000) (A : Option Addr) (c : Nat) (w : World) (hC : Kd.C Kd.string w A d.length d) (hc : d.length ≤ c) :
  Calls Try.prog 155 #[.slice A d.length c, .string v] w fun e w' => e = .returned (.int .i64 (atL v d)) ∧ Below w.heap.size w w' := by
 refine (slices_Index_string_string.calls (d.length + 1) A c d v (atL v d) w hC hc ?_).mono ?_
 ·have := idx_l0 d v hl d.length 0 (d.length + 1) (by omega) (by omega)
  rw [List.drop_zero] at this
  unfold slices_Index_string_string.f
  show slices_Index_string_string.l0 (d.length + 1) d v (d.length : Int) ((0 : Nat) : Int) = _
  rw [this]
  congr 1
  rcases atL_is v d with ⟨h, _⟩ | ⟨n, h, _⟩
  ·rw [h]; rfl
  ·rw [h, if_neg (by omega)]; omega
 ·rintro e w' ⟨rfl, hd⟩
  exact ⟨rfl, hd.below⟩
def RowQ (w : World) (l : List Int) (e : Ending) (w' : World) : Prop := (∃ A2 c2, e = .returned (.slice A2 l.length c2) ∧ l.length ≤ c2 ∧ RdB w' A2 l.length l) ∧ Below w.heap.size w w'
set_option maxHeartbeats 2000000 in
theorem osize_call (x : OpT) (A : Option Addr) (c : Nat) (w : World) (h : OkO x) (hc : x.p.length ≤ c) (hC : Kd.C k67 w A x.p.length x.p) :
  Calls Try.prog 76 #[.agg (opC x A c).toArray] w fun e w' => e = .returned (.int .i64 ((opB x).length : Int)) ∧ Below w.heap.size w w' := by
 have hm := oput_call x A c (w.alloc (.cells (opC x A c).toArray 98)) h hc (Kd.C_alloc hC _)
 have HI := am (opInfo (x := x) ⟨h.2.id.1, h.2.fro.1, h.2.d.1⟩ A c)
 obtain ⟨es, hes⟩ : ∃ es, (opC x A c).toArray = es := ⟨_, rfl⟩
 rw [hes] at HI hm ⊢
 have HM := am hm
 have HBK := am (blk_new w (.cells es 98))
 obtain ⟨rs, hrs⟩ : ∃ rs, opB x = rs := ⟨_, rfl⟩
 rw [hrs] at HM ⊢
 clear h hc hC hes hm hrs
 go_enter Try.func76, Try.ntmps76
 go_wp2_with (first
  | ((with_reducible refine gate_dst (N := 6) rfl ?_); refine wpList_load_row rfl 98 (.tmp 1) rfl w.heap.size rfl 98 es (0, 0) _ HBK.out Try.underlying98 rfl HI.out ?_)
  | fail)
 refine HM.out.mono ?_
 rintro e_ w1 ⟨⟨A1, c1, rfl, _, _⟩, hb1⟩
 have HB1 := am (below_step (below_alloc (Below.refl w.heap.size w) _) hb1)
 clear hb1
 go_wp2_with fail
 go_ret
 exact ⟨rfl, HB1.out⟩
set_option maxHeartbeats 4000000 in
theorem cone_a (x : OpT) (A : Option Addr) (c : Nat) (d : List ByteArray) (Ad : Option Addr) (cd : Nat) (w : World) (h : OkO x) (hc : x.p.length ≤ c) (hC : Kd.C k67 w A x.p.length x.p) (hd : d.length ≤ 16) (hD : Kd.C Kd.string w Ad d.length d) (hcd : d.length ≤ cd) (hk : ¬ x.kind = 1) :
  Calls Try.prog 116 #[.agg (opC x A c).toArray, .slice Ad d.length cd] w (RowQ w (oneB d x)) := by
 have hx : x.id.length = 16 ∧ x.fro.length = 16 ∧ x.d.length = 32 := ⟨h.2.id.1, h.2.fro.1, h.2.d.1⟩
 have hf := mayO_facts h.1
 have HF := am hf
 have HX := am hx
 have HI := am (opInfo hx A c)
 have hid := index_call d x.v (by omega) Ad cd (w.alloc (.cells (opC x A c).toArray 98)) (Kd.C_alloc hD _) hcd
 have HID := am hid
 obtain ⟨k0, k17, k18, k19, k20, k21, k38⟩ := opC_at hx A c
 have hpt := fun (W : World) (hb : Below w.heap.size w W) => oput_call x A c W h hc (Kd.C_below hC hb)
 have HOB : Aside0 (oneB d x = opB x) := ⟨by unfold oneB; rw [if_neg (by rintro ⟨e1, e2⟩; exact hk e1)]⟩
 obtain ⟨rs, hrs⟩ : ∃ rs, oneB d x = rs := ⟨_, rfl⟩
 rw [← HOB.out, hrs] at hpt
 rw [hrs]
 have HPT := am hpt
 clear hpt hrs
 have c1 : (x.kind != 1) = true := by simpa using hk
 have c1_ : (x.kind == 1) = false := by simpa using hk
 obtain ⟨cs, hcs⟩ : ∃ cs, (opC x A c).toArray = cs := ⟨_, rfl⟩
 rw [hcs] at k0 k17 k18 k19 k20 HI HID HPT ⊢
 have HK := am (And.intro k0 (And.intro k17 (And.intro k18 k19)))
 have HBK := am (blk_new w (.cells cs 98))
 have f20 := (blk_cell HBK.out 20).trans k20
 clear hx hf h hc hC hD hcs hid k0 k17 k18 k19 k20 k21 k38
 go_enter Try.func116, Try.ntmps116
 go_wp2_with fail
 refine HID.out.mono ?_
 rintro e_ w1 ⟨rfl, hb1⟩
 have H1 : Aside0 (ObS w cs w1) := ⟨ObS.step ⟨HBK.out, below_alloc (Below.refl _ _) _⟩ hb1⟩
 have f0 := (blk_cell H1.out.1 0).trans HK.out.1
 clear hb1 f20
 go_wp2_with (first
  | ((with_reducible refine gate_dst (N := 22) rfl ?_); refine wpList_load_row rfl 98 (.tmp 2) rfl w.heap.size rfl 98 cs (0, 0) _ H1.out.1 Try.underlying98 rfl HI.out ?_)
  | fail)
 refine (HPT.out _ H1.out.2).mono ?_
 rintro e_ w2 ⟨⟨A2, c2, rfl, hc2, hr2⟩, hb2⟩
 have HQ := am (And.intro hc2 (And.intro hr2 (below_step H1.out.2 hb2)))
 clear hc2 hr2 hb2 f0
 go_wp2_with fail
 go_ret
 exact ⟨⟨_, _, rfl, HQ.out.1, HQ.out.2.1⟩, HQ.out.2.2⟩
set_option maxHeartbeats 4000000 in
theorem cone_b (x : OpT) (A : Option Addr) (c : Nat) (d : List ByteArray) (Ad : Option Addr) (cd : Nat) (w : World) (h : OkO x) (hc : x.p.length ≤ c) (hC : Kd.C k67 w A x.p.length x.p) (hd : d.length ≤ 16) (hD : Kd.C Kd.string w Ad d.length d) (hcd : d.length ≤ cd) (hk : x.kind = 1) (hv : atL x.v d < 0) :
  Calls Try.prog 116 #[.agg (opC x A c).toArray, .slice Ad d.length cd] w (RowQ w (oneB d x)) := by
 have hx : x.id.length = 16 ∧ x.fro.length = 16 ∧ x.d.length = 32 := ⟨h.2.id.1, h.2.fro.1, h.2.d.1⟩
 have hf := mayO_facts h.1
 have HF := am hf
 have HX := am hx
 have HI := am (opInfo hx A c)
 have hid := index_call d x.v (by omega) Ad cd (w.alloc (.cells (opC x A c).toArray 98)) (Kd.C_alloc hD _) hcd
 have HID := am hid
 obtain ⟨k0, k17, k18, k19, k20, k21, k38⟩ := opC_at hx A c
 have hpt := fun (W : World) (hb : Below w.heap.size w W) => oput_call x A c W h hc (Kd.C_below hC hb)
 have HOB : Aside0 (oneB d x = opB x) := ⟨by unfold oneB; rw [if_neg (by rintro ⟨e1, e2⟩; omega)]⟩
 obtain ⟨rs, hrs⟩ : ∃ rs, oneB d x = rs := ⟨_, rfl⟩
 rw [← HOB.out, hrs] at hpt
 rw [hrs]
 have HPT := am hpt
 clear hpt hrs
 have c1 : (x.kind != 1) = false := by simpa using hk
 have c1_ : (x.kind == 1) = true := by simpa using hk
 have c2_ : decide (atL x.v d < 0) = true := decide_eq_true hv
 obtain ⟨cs, hcs⟩ : ∃ cs, (opC x A c).toArray = cs := ⟨_, rfl⟩
 rw [hcs] at k0 k17 k18 k19 k20 HI HID HPT ⊢
 have HK := am (And.intro k0 (And.intro k17 (And.intro k18 k19)))
 have HBK := am (blk_new w (.cells cs 98))
 have f20 := (blk_cell HBK.out 20).trans k20
 clear hx hf h hc hC hD hcs hid k0 k17 k18 k19 k20 k21 k38
 go_enter Try.func116, Try.ntmps116
 go_wp2_with fail
 refine HID.out.mono ?_
 rintro e_ w1 ⟨rfl, hb1⟩
 have H1 : Aside0 (ObS w cs w1) := ⟨ObS.step ⟨HBK.out, below_alloc (Below.refl _ _) _⟩ hb1⟩
 have f0 := (blk_cell H1.out.1 0).trans HK.out.1
 clear hb1 f20
 go_wp2_with (first
  | ((with_reducible refine gate_dst (N := 22) rfl ?_); refine wpList_load_row rfl 98 (.tmp 2) rfl w.heap.size rfl 98 cs (0, 0) _ H1.out.1 Try.underlying98 rfl HI.out ?_)
  | fail)
 refine (HPT.out _ H1.out.2).mono ?_
 rintro e_ w2 ⟨⟨A2, c2, rfl, hc2, hr2⟩, hb2⟩
 have HQ := am (And.intro hc2 (And.intro hr2 (below_step H1.out.2 hb2)))
 clear hc2 hr2 hb2 f0
 go_wp2_with fail
 go_ret
 exact ⟨⟨_, _, rfl, HQ.out.1, HQ.out.2.1⟩, HQ.out.2.2⟩
set_option maxHeartbeats 4000000 in
theorem cone_c (x : OpT) (A : Option Addr) (c : Nat) (d : List ByteArray) (Ad : Option Addr) (cd : Nat) (w : World) (h : OkO x) (hc : x.p.length ≤ c) (hC : Kd.C k67 w A x.p.length x.p) (hd : d.length ≤ 16) (hD : Kd.C Kd.string w Ad d.length d) (hcd : d.length ≤ cd) (hk : x.kind = 1) (hv : 0 ≤ atL x.v d) :
  Calls Try.prog 116 #[.agg (opC x A c).toArray, .slice Ad d.length cd] w (RowQ w (oneB d x)) := by
 have hx : x.id.length = 16 ∧ x.fro.length = 16 ∧ x.d.length = 32 := ⟨h.2.id.1, h.2.fro.1, h.2.d.1⟩
 have hf := mayO_facts h.1
 have HF := am hf
 have HX := am hx
 have HI := am (opInfo hx A c)
 have hid := index_call d x.v (by omega) Ad cd (w.alloc (.cells (opC x A c).toArray 98)) (Kd.C_alloc hD _) hcd
 have HID := am hid
 obtain ⟨k0, k17, k18, k19, k20, k21, k38⟩ := opC_at hx A c
 have HAT := am (fun (W : World) (h : W.heap[w.heap.size]? = some (.cells (opC x A c).toArray 98 (0, 0))) => by
  have := opC_arr hx A c (At.blk h)
  rwa [add_at, add_at, add_at] at this)
 have hwn : IntKind.u8.wrap x.no = x.no := by have := HF.out; simp [IntKind.wrap, IntKind.bits, IntKind.signed]; omega
 have hstp := stput_call x.n x.rep hf.2.2.2.1
 have HSL : Aside0 ((put (stNum x.n x.rep)).length ≤ 10) := ⟨by have hr := stMay_range hf.2.2.2.1; exact put_length _ (by unfold stNum; omega)⟩
 obtain ⟨n, hn⟩ : ∃ n : Nat, atL x.v d = (n : Int) := ⟨(atL x.v d).toNat, by omega⟩
 have hn16 : n < 16 := by
  rcases atL_is x.v d with ⟨e, _⟩ | ⟨m, e, e2, _⟩
  ·omega
  ·omega
 have hptp := fun W => put_call n (by omega) W
 have HPL : Aside0 ((put n).length ≤ 10) := ⟨put_length _ (by omega)⟩
 have HOB : Aside0 (oneB d x = [4] ++ (x.id ++ (put (stNum x.n x.rep) ++ ([x.no] ++ put n)))) := ⟨by unfold oneB; rw [if_pos ⟨hk, hv⟩, hn, Int.toNat_natCast]⟩
 obtain ⟨st, hst⟩ : ∃ st, put (stNum x.n x.rep) = st := ⟨_, rfl⟩
 obtain ⟨pt, hpt⟩ : ∃ pt, put n = pt := ⟨_, rfl⟩
 obtain ⟨rs, hrs⟩ : ∃ rs, oneB d x = rs := ⟨_, rfl⟩
 rw [hst, hpt, hrs] at HOB
 rw [hst] at hstp HSL
 rw [hpt] at hptp HPL
 rw [hn] at HID
 rw [hrs]
 have HSTP := am hstp
 have HPTP := am hptp
 have HFL : Aside0 ([[4], x.id, st, [x.no], pt].flatten = rs) := ⟨by rw [HOB.out]; simp⟩
 have c1 : (x.kind != 1) = false := by simpa using hk
 have c1_ : (x.kind == 1) = true := by simpa using hk
 have c2_ : decide ((n : Int) < 0) = false := decide_eq_false (by omega)
 have hwu : IntKind.u64.wrap (n : Int) = (n : Int) := by simp [IntKind.wrap, IntKind.bits, IntKind.signed]; omega
 clear hst hpt hrs hstp hptp hn hn16
 obtain ⟨cs, hcs⟩ : ∃ cs, (opC x A c).toArray = cs := ⟨_, rfl⟩
 rw [hcs] at k0 k17 k18 k19 k20 HI HID HAT ⊢
 have HK := am (And.intro k0 (And.intro k17 (And.intro k18 k19)))
 have HBK := am (blk_new w (.cells cs 98))
 have f20 := (blk_cell HBK.out 20).trans k20
 clear hx hf h hc hC hD hcs hid k0 k17 k18 k19 k20 k21 k38
 go_enter Try.func116, Try.ntmps116
 go_wp2_with fail
 refine HID.out.mono ?_
 rintro e_ w1 ⟨rfl, hb1⟩
 have H1 : Aside0 (ObS w cs w1) := ⟨ObS.step ⟨HBK.out, below_alloc (Below.refl _ _) _⟩ hb1⟩
 have f0 := (blk_cell H1.out.1 0).trans HK.out.1
 have f17 := (blk_cell H1.out.1 17).trans HK.out.2.1
 have f18 := (blk_cell H1.out.1 18).trans HK.out.2.2.1
 clear hb1 f20
 go_wp2_with fail
 refine (HSTP.out _).mono ?_
 rintro e_ w2 ⟨⟨A1, c1s, rfl, hc1, hr1⟩, hb2⟩
 have S1 : Aside0 (SlB w2 (.slice A1 st.length c1s) st) := ⟨⟨A1, c1s, rfl, hc1, hr1⟩⟩
 have H2 : Aside0 (ObS w cs w2) := ⟨ObS.step H1.out hb2⟩
 clear hc1 hr1 hb2 f0 f17 f18
 go_wp2_with fail
 refine wp_region_held_drew (S := (fun W => ObS w cs W)) (by kernel_rfl) (ObS.step H2.out (below_drew (Below.refl _ _))) (fun hHeld => ?_)
 refine th (i := 1) ?_
 refine th (i := 2) ?_
 refine th (i := 3) ?_
 refine th (i := 4) ?_
 refine tu (i := 5) (fun W_ hW_ => (blk_cell hW_.1 19).trans HK.out.2.2.2) ?_
 refine th (i := 6) ?_
 refine th (i := 8) ?_
 refine th (i := 9) ?_
 refine wpAnyH_ready (rs := [0, 7, 10]) (by kernel_rfl) (by simp) ?_
 refine AllReadyH.cons (by simp only [List.getElem?_toArray, List.getElem?_cons_succ, List.getElem?_cons_zero]; rfl) (fun K hK => ?_) (AllReadyH.cons (by simp only [List.getElem?_toArray, List.getElem?_cons_succ, List.getElem?_cons_zero]; rfl) (fun K hK => ?_) (AllReadyH.cons (by simp only [List.getElem?_toArray, List.getElem?_cons_succ, List.getElem?_cons_zero]; rfl) (fun K hK => ?_) AllReadyH.nil))
 ·rw [if_pos (by rfl)]
  go_wp2_with fail
  refine hK.out _ _ (ObS.step hHeld (below_alloc (Below.refl _ _) _)) ?_
  clear hK K hHeld
  intro hHeld
  try simp only [sp]
  have S1d := am S1.out.drew
  have SA_0 : Aside0 (SlB (w2.drew.alloc (.cells #[.int .u8 4] 5)) (.slice (some ⟨w2.heap.size, 0, none⟩) 1 1) [4]) := ⟨by first | exact SlB.one _ _ | (have := SlB.one w2.drew 4; rw [alloc_size] at this; exact this) | (have := SlB.one w2.drew 4; rw [alloc_size, alloc_size] at this; exact this)⟩
  have ST_0 := am (S1d.out.alloc (.cells #[.int .u8 4] 5))
  refine wpAnyH_ready (rs := [7, 10]) (by kernel_rfl) (by simp) ?_
  refine AllReadyH.cons (by simp only [List.getElem?_toArray, List.getElem?_cons_succ, List.getElem?_cons_zero]; rfl) (fun K hK => ?_) (AllReadyH.cons (by simp only [List.getElem?_toArray, List.getElem?_cons_succ, List.getElem?_cons_zero]; rfl) (fun K hK => ?_) AllReadyH.nil)
  ·rw [if_pos (by rfl)]
   go_wp2_with fail
   refine hK.out _ _ (ObS.step hHeld (below_alloc (Below.refl _ _) _)) ?_
   clear hK K hHeld
   intro hHeld
   try simp only [sp]
   have SN_1 : Aside0 (SlB ((w2.drew.alloc (.cells #[.int .u8 4] 5)).alloc (.cells #[.int .u8 x.no] 5)) (.slice (some ⟨w2.heap.size + 1, 0, none⟩) 1 1) [x.no]) := ⟨by first | exact SlB.one _ _ | (have := SlB.one (w2.drew.alloc (.cells #[.int .u8 4] 5)) x.no; rw [alloc_size] at this; exact this) | (have := SlB.one (w2.drew.alloc (.cells #[.int .u8 4] 5)) x.no; rw [alloc_size, alloc_size] at this; exact this)⟩
   have ST_1 := am (ST_0.out.alloc (.cells #[.int .u8 x.no] 5))
   have SA_1 := am (SA_0.out.alloc (.cells #[.int .u8 x.no] 5))
   refine tr (i := 10) (fun K hK => ?_)
   go_wp2_with fail
   refine (HPTP.out _).mono ?_
   rintro e_ w3 ⟨A3, c3, rfl, hc3, hr3, hb3⟩
   refine hK.out _ _ (ObS.step hHeld hb3) ?_
   clear hK K hHeld
   intro hHeld
   try simp only [sp]
   have SP_2 : Aside0 (SlB w3 (.slice A3 pt.length c3) pt) := ⟨⟨A3, c3, rfl, hc3, hr3⟩⟩
   have ST_2 := am (ST_1.out.below hb3)
   have SA_2 := am (SA_1.out.below hb3)
   have SN_2 := am (SN_1.out.below hb3)
   clear hc3 hr3 hb3
   refine tr (i := 11) (fun K hK => ?_)
   have hHeld0 := hHeld
   go_wp2_with fail
   refine hK.out _ _ (ObS.step hHeld (below_alloc (Below.refl _ _) _)) ?_
   clear hK K hHeld
   intro hHeld
   try simp only [sp]
   have HB11 := am hHeld0
   have SD : Aside0 (SlB w3 (.slice (some ⟨w.heap.size, 1, none⟩) 16 16) x.id) := ⟨SlB.at (HAT.out _ HB11.out.1).1 16 16 HX.out.1 (by decide) (by decide)⟩
   have SS : Aside0 (SlBs w3 [.slice (some ⟨w2.heap.size, 0, none⟩) 1 1, .slice (some ⟨w.heap.size, 1, none⟩) 16 16, .slice A1 st.length c1s, .slice (some ⟨w2.heap.size + 1, 0, none⟩) 1 1, .slice A3 pt.length c3] [[4], x.id, st, [x.no], pt]) := ⟨.cons SA_2.out (.cons SD.out (.cons ST_2.out (.cons SN_2.out (.cons SP_2.out .nil))))⟩
   refine tr (i := 12) (fun K hK => ?_)
   go_wp2_with fail
   refine (cat_rows SS.out (by show _ + 1 ≤ 1000; simp) (w3.heap.size) (by first | rfl | (rw [alloc_size]; done) | (rw [alloc_size]; rfl) | (rw [alloc_size, alloc_size]; done) | (rw [alloc_size, alloc_size]; rfl)) 5 rfl (by have := HSL.out; have := HPL.out; have := HX.out.1; simp; omega) rs HFL.out).mono ?_
   rintro e_ w9 ⟨⟨A9, c9, rfl, hc9, hr9⟩, hb9⟩
   refine hK.out _ _ (ObS.step HB11.out hb9) ?_
   clear hK K hHeld
   intro hHeld
   try simp only [sp]
   have HQ := am (And.intro hc9 hr9)
   clear hc9 hr9 hb9
   refine th (i := 13) ?_
   refine td ?_
   have H9 := am hHeld
   clear hHeld
   go_wp2_with fail
   go_ret
   exact ⟨⟨_, _, rfl, HQ.out.1, HQ.out.2⟩, H9.out.2⟩
  ·rw [if_pos (by rfl)]
   go_wp2_with fail
   refine (HPTP.out _).mono ?_
   rintro e_ w3 ⟨A3, c3, rfl, hc3, hr3, hb3⟩
   refine hK.out _ _ (ObS.step hHeld hb3) ?_
   clear hK K hHeld
   intro hHeld
   try simp only [sp]
   have SP_1 : Aside0 (SlB w3 (.slice A3 pt.length c3) pt) := ⟨⟨A3, c3, rfl, hc3, hr3⟩⟩
   have ST_1 := am (ST_0.out.below hb3)
   have SA_1 := am (SA_0.out.below hb3)
   clear hc3 hr3 hb3
   refine tr (i := 7) (fun K hK => ?_)
   go_wp2_with fail
   refine hK.out _ _ (ObS.step hHeld (below_alloc (Below.refl _ _) _)) ?_
   clear hK K hHeld
   intro hHeld
   try simp only [sp]
   have SN_2 : Aside0 (SlB (w3.alloc (.cells #[.int .u8 x.no] 5)) (.slice (some ⟨w3.heap.size, 0, none⟩) 1 1) [x.no]) := ⟨by first | exact SlB.one _ _ | (have := SlB.one w3 x.no; rw [alloc_size] at this; exact this) | (have := SlB.one w3 x.no; rw [alloc_size, alloc_size] at this; exact this)⟩
   have ST_2 := am (ST_1.out.alloc (.cells #[.int .u8 x.no] 5))
   have SA_2 := am (SA_1.out.alloc (.cells #[.int .u8 x.no] 5))
   have SP_2 := am (SP_1.out.alloc (.cells #[.int .u8 x.no] 5))
   refine tr (i := 11) (fun K hK => ?_)
   have hHeld0 := hHeld
   go_wp2_with fail
   refine hK.out _ _ (ObS.step hHeld (below_alloc (Below.refl _ _) _)) ?_
   clear hK K hHeld
   intro hHeld
   try simp only [sp]
   have HB11 := am hHeld0
   have SD : Aside0 (SlB (w3.alloc (.cells #[.int .u8 x.no] 5)) (.slice (some ⟨w.heap.size, 1, none⟩) 16 16) x.id) := ⟨SlB.at (HAT.out _ HB11.out.1).1 16 16 HX.out.1 (by decide) (by decide)⟩
   have SS : Aside0 (SlBs (w3.alloc (.cells #[.int .u8 x.no] 5)) [.slice (some ⟨w2.heap.size, 0, none⟩) 1 1, .slice (some ⟨w.heap.size, 1, none⟩) 16 16, .slice A1 st.length c1s, .slice (some ⟨w3.heap.size, 0, none⟩) 1 1, .slice A3 pt.length c3] [[4], x.id, st, [x.no], pt]) := ⟨.cons SA_2.out (.cons SD.out (.cons ST_2.out (.cons SN_2.out (.cons SP_2.out .nil))))⟩
   refine tr (i := 12) (fun K hK => ?_)
   go_wp2_with fail
   refine (cat_rows SS.out (by show _ + 1 ≤ 1000; simp) (w3.heap.size + 1) (by first | rfl | (rw [alloc_size]; done) | (rw [alloc_size]; rfl) | (rw [alloc_size, alloc_size]; done) | (rw [alloc_size, alloc_size]; rfl)) 5 rfl (by have := HSL.out; have := HPL.out; have := HX.out.1; simp; omega) rs HFL.out).mono ?_
   rintro e_ w9 ⟨⟨A9, c9, rfl, hc9, hr9⟩, hb9⟩
   refine hK.out _ _ (ObS.step HB11.out hb9) ?_
   clear hK K hHeld
   intro hHeld
   try simp only [sp]
   have HQ := am (And.intro hc9 hr9)
   clear hc9 hr9 hb9
   refine th (i := 13) ?_
   refine td ?_
   have H9 := am hHeld
   clear hHeld
   go_wp2_with fail
   go_ret
   exact ⟨⟨_, _, rfl, HQ.out.1, HQ.out.2⟩, H9.out.2⟩
 ·rw [if_pos (by rfl)]
  go_wp2_with fail
  refine hK.out _ _ (ObS.step hHeld (below_alloc (Below.refl _ _) _)) ?_
  clear hK K hHeld
  intro hHeld
  try simp only [sp]
  have S1d := am S1.out.drew
  have SN_0 : Aside0 (SlB (w2.drew.alloc (.cells #[.int .u8 x.no] 5)) (.slice (some ⟨w2.heap.size, 0, none⟩) 1 1) [x.no]) := ⟨by first | exact SlB.one _ _ | (have := SlB.one w2.drew x.no; rw [alloc_size] at this; exact this) | (have := SlB.one w2.drew x.no; rw [alloc_size, alloc_size] at this; exact this)⟩
  have ST_0 := am (S1d.out.alloc (.cells #[.int .u8 x.no] 5))
  refine wpAnyH_ready (rs := [0, 10]) (by kernel_rfl) (by simp) ?_
  refine AllReadyH.cons (by simp only [List.getElem?_toArray, List.getElem?_cons_succ, List.getElem?_cons_zero]; rfl) (fun K hK => ?_) (AllReadyH.cons (by simp only [List.getElem?_toArray, List.getElem?_cons_succ, List.getElem?_cons_zero]; rfl) (fun K hK => ?_) AllReadyH.nil)
  ·rw [if_pos (by rfl)]
   go_wp2_with fail
   refine hK.out _ _ (ObS.step hHeld (below_alloc (Below.refl _ _) _)) ?_
   clear hK K hHeld
   intro hHeld
   try simp only [sp]
   have SA_1 : Aside0 (SlB ((w2.drew.alloc (.cells #[.int .u8 x.no] 5)).alloc (.cells #[.int .u8 4] 5)) (.slice (some ⟨w2.heap.size + 1, 0, none⟩) 1 1) [4]) := ⟨by first | exact SlB.one _ _ | (have := SlB.one (w2.drew.alloc (.cells #[.int .u8 x.no] 5)) 4; rw [alloc_size] at this; exact this) | (have := SlB.one (w2.drew.alloc (.cells #[.int .u8 x.no] 5)) 4; rw [alloc_size, alloc_size] at this; exact this)⟩
   have ST_1 := am (ST_0.out.alloc (.cells #[.int .u8 4] 5))
   have SN_1 := am (SN_0.out.alloc (.cells #[.int .u8 4] 5))
   refine tr (i := 10) (fun K hK => ?_)
   go_wp2_with fail
   refine (HPTP.out _).mono ?_
   rintro e_ w3 ⟨A3, c3, rfl, hc3, hr3, hb3⟩
   refine hK.out _ _ (ObS.step hHeld hb3) ?_
   clear hK K hHeld
   intro hHeld
   try simp only [sp]
   have SP_2 : Aside0 (SlB w3 (.slice A3 pt.length c3) pt) := ⟨⟨A3, c3, rfl, hc3, hr3⟩⟩
   have ST_2 := am (ST_1.out.below hb3)
   have SN_2 := am (SN_1.out.below hb3)
   have SA_2 := am (SA_1.out.below hb3)
   clear hc3 hr3 hb3
   refine tr (i := 11) (fun K hK => ?_)
   have hHeld0 := hHeld
   go_wp2_with fail
   refine hK.out _ _ (ObS.step hHeld (below_alloc (Below.refl _ _) _)) ?_
   clear hK K hHeld
   intro hHeld
   try simp only [sp]
   have HB11 := am hHeld0
   have SD : Aside0 (SlB w3 (.slice (some ⟨w.heap.size, 1, none⟩) 16 16) x.id) := ⟨SlB.at (HAT.out _ HB11.out.1).1 16 16 HX.out.1 (by decide) (by decide)⟩
   have SS : Aside0 (SlBs w3 [.slice (some ⟨w2.heap.size + 1, 0, none⟩) 1 1, .slice (some ⟨w.heap.size, 1, none⟩) 16 16, .slice A1 st.length c1s, .slice (some ⟨w2.heap.size, 0, none⟩) 1 1, .slice A3 pt.length c3] [[4], x.id, st, [x.no], pt]) := ⟨.cons SA_2.out (.cons SD.out (.cons ST_2.out (.cons SN_2.out (.cons SP_2.out .nil))))⟩
   refine tr (i := 12) (fun K hK => ?_)
   go_wp2_with fail
   refine (cat_rows SS.out (by show _ + 1 ≤ 1000; simp) (w3.heap.size) (by first | rfl | (rw [alloc_size]; done) | (rw [alloc_size]; rfl) | (rw [alloc_size, alloc_size]; done) | (rw [alloc_size, alloc_size]; rfl)) 5 rfl (by have := HSL.out; have := HPL.out; have := HX.out.1; simp; omega) rs HFL.out).mono ?_
   rintro e_ w9 ⟨⟨A9, c9, rfl, hc9, hr9⟩, hb9⟩
   refine hK.out _ _ (ObS.step HB11.out hb9) ?_
   clear hK K hHeld
   intro hHeld
   try simp only [sp]
   have HQ := am (And.intro hc9 hr9)
   clear hc9 hr9 hb9
   refine th (i := 13) ?_
   refine td ?_
   have H9 := am hHeld
   clear hHeld
   go_wp2_with fail
   go_ret
   exact ⟨⟨_, _, rfl, HQ.out.1, HQ.out.2⟩, H9.out.2⟩
  ·rw [if_pos (by rfl)]
   go_wp2_with fail
   refine (HPTP.out _).mono ?_
   rintro e_ w3 ⟨A3, c3, rfl, hc3, hr3, hb3⟩
   refine hK.out _ _ (ObS.step hHeld hb3) ?_
   clear hK K hHeld
   intro hHeld
   try simp only [sp]
   have SP_1 : Aside0 (SlB w3 (.slice A3 pt.length c3) pt) := ⟨⟨A3, c3, rfl, hc3, hr3⟩⟩
   have ST_1 := am (ST_0.out.below hb3)
   have SN_1 := am (SN_0.out.below hb3)
   clear hc3 hr3 hb3
   refine tr (i := 0) (fun K hK => ?_)
   go_wp2_with fail
   refine hK.out _ _ (ObS.step hHeld (below_alloc (Below.refl _ _) _)) ?_
   clear hK K hHeld
   intro hHeld
   try simp only [sp]
   have SA_2 : Aside0 (SlB (w3.alloc (.cells #[.int .u8 4] 5)) (.slice (some ⟨w3.heap.size, 0, none⟩) 1 1) [4]) := ⟨by first | exact SlB.one _ _ | (have := SlB.one w3 4; rw [alloc_size] at this; exact this) | (have := SlB.one w3 4; rw [alloc_size, alloc_size] at this; exact this)⟩
   have ST_2 := am (ST_1.out.alloc (.cells #[.int .u8 4] 5))
   have SN_2 := am (SN_1.out.alloc (.cells #[.int .u8 4] 5))
   have SP_2 := am (SP_1.out.alloc (.cells #[.int .u8 4] 5))
   refine tr (i := 11) (fun K hK => ?_)
   have hHeld0 := hHeld
   go_wp2_with fail
   refine hK.out _ _ (ObS.step hHeld (below_alloc (Below.refl _ _) _)) ?_
   clear hK K hHeld
   intro hHeld
   try simp only [sp]
   have HB11 := am hHeld0
   have SD : Aside0 (SlB (w3.alloc (.cells #[.int .u8 4] 5)) (.slice (some ⟨w.heap.size, 1, none⟩) 16 16) x.id) := ⟨SlB.at (HAT.out _ HB11.out.1).1 16 16 HX.out.1 (by decide) (by decide)⟩
   have SS : Aside0 (SlBs (w3.alloc (.cells #[.int .u8 4] 5)) [.slice (some ⟨w3.heap.size, 0, none⟩) 1 1, .slice (some ⟨w.heap.size, 1, none⟩) 16 16, .slice A1 st.length c1s, .slice (some ⟨w2.heap.size, 0, none⟩) 1 1, .slice A3 pt.length c3] [[4], x.id, st, [x.no], pt]) := ⟨.cons SA_2.out (.cons SD.out (.cons ST_2.out (.cons SN_2.out (.cons SP_2.out .nil))))⟩
   refine tr (i := 12) (fun K hK => ?_)
   go_wp2_with fail
   refine (cat_rows SS.out (by show _ + 1 ≤ 1000; simp) (w3.heap.size + 1) (by first | rfl | (rw [alloc_size]; done) | (rw [alloc_size]; rfl) | (rw [alloc_size, alloc_size]; done) | (rw [alloc_size, alloc_size]; rfl)) 5 rfl (by have := HSL.out; have := HPL.out; have := HX.out.1; simp; omega) rs HFL.out).mono ?_
   rintro e_ w9 ⟨⟨A9, c9, rfl, hc9, hr9⟩, hb9⟩
   refine hK.out _ _ (ObS.step HB11.out hb9) ?_
   clear hK K hHeld
   intro hHeld
   try simp only [sp]
   have HQ := am (And.intro hc9 hr9)
   clear hc9 hr9 hb9
   refine th (i := 13) ?_
   refine td ?_
   have H9 := am hHeld
   clear hHeld
   go_wp2_with fail
   go_ret
   exact ⟨⟨_, _, rfl, HQ.out.1, HQ.out.2⟩, H9.out.2⟩
 ·rw [if_pos (by rfl)]
  go_wp2_with fail
  refine (HPTP.out _).mono ?_
  rintro e_ w3 ⟨A3, c3, rfl, hc3, hr3, hb3⟩
  refine hK.out _ _ (ObS.step hHeld hb3) ?_
  clear hK K hHeld
  intro hHeld
  try simp only [sp]
  have S1d := am S1.out.drew
  have SP_0 : Aside0 (SlB w3 (.slice A3 pt.length c3) pt) := ⟨⟨A3, c3, rfl, hc3, hr3⟩⟩
  have ST_0 := am (S1d.out.below hb3)
  clear hc3 hr3 hb3
  refine wpAnyH_ready (rs := [0, 7]) (by kernel_rfl) (by simp) ?_
  refine AllReadyH.cons (by simp only [List.getElem?_toArray, List.getElem?_cons_succ, List.getElem?_cons_zero]; rfl) (fun K hK => ?_) (AllReadyH.cons (by simp only [List.getElem?_toArray, List.getElem?_cons_succ, List.getElem?_cons_zero]; rfl) (fun K hK => ?_) AllReadyH.nil)
  ·rw [if_pos (by rfl)]
   go_wp2_with fail
   refine hK.out _ _ (ObS.step hHeld (below_alloc (Below.refl _ _) _)) ?_
   clear hK K hHeld
   intro hHeld
   try simp only [sp]
   have SA_1 : Aside0 (SlB (w3.alloc (.cells #[.int .u8 4] 5)) (.slice (some ⟨w3.heap.size, 0, none⟩) 1 1) [4]) := ⟨by first | exact SlB.one _ _ | (have := SlB.one w3 4; rw [alloc_size] at this; exact this) | (have := SlB.one w3 4; rw [alloc_size, alloc_size] at this; exact this)⟩
   have ST_1 := am (ST_0.out.alloc (.cells #[.int .u8 4] 5))
   have SP_1 := am (SP_0.out.alloc (.cells #[.int .u8 4] 5))
   refine tr (i := 7) (fun K hK => ?_)
   go_wp2_with fail
   refine hK.out _ _ (ObS.step hHeld (below_alloc (Below.refl _ _) _)) ?_
   clear hK K hHeld
   intro hHeld
   try simp only [sp]
   have SN_2 : Aside0 (SlB ((w3.alloc (.cells #[.int .u8 4] 5)).alloc (.cells #[.int .u8 x.no] 5)) (.slice (some ⟨w3.heap.size + 1, 0, none⟩) 1 1) [x.no]) := ⟨by first | exact SlB.one _ _ | (have := SlB.one (w3.alloc (.cells #[.int .u8 4] 5)) x.no; rw [alloc_size] at this; exact this) | (have := SlB.one (w3.alloc (.cells #[.int .u8 4] 5)) x.no; rw [alloc_size, alloc_size] at this; exact this)⟩
   have ST_2 := am (ST_1.out.alloc (.cells #[.int .u8 x.no] 5))
   have SP_2 := am (SP_1.out.alloc (.cells #[.int .u8 x.no] 5))
   have SA_2 := am (SA_1.out.alloc (.cells #[.int .u8 x.no] 5))
   refine tr (i := 11) (fun K hK => ?_)
   have hHeld0 := hHeld
   go_wp2_with fail
   refine hK.out _ _ (ObS.step hHeld (below_alloc (Below.refl _ _) _)) ?_
   clear hK K hHeld
   intro hHeld
   try simp only [sp]
   have HB11 := am hHeld0
   have SD : Aside0 (SlB ((w3.alloc (.cells #[.int .u8 4] 5)).alloc (.cells #[.int .u8 x.no] 5)) (.slice (some ⟨w.heap.size, 1, none⟩) 16 16) x.id) := ⟨SlB.at (HAT.out _ HB11.out.1).1 16 16 HX.out.1 (by decide) (by decide)⟩
   have SS : Aside0 (SlBs ((w3.alloc (.cells #[.int .u8 4] 5)).alloc (.cells #[.int .u8 x.no] 5)) [.slice (some ⟨w3.heap.size, 0, none⟩) 1 1, .slice (some ⟨w.heap.size, 1, none⟩) 16 16, .slice A1 st.length c1s, .slice (some ⟨w3.heap.size + 1, 0, none⟩) 1 1, .slice A3 pt.length c3] [[4], x.id, st, [x.no], pt]) := ⟨.cons SA_2.out (.cons SD.out (.cons ST_2.out (.cons SN_2.out (.cons SP_2.out .nil))))⟩
   refine tr (i := 12) (fun K hK => ?_)
   go_wp2_with fail
   refine (cat_rows SS.out (by show _ + 1 ≤ 1000; simp) (w3.heap.size + 1 + 1) (by first | rfl | (rw [alloc_size]; done) | (rw [alloc_size]; rfl) | (rw [alloc_size, alloc_size]; done) | (rw [alloc_size, alloc_size]; rfl)) 5 rfl (by have := HSL.out; have := HPL.out; have := HX.out.1; simp; omega) rs HFL.out).mono ?_
   rintro e_ w9 ⟨⟨A9, c9, rfl, hc9, hr9⟩, hb9⟩
   refine hK.out _ _ (ObS.step HB11.out hb9) ?_
   clear hK K hHeld
   intro hHeld
   try simp only [sp]
   have HQ := am (And.intro hc9 hr9)
   clear hc9 hr9 hb9
   refine th (i := 13) ?_
   refine td ?_
   have H9 := am hHeld
   clear hHeld
   go_wp2_with fail
   go_ret
   exact ⟨⟨_, _, rfl, HQ.out.1, HQ.out.2⟩, H9.out.2⟩
  ·rw [if_pos (by rfl)]
   go_wp2_with fail
   refine hK.out _ _ (ObS.step hHeld (below_alloc (Below.refl _ _) _)) ?_
   clear hK K hHeld
   intro hHeld
   try simp only [sp]
   have SN_1 : Aside0 (SlB (w3.alloc (.cells #[.int .u8 x.no] 5)) (.slice (some ⟨w3.heap.size, 0, none⟩) 1 1) [x.no]) := ⟨by first | exact SlB.one _ _ | (have := SlB.one w3 x.no; rw [alloc_size] at this; exact this) | (have := SlB.one w3 x.no; rw [alloc_size, alloc_size] at this; exact this)⟩
   have ST_1 := am (ST_0.out.alloc (.cells #[.int .u8 x.no] 5))
   have SP_1 := am (SP_0.out.alloc (.cells #[.int .u8 x.no] 5))
   refine tr (i := 0) (fun K hK => ?_)
   go_wp2_with fail
   refine hK.out _ _ (ObS.step hHeld (below_alloc (Below.refl _ _) _)) ?_
   clear hK K hHeld
   intro hHeld
   try simp only [sp]
   have SA_2 : Aside0 (SlB ((w3.alloc (.cells #[.int .u8 x.no] 5)).alloc (.cells #[.int .u8 4] 5)) (.slice (some ⟨w3.heap.size + 1, 0, none⟩) 1 1) [4]) := ⟨by first | exact SlB.one _ _ | (have := SlB.one (w3.alloc (.cells #[.int .u8 x.no] 5)) 4; rw [alloc_size] at this; exact this) | (have := SlB.one (w3.alloc (.cells #[.int .u8 x.no] 5)) 4; rw [alloc_size, alloc_size] at this; exact this)⟩
   have ST_2 := am (ST_1.out.alloc (.cells #[.int .u8 4] 5))
   have SP_2 := am (SP_1.out.alloc (.cells #[.int .u8 4] 5))
   have SN_2 := am (SN_1.out.alloc (.cells #[.int .u8 4] 5))
   refine tr (i := 11) (fun K hK => ?_)
   have hHeld0 := hHeld
   go_wp2_with fail
   refine hK.out _ _ (ObS.step hHeld (below_alloc (Below.refl _ _) _)) ?_
   clear hK K hHeld
   intro hHeld
   try simp only [sp]
   have HB11 := am hHeld0
   have SD : Aside0 (SlB ((w3.alloc (.cells #[.int .u8 x.no] 5)).alloc (.cells #[.int .u8 4] 5)) (.slice (some ⟨w.heap.size, 1, none⟩) 16 16) x.id) := ⟨SlB.at (HAT.out _ HB11.out.1).1 16 16 HX.out.1 (by decide) (by decide)⟩
   have SS : Aside0 (SlBs ((w3.alloc (.cells #[.int .u8 x.no] 5)).alloc (.cells #[.int .u8 4] 5)) [.slice (some ⟨w3.heap.size + 1, 0, none⟩) 1 1, .slice (some ⟨w.heap.size, 1, none⟩) 16 16, .slice A1 st.length c1s, .slice (some ⟨w3.heap.size, 0, none⟩) 1 1, .slice A3 pt.length c3] [[4], x.id, st, [x.no], pt]) := ⟨.cons SA_2.out (.cons SD.out (.cons ST_2.out (.cons SN_2.out (.cons SP_2.out .nil))))⟩
   refine tr (i := 12) (fun K hK => ?_)
   go_wp2_with fail
   refine (cat_rows SS.out (by show _ + 1 ≤ 1000; simp) (w3.heap.size + 1 + 1) (by first | rfl | (rw [alloc_size]; done) | (rw [alloc_size]; rfl) | (rw [alloc_size, alloc_size]; done) | (rw [alloc_size, alloc_size]; rfl)) 5 rfl (by have := HSL.out; have := HPL.out; have := HX.out.1; simp; omega) rs HFL.out).mono ?_
   rintro e_ w9 ⟨⟨A9, c9, rfl, hc9, hr9⟩, hb9⟩
   refine hK.out _ _ (ObS.step HB11.out hb9) ?_
   clear hK K hHeld
   intro hHeld
   try simp only [sp]
   have HQ := am (And.intro hc9 hr9)
   clear hc9 hr9 hb9
   refine th (i := 13) ?_
   refine td ?_
   have H9 := am hHeld
   clear hHeld
   go_wp2_with fail
   go_ret
   exact ⟨⟨_, _, rfl, HQ.out.1, HQ.out.2⟩, H9.out.2⟩
theorem cone_call (x : OpT) (A : Option Addr) (c : Nat) (d : List ByteArray) (Ad : Option Addr) (cd : Nat) (w : World) (h : OkO x) (hc : x.p.length ≤ c) (hC : Kd.C k67 w A x.p.length x.p) (hd : d.length ≤ 16) (hD : Kd.C Kd.string w Ad d.length d) (hcd : d.length ≤ cd) :
  Calls Try.prog 116 #[.agg (opC x A c).toArray, .slice Ad d.length cd] w (RowQ w (oneB d x)) := by
 by_cases hk : x.kind = 1
 ·by_cases hv : atL x.v d < 0
  ·exact cone_b x A c d Ad cd w h hc hC hd hD hcd hk hv
  ·exact cone_c x A c d Ad cd w h hc hC hd hD hcd hk (by omega)
 ·exact cone_a x A c d Ad cd w h hc hC hd hD hcd hk
end
section
open Go.RowKit Go.Proofs.YtchaegfdcdlfaaaW.PrintWords Go.Proofs.YtchaegfdcdlfaaaW.PrintLast Go.Proofs.YtchaegfdcdlfaaaW.PrintMore
open Go.Proofs.Ytchaegfdcdlfaaa.Y (IsGet readR bytesOf_bytes Bytes four word put put_range put_length put_length_pos isGet_put word_four four_word word_length word_bytes put_unique)
theorem known_suf (d : List ByteArray) (s : Rd) : ∃ k, (knownR d s).2.b = s.b.drop k := by
 obtain ⟨k1, h1⟩ := skipR_suf s 1 true
 obtain ⟨k2, h2⟩ := (take_tame 16).suf (skipR s 1 true).2
 obtain ⟨k3, h3⟩ := st_tame.suf (takeR 16 (skipR s 1 true).2).2
 obtain ⟨k4, h4⟩ := byte_tame.suf (stR (takeR 16 (skipR s 1 true).2).2).2
 obtain ⟨k5, h5⟩ := (num_tame ((d.length : Int) - 1)).suf (byteR (stR (takeR 16 (skipR s 1 true).2).2).2).2
 refine ⟨k1 + (k2 + (k3 + (k4 + k5))), ?_⟩
 show (numR ((d.length : Int) - 1) (byteR (stR (takeR 16 (skipR s 1 true).2).2).2).2).2.b = _
 rw [h5, h4, h3, h2, h1, List.drop_drop, List.drop_drop, List.drop_drop, List.drop_drop]
theorem one_suf (d : List ByteArray) (s : Rd) : ∃ k, (oneR d s).2.b = s.b.drop k := by
 unfold oneR
 split
 ·exact skipR_suf s _ _
 ·exact known_suf d s
theorem skipq_byt {s : Rd} {n : Nat} {is : Bool} (hb : Bytes s.b) : Bytes (skipR s n is).1 := by
 unfold skipR
 split
 ·exact z_byt n
 ·exact by_take hb n
theorem zO_byt : OpByt zO := ⟨⟨rfl, z_byt 16⟩, ⟨rfl, z_byt 16⟩, ⟨rfl, z_byt 32⟩⟩
structure OpSafe (x : OpT) : Prop where
 byt : OpByt x
 p : x.p.length ≤ 60
 v : x.v.size ≤ 200
theorem getO_safe {b : List Int} (hb : Bytes b) (hl : b.length ≤ 1000000) : OpSafe (getO b).1 := by
 rcases getO_is b hb hl with h | ⟨x, rest, _, h, e⟩
 ·have e : (getO b).1 = zO := by
   unfold getO at h ⊢
   split
   ·rfl
   ·rename_i hc
    rw [if_neg hc] at h
    cases h
  rw [e]
  exact ⟨zO_byt, by decide, by decide⟩
 ·rw [e]
  have hm := mayO_facts h.1
  exact ⟨h.2, ((mayL_iff _).1 hm.2.2.2.2.2.2.2.2.2).2.1, hm.2.2.2.2.2.2.2.2.1⟩
theorem one_safe {d : List ByteArray} (hd : ∀ v ∈ d, v.size ≤ 200) {s : Rd} (hb : Bytes s.b) (hl : s.b.length ≤ 1000000) : OpSafe (oneR d s).1 := by
 unfold oneR
 split
 ·exact getO_safe hb hl
 ·obtain ⟨k1, h1⟩ := skipR_suf s 1 true
  have hb1 : Bytes (skipR s 1 true).2.b := by rw [h1]; exact by_drop hb _
  refine ⟨⟨⟨skipR_len _ _ _, skipq_byt hb1⟩, ⟨rfl, z_byt 16⟩, ⟨rfl, z_byt 32⟩⟩, Nat.zero_le _, ?_⟩
  show (if (numR ((d.length : Int) - 1) (byteR (stR (takeR 16 (skipR s 1 true).2).2).2).2).2.bad = true then (⟨#[]⟩ : ByteArray) else d.getD (numR ((d.length : Int) - 1) (byteR (stR (takeR 16 (skipR s 1 true).2).2).2).2).1.toNat ⟨#[]⟩).size ≤ 200
  generalize (numR ((d.length : Int) - 1) (byteR (stR (takeR 16 (skipR s 1 true).2).2).2).2) = q
  split
  ·decide
  ·rw [List.getD_eq_getElem?_getD]
   cases hq : d[q.1.toNat]? with
   | none => decide
   | some v => exact hd v (List.mem_of_getElem? hq)
theorem it_safe {d : List ByteArray} (hd : ∀ v ∈ d, v.size ≤ 200) : ∀ (k : Nat) {s : Rd}, Bytes s.b → s.b.length ≤ 1000000 → ∀ x ∈ (itR (oneR d) k s).1, OpSafe x
 | 0, s, _, _ => fun x hx => by cases hx
 | k + 1, s, hb, hl => fun x hx => by
  obtain ⟨m, hm⟩ := itR_suf (one_suf d) k s
  have hb2 : Bytes (itR (oneR d) k s).2.b := by rw [hm]; exact by_drop hb m
  have hl2 : (itR (oneR d) k s).2.b.length ≤ 1000000 := by rw [hm, List.length_drop]; omega
  rcases List.mem_append.1 hx with hx | hx
  ·exact it_safe hd k hb hl x hx
  ·rw [List.mem_singleton.1 hx]
   exact one_safe hd hb2 hl2
theorem num_byt {m : Int} {s : Rd} (hb : Bytes s.b) (hl : s.b.length ≤ 1000000) : Bytes (numR m s).2.b ∧ (numR m s).2.b.length ≤ 1000000 := by
 obtain ⟨k, hk⟩ := (num_tame m).suf s
 rw [hk]
 exact ⟨by_drop hb k, by rw [List.length_drop]; omega⟩
theorem bat_safe {d : List ByteArray} (hd : ∀ v ∈ d, v.size ≤ 200) {s : Rd} (hb : Bytes s.b) (hl : s.b.length ≤ 1000000) : (∀ x ∈ (batR d s).1, OpSafe x) ∧ (batR d s).1.length ≤ 20 := by
 have h := num_byt (m := 20) hb hl
 refine ⟨it_safe hd _ h.1 h.2, ?_⟩
 have := numR_range 20 (by decide) s hb hl
 unfold batR
 rw [itR_len]
 omega
theorem bods_safe {d : List ByteArray} (hd : ∀ v ∈ d, v.size ≤ 200) (bs : List (List Int)) (hb : ∀ b ∈ bs, Bytes b ∧ b.length ≤ 1000000) (bad : Bool) : ∀ k, ∀ l ∈ (bodsR d bs bad k).1, (∀ x ∈ l, OpSafe x) ∧ l.length ≤ 20
 | 0 => fun l hl => by cases hl
 | k + 1 => fun l hl => by
  have hg : Bytes (bs.getD k []) ∧ (bs.getD k []).length ≤ 1000000 := by
   rw [List.getD_eq_getElem?_getD]
   cases hq : bs[k]? with
   | none => exact ⟨(fun x hx => by cases hx), Nat.zero_le _⟩
   | some b => exact hb b (List.mem_of_getElem? hq)
  unfold bodsR at hl
  rcases List.mem_append.1 hl with hl | hl
  ·exact bods_safe hd bs hb bad k l hl
  ·rw [List.mem_singleton.1 hl]
   exact bat_safe hd hg.1 hg.2
theorem text_safe {s : Rd} (hb : Bytes s.b) (hl : s.b.length ≤ 1000000) : (textR s).1.size ≤ 200 := by
 show (textQ s.b).1.size ≤ 200
 rcases textQ_is s.b hb hl with h | ⟨v, rest, _, h, e⟩
 ·unfold textQ readR at h ⊢
  split at h
  ·cases h
  ·rename_i hc
   rw [if_neg hc]
   decide
 ·rw [e]; exact h
theorem texts_safe : ∀ (k : Nat) {s : Rd}, Bytes s.b → s.b.length ≤ 1000000 → ∀ v ∈ (itR textR k s).1, v.size ≤ 200
 | 0, s, _, _ => fun x hx => by cases hx
 | k + 1, s, hb, hl => fun x hx => by
  obtain ⟨m, hm⟩ := itR_suf text_tame.suf k s
  have hb2 : Bytes (itR textR k s).2.b := by rw [hm]; exact by_drop hb m
  have hl2 : (itR textR k s).2.b.length ≤ 1000000 := by rw [hm, List.length_drop]; omega
  rcases List.mem_append.1 hx with hx | hx
  ·exact texts_safe k hb hl x hx
  ·rw [List.mem_singleton.1 hx]
   exact text_safe hb2 hl2
theorem rdH_safe {h : List Int} (hh : Bytes h ∧ h.length ≤ 1000000) (bs : List (List Int)) (hb : ∀ b ∈ bs, Bytes b ∧ b.length ≤ 1000000) : PlByt (rdH h bs).1 ∧ ∀ l ∈ (rdH h bs).1.b, (∀ x ∈ l, OpSafe x) ∧ l.length ≤ 20 := by
 obtain ⟨k1, h1⟩ := (take_tame 32).suf ⟨h, false⟩
 have b1 : Bytes (takeR 32 ⟨h, false⟩).2.b ∧ (takeR 32 ⟨h, false⟩).2.b.length ≤ 1000000 := by
  rw [h1]
  exact ⟨by_drop hh.1 _, by rw [List.length_drop]; exact Nat.le_trans (Nat.sub_le _ _) hh.2⟩
 have b2 := num_byt (m := 16) b1.1 b1.2
 have hd := texts_safe (numR 16 (takeR 32 ⟨h, false⟩).2).1.toNat b2.1 b2.2
 have hs : ∀ bad k, ∀ l ∈ (bodsR (itR textR (numR 16 (takeR 32 ⟨h, false⟩).2).1.toNat (numR 16 (takeR 32 ⟨h, false⟩).2).2).1 bs bad k).1, (∀ x ∈ l, OpSafe x) ∧ l.length ≤ 20 := fun bad k => bods_safe hd bs hb bad k
 exact ⟨⟨⟨skipR_len _ _ _, skipq_byt hh.1⟩, fun l hl x hx => ((hs _ _ l hl).1 x hx).byt⟩, fun l hl => hs _ _ l hl⟩
theorem sect_byt : ∀ (k : Nat) (acc : List (List Int)) (b : List Int), Bytes b → b.length ≤ 1000000 → (∀ x ∈ acc, Bytes x ∧ x.length ≤ 100000) → ∀ x ∈ (sectL k acc b).1, Bytes x ∧ x.length ≤ 100000
 | 0, acc, b, _, _, ha => ha
 | k + 1, acc, b, hb, hl, ha => by
  unfold sectL
  by_cases hc : acc.length = 0 ∨ 0 < b.length
  ·rw [if_pos hc]
   by_cases h0 : (openL b).2.2.2 ≠ 0
   ·rw [if_pos h0]
    exact fun x hx => by cases hx
   ·rw [if_neg h0]
    by_cases h1 : (openL b).1 ≠ (if acc.length = 0 then 2 else 3)
    ·rw [if_pos h1]
     exact fun x hx => by cases hx
    ·rw [if_neg h1]
     refine sect_byt k _ _ (by_drop hb _) (by rw [List.length_drop]; omega) (fun x hx => ?_)
     rcases List.mem_append.1 hx with hx | hx
     ·exact ha x hx
     ·rw [List.mem_singleton.1 hx]
      rcases open_back hb (by omega) with ⟨j, hj, ho⟩ | ⟨a, body, rest, _, _, h3, h4, _, ho⟩
      ·rw [ho] at h0
       exact absurd hj h0
      ·rw [ho]
       exact ⟨h3, h4⟩
  ·rw [if_neg hc]
   exact ha
theorem secs_byt {b : List Int} (hb : Bytes b) (hl : b.length ≤ 1000000) : ∀ x ∈ (secs b).1, Bytes x ∧ x.length ≤ 100000 := sect_byt _ [] b hb hl (fun x hx => by cases hx)
theorem rdPl_safe {l : List (List Int)} (h : ∀ x ∈ l, Bytes x ∧ x.length ≤ 100000) : PlByt (rdPl l).1 ∧ ∀ b ∈ (rdPl l).1.b, (∀ x ∈ b, OpSafe x) ∧ b.length ≤ 20 := by
 refine rdH_safe ?_ _ (fun b hb => ⟨(h b (List.mem_of_mem_drop hb)).1, Nat.le_trans (h b (List.mem_of_mem_drop hb)).2 (by decide)⟩)
 rw [List.getD_eq_getElem?_getD]
 cases hq : l[0]? with
 | none => exact ⟨(fun x hx => by cases hx), Nat.zero_le _⟩
 | some b => exact ⟨(h b (List.mem_of_getElem? hq)).1, Nat.le_trans (h b (List.mem_of_getElem? hq)).2 (by decide)⟩
theorem zPl_byt : PlByt zPl := ⟨⟨rfl, z_byt 32⟩, fun l hl => by cases hl⟩
theorem getPl_byt {b : List Int} (hb : Bytes b) (hl : b.length ≤ 1000000) : PlByt (getPl b).1 := by
 unfold getPl
 split
 ·exact zPl_byt
 ·split
  ·exact zPl_byt
  ·exact (rdPl_safe (secs_byt hb hl)).1
def hdN (h : List Int) : Int := (numR 16 (itR textR (numR 16 (takeR 32 ⟨h, false⟩).2).1.toNat (numR 16 (takeR 32 ⟨h, false⟩).2).2).2).1
theorem hdN_hdB {p : PlanT} (h : mayPl p = true) (hb : PlByt p) : hdN (hdB p (dictP p)) = (p.b.length : Int) := by
 have hf := mayPl_facts h
 have hd : (dictP p).length ≤ 16 := dictL_len p.b.flatten
 have hs := dictP_small h
 have hl := hdB_len hb.base.1 hf.1 hd hs
 obtain ⟨d, hde⟩ : ∃ d, dictP p = d := ⟨_, rfl⟩
 rw [hde] at hd hs hl ⊢
 have b3 : Bytes (put p.b.length) := put_range _
 have b2 : Bytes (allB textB d ++ put p.b.length) := by_app (allB_byt fun x _ => textB_bytes x) b3
 have b1 : Bytes (put d.length ++ (allB textB d ++ put p.b.length)) := by_app (put_range _) b2
 unfold hdB at hl
 have s1 : takeR 32 ⟨p.base ++ (put d.length ++ (allB textB d ++ put p.b.length)), false⟩ = (p.base, ⟨put d.length ++ (allB textB d ++ put p.b.length), false⟩) := (takeR_good 32).put p.base _ hb.base b1 (by omega)
 have s2 : numR 16 ⟨put d.length ++ (allB textB d ++ put p.b.length), false⟩ = ((d.length : Int), ⟨allB textB d ++ put p.b.length, false⟩) := by
  have := (numR_good 16 (by decide)).put (d.length : Int) (allB textB d ++ put p.b.length) ⟨by omega, by omega⟩ b2 (by rw [Int.toNat_natCast]; rw [List.length_append] at hl; omega)
  rw [Int.toNat_natCast] at this
  exact this
 have s3 : itR textR d.length ⟨allB textB d ++ put p.b.length, false⟩ = (d, ⟨put p.b.length, false⟩) := textR_good.puts.it d _ hs b3 (by simp only [List.length_append] at hl ⊢; omega)
 have s4 : numR 16 ⟨put p.b.length, false⟩ = ((p.b.length : Int), ⟨[], false⟩) := by
  have := (numR_good 16 (by decide)).put (p.b.length : Int) [] ⟨by omega, by omega⟩ (fun x hx => by cases hx) (by rw [Int.toNat_natCast]; simp only [List.length_append] at hl ⊢; simp only [List.length_nil]; omega)
  rw [Int.toNat_natCast, List.append_nil] at this
  exact this
 unfold hdN hdB
 rw [s1]
 dsimp only
 rw [s2]
 dsimp only
 rw [Int.toNat_natCast, s3]
 dsimp only
 rw [s4]
theorem open_eq {k : Int} {x y s t : List Int} (h0 : 0 ≤ k) (h9 : k ≤ 9) (hx : Bytes x ∧ x.length ≤ 100000) (hy : Bytes y ∧ y.length ≤ 100000) (hs : Bytes s ∧ s.length ≤ 1000000) (ht : Bytes t ∧ t.length ≤ 1000000) (h : packL k x ++ s = packL k y ++ t) : x = y ∧ s = t := by
 have o1 := open_pack h0 h9 hx.1 hx.2 hs.1 (by omega)
 have o2 := open_pack h0 h9 hy.1 hy.2 ht.1 (by omega)
 rw [h, o2] at o1
 have e : y = x := congrArg (fun q : Int × List Int × Int × Int => q.2.1) o1
 subst e
 exact ⟨rfl, List.append_cancel_left h⟩
theorem secs_prefix : ∀ (bp bq : List (List Int)) (t : List Int), bp.length = bq.length → (∀ x ∈ bp, Bytes x ∧ x.length ≤ 100000) → (∀ x ∈ bq, Bytes x ∧ x.length ≤ 100000) → Bytes t → (allB (packL 3) bq).length ≤ 1000000 → allB (packL 3) bp ++ t = allB (packL 3) bq → t = []
 | [], [], t, _, _, _, _, _, h => h
 | [], _ :: _, t, hl, _, _, _, _, _ => by cases hl
 | _ :: _, [], t, hl, _, _, _, _, _ => by cases hl
 | x :: bp, y :: bq, t, hl, hp, hq, ht, hs, h => by
  have h' : packL 3 x ++ (allB (packL 3) bp ++ t) = packL 3 y ++ allB (packL 3) bq := by rw [← List.append_assoc]; exact h
  have hs' : (packL 3 y ++ allB (packL 3) bq).length ≤ 1000000 := hs
  have hle : (allB (packL 3) bp ++ t).length ≤ 1000000 := by
   rw [← h', List.length_append] at hs'
   omega
  have bB : ∀ {l : List (List Int)}, (∀ x ∈ l, Bytes x ∧ x.length ≤ 100000) → Bytes (allB (packL 3) l) := fun hl => allB_byt fun z hz => packL_byt (by decide) (by decide) (hl z hz).1
  obtain ⟨_, e2⟩ := open_eq (by decide) (by decide) (hp x (by simp)) (hq y (by simp)) ⟨by_app (bB fun z hz => hp z (by simp [hz])) ht, hle⟩ ⟨bB fun z hz => hq z (by simp [hz]), by rw [List.length_append] at hs'; omega⟩ h'
  exact secs_prefix bp bq t (by simpa using hl) (fun z hz => hp z (by simp [hz])) (fun z hz => hq z (by simp [hz])) ht (by rw [List.length_append] at hs'; omega) e2
theorem plB_eq (p : PlanT) : plB p = packL 2 (hdB p (dictP p)) ++ allB (packL 3) (p.b.map (bodyB (dictP p))) := by rw [allB_map]; rfl
theorem plB_bodies {p : PlanT} (h : mayPl p = true) (hb : PlByt p) : (Bytes (hdB p (dictP p)) ∧ (hdB p (dictP p)).length ≤ 100000) ∧ ∀ x ∈ p.b.map (bodyB (dictP p)), Bytes x ∧ x.length ≤ 100000 := by
 have hf := mayPl_facts h
 have hd : (dictP p).length ≤ 16 := dictL_len p.b.flatten
 refine ⟨⟨hdB_byt hb _, Nat.le_trans (hdB_len hb.base.1 hf.1 hd (dictP_small h)) (by decide)⟩, fun x hx => ?_⟩
 obtain ⟨l, hl2, rfl⟩ := List.mem_map.1 hx
 exact ⟨bodyB_byt (mayPl_ok h hb l hl2), Nat.le_trans (bodyB_len hd (hf.2 l hl2).2.1 (mayPl_ok h hb l hl2)) (by decide)⟩
theorem plB_prefix {p q : PlanT} (hp : mayPl p = true) (bp : PlByt p) (hq : mayPl q = true) (bq : PlByt q) {t : List Int} (ht : Bytes t) (h : plB p ++ t = plB q) : t = [] := by
 have p1 := plB_bodies hp bp
 have q1 := plB_bodies hq bq
 have hlq := plB_len hq bq
 have hN := hdN_hdB hp bp
 have hM := hdN_hdB hq bq
 rw [plB_eq q] at hlq
 rw [plB_eq p, plB_eq q, List.append_assoc] at h
 have bB : ∀ {l : List (List Int)}, (∀ x ∈ l, Bytes x ∧ x.length ≤ 100000) → Bytes (allB (packL 3) l) := fun hl => allB_byt fun z hz => packL_byt (by decide) (by decide) (hl z hz).1
 have hl2 := hlq
 rw [← h] at hl2
 obtain ⟨e1, e2⟩ := open_eq (by decide) (by decide) p1.1 q1.1 ⟨by_app (bB p1.2) ht, by rw [List.length_append] at hl2; omega⟩ ⟨bB q1.2, by rw [List.length_append] at hlq; omega⟩ h
 rw [e1, hM] at hN
 refine secs_prefix _ _ t ?_ p1.2 q1.2 ht (by rw [List.length_append] at hlq; omega) e2
 rw [List.length_map, List.length_map]
 omega
theorem plB_byt {p : PlanT} (h : mayPl p = true) (hb : PlByt p) : Bytes (plB p) := by
 have p1 := plB_bodies h hb
 rw [plB_eq]
 exact by_app (packL_byt (by decide) (by decide) p1.1.1) (allB_byt fun z hz => packL_byt (by decide) (by decide) (p1.2 z hz).1)
theorem pl_more {p : PlanT} (h : mayPl p = true) (hb : PlByt p) {c : Int} (h0 : 0 ≤ c) (h1 : c ≤ 255) : (getPl (plB p ++ [c])).2 ≠ 0 := fun e => by
 have hc : Bytes [c] := fun x hx => by rw [List.mem_singleton.1 hx]; exact ⟨h0, h1⟩
 have hby : Bytes (plB p ++ [c]) := by_app (plB_byt h hb) hc
 have hlen := plB_len h hb
 obtain ⟨g1, g2⟩ := getPl_got e
 have g3 := getPl_byt hby (by rw [List.length_append]; simp only [List.length_cons, List.length_nil]; omega)
 have := plB_prefix h hb g1 g3 hc g2.symm
 cases this
theorem pl_less {p : PlanT} (h : mayPl p = true) (hb : PlByt p) {n : Nat} (hn : n < (plB p).length) : (getPl ((plB p).take n)).2 ≠ 0 := fun e => by
 have hlen := plB_len h hb
 obtain ⟨g1, g2⟩ := getPl_got e
 have g3 := getPl_byt (by_take (plB_byt h hb) n) (by rw [List.length_take]; omega)
 have := plB_prefix g1 g3 h hb (t := (plB p).drop n) (by_drop (plB_byt h hb) n) (by rw [g2, List.take_append_drop])
 have h2 := congrArg List.length this
 rw [List.length_drop, List.length_nil] at h2
 omega
theorem pl_chg {p : PlanT} {y : List Int} (hy : plB p ≠ y) : (getPl y).2 ≠ 0 ∨ (getPl y).1 ≠ p := by
 by_cases h : (getPl y).2 = 0
 ·right
  rintro e
  have := (getPl_got h).2
  rw [e] at this
  exact hy this
 ·exact .inl h
end
end Go.Proofs.Ytchaegfdcdlfaaa.X
