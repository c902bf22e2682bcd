/- Texts of this claim, what it reaches -/
import Derived.Test.YtchaegfdcdlfaaaA7
import Derived.Shelf.SlicesE.DeleteFunc
import Derived.Maps.OwnOps
import Derived.Maps.Views
import Derived.Lib.OwnBridge
set_option linter.unusedVariables false
set_option linter.unusedSimpArgs false
set_option maxRecDepth 100000
namespace Go.Proofs.Ytchaegfdcdlfaaa.X
section
open Go.RowKit Go.Proofs Go.Shelf
def renD : Ren where
 f := fun n => if n = 6 then 163 else if n = 10 then 133 else 0
 t := fun n => if n = 0 then 0 else if n = 3 then 3 else if n = 4 then 4 else if n = 22 then 90 else if n = 23 then 9 else if n = 25 then 37 else 0
 g := fun n => n
theorem layD : SlLaysH.n10 Try.prog renD := by
 constructor
 case f6 => exact ⟨"slices.IndexFunc[[]string,string]", by rfl, by kernel_rfl⟩
 case f10 => exact ⟨"slices.DeleteFunc[[]string,string]", by rfl, by kernel_rfl⟩
 all_goals first | kernel_rfl | (intro w; kernel_rfl)
end
section
open Go.WideMaps Go.RowKit Go.Maps Go.Sort Go.Lib Go.Proofs.YtchaegfdcdlfaaaW.PrintWords Go.Proofs.YtchaegfdcdlfaaaW.PrintLast Go.Proofs.YtchaegfdcdlfaaaW.PrintMore
attribute [local go_sem] max2_int min2_int max_two min_two max_three min_three max_four min_four
theorem lawS : Keyed Try.prog 9 := string_keyed Try.underlying9
theorem zero3 (w : World) : (zeroValue 3).run Try.prog w = .ok (.int .i64 0) w := by kernel_rfl
def CntM (W : World) (b n : Nat) (l : List ByteArray) : Prop :=
 ∃ D : DataW Unit, W.ownsMap Try.prog 9 (plainElem Try.prog 3) b n D ∧ ∀ s : ByteArray, s.size ≤ 1000000 → D.atKey (.string s.data.toList) (.lit (.int .i64 0)) = .lit (.int .i64 (cntL s l : Int))
theorem cnt_snoc (s v : ByteArray) (l : List ByteArray) : cntL s (l ++ [v]) = cntL s l + if v = s then 1 else 0 := by
 unfold cntL
 rw [List.countP_append]
 congr 1
 by_cases h : v = s
 ·simp [h]
 ·simp [h]
theorem cnt_le (s : ByteArray) (l : List ByteArray) : cntL s l ≤ l.length := List.countP_le_length
theorem key_ne {s v : ByteArray} (h : s ≠ v) : (Lit.string s.data.toList) ≠ (Lit.string v.data.toList) := fun e => h (by
 injection e with e
 apply bytes_inj
 rw [ByteArray.toList_eq, ByteArray.toList_eq]
 exact e)
theorem CntM.made (w : World) : CntM (w.alloc (.map #[] 0)) w.heap.size 0 [] := ⟨.map [], World.ownsMap_made _ _ _ _, fun s _ => rfl⟩
theorem CntM.kept {w w' : World} {b n : Nat} {l : List ByteArray} (h : CntM w b n l) {row : Option Nat} (hg : w.grownBy w' row) (hne : some b ≠ row) : CntM w' b n l := by
 obtain ⟨D, h1, h2⟩ := h
 exact ⟨D, h1.kept hg hne, h2⟩
theorem CntM.put {w w' : World} {b n : Nat} {l : List ByteArray} {D : DataW Unit} (h1 : w.ownsMap Try.prog 9 (plainElem Try.prog 3) b n D) (h2 : ∀ s : ByteArray, s.size ≤ 1000000 → D.atKey (.string s.data.toList) (.lit (.int .i64 0)) = .lit (.int .i64 (cntL s l : Int)))
  {v : ByteArray} (hv : v.size ≤ 1000000) (c : Int) (hc : c = (cntL v l : Int) + 1) (h : w'.ownsMap Try.prog 9 (plainElem Try.prog 3) b (n + 1) (D.put (.string v.data.toList) (.lit (.int .i64 c)))) : CntM w' b (n + 1) (l ++ [v]) := by
 refine ⟨_, h, fun s hs => ?_⟩
 rw [cnt_snoc]
 by_cases hsv : v = s
 ·subst hsv
  rw [atKey_put_same (k := .string v.data.toList) h1.isMap (by trivial), hc, if_pos rfl]
  rfl
 ·rw [atKey_put_other (key_ne (Ne.symm hsv)), h2 s hs, if_neg hsv]
  rfl
theorem svals_snoc (l : List OpT) (x : OpT) : svals (l ++ [x]) = if x.kind = 1 ∧ 4 ≤ x.v.size then svals l ++ [x.v] else svals l := by
 unfold svals
 rw [List.filter_append, List.map_append]
 by_cases h : x.kind = 1 ∧ 4 ≤ x.v.size
 ·rw [if_pos h]
  simp [h.1, h.2]
 ·rw [if_neg h]
  have : (decide (x.kind = 1) && decide (4 ≤ x.v.size)) = false := by
   rw [Bool.and_eq_false_iff, decide_eq_false_iff_not, decide_eq_false_iff_not]
   by_cases h1 : x.kind = 1
   ·exact .inr (fun h2 => h ⟨h1, h2⟩)
   ·exact .inl h1
  simp [this]
theorem cnt_zero (s : ByteArray) (l : List ByteArray) : cntL s l = 0 ↔ s ∉ l := by
 unfold cntL
 rw [List.countP_eq_zero]
 constructor
 ·intro h hs
  exact absurd (h s hs) (by simp)
 ·intro h x hx
  simp only [decide_eq_true_eq]
  rintro rfl
  exact h hx
theorem svals_len (l : List OpT) : (svals l).length ≤ l.length := by
 unfold svals
 rw [List.length_map]
 exact List.length_filter_le _ _
theorem uniq_len (l : List ByteArray) : (uniq l).length ≤ l.length := (uniq_sub l).length_le
theorem pred134 (T M n : Nat) (l : List ByteArray) (x : ByteArray) (hx : x.size ≤ 1000000) (W : World) (hM : CntM W M n l) (hT : W.cell? ⟨T, 0, none⟩ = some (.map (some M))) :
  Calls Try.prog 134 #[.string x, .pointer (some ⟨T, 0, none⟩)] W fun e w' => e = .returned (.bool (decide (cntL x l < 2))) ∧ w' = W := by
 obtain ⟨D, h1, h2⟩ := hM
 have h3 := h2 x hx
 have hkey : keyOf Try.prog 9 (.string x) = some (.string x.data.toList) := keyOf_string_mk Try.underlying9 (by unfold maxLen; omega)
 have hd : ∀ c : Int, D.atKey (.string x.data.toList) (.lit (.int .i64 0)) = .lit (.int .i64 c) → decide (c < 2) = decide (cntL x l < 2) := fun c hc => by
  rw [h3] at hc
  obtain ⟨_, hc⟩ := Lit.int.inj (DataW.lit.inj hc)
  rw [← hc]
  by_cases h : cntL x l < 2
  ·rw [decide_eq_true h, decide_eq_true (by omega)]
  ·rw [decide_eq_false h, decide_eq_false (by omega)]
 have HD := am hd
 obtain ⟨b, hb⟩ : ∃ b, decide (cntL x l < 2) = b := ⟨_, rfl⟩
 rw [hb] at HD ⊢
 clear h2 h3 hd hb
 go_enter Try.func134, Try.ntmps134
 go_wp2_with (first
  | (at_lookup; refine wpList_lookup_own_int _ rfl _ _ 182 rfl 9 3 .i64 lawS Try.underlying182 Try.underlying3 (zero3 _) M n _ rfl h1 _ _ rfl hkey ?_; intro c hat hwc; have hcc := HD.out c hat; clear hat hwc)
  | fail)
 go_ret
 exact ⟨rfl, rfl⟩
abbrev SmS := {s : ByteArray // s.size ≤ 1000000}
def zS : SmS := ⟨⟨#[]⟩, by decide⟩
instance : Inhabited SmS := ⟨zS⟩
def encS (x : SmS) : Value := .string x.1
theorem grown_sortW (w : World) (blk m : Nat) (dk : Array SmS) (os : Array Obj) : w.grownBy (sortWorld encS w blk 0 m dk os) (some blk) := by
 have hs : (putRow encS (Sort.ahead w m) blk 0 dk).heap.size = w.heap.size := by simp [putRow, mapBlock, Sort.ahead]
 refine ⟨rfl, rfl, rfl, ?_, fun k hk hne => ?_⟩
 ·show w.heap.size ≤ (Sort.grow (putRow encS (Sort.ahead w m) blk 0 dk) os).heap.size
  simp only [Sort.grow, Array.size_append, hs]
  omega
 ·show (Sort.grow (putRow encS (Sort.ahead w m) blk 0 dk) os).heap[k]? = _
  rw [heap_grow_old _ _ (by rw [hs]; exact hk)]
  have : blk ≠ k := fun he => hne (by rw [he])
  simp [putRow, mapBlock, Sort.ahead, Array.getElem?_modify, this]
theorem del_none (A : Option Addr) (c : Nat) (fv : Value) (W : World) : Calls Try.prog 133 #[.slice A 0 c, fv] W fun e w' => e = .returned (.slice A 0 c) ∧ w' = W := by
 have h0 := AnyE.slices_IndexFunc_empty (P := Try.prog) (ρ := renD) { layD with } A c fv W
 change Calls Try.prog 163 _ _ _ at h0
 go_enter Try.func133, Try.ntmps133
 go_wp2_with fail
 refine h0.mono ?_
 rintro e_ w1 ⟨rfl, rfl⟩
 go_wp2_with fail
 go_ret
 exact ⟨rfl, rfl⟩
set_option maxHeartbeats 1000000 in
theorem del_some (w0 W : World) (base M T n : Nat) (v : Value) (l sv : List ByteArray) (hR : Kd.R Kd.string 9 W base (fun _ => True) v l) (hp : 0 < l.length) (hl : ∀ s ∈ l, s.size ≤ 1000000) (hM : CntM W M n sv)
  (hT : W.heap[T]? = some (.cells #[.map (some M)] 182 (0, 0))) (hB : Below base w0 W) (hlen : l.length ≤ 1000000) (r : List ByteArray) (hr : l.filter (fun s => decide (2 ≤ cntL s sv)) = r) :
  Calls Try.prog 133 #[v, .func (.func 134) #[] #[.pointer (some ⟨T, 0, none⟩)]] W fun e w' => (∃ A c, e = .returned (.slice A r.length c) ∧ r.length ≤ c ∧ Kd.C Kd.string w' A r.length r) ∧ Below base w0 w' := by
 obtain ⟨g, cap, rfl, hg, hgl, cells, hcells⟩ := Kd.R_form hR hp
 obtain ⟨_, hcap, hC⟩ := Kd.R_reads' hR
 obtain ⟨l', hl'⟩ : ∃ l' : List SmS, l'.map Subtype.val = l := ⟨l.attachWith _ hl, by simp⟩
 have hll : l'.length = l.length := by rw [← hl', List.length_map]
 have hMb : ∃ es cl, W.heap[M]? = some (.map es cl) := by
  obtain ⟨D, ⟨es, cl, h1, _⟩, _⟩ := hM
  exact ⟨es, cl, h1⟩
 have hgM : some M ≠ some g := fun he => by
  injection he with he
  obtain ⟨es, cl, h1⟩ := hMb
  rw [he, hcells] at h1
  cases h1
 have hgT : some T ≠ some g := fun he => by
  injection he with he
  rw [he, hcells] at hT
  injection hT with hT
  injection hT with _ hT
  exact absurd hT (by decide)
 have eg : ∀ args w, (callFunc 134 args).run Try.prog w = .ok (.enter 134 args) w := enters_of Try.func134 (by kernel_rfl) rfl
 have hgive : ∀ (W' : World) (x : SmS), W.grownBy W' (some g) → FnGives Try.prog 134 #[.pointer (some ⟨T, 0, none⟩)] #[encS x] (.bool (decide (cntL x.1 sv < 2))) W' := fun W' x hb => by
  refine (pred134 T M n sv x.1 x.2 W' (hM.kept hb hgM) ((blk_cell (blk_grown hT hb hgT) 0).trans rfl)).mono ?_
  rintro e w' ⟨rfl, rfl⟩
  exact ⟨rfl, 0, rfl⟩
 have hcellj : ∀ j, j < l'.length → W.cell? ⟨g, 0 + j, none⟩ = some (encS l'.toArray[j]!) := fun j hj => by
  obtain ⟨ad, cs, hA, hcl, hk, hcell⟩ := Kd.C_get hC ⟨#[]⟩ (j : Int) (by omega) (by omega)
  injection hA with hA
  subst hA
  have hcs : cs = [.string (l.getD j ⟨#[]⟩)] := hk
  subst hcs
  have h2 := hcell 0 _ rfl
  have e1 : ((⟨g, 0, none⟩ : Addr).add ((j : Int).toNat * Kd.string.sz + 0)) = ⟨g, 0 + j, none⟩ := by
   rw [Int.toNat_natCast, show Kd.string.sz = 1 from rfl, Nat.mul_one, Nat.add_zero, add_at, Nat.zero_add]
  rw [e1] at h2
  rw [h2]
  unfold encS
  congr 2
  rw [← hl', List.getD_eq_getElem?_getD, List.getElem?_map, List.getElem?_eq_getElem hj, getElem!_pos _ _ (by simpa using hj)]
  rfl
 have hH : Holds encS W g 0 l'.toArray := fun j hj => ⟨hcellj j (by simpa using hj), blk_frozen hcells _⟩
 have hcon := AnyE.slices_DeleteFunc layD encS (fun _ => rfl) (fun x : SmS => decide (cntL x.1 sv < 2)) 134 #[.pointer (some ⟨T, 0, none⟩)] eg zS (fun w => by kernel_rfl) g 0 cap l'.toArray W
  (fun W' x hb => hgive W' x (grown_of_below hb _)) (fun m os dk x _ => hgive _ x (grown_sortW W g m dk os)) hH (by simp; omega) (by simp; omega)
 change Calls Try.prog 133 _ _ _ at hcon
 have hfl : (l'.filter fun x : SmS => !decide (cntL x.1 sv < 2)).map Subtype.val = r := by
  rw [← hr, ← hl', List.filter_map]
  congr 1
  apply List.filter_congr
  intro x _
  show (!decide (cntL x.1 sv < 2)) = decide (2 ≤ cntL x.1 sv)
  by_cases h : cntL x.1 sv < 2
  ·rw [decide_eq_true h, decide_eq_false (by omega)]; rfl
  ·rw [decide_eq_false h, decide_eq_true (by omega)]; rfl
 rw [show l'.toArray.toList = l' from rfl] at hcon
 obtain ⟨r', hr'⟩ : ∃ r', (l'.filter fun x : SmS => !decide (cntL x.1 sv < 2)) = r' := ⟨_, rfl⟩
 rw [hr'] at hcon hfl
 have hrl : r'.length ≤ l'.length := by rw [← hr']; exact List.length_filter_le _ _
 have hrr : r.length = r'.length := by rw [← hfl, List.length_map]
 rw [show (l'.toArray).size = l.length by simp [hll]] at hcon
 refine hcon.mono ?_
 rintro e w' ⟨rfl, q, rfl⟩
 have hBw := below_putRow (enc := encS) (q := q) (d := (r' ++ List.replicate (l.length - r'.length) zS).toArray) hB hg
 refine ⟨⟨some ⟨g, 0, none⟩, cap, by rw [hrr], by omega, ?_⟩, hBw⟩
 refine ⟨rfl, by omega, fun _ => ⟨⟨g, 0, none⟩, rfl, fun j s hj => ⟨[.string s], rfl, rfl, fun i u hu => ?_⟩⟩⟩
 have hi0 : i = 0 := by
  have := (List.getElem?_eq_some_iff.1 hu).1
  simp at this
  exact this
 subst hi0
 obtain rfl := Option.some.inj hu
 have hjr : j < r'.length := by
  have := (List.getElem?_eq_some_iff.1 hj).1
  omega
 have hc := cell?_putRow encS W g 0 l'.toArray (r' ++ List.replicate (l.length - r'.length) zS).toArray hH (by simp; omega) j (by simp; omega)
 rw [show Kd.string.sz = 1 from rfl, Nat.mul_one, Nat.add_zero, add_at]
 rw [Nat.zero_add] at hc
 refine Eq.trans hc ?_
 unfold encS
 congr 2
 rw [getElem!_pos _ _ (by simp; omega)]
 simp only [List.getElem_toArray, List.getElem_append_left hjr]
 rw [← hfl, List.getElem?_map, List.getElem?_eq_getElem hjr] at hj
 exact Option.some.inj hj
def RowS (w : World) (l : List ByteArray) (e : Ending) (w' : World) : Prop := (∃ A2 c2, e = .returned (.slice A2 l.length c2) ∧ l.length ≤ c2 ∧ Kd.C Kd.string w' A2 l.length l) ∧ Below w.heap.size w w'
structure DiSt (w W : World) (v4 vf : Value) (fl : List OpT) (l : List OpT) : Prop where
 bel : Below w.heap.size w W
 map : ∃ n, n ≤ l.length ∧ CntM W (w.heap.size + 1) n (svals l)
 cell : W.heap[w.heap.size + 1 + 1]? = some (.cells #[.map (some (w.heap.size + 1))] 182 (0, 0))
 row : Kd.R Kd.string 9 W w.heap.size (fun _ => True) v4 (uniq (svals l))
 flat : Kd.R opN 98 W w.heap.size (fun _ => True) vf fl
theorem CntM.blk {W : World} {b n : Nat} {l : List ByteArray} (h : CntM W b n l) : ∃ es cl, W.heap[b]? = some (.map es cl) := by
 obtain ⟨D, ⟨es, cl, h1, _⟩, _⟩ := h
 exact ⟨es, cl, h1⟩
theorem R_map {α : Type} {d : Kd α} {e base M : Nat} {W W1 : World} {v : Value} {xs : List α} (h : d.R e W base (fun _ => True) v xs) (hM : ∃ es cl, W.heap[M]? = some (.map es cl)) (hg : W.grownBy W1 (some M)) : d.R e W1 base (fun _ => True) v xs :=
 Kd.R_mono (Kd.R_grown (Kd.R_bound h) hg (fun k hk he => by
  injection he with he
  subst he
  obtain ⟨_, _, _, q, _, cells, hc⟩ := hk
  obtain ⟨es, cl, hm⟩ := hM
  rw [hm] at hc
  cases hc)) (fun _ _ => trivial)
theorem own_not_map {α : Type} {d : Kd α} {e base M : Nat} {W : World} {v : Value} {xs : List α} (h : d.R e W base (fun _ => True) v xs) (hM : ∃ es cl, W.heap[M]? = some (.map es cl)) : some M ≠ v.ownBlock := fun he => by
 obtain ⟨cells, hc⟩ := Kd.R_typed h M he.symm
 obtain ⟨es, cl, hm⟩ := hM
 rw [hm] at hc
 cases hc
theorem DiSt.below {w W W1 : World} {v4 vf : Value} {fl l : List OpT} (h : DiSt w W v4 vf fl l) (hb : Below W.heap.size W W1) : DiSt w W1 v4 vf fl l := by
 obtain ⟨n, hn, hm⟩ := h.map
 exact ⟨below_step h.bel hb, ⟨n, hn, hm.kept (grown_of_below hb none) (by simp)⟩, blk_below h.cell hb, Kd.R_below h.row hb, Kd.R_below h.flat hb⟩
theorem DiSt.skip {w W : World} {v4 vf : Value} {fl l : List OpT} {x : OpT} (h : DiSt w W v4 vf fl l) (hx : ¬ (x.kind = 1 ∧ 4 ≤ x.v.size)) : DiSt w W v4 vf fl (l ++ [x]) := by
 obtain ⟨n, hn, hm⟩ := h.map
 have e := svals_snoc l x
 rw [if_neg hx] at e
 exact ⟨h.bel, ⟨n, by rw [List.length_append]; omega, by rw [e]; exact hm⟩, h.cell, by rw [e]; exact h.row, h.flat⟩
structure DjSt (w W : World) (v4 vf : Value) (fl : List OpT) (l : List OpT) (x : OpT) : Prop where
 bel : Below w.heap.size w W
 map : ∃ n, n ≤ (l ++ [x]).length ∧ CntM W (w.heap.size + 1) n (svals (l ++ [x]))
 cell : W.heap[w.heap.size + 1 + 1]? = some (.cells #[.map (some (w.heap.size + 1))] 182 (0, 0))
 row : Kd.R Kd.string 9 W w.heap.size (fun _ => True) v4 (uniq (svals l))
 flat : Kd.R opN 98 W w.heap.size (fun _ => True) vf fl
theorem DiSt.put {w W W1 : World} {v4 vf : Value} {fl l : List OpT} {x : OpT} (h : DiSt w W v4 vf fl l) (hx : x.kind = 1 ∧ 4 ≤ x.v.size) (hv : x.v.size ≤ 1000000) {n : Nat} (hn : n ≤ l.length) {D : DataW Unit} (h1 : W.ownsMap Try.prog 9 (plainElem Try.prog 3) (w.heap.size + 1) n D)
  (h2 : ∀ s : ByteArray, s.size ≤ 1000000 → D.atKey (.string s.data.toList) (.lit (.int .i64 0)) = .lit (.int .i64 (cntL s (svals l) : Int))) (c : Int) (hc : c = (cntL x.v (svals l) : Int) + 1)
  (hm : W1.ownsMap Try.prog 9 (plainElem Try.prog 3) (w.heap.size + 1) (n + 1) (D.put (.string x.v.data.toList) (.lit (.int .i64 c)))) (hg : W.grownBy W1 (some (w.heap.size + 1))) : DjSt w W1 v4 vf fl l x := by
 have e := svals_snoc l x
 rw [if_pos hx] at e
 have hM : ∃ es cl, W.heap[w.heap.size + 1]? = some (.map es cl) := CntM.blk ⟨D, h1, h2⟩
 exact ⟨below_grown h.bel hg h.bel.size (fun k hk => by injection hk with hk; omega), ⟨n + 1, by rw [List.length_append]; simp only [List.length_cons, List.length_nil]; omega, by rw [e]; exact CntM.put h1 h2 hv c hc hm⟩, blk_grown h.cell hg (fun he => by injection he with he; omega), R_map h.row hM hg, R_map h.flat hM hg⟩
theorem DjSt.old {w W : World} {v4 vf : Value} {fl l : List OpT} {x : OpT} (h : DjSt w W v4 vf fl l x) (hx : x.kind = 1 ∧ 4 ≤ x.v.size) (hi : cntL x.v (svals l) ≠ 0) : DiSt w W v4 vf fl (l ++ [x]) := by
 have e := svals_snoc l x
 rw [if_pos hx] at e
 refine ⟨h.bel, h.map, h.cell, ?_, h.flat⟩
 rw [e, uniq_snoc, if_pos]
 ·exact h.row
 ·rw [hasL_iff, uniq_mem]
  exact Classical.byContradiction fun hn => hi ((cnt_zero _ _).2 hn)
theorem DjSt.new {w W W1 : World} {v4 v5 vf : Value} {fl l : List OpT} {x : OpT} (h : DjSt w W v4 vf fl l x) (hx : x.kind = 1 ∧ 4 ≤ x.v.size) (hi : cntL x.v (svals l) = 0) (hr : Kd.R Kd.string 9 W1 w.heap.size (fun _ => True) v5 (uniq (svals l) ++ [x.v])) (hb : Below w.heap.size w W1) (hg : W.grownBy W1 v4.ownBlock) : DiSt w W1 v5 vf fl (l ++ [x]) := by
 have e := svals_snoc l x
 rw [if_pos hx] at e
 obtain ⟨n, hn, hm⟩ := h.map
 refine ⟨hb, ⟨n, hn, hm.kept hg (own_not_map h.row hm.blk)⟩, blk_grown h.cell hg (Kd.R_ne h.row h.cell (by decide)), ?_, ?_⟩
 ·rw [e, uniq_snoc, if_neg]
  ·exact hr
  ·rw [hasL_iff, uniq_mem]
   exact (cnt_zero _ _).1 hi
 ·exact Kd.R_over' h.flat (Kd.R_typed h.row) (fun q hq => by
   rcases List.mem_cons.1 hq with rfl | hq
   ·decide
   ·cases hq) hg
theorem C_take {α : Type} {d : Kd α} {w : World} {A : Option Addr} {n : Nat} {l : List α} (h : Kd.C d w A n l) (m : Nat) (hm : m ≤ n) : Kd.C d w A m (l.take m) := by
 obtain ⟨h1, h2, h3⟩ := h
 refine ⟨by rw [List.length_take]; omega, by omega, fun hp => ?_⟩
 obtain ⟨ad, hA, hc⟩ := h3 (by omega)
 refine ⟨ad, hA, fun j p hj => ?_⟩
 refine hc j p ?_
 rw [List.getElem?_take] at hj
 split at hj
 ·exact hj
 ·cases hj
theorem zeroS3 : (Try.prog.info? 9).map (fun i => (i.zero, i.size, i.bytes)) = some (some (.string ⟨#[]⟩), 1, 16) := by kernel_rfl
set_option maxHeartbeats 4000000 in
theorem dict_call (p : PlanT) (A : Option Addr) (c : Nat) (w : World) (hb : p.base.length = 32) (hc : p.b.length ≤ c) (hC : Kd.C batK w A p.b.length p.b) (hn : p.b.length ≤ 1000) (hf : p.b.flatten.length ≤ 100000) (hv : ∀ b ∈ p.b, ∀ x ∈ b, x.v.size ≤ 1000000) :
  Calls Try.prog 74 #[.agg (planC p A c).toArray] w (RowS w (dictP p)) := by
 have HC := am hC
 have HN := am hn
 have HF := am hf
 have HV : Aside0 (∀ x ∈ p.b.flatten, x.v.size ≤ 1000000) := ⟨fun x hx => by
  obtain ⟨b, hb, hxb⟩ := List.mem_flatten.1 hx
  exact hv b hb x hxb⟩
 have k32 := planC_32 (m := p) hb A c
 obtain ⟨ms, hms⟩ : ∃ ms, (planC p A c).toArray = ms := ⟨_, rfl⟩
 rw [hms] at k32 ⊢
 have HK := am k32
 have f32 : (((w.alloc (.cells ms 81)).alloc (.map #[] 0)).alloc (.cells #[.map (some (w.heap.size + 1))] 182)).cell? ⟨w.heap.size, 32, none⟩ = some (.slice A p.b.length c) := (blk_cell (blk_alloc (blk_alloc (blk_new w (.cells ms 81)) _) _) 32).trans k32
 have hmm := @run_makeMap Try.prog
 clear hb hc hC hf hv hms k32
 go_enter Try.func74, Try.ntmps74
 go_wp2_with fail
 refine (cato_call A c p.b _ (Kd.C_below HC.out (below_alloc (below_alloc (below_alloc (Below.refl _ _) _) _) _)) (by have := HF.out; omega) (by have := HN.out; omega)).mono ?_
 rintro e_ w1 ⟨vf, rfl, hR1, hb1⟩
 obtain ⟨fl, hfl⟩ : ∃ fl, p.b.flatten = fl := ⟨_, rfl⟩
 have HDP : Aside0 (dictP p = dictL fl) := ⟨by unfold dictP; rw [hfl]⟩
 rw [hfl] at hR1 HF HV
 obtain ⟨A1, c1, rfl⟩ := Kd.R_slice hR1
 have HST : Aside0 (DiSt w w1 (.slice none 0 0) (.slice A1 fl.length c1) fl []) := ⟨by
  have hm := CntM.made (w.alloc (.cells ms 81))
  rw [alloc_size] at hm
  have hm2 := (hm.kept (World.grownBy_alloc _ (.cells #[.map (some (w.heap.size + 1))] 182) none) (by simp)).kept (grown_of_below hb1 none) (by simp)
  have hn2 := blk_new ((w.alloc (.cells ms 81)).alloc (.map #[] 0)) (.cells #[.map (some (w.heap.size + 1))] 182)
  rw [alloc_size, alloc_size] at hn2
  exact ⟨below_step (below_alloc (below_alloc (below_alloc (Below.refl _ _) _) _) _) hb1, ⟨0, Nat.le_refl _, hm2⟩, blk_below hn2 hb1, Kd.R_nil _ _ _ _ _, Kd.R_lower hR1 (by rw [alloc_size, alloc_size, alloc_size]; omega)⟩⟩
 clear hfl hR1 hb1 f32
 go_wp2_with fail
 go_loopg [4, 13] fl.length (fun kq v4 v13 W => ∃ i : Nat, v13 = .int .i64 i ∧ Aside0 (kq + i = fl.length) ∧ Aside0 (DiSt w W v4 (.slice A1 fl.length c1) fl (fl.take i)))
 case atStart => exact ⟨0, rfl, ⟨rfl⟩, HST⟩
 case round =>
  clear HST
  obtain ⟨i, rfl, HKQ, HST⟩ := hrel
  obtain ⟨wo, rfl⟩ : ∃ wo : World, wo = wr := ⟨_, rfl⟩
  by_cases hi : i < fl.length
  ·obtain ⟨x, hx⟩ : ∃ x, fl.getD i zOp = x := ⟨_, rfl⟩
   have hxe : fl[i] = x := by rw [← hx, List.getD_eq_getElem?_getD, List.getElem?_eq_getElem hi]; rfl
   have HTK : Aside0 (fl.take (i + 1) = fl.take i ++ [x]) := ⟨by rw [List.take_succ_eq_append_getElem hi, hxe]⟩
   have HXV : Aside0 (x.v.size ≤ 1000000) := ⟨HV.out x (by rw [← hxe]; exact List.getElem_mem hi)⟩
   have hfC := (Kd.R_reads' HST.out.flat).2.2
   obtain ⟨ad, B, cx, hA, hlx, hat⟩ := opn_at hfC hi x hx
   subst hA
   have HI0 := am (opInfo hlx B cx)
   have hcz : (opC x B cx).toArray.size = 71 := by rw [List.size_toArray, opC_len hlx]
   have HO1 := am (opC_one x B cx)
   obtain ⟨k0, _, _, _, k20, _, _⟩ := opC_at hlx B cx
   obtain ⟨cs, hcs⟩ : ∃ cs, (opC x B cx).toArray = cs := ⟨_, rfl⟩
   rw [hcs] at hat HI0 hcz HO1 k0 k20
   have HAT := am hat
   have hsn := store_new wo Try.zeroCells98 cs 98 (by rw [hcz]; kernel_rfl) HO1.out
   have HS1 := am (HST.out.below (below_alloc (Below.refl wo.heap.size wo) (.cells cs 98)))
   have HB1 := am (blk_new wo (.cells cs 98))
   have f0 := (blk_cell HB1.out 0).trans k0
   have f20 := (blk_cell HB1.out 20).trans k20
   have fT := (blk_cell HS1.out.cell 0).trans rfl
   have K20 := am k20
   obtain ⟨e1, e2⟩ := ltY hi
   have e3 : (0 ≤ (i : Int)) = True := by simp
   have hi4 : i < 1000000 := by have := HF.out; omega
   have e4 := wr1 (i := i) (by omega)
   have HI := am hi
   clear hi hx hxe hfC hlx hat hcs k0 k20 hi4
   by_cases hk : x.kind = 1
   ·have c1 : (x.kind != 1) = false := by simpa using hk
    have c1_ : (x.kind == 1) = true := by simpa using hk
    by_cases h4 : 4 ≤ x.v.size
    ·have d1 : decide ((x.v.size : Int) < 4) = false := decide_eq_false (by omega)
     have d2 : decide (x.v.size < 4) = false := decide_eq_false (by omega)
     have HX4 := am (And.intro hk h4)
     obtain ⟨n, hn, D, h1, h2⟩ := HS1.out.map
     have hkey : keyOf Try.prog 9 (.string x.v) = some (.string x.v.data.toList) := keyOf_string_mk Try.underlying9 (by have := HXV.out; unfold maxLen; omega)
     have HKEY := am hkey
     have HOWN := am h1
     have H2 := am h2
     have HNN := am hn
     obtain ⟨cn, hcn⟩ : ∃ cn, cntL x.v (svals (fl.take i)) = cn := ⟨_, rfl⟩
     have HCN := am hcn
     have HCL : Aside0 (cn ≤ 1000000) := ⟨by
      have a := cnt_le x.v (svals (fl.take i))
      have b := svals_len (fl.take i)
      have c : (fl.take i).length ≤ fl.length := by rw [List.length_take]; omega
      have d := HF.out
      omega⟩
     have hat1 : ∀ cv : Int, D.atKey (.string x.v.data.toList) (.lit (.int .i64 0)) = .lit (.int .i64 cv) → cv = (cn : Int) := fun cv hcv => by
      rw [h2 x.v HXV.out, hcn] at hcv
      exact (Lit.int.inj (DataW.lit.inj hcv)).2.symm
     have HAT1 := am hat1
     have hw1 := wr1 (i := cn) (by have := HCL.out; omega)
     have HWF : Aside0 ((Lit.int .i64 ((cn + 1 : Nat) : Int)).wf = true) := ⟨WalkArith.wf_i64 (by have := HCL.out; omega)⟩
     clear hk h4 h1 h2 hn hkey hcn hat1
     go_wp2_with (first
      | ((with_reducible refine gate_dst (N := 16) rfl ?_); refine wpList_load_cells rfl 98 (.tmp 15) rfl (ad.add (i * 71)) rfl cs _ HAT.out Try.underlying98 rfl HI0.out ?_)
      | ((with_reducible refine gate_dst (N := 29) rfl ?_); at_lookup; refine wpList_lookup_own_int _ rfl _ _ 182 rfl 9 3 .i64 lawS Try.underlying182 Try.underlying3 (zero3 _) (w.heap.size + 1) n _ rfl HOWN.out _ _ rfl HKEY.out ?_; intro cv hat hwc; obtain rfl : cv = (cn : Int) := HAT1.out cv hat; clear hat hwc)
      | (at_mapUpdate; refine wpList_mapUpdate_own _ rfl _ _ _ 182 rfl 9 3 lawS Try.underlying182 _ (w.heap.size + 1) n _ rfl HOWN.out (by have := HNN.out; have := HF.out; have : (fl.take i).length ≤ fl.length := (by rw [List.length_take]; omega); unfold maxLen; omega) _ _ _ rfl rfl HKEY.out _ [] (plainElem_int Try.underlying3 HWF.out) ?_)
      | fail)
     intro w5 hown5 hg5
     have HJ := am (HS1.out.put HX4.out HXV.out HNN.out HOWN.out H2.out ((cn + 1 : Nat) : Int) (by rw [HCN.out]; rfl) hown5 hg5)
     have HB5 := am (blk_grown HB1.out hg5 (fun he => by injection he with he; have := HS1.out.bel.size; have := HST.out.bel.size; have h3 := blk_lt HST.out.cell; omega))
     obtain ⟨n2, hn2, D2, h12, h22⟩ := HJ.out.map
     have HOWN2 := am h12
     have hat2 : ∀ cv : Int, D2.atKey (.string x.v.data.toList) (.lit (.int .i64 0)) = .lit (.int .i64 cv) → cv = ((cn + 1 : Nat) : Int) := fun cv hcv => by
      have e := svals_snoc (fl.take i) x
      rw [if_pos HX4.out] at e
      rw [h22 x.v HXV.out, e, cnt_snoc, if_pos rfl, HCN.out] at hcv
      exact (Lit.int.inj (DataW.lit.inj hcv)).2.symm
     have HAT2 := am hat2
     have gT := (blk_cell HJ.out.cell 0).trans rfl
     have g20 := (blk_cell HB5.out 20).trans K20.out
     clear hown5 hg5 h12 h22 hat2 hn2 f0 f20 fT hsn
     by_cases h0 : cn = 0
     ·have c5 : ((((cn + 1 : Nat) : Int)) == 1) = true := by rw [h0]; rfl
      have c6 : ((((cn + 1 : Nat) : Int)) = 1) = True := eq_true (by omega)
      have HZ : Aside0 (cntL x.v (svals (fl.take i)) = 0) := ⟨by rw [HCN.out, h0]⟩
      have HLN : Aside0 (((uniq (svals (fl.take i))).length + 1) * 16 ≤ 140737488355328) := ⟨by
       have a := uniq_len (svals (fl.take i))
       have b := svals_len (fl.take i)
       have c : (fl.take i).length ≤ fl.length := by rw [List.length_take]; omega
       have d := HF.out
       omega⟩
      clear h0
      go_wp2_with (first
       | ((with_reducible refine gate_dst (N := 34) rfl ?_); at_lookup; refine wpList_lookup_own_int _ rfl _ _ 182 rfl 9 3 .i64 lawS Try.underlying182 Try.underlying3 (zero3 _) (w.heap.size + 1) n2 _ rfl HOWN2.out _ _ rfl HKEY.out ?_; intro cv hat hwc; obtain rfl : cv = ((cn + 1 : Nat) : Int) := HAT2.out cv hat; clear hat hwc)
       | ((with_reducible refine gate_builtin (b := .append) (xs := #[.tmp 36, .tmp 39]) rfl ?_); at_builtin; refine Kd.R_append Kd.string (w0 := w) w.heap.size rfl (.tmp 36) (.tmp 39) 90 9 (.string ⟨#[]⟩) 16 rfl Try.underlying90 zeroS3 rfl (by decide) (by decide) u4 (uniq (svals (fl.take i))) x.v [.string x.v] (fun _ => True) (fun _ => False) rfl rfl rfl (fun _ h => h.elim) (fun _ _ => trivial) HJ.out.row HJ.out.bel HJ.out.bel.size HLN.out ?_; intro v7 w7 hR7 hB7 hg7 hat7; have HD7 := am (HJ.out.new HX4.out HZ.out hR7 hB7 hg7); clear hR7 hB7 hg7 hat7)
       | fail)
      go_roundg (fl.length - (i + 1))
      case measure => have := HKQ.out; have := HI.out; omega
      case rel => exact ⟨i + 1, by first | rfl | (simp [e4]; done), ⟨by have := HI.out; omega⟩, ⟨by rw [HTK.out]; exact HD7.out⟩⟩
     ·have c5 : ((((cn + 1 : Nat) : Int)) == 1) = false := by simp; omega
      have c6 : ((((cn + 1 : Nat) : Int)) = 1) = False := eq_false (by omega)
      have HD7 := am (HJ.out.old HX4.out (by rw [HCN.out]; exact h0))
      clear h0
      go_wp2_with (first
       | ((with_reducible refine gate_dst (N := 34) rfl ?_); at_lookup; refine wpList_lookup_own_int _ rfl _ _ 182 rfl 9 3 .i64 lawS Try.underlying182 Try.underlying3 (zero3 _) (w.heap.size + 1) n2 _ rfl HOWN2.out _ _ rfl HKEY.out ?_; intro cv hat hwc; obtain rfl : cv = ((cn + 1 : Nat) : Int) := HAT2.out cv hat; clear hat hwc)
       | fail)
      go_roundg (fl.length - (i + 1))
      case measure => have := HKQ.out; have := HI.out; omega
      case rel => exact ⟨i + 1, by first | rfl | (simp [e4]; done), ⟨by have := HI.out; omega⟩, ⟨by rw [HTK.out]; exact HD7.out⟩⟩
    ·have d1 : decide ((x.v.size : Int) < 4) = true := decide_eq_true (by omega)
     have d2 : decide (x.v.size < 4) = true := decide_eq_true (by omega)
     have HD7 := am (HS1.out.skip (x := x) (fun h => h4 h.2))
     clear hk h4 fT
     go_wp2_with (first
      | ((with_reducible refine gate_dst (N := 16) rfl ?_); refine wpList_load_cells rfl 98 (.tmp 15) rfl (ad.add (i * 71)) rfl cs _ HAT.out Try.underlying98 rfl HI0.out ?_)
      | fail)
     go_roundg (fl.length - (i + 1))
     case measure => have := HKQ.out; have := HI.out; omega
     case rel => exact ⟨i + 1, by first | rfl | (simp [e4]; done), ⟨by have := HI.out; omega⟩, ⟨by rw [HTK.out]; exact HD7.out⟩⟩
   ·have c1 : (x.kind != 1) = true := by simpa using hk
    have c1_ : (x.kind == 1) = false := by simpa using hk
    have HD7 := am (HS1.out.skip (x := x) (fun h => hk h.1))
    clear hk fT f20
    go_wp2_with (first
     | ((with_reducible refine gate_dst (N := 16) rfl ?_); refine wpList_load_cells rfl 98 (.tmp 15) rfl (ad.add (i * 71)) rfl cs _ HAT.out Try.underlying98 rfl HI0.out ?_)
     | fail)
    go_roundg (fl.length - (i + 1))
    case measure => have := HKQ.out; have := HI.out; omega
    case rel => exact ⟨i + 1, by first | rfl | (simp [e4]; done), ⟨by have := HI.out; omega⟩, ⟨by rw [HTK.out]; exact HD7.out⟩⟩
  ·obtain ⟨e1, e2⟩ := ltN hi
   have hil : i = fl.length := by have := HKQ.out; omega
   have hst := HST.out
   rw [hil, List.take_length] at hst
   obtain ⟨n, hn, hm⟩ := hst.map
   have hmf : ∀ (fn : Fn) (first cap : Array Value) (w : World), (Instr.makeFunc fn first cap).run Try.prog w = .ok (.func fn first cap) w := fun _ _ _ _ => rfl
   have hsm : ∀ s ∈ uniq (svals fl), s.size ≤ 1000000 := fun s hs => by
    obtain ⟨x, hx, _, _, rfl⟩ := svals_mem ((uniq_mem _ _).1 hs)
    exact HV.out x hx
   have hul : (uniq (svals fl)).length ≤ 100000 := by
    have a := uniq_len (svals fl)
    have b := svals_len fl
    have d := HF.out
    omega
   obtain ⟨r, hr⟩ : ∃ r, (uniq (svals fl)).filter (fun s => decide (2 ≤ cntL s (svals fl))) = r := ⟨_, rfl⟩
   have HRT : Aside0 (dictL fl = r.take 16) := ⟨by unfold dictL; rw [hr]⟩
   have hdel : Calls Try.prog 133 #[u4, .func (.func 134) #[] #[.pointer (some ⟨w.heap.size + 1 + 1, 0, none⟩)]] wo fun e w' => (∃ A c, e = .returned (.slice A r.length c) ∧ r.length ≤ c ∧ Kd.C Kd.string w' A r.length r) ∧ Below w.heap.size w w' := by
    by_cases h0 : 0 < (uniq (svals fl)).length
    ·exact del_some w wo w.heap.size _ _ n u4 _ _ hst.row h0 hsm hm hst.cell hst.bel (by omega) r hr
    ·have hz : uniq (svals fl) = [] := List.length_eq_zero_iff.1 (by omega)
     have hrz : r = [] := by rw [← hr, hz]; rfl
     have hrow := hst.row
     rw [hz] at hrow
     obtain ⟨A9, c9, hv9, hc9, hC9⟩ := Kd.R_reads hrow
     rw [hv9, hrz]
     refine (del_none A9 c9 _ wo).mono ?_
     rintro e w' ⟨rfl, rfl⟩
     exact ⟨⟨A9, c9, rfl, hc9, hC9⟩, hst.bel⟩
   have HDEL := am hdel
   have hrl : r.length ≤ 100000 := by rw [← hr]; exact Nat.le_trans (List.length_filter_le _ _) hul
   have HRL := am hrl
   clear hi hil hst hn hm hsm hul hr hdel hrl
   go_wp2_with fail
   refine HDEL.out.mono ?_
   rintro e_ w9 ⟨⟨A9, c9, rfl, hc9, hC9⟩, hb9⟩
   have HQ := am (And.intro hc9 (And.intro hC9 hb9))
   clear hc9 hC9 hb9
   by_cases h16 : r.length ≤ 16
   ·have m1 : ((16 : Int) < (r.length : Int)) = False := eq_false (by omega)
    have m4 : ((r.length : Int) ≤ (c9 : Int)) = True := eq_true (by have := HQ.out.1; omega)
    have m5 : (r.length ≤ c9) = True := eq_true HQ.out.1
    have m6 : (0 ≤ (r.length : Int)) = True := by simp
    have HDE : Aside0 (dictP p = r) := ⟨by rw [HDP.out, HRT.out, List.take_of_length_le h16]⟩
    clear h16
    go_wp2_with fail
    go_ret
    rw [HDE.out]
    exact ⟨⟨A9, c9, rfl, HQ.out.1, HQ.out.2.1⟩, HQ.out.2.2⟩
   ·have m1 : ((16 : Int) < (r.length : Int)) = True := eq_true (by omega)
    have m4 : ((16 : Int) ≤ (c9 : Int)) = True := eq_true (by have := HQ.out.1; omega)
    have m5 : (16 ≤ c9) = True := eq_true (by have := HQ.out.1; omega)
    have HDE : Aside0 (dictP p = r.take 16) := ⟨by rw [HDP.out, HRT.out]⟩
    have HDL : Aside0 ((r.take 16).length = 16) := ⟨by rw [List.length_take]; omega⟩
    have HCT := am (C_take HQ.out.2.1 16 (by omega))
    have H16 : Aside0 (16 ≤ c9) := ⟨by have := HQ.out.1; omega⟩
    clear h16
    go_wp2_with fail
    go_ret
    rw [HDE.out]
    refine ⟨⟨A9, c9, ?_, by rw [HDL.out]; exact H16.out, ?_⟩, HQ.out.2.2⟩
    ·rw [HDL.out]; rfl
    ·rw [HDL.out]; exact HCT.out
end
section
open Go.RowKit Go.Proofs.YtchaegfdcdlfaaaW.PrintWords Go.Proofs.YtchaegfdcdlfaaaW.PrintLast Go.Proofs.YtchaegfdcdlfaaaW.PrintMore
open Go.Proofs.Ytchaegfdcdlfaaa.Y (Bytes RdB put put_range put_length put_length_pos Put_eq word word_length word_bytes rdb_below rdb_drewN put_call text_call row_slice)
attribute [local go_sem] max2_int min2_int max_two min_two max_three min_three max_four min_four
abbrev OwB (W : World) (base : Nat) (v : Value) (l : List Int) : Prop := Kd.R (Kd.int .u8) 5 W base (fun _ => True) v l
theorem put_own (n : Nat) (hn : n < 18446744073709551616) (w : World) : Calls Try.prog 84 #[.int .u64 n] w fun e w' => (∃ A c, e = .returned (.slice A (put n).length c) ∧ OwB w' w.heap.size (.slice A (put n).length c) (put n)) ∧ Below w.heap.size w w' := by
 refine (wire_Put.calls 20 n _ w (Put_eq n hn 20 (by omega))).mono ?_
 rintro e w' ⟨v, rfl, ho, hb⟩
 obtain ⟨A, c, rfl⟩ := Kd.R_slice ho
 exact ⟨⟨A, c, rfl, Kd.R_mono ho (fun _ _ => trivial)⟩, hb⟩
theorem pack_own (kind : Int) (A : Option Addr) (c : Nat) (l : List Int) (w : World) (hr : RdB w A l.length l) (hc : l.length ≤ c) (h0 : 0 ≤ kind) (h9 : kind ≤ 9) (hb : Bytes l) (hl : l.length ≤ 100000) (p : List Int) (hp : packL kind l = p) :
  Calls Try.prog 42 #[.int .i64 kind, .slice A l.length c] w fun e w' => (∃ A' c', e = .returned (.tuple #[.slice A' p.length c', .bool true]) ∧ OwB w' w.heap.size (.slice A' p.length c') p) ∧ Below w.heap.size w w' := by
 subst hp
 refine (section_Pack.calls 40 kind (fun _ => True) A c l _ _ w (V_of_C hr hc) (Pack_eq h0 h9 hb hl 40 (by omega))).mono ?_
 rintro e w' ⟨v, rfl, ho, hb2⟩
 obtain ⟨A', c', rfl⟩ := Kd.R_slice ho
 exact ⟨⟨A', c', rfl, Kd.R_mono ho (fun _ _ => trivial)⟩, hb2⟩
theorem str_at {W : World} {A : Option Addr} {n : Nat} {l : List ByteArray} (h : Kd.C Kd.string W A n l) {i : Nat} (hi : i < n) (s : ByteArray) (hs : l.getD i ⟨#[]⟩ = s) : ∃ ad, A = some ad ∧ W.cell? (ad.add i) = some (.string s) := by
 obtain ⟨ad, cs, hA, hcl, hk, hcell⟩ := Kd.C_get h ⟨#[]⟩ (i : Int) (by omega) (by omega)
 rw [Int.toNat_natCast, hs] at hk
 rw [Int.toNat_natCast] at hcell
 have hcs : cs = [.string s] := hk
 subst hcs
 have := hcell 0 _ rfl
 rw [show Kd.string.sz = 1 from rfl, Nat.mul_one, Nat.add_zero] at this
 exact ⟨ad, hA, this⟩
theorem planInfo {p : PlanT} (h : p.base.length = 32) (A : Option Addr) (c : Nat) : (Try.prog.info? 81).map (·.size) = some (planC p A c).toArray.size := by
 rw [List.size_toArray, show (planC p A c).length = 33 by simp [planC, nums, h]]
 exact infoPlan
theorem planp_base {W : World} {g : Nat} {p : PlanT} {A : Option Addr} {c : Nat} (h : W.heap[g]? = some (.cells (planC p A c).toArray 81 (0, 0))) : At W ⟨g, 0, none⟩ (cells8 p.base) := At.head (m := nums .u8 p.base) (r := [.slice A p.b.length c]) (At.blk h)
def CpQ (w : World) (r : List Int × Int) (e : Ending) (w' : World) : Prop := (∃ A c, e = .returned (.tuple #[.slice A r.1.length c, .int .i64 r.2]) ∧ r.1.length ≤ c ∧ RdB w' A r.1.length r.1) ∧ Below w.heap.size w w'
set_option maxHeartbeats 4000000 in
theorem putp_no (p : PlanT) (A : Option Addr) (c : Nat) (w : World) (hb : p.base.length = 32) (hc : p.b.length ≤ c) (hC : Kd.C batK w A p.b.length p.b) (hf : ∀ b ∈ p.b, ∀ x ∈ b, FitO x) (h : mayPl p = false) :
  Calls Try.prog 70 #[.agg (planC p A c).toArray] w (CpQ w ([], 1)) := by
 have hcall : Calls Try.prog 71 #[.agg (planC p A c).toArray] (w.alloc (.cells (planC p A c).toArray 81)) fun e w' => e = .returned (.bool false) ∧ Below (w.alloc (.cells (planC p A c).toArray 81)).heap.size (w.alloc (.cells (planC p A c).toArray 81)) w' := by
  have := mayp_call p A c (w.alloc (.cells (planC p A c).toArray 81)) hb hc (Kd.C_alloc hC _) hf
  rw [h] at this
  exact this
 have HCALL := am hcall
 have HINFO := am (planInfo hb A c)
 obtain ⟨ms, hms⟩ : ∃ ms, (planC p A c).toArray = ms := ⟨_, rfl⟩
 rw [hms] at HCALL HINFO ⊢
 have HBK := am (blk_new w (.cells ms 81))
 clear hb hc hC h hcall hms hf
 go_enter Try.func70, Try.ntmps70
 go_wp2_with (first
  | ((with_reducible refine gate_dst (N := 17) rfl ?_); refine wpList_load_row rfl 81 (.tmp 1) rfl w.heap.size rfl 81 ms (0, 0) _ HBK.out Try.underlying81 rfl HINFO.out ?_)
  | fail)
 refine HCALL.out.mono ?_
 rintro e_ w1 ⟨rfl, hb1⟩
 have HB := am (below_step (below_alloc (Below.refl w.heap.size w) _) hb1)
 clear hb1
 go_wp2_with fail
 go_ret2
 exact ⟨⟨none, 0, rfl, Nat.le_refl _, ⟨rfl, by show (0 : Nat) ≤ 9223372036854775807; decide, fun h => absurd h (by show ¬ (0 < 0); decide)⟩⟩, HB.out⟩
set_option maxHeartbeats 16000000 in
theorem putp_yes (p : PlanT) (A : Option Addr) (c : Nat) (w : World) (hb : PlByt p) (hc : p.b.length ≤ c) (hC : Kd.C batK w A p.b.length p.b) (h : mayPl p = true) :
  Calls Try.prog 70 #[.agg (planC p A c).toArray] w (CpQ w (plB p, 0)) := by
 have hf := mayPl_facts h
 have HF := am hf
 have hok := mayPl_ok h hb
 have HOK := am hok
 have hfit : ∀ b ∈ p.b, ∀ x ∈ b, FitO x := fun b hbm x hx => by
  have := ((mayL_iff _).1 (mayO_facts (hok b hbm x hx).1).2.2.2.2.2.2.2.2.2).2.1
  show x.p.length ≤ 9223372036854775807
  omega
 have hfl : p.b.flatten.length ≤ 320 := by
  have : ∀ l : List (List OpT), (∀ b ∈ l, b.length ≤ 20) → l.flatten.length ≤ 20 * l.length := by
   intro l
   induction l with
   | nil => intro _; exact Nat.le_refl _
   | cons b l ih =>
    intro hl
    have h1 := hl b (by simp)
    have h2 := ih (fun x hx => hl x (by simp [hx]))
    rw [List.flatten_cons, List.length_append, List.length_cons]
    omega
  have h2 := this p.b (fun b hbm => (hf.2 b hbm).2.1)
  omega
 have hvs : ∀ b ∈ p.b, ∀ x ∈ b, x.v.size ≤ 1000000 := fun b hbm x hx => by
  have := (mayO_facts (hok b hbm x hx).1).2.2.2.2.2.2.2.2.1
  omega
 have hcall := mayp_call p A c (w.alloc (.cells (planC p A c).toArray 81)) hb.base.1 hc (Kd.C_alloc hC _) hfit
 rw [h] at hcall
 have HCALL := am hcall
 have hdict := fun (W : World) (hbw : Below w.heap.size w W) => dict_call p A c W hb.base.1 hc (Kd.C_below hC hbw) (by omega) (by omega) hvs
 have hd16 : (dictP p).length ≤ 16 := dictL_len p.b.flatten
 have hds := dictP_small h
 have hHL := hdB_len hb.base.1 hf.1 hd16 hds
 have hHB := hdB_byt hb (dictP p)
 have hPL := plB_len h hb
 have hBB : ∀ b ∈ p.b, Bytes (bodyB (dictP p) b) ∧ (bodyB (dictP p) b).length ≤ 32010 := fun b hbm => ⟨bodyB_byt (hok b hbm), bodyB_len hd16 (hf.2 b hbm).2.1 (hok b hbm)⟩
 have hSL : ∀ b ∈ p.b, (secB (dictP p) b).length ≤ 32025 := fun b hbm => secB_len hd16 (hf.2 b hbm).2.1 (hok b hbm)
 obtain ⟨rs, hrs⟩ : ∃ rs, plB p = rs := ⟨_, rfl⟩
 have hRS : rs = packL 2 (hdB p (dictP p)) ++ allB (secB (dictP p)) p.b := by rw [← hrs]; rfl
 rw [hrs] at hPL ⊢
 have hHD : hdB p (dictP p) = p.base ++ (put (dictP p).length ++ (allB textB (dictP p) ++ put p.b.length)) := rfl
 obtain ⟨d, hd⟩ : ∃ d, dictP p = d := ⟨_, rfl⟩
 rw [hd] at hdict hd16 hds hHL hHB hBB hSL hRS hHD
 have HDICT := am hdict
 have HD16 := am hd16
 have HDS := am hds
 have HHL := am hHL
 have HHB := am hHB
 have HPL := am hPL
 have HBB := am hBB
 have HSL := am hSL
 have HRS := am hRS
 obtain ⟨hd0, hhd0⟩ : ∃ hd0, p.base ++ put d.length = hd0 := ⟨_, rfl⟩
 have HHD : Aside0 (hdB p d = hd0 ++ allB textB d ++ put p.b.length) := ⟨by rw [hHD, ← hhd0]; simp only [List.append_assoc]⟩
 have HH0 : Aside0 (hd0.length ≤ 42) := ⟨by rw [← hhd0, List.length_append]; have := put_length d.length (by omega); have := hb.base.1; omega⟩
 have HFL : Aside0 ([p.base, put d.length].flatten = hd0) := ⟨by rw [← hhd0]; simp⟩
 have HTL : Aside0 (∀ v ∈ d, (textB v).length ≤ 210) := ⟨fun v hv => by have := textB_len v (by have := hds v hv; omega); have := hds v hv; omega⟩
 have HBASE : Aside0 (p.base.length = 32) := ⟨hb.base.1⟩
 have HINFO := am (planInfo hb.base.1 A c)
 have k32 := planC_32 (m := p) hb.base.1 A c
 have HPB : Aside0 (∀ W : World, W.heap[w.heap.size]? = some (.cells (planC p A c).toArray 81 (0, 0)) → At W ⟨w.heap.size, 0, none⟩ (cells8 p.base)) := ⟨fun W h => planp_base h⟩
 obtain ⟨pt, hpt⟩ : ∃ pt, put d.length = pt := ⟨_, rfl⟩
 have hptp := fun W => put_call d.length (by omega) W
 have HPTL : Aside0 (pt.length ≤ 10) := ⟨by rw [← hpt]; exact put_length _ (by omega)⟩
 rw [hpt] at hptp HFL
 have HPTP := am hptp
 have hwd : IntKind.u64.wrap (d.length : Int) = (d.length : Int) := by simp [IntKind.wrap, IntKind.bits, IntKind.signed]; omega
 have hwb : IntKind.u64.wrap (p.b.length : Int) = (p.b.length : Int) := by have := hf.1; simp [IntKind.wrap, IntKind.bits, IntKind.signed]; omega
 have HC := am hC
 obtain ⟨ms, hms⟩ : ∃ ms, (planC p A c).toArray = ms := ⟨_, rfl⟩
 rw [hms] at HCALL HINFO HPB HDICT k32 ⊢
 have K32 := am k32
 have HBK := am (blk_new w (.cells ms 81))
 clear hf hok hfit hfl hvs hcall hdict hd16 hds hHL hHB hPL hBB hSL hrs hRS hHD hhd0 hpt hptp hC hms k32 hb hc h hd
 go_enter Try.func70, Try.ntmps70
 go_wp2_with (first
  | ((with_reducible refine gate_dst (N := 17) rfl ?_); refine wpList_load_row rfl 81 (.tmp 1) rfl w.heap.size rfl 81 ms (0, 0) _ HBK.out Try.underlying81 rfl HINFO.out ?_)
  | fail)
 refine HCALL.out.mono ?_
 rintro e_ w1 ⟨rfl, hb1⟩
 have HB1 := am (blk_below HBK.out hb1)
 have HW1 := am (below_step (below_alloc (Below.refl w.heap.size w) (.cells ms 81)) hb1)
 clear hb1
 go_wp2_with (first
  | ((with_reducible refine gate_dst (N := 20) rfl ?_); refine wpList_load_row rfl 81 (.tmp 1) rfl w.heap.size rfl 81 ms (0, 0) _ HB1.out Try.underlying81 rfl HINFO.out ?_)
  | fail)
 refine (HDICT.out _ HW1.out).mono ?_
 rintro e_ w2 ⟨⟨Ad, cd, rfl, hcd, hCd⟩, hb2⟩
 have HB2 := am (blk_below HB1.out hb2)
 have HW2 := am (below_step HW1.out hb2)
 have HCD := am (And.intro hcd hCd)
 clear hcd hCd hb2
 go_wp2_with fail
 refine wp_region_held_drew (S := (fun W => Below w2.heap.size w2 W)) (by kernel_rfl) (below_drew (Below.refl _ _)) (fun hHeld => ?_)
 refine th (i := 0) ?_
 refine th (i := 1) ?_
 refine th (i := 2) ?_
 refine th (i := 3) ?_
 refine th (i := 4) ?_
 refine tr (i := 5) (fun K hK => ?_)
 go_wp2_with fail
 refine (HPTP.out _).mono ?_
 rintro e_ w3 ⟨A3, c3, rfl, hc3, hr3, hb3⟩
 refine hK.out _ _ (below_step hHeld hb3) ?_
 clear hK K hHeld
 intro hHeld
 try simp only [sp]
 have SP : Aside0 (SlB w3 (.slice A3 pt.length c3) pt) := ⟨⟨A3, c3, rfl, hc3, hr3⟩⟩
 clear hb3 hc3 hr3
 refine tr (i := 6) (fun K hK => ?_)
 have HB7 := am hHeld
 go_wp2_with fail
 refine hK.out _ _ (below_step hHeld (below_alloc (Below.refl _ _) _)) ?_
 clear hK K hHeld
 intro hHeld
 try simp only [sp]
 have SB : Aside0 (SlB w3 (.slice (some ⟨w.heap.size, 0, none⟩) 32 32) p.base) := ⟨SlB.at (HPB.out _ (blk_below HB2.out HB7.out)) 32 32 HBASE.out (by decide) (by decide)⟩
 have SS : Aside0 (SlBs w3 [.slice (some ⟨w.heap.size, 0, none⟩) 32 32, .slice A3 pt.length c3] [p.base, pt]) := ⟨.cons SB.out (.cons SP.out .nil)⟩
 refine tr (i := 7) (fun K hK => ?_)
 go_wp2_with fail
 refine (cat_own SS.out (by show _ + 1 ≤ 1000; simp) w3.heap.size rfl 2 rfl (by have := HPTL.out; have := HBASE.out; simp; omega) hd0 HFL.out).mono ?_
 rintro e_ w4 ⟨⟨A4, c4, rfl, hR4⟩, hb4⟩
 refine hK.out _ _ (below_step HB7.out hb4) ?_
 clear hK K hHeld
 intro hHeld
 try simp only [sp]
 have HR3 := am (Kd.R_lower hR4 HB7.out.size)
 clear hR4 hb4
 refine th (i := 8) ?_
 refine td ?_
 have HB3 := am hHeld
 clear hHeld
 go_wp2_with fail
 go_loopg [5, 32] d.length (fun kq v5 v32 W => ∃ (i : Nat) (Av : Option Addr) (cv : Nat) (l : List Int), v5 = .slice Av l.length cv ∧ v32 = .int .i64 i ∧ Aside0 (kq + i = d.length) ∧ Aside0 (l = hd0 ++ allB textB (d.take i)) ∧ Aside0 (OwB W w2.heap.size (.slice Av l.length cv) l) ∧ Aside0 (Below w2.heap.size w2 W))
 case atStart => exact ⟨0, _, _, hd0, rfl, rfl, ⟨rfl⟩, ⟨by simp [allB]⟩, HR3, HB3⟩
 case round =>
  obtain ⟨i, Av, cv, l, rfl, rfl, HK, HL, HR, HB⟩ := hrel
  by_cases hi : i < d.length
  ·obtain ⟨s, hs⟩ : ∃ s, d.getD i ⟨#[]⟩ = s := ⟨_, rfl⟩
   obtain ⟨ad, hA, hcell⟩ := str_at (Kd.C_below HCD.out.2 HB.out) hi s hs
   subst hA
   have hsm : s ∈ d := by rw [← hs, List.getD_eq_getElem?_getD, List.getElem?_eq_getElem hi]; exact List.getElem_mem hi
   have htk := allB_take textB d i ⟨#[]⟩ hi
   rw [hs] at htk
   have HTK := am htk
   have hs200 := HDS.out s hsm
   have htc : ∀ W : World, Calls Try.prog 93 #[.string s] W fun e w' => ∃ A c, e = .returned (.slice A (textB s).length c) ∧ (textB s).length ≤ c ∧ RdB w' A (textB s).length (textB s) ∧ Below W.heap.size W w' := fun W => text_call s (by omega) W
   have hte := HTL.out s hsm
   obtain ⟨tb, htb⟩ : ∃ tb, textB s = tb := ⟨_, rfl⟩
   rw [htb] at htc hte HTK
   have HTC := am htc
   have HTE := am hte
   have HLL : Aside0 (l.length ≤ 4000) := ⟨by
    rw [HL.out, List.length_append]
    have h1 := take_len (B := textB) (c := 210) (l := d) HTL.out i
    have h2 := HD16.out
    have h3 := HH0.out
    omega⟩
   obtain ⟨e1, e2⟩ := ltY hi
   have e3 : (0 ≤ (i : Int)) = True := by simp
   have e4 := wr1 (i := i) (by have := HD16.out; omega)
   have HI := am hi
   clear hi hs hsm htk hs200 htc hte htb
   go_wp2_with fail
   refine (HTC.out _).mono ?_
   rintro e_ w4 ⟨A4, c4, rfl, hc4, hr4, hb4⟩
   have HR4 := am (Kd.R_below HR.out hb4)
   have HB4 := am (below_step HB.out hb4)
   have HE4 := am hr4
   clear hc4 hr4 hb4 hcell
   go_wp2_with (first
    | ((with_reducible refine gate_builtin (b := .append) (xs := #[.tmp 36, .tmp 38]) rfl ?_); at_builtin; refine Kd.R_append_row (Value.int .u8) 0 (w0 := w2) w2.heap.size rfl _ _ 40 5 (.int .u8 0) 1 rfl Try.underlying40 info5 rfl (by decide) (.slice Av l.length cv) l tb A4 tb.length c4 (fun _ => True) (by rfl) (by rfl) (fun _ _ => trivial) HR4.out HE4.out HB4.out HB4.out.size (by have := HLL.out; have := HTE.out; omega) ?_; intro v7 w7 hR7 hB7 hg7 hat7; clear hat7 hg7; have HB7 := am hB7; clear hB7; obtain ⟨A7, c7, rfl⟩ := Kd.R_slice hR7; have HR7 := am hR7; clear hR7; obtain ⟨r7, hr7⟩ : ∃ r7, l ++ tb = r7 := ⟨_, rfl⟩; rw [hr7] at HR7 ⊢; have HRR7 := am hr7; clear hr7)
    | fail)
   go_roundg (d.length - (i + 1))
   case measure => have := HK.out; have := HI.out; omega
   case rel => exact ⟨i + 1, A7, c7, r7, rfl, by first | rfl | (simp [e4]; done), ⟨by have := HI.out; omega⟩, ⟨by rw [← HRR7.out, HTK.out, HL.out, List.append_assoc]⟩, HR7, HB7⟩
  ·obtain ⟨e1, e2⟩ := ltN hi
   have hil : i = d.length := by have := HK.out; omega
   have HLF : Aside0 (l = hd0 ++ allB textB d) := ⟨by rw [HL.out, hil, List.take_length]⟩
   have f32 := (blk_cell (blk_below HB2.out HB.out) 32).trans K32.out
   obtain ⟨pn, hpn⟩ : ∃ pn, put p.b.length = pn := ⟨_, rfl⟩
   have hpnp := fun W => put_call p.b.length (by have := HF.out.1; omega) W
   rw [hpn] at hpnp
   have HPNP := am hpnp
   have HPNL : Aside0 (pn.length ≤ 10) := ⟨by rw [← hpn]; exact put_length _ (by have := HF.out.1; omega)⟩
   have HHF : Aside0 (hdB p d = l ++ pn) := ⟨by rw [HHD.out, HLF.out, hpn]⟩
   have HLL : Aside0 (l.length ≤ 4000) := ⟨by
    have h1 := HHL.out
    rw [HHF.out, List.length_append] at h1
    omega⟩
   clear hi hil hpn hpnp
   go_wp2_with fail
   refine (HPNP.out _).mono ?_
   rintro e_ w4 ⟨A4, c4, rfl, hc4, hr4, hb4⟩
   have HR4 := am (Kd.R_below HR.out hb4)
   have HB4 := am (below_step HB.out hb4)
   have HE4 := am hr4
   clear hc4 hr4 hb4 f32
   go_wp2_with (first
    | ((with_reducible refine gate_builtin (b := .append) (xs := #[.tmp 42, .tmp 47]) rfl ?_); at_builtin; refine Kd.R_append_row (Value.int .u8) 0 (w0 := w2) w2.heap.size rfl _ _ 40 5 (.int .u8 0) 1 rfl Try.underlying40 info5 rfl (by decide) (.slice Av l.length cv) l pn A4 pn.length c4 (fun _ => True) (by rfl) (by rfl) (fun _ _ => trivial) HR4.out HE4.out HB4.out HB4.out.size (by have := HLL.out; have := HPNL.out; omega) ?_; intro v7 w7 hR7 hB7 hg7 hat7; clear hat7 hg7; have HB7 := am hB7; clear hB7; rw [← HHF.out] at hR7; obtain ⟨A7, c7, hv7, hc7, hC7⟩ := Kd.R_reads hR7; rw [hv7]; have HC7 := am (And.intro hc7 hC7); clear hR7 hv7 hc7 hC7; obtain ⟨hh, hhh⟩ : ∃ hh, hdB p d = hh := ⟨_, rfl⟩; rw [hhh] at HC7 ⊢; have HHH := am hhh; clear hhh)
    | fail)
   obtain ⟨pk, hpk⟩ : ∃ pk, packL 2 hh = pk := ⟨_, rfl⟩
   have HPK : Aside0 (rs = pk ++ allB (secB d) p.b) := ⟨by rw [HRS.out, HHH.out, hpk]⟩
   refine (pack_own 2 A7 c7 hh _ HC7.out.2 HC7.out.1 (by decide) (by decide) (by rw [← HHH.out]; exact HHB.out) (by rw [← HHH.out]; have := HHL.out; omega) pk hpk).mono ?_
   rintro e_ w8 ⟨⟨A8, c8, rfl, hR8⟩, hb8⟩
   have HR8 := am (Kd.R_lower hR8 HB7.out.size)
   have HB8 := am (below_step HB7.out hb8)
   have f32 := (blk_cell (blk_below HB2.out HB8.out) 32).trans K32.out
   have HPKL : Aside0 (pk.length ≤ 515827) := ⟨by have h1 := HPL.out; rw [HPK.out, List.length_append] at h1; omega⟩
   clear hR8 hb8 hpk
   go_wp2_with fail
   clear f32
   go_loopg [8, 55] p.b.length (fun kq v8 v55 W => ∃ (i : Nat) (Av : Option Addr) (cv : Nat) (l : List Int), v8 = .slice Av l.length cv ∧ v55 = .int .i64 i ∧ Aside0 (kq + i = p.b.length) ∧ Aside0 (l = pk ++ allB (secB d) (p.b.take i)) ∧ Aside0 (OwB W w2.heap.size (.slice Av l.length cv) l) ∧ Aside0 (Below w2.heap.size w2 W))
   case atStart => exact ⟨0, _, _, pk, rfl, rfl, ⟨rfl⟩, ⟨by simp [allB]⟩, HR8, HB8⟩
   case round =>
    clear HK HL HR HB HLF HHF HLL HR4 HB4 HE4 HB7 HR8 HB8 HC7
    obtain ⟨i, Av, cv, l, rfl, rfl, HK, HL, HR, HB⟩ := hrel
    obtain ⟨wo, rfl⟩ : ∃ wo : World, wo = wr := ⟨_, rfl⟩
    by_cases hi : i < p.b.length
    ·obtain ⟨x, hx⟩ : ∃ x, p.b.getD i [] = x := ⟨_, rfl⟩
     obtain ⟨ad, B, cb, hA, hbc, hCb, hcell⟩ := bat_at (Kd.C_below HC.out (below_step HW2.out (Below.mono HB.out (Nat.le_refl _)))) hi x hx
     subst hA
     have hxm : x ∈ p.b := by rw [← hx, List.getD_eq_getElem?_getD, List.getElem?_eq_getElem hi]; exact List.getElem_mem hi
     have htk := allB_take (secB d) p.b i [] hi
     rw [hx] at htk
     have HTK := am htk
     have HXO := am (HOK.out x hxm)
     have HXF := am (HF.out.2 x hxm)
     have HXB := am (HBB.out x hxm)
     have HXS := am (HSL.out x hxm)
     have HLL : Aside0 (l.length ≤ 515827) := ⟨by
      have h1 := HPL.out
      have h2 : (allB (secB d) (p.b.take i)).length ≤ (allB (secB d) p.b).length := by
       have e := (List.take_append_drop i p.b)
       have : allB (secB d) p.b = allB (secB d) (p.b.take i) ++ allB (secB d) (p.b.drop i) := by
        have app : ∀ a b : List (List OpT), allB (secB d) (a ++ b) = allB (secB d) a ++ allB (secB d) b := by
         intro a b
         induction a with
         | nil => rfl
         | cons y a ih => show secB d y ++ allB (secB d) (a ++ b) = (secB d y ++ allB (secB d) a) ++ allB (secB d) b; rw [ih, List.append_assoc]
        rw [← app, e]
       rw [this, List.length_append]
       omega
      rw [HPK.out, List.length_append] at h1
      rw [HL.out, List.length_append]
      omega⟩
     have HCB := am hCb
     have HXL := am hCb.2.1
     obtain ⟨e1, e2⟩ := ltY hi
     have e3 : (0 ≤ (i : Int)) = True := by simp
     have e4 := wr1 (i := i) (by have := HF.out.1; omega)
     have HI := am hi
     have hwx : IntKind.u64.wrap (x.length : Int) = (x.length : Int) := by have := HXF.out.2.1; simp [IntKind.wrap, IntKind.bits, IntKind.signed]; omega
     obtain ⟨px, hpx⟩ : ∃ px, put x.length = px := ⟨_, rfl⟩
     have hpxp := fun W => put_own x.length (by have := HXF.out.2.1; omega) W
     rw [hpx] at hpxp
     have HPXP := am hpxp
     have HBO : Aside0 (bodyB d x = px ++ allB (oneB d) x) := ⟨by unfold bodyB; rw [hpx]⟩
     clear hi hx hxm htk hbc hCb hpx hpxp
     go_wp2_with fail
     refine (HPXP.out _).mono ?_
     rintro e_ w4 ⟨⟨A4, c4, rfl, hR4⟩, hb4⟩
     have HR4 := am hR4
     have HB4 := am hb4
     clear hR4 hb4 hcell
     go_wp2_with fail
     go_loopg [12, 65] x.length (fun kq v12 v65 W => ∃ (j : Nat) (Au : Option Addr) (cu : Nat) (q : List Int), v12 = .slice Au q.length cu ∧ v65 = .int .i64 j ∧ Aside0 (kq + j = x.length) ∧ Aside0 (q = px ++ allB (oneB d) (x.take j)) ∧ Aside0 (OwB W wo.heap.size (.slice Au q.length cu) q) ∧ Aside0 (Below wo.heap.size wo W))
     case atStart => exact ⟨0, _, _, px, rfl, rfl, ⟨rfl⟩, ⟨by simp [allB]⟩, HR4, HB4⟩
     case round =>
      clear HR4 HB4
      obtain ⟨j, Au, cu, q, rfl, rfl, HKJ, HQ, HRQ, HBJ⟩ := hrel
      obtain ⟨wx, rfl⟩ : ∃ wx : World, wx = wr := ⟨_, rfl⟩
      by_cases hj : j < x.length
      ·obtain ⟨y, hy⟩ : ∃ y, x.getD j zOp = y := ⟨_, rfl⟩
       have hym : y ∈ x := by rw [← hy, List.getD_eq_getElem?_getD, List.getElem?_eq_getElem hj]; exact List.getElem_mem hj
       obtain ⟨bd, E, ce, hB, hyl, hye, hCe, hat⟩ := op_at (Kd.C_below HCB.out HBJ.out) hj y hy
       subst hB
       have HYO := am (HXO.out y hym)
       have htj := allB_take (oneB d) x j zOp hj
       rw [hy] at htj
       have HTJ := am htj
       have HCE := am (And.intro hye hCe)
       have HIY := am (opInfo hyl E ce)
       have hcz : (opC y E ce).toArray.size = 71 := by rw [List.size_toArray, opC_len hyl]
       have HO1 := am (opC_one y E ce)
       have hone := fun (W : World) (hbw : Below wx.heap.size wx W) => cone_call y E ce d Ad cd W (HXO.out y hym) hye (Kd.C_below hCe hbw) HD16.out (Kd.C_below HCD.out.2 (below_step (below_step HB.out HBJ.out) hbw)) HCD.out.1
       have HOL : Aside0 ((oneB d y).length ≤ 1600) := ⟨oneB_len HD16.out (HXO.out y hym)⟩
       have HQL : Aside0 (q.length ≤ 65000) := ⟨by
        have h1 := HXB.out.2
        have h2 := take_len (B := oneB d) (c := 1600) (l := x) (fun z hz => oneB_len HD16.out (HXO.out z hz)) j
        have h3 := HXF.out.2.1
        rw [HBO.out, List.length_append] at h1
        rw [HQ.out, List.length_append]
        omega⟩
       obtain ⟨ob, hob⟩ : ∃ ob, oneB d y = ob := ⟨_, rfl⟩
       rw [hob] at hone HOL HTJ
       obtain ⟨es, hes⟩ : ∃ es, (opC y E ce).toArray = es := ⟨_, rfl⟩
       rw [hes] at hat HIY hcz HO1 hone
       have HAT := am hat
       have HONE := am hone
       have hsn := store_new wx Try.zeroCells98 es 98 (by rw [hcz]; kernel_rfl) HO1.out
       have HNE := am (blk_new wx (.cells es 98))
       have HRE := am (Kd.R_below HRQ.out (below_alloc (Below.refl wx.heap.size wx) (.cells es 98)))
       have HBE := am (below_step HBJ.out (below_alloc (Below.refl wx.heap.size wx) (.cells es 98)))
       obtain ⟨d1, d2⟩ := ltY hj
       have d3 : (0 ≤ (j : Int)) = True := by simp
       have d4 := wr1 (i := j) (by have := HXF.out.2.1; omega)
       have HJ := am hj
       clear hj hy hym hyl hye hCe hat htj hone hob hes
       go_wp2_with (first
        | ((with_reducible refine gate_dst (N := 68) rfl ?_); refine wpList_load_cells rfl 98 (.tmp 67) rfl (bd.add (j * 71)) rfl es _ HAT.out Try.underlying98 rfl HIY.out ?_)
        | ((with_reducible refine gate_dst (N := 70) rfl ?_); refine wpList_load_row rfl 98 (.tmp 14) rfl wx.heap.size rfl 98 es (0, 0) _ HNE.out Try.underlying98 rfl HIY.out ?_)
        | fail)
       refine (HONE.out _ (below_alloc (Below.refl _ _) _)).mono ?_
       rintro e_ w6 ⟨⟨A6, c6, rfl, hc6, hr6⟩, hb6⟩
       have HR6 := am (Kd.R_below HRE.out hb6)
       have HB6 := am (below_step HBE.out hb6)
       have HE6 := am hr6
       clear hc6 hr6 hb6
       go_wp2_with (first
        | ((with_reducible refine gate_builtin (b := .append) (xs := #[.tmp 69, .tmp 72]) rfl ?_); at_builtin; refine Kd.R_append_row (Value.int .u8) 0 (w0 := wo) wo.heap.size rfl _ _ 40 5 (.int .u8 0) 1 rfl Try.underlying40 info5 rfl (by decide) (.slice Au q.length cu) q ob A6 ob.length c6 (fun _ => True) (by rfl) (by rfl) (fun _ _ => trivial) HR6.out HE6.out HB6.out HB6.out.size (by have := HQL.out; have := HOL.out; omega) ?_; intro v7 w7 hR7 hB7 hg7 hat7; clear hat7 hg7; have HB7 := am hB7; clear hB7; obtain ⟨A7, c7, rfl⟩ := Kd.R_slice hR7; have HR7 := am hR7; clear hR7; obtain ⟨r7, hr7⟩ : ∃ r7, q ++ ob = r7 := ⟨_, rfl⟩; rw [hr7] at HR7 ⊢; have HRR7 := am hr7; clear hr7)
        | fail)
       go_roundg (x.length - (j + 1))
       case measure => have := HKJ.out; have := HJ.out; omega
       case rel => exact ⟨j + 1, A7, c7, r7, rfl, by first | rfl | (simp [d4]; done), ⟨by have := HJ.out; omega⟩, ⟨by rw [← HRR7.out, HTJ.out, HQ.out, List.append_assoc]⟩, HR7, HB7⟩
      ·obtain ⟨d1, d2⟩ := ltN hj
       have hjl : j = x.length := by have := HKJ.out; omega
       have hQF : q = bodyB d x := by rw [HQ.out, hjl, List.take_length, HBO.out]
       have HQB : Aside0 (Bytes q ∧ q.length ≤ 32010) := ⟨by rw [hQF]; exact HXB.out⟩
       obtain ⟨sb, hsb⟩ : ∃ sb, packL 3 q = sb := ⟨_, rfl⟩
       have HSB : Aside0 (secB d x = sb) := ⟨by rw [← hsb, hQF]; rfl⟩
       have HSBP := am hsb
       have HSBL : Aside0 (sb.length ≤ 32025) := ⟨by rw [← HSB.out]; exact HXS.out⟩
       have HQC : Aside0 (q.length ≤ cu ∧ RdB wx Au q.length q) := ⟨by
        obtain ⟨A9, c9, hv9, hc9, hC9⟩ := Kd.R_reads HRQ.out
        injection hv9 with h1 h2 h3
        subst h1
        subst h3
        exact ⟨hc9, hC9⟩⟩
       clear hj hjl hQF hsb
       go_wp2_with fail
       refine (pack_own 3 Au cu q _ HQC.out.2 HQC.out.1 (by decide) (by decide) HQB.out.1 (by have := HQB.out.2; omega) sb HSBP.out).mono ?_
       rintro e_ w6 ⟨⟨A6, c6, rfl, hR6⟩, hb6⟩
       have HR6 := am (Kd.R_below HR.out (below_step HBJ.out hb6))
       have HB6 := am (below_step HB.out (below_step HBJ.out hb6))
       have HE6 : Aside0 (RdB w6 A6 sb.length sb) := ⟨by
        obtain ⟨A9, c9, hv9, hc9, hC9⟩ := Kd.R_reads hR6
        injection hv9 with h1 h2 h3
        subst h1
        exact hC9⟩
       clear hR6 hb6
       go_wp2_with (first
        | ((with_reducible refine gate_builtin (b := .append) (xs := #[.tmp 80, .tmp 81]) rfl ?_); at_builtin; refine Kd.R_append_row (Value.int .u8) 0 (w0 := w2) w2.heap.size rfl _ _ 40 5 (.int .u8 0) 1 rfl Try.underlying40 info5 rfl (by decide) (.slice Av l.length cv) l sb A6 sb.length c6 (fun _ => True) (by rfl) (by rfl) (fun _ _ => trivial) HR6.out HE6.out HB6.out HB6.out.size (by have := HLL.out; have := HSBL.out; omega) ?_; intro v7 w7 hR7 hB7 hg7 hat7; clear hat7 hg7; have HB7 := am hB7; clear hB7; obtain ⟨A7, c7, rfl⟩ := Kd.R_slice hR7; have HR7 := am hR7; clear hR7; obtain ⟨r7, hr7⟩ : ∃ r7, l ++ sb = r7 := ⟨_, rfl⟩; rw [hr7] at HR7 ⊢; have HRR7 := am hr7; clear hr7)
        | fail)
       go_roundg (p.b.length - (i + 1))
       case measure => have := HK.out; have := HI.out; omega
       case rel => exact ⟨i + 1, A7, c7, r7, rfl, by first | rfl | (simp [e4]; done), ⟨by have := HI.out; omega⟩, ⟨by rw [← HRR7.out, HTK.out, HSB.out, HL.out, List.append_assoc]⟩, HR7, HB7⟩
    ·obtain ⟨e1, e2⟩ := ltN hi
     have hil : i = p.b.length := by have := HK.out; omega
     have HLF : Aside0 (l = rs) := ⟨by rw [HL.out, hil, List.take_length, HPK.out]⟩
     have HQC : Aside0 (l.length ≤ cv ∧ RdB wo Av l.length l) := ⟨by
      obtain ⟨A9, c9, hv9, hc9, hC9⟩ := Kd.R_reads HR.out
      injection hv9 with h1 h2 h3
      subst h1
      subst h3
      exact ⟨hc9, hC9⟩⟩
     clear hi hil
     go_wp2_with fail
     go_ret2
     rw [← HLF.out]
     exact ⟨⟨Av, cv, rfl, HQC.out.1, HQC.out.2⟩, below_step HW2.out (Below.mono HB.out (Nat.le_refl _))⟩
theorem putp_call (p : PlanT) (A : Option Addr) (c : Nat) (w : World) (hb : PlByt p) (hc : p.b.length ≤ c) (hC : Kd.C batK w A p.b.length p.b) (hf : ∀ b ∈ p.b, ∀ x ∈ b, FitO x) :
  Calls Try.prog 70 #[.agg (planC p A c).toArray] w (CpQ w (putPl p)) := by
 unfold putPl
 by_cases h : mayPl p = true
 ·rw [if_pos h]
  exact putp_yes p A c w hb hc hC h
 ·rw [if_neg h]
  exact putp_no p A c w hb.base.1 hc hC hf (by simpa using h)
end
section
open Go.RowKit Go.Proofs.YtchaegfdcdlfaaaW.PrintWords Go.Proofs.YtchaegfdcdlfaaaW.PrintLast Go.Proofs.YtchaegfdcdlfaaaW.PrintMore
open Go.Proofs.Ytchaegfdcdlfaaa.Y (readR Bytes RdB IsGet rdb_below rdb_drop rdb_take get_call read_call Get_eq put put_length wpAnyH_str)
attribute [local go_sem] max2_int min2_int max_two min_two max_three min_three max_four min_four
theorem CdSt.set {dv : Value} {w0 W : World} {rb : Nat} {s : Rd} (h : CdSt dv w0 W rb s) {g : Nat} (hg : g ≠ rb) (hw : w0.heap.size ≤ g) (j : Nat) (u : Value) : CdSt dv w0 (W.setCell ⟨g, j, none⟩ u) rb s := by
 obtain ⟨A, c, hr, hc, hA⟩ := h.row
 exact ⟨h.base, ⟨A, c, (Below.heap_setCell _ _ _ _ (by show rb ≠ g; omega)).trans hr, hc, hA⟩, h.byt, h.len, below_set h.bel hw⟩
theorem CdSt.setRow {dv : Value} {w0 W : World} {rb : Nat} {s : Rd} (h : CdSt dv w0 W rb s) {g : Nat} (hg : g ≠ rb) (hw : w0.heap.size ≤ g) (cs : Array Value) : CdSt dv w0 (W.setRow g cs) rb s := by
 obtain ⟨A, c, hr, hc, hA⟩ := h.row
 exact ⟨h.base, ⟨A, c, (setRow_other _ _ _ _ (by omega)).trans hr, hc, hA⟩, h.byt, h.len, below_row h.bel hw⟩
structure CgSt (dv : Value) (w0 W0 W : World) (rb g : Nat) (os : Array Value) (s : Rd) : Prop where
 rd : CdSt dv w0 W rb s
 op : W.heap[g]? = some (.cells os 98 (0, 0))
 sz : os.size = 71
 res : W.heap[W0.heap.size]? = some (.cells Try.zeroCells98 98 (0, 0))
 ne1 : rb < W0.heap.size
 ne3 : W0.heap.size < g
 base : w0.heap.size ≤ W0.heap.size
 gr : W0.grownBy W (some rb)
theorem CgSt.below {dv : Value} {w0 W0 W W1 : World} {rb g : Nat} {os : Array Value} {s : Rd} (h : CgSt dv w0 W0 W rb g os s) (hb : Below W.heap.size W W1) : CgSt dv w0 W0 W1 rb g os s :=
 ⟨h.rd.below hb, blk_below h.op hb, h.sz, blk_below h.res hb, h.ne1, h.ne3, h.base, h.gr.trans (grown_of_below hb _)⟩
theorem CgSt.read {dv : Value} {w0 W0 W W1 : World} {rb g : Nat} {os : Array Value} {s s1 : Rd} (h : CgSt dv w0 W0 W rb g os s) (hst : CdSt dv w0 W1 rb s1) (hg : W.grownBy W1 (some rb)) : CgSt dv w0 W0 W1 rb g os s1 :=
 ⟨hst, blk_grown h.op hg (fun he => by injection he with he; have := h.ne1; have := h.ne3; omega), h.sz, blk_grown h.res hg (fun he => by injection he with he; have := h.ne1; omega), h.ne1, h.ne3, h.base, h.gr.trans hg⟩
theorem CgSt.put {dv : Value} {w0 W0 W : World} {rb g : Nat} {os : Array Value} {s : Rd} (h : CgSt dv w0 W0 W rb g os s) (k : Nat) (v : Value) : CgSt dv w0 W0 (W.setCell ⟨g, k, none⟩ v) rb g (os.setIfInBounds k v) s :=
 ⟨h.rd.set (by have := h.ne1; have := h.ne3; omega) (by have := h.base; have := h.ne3; omega) k v, blk_put h.op k v rfl, by rw [Array.size_setIfInBounds]; exact h.sz, (Below.heap_setCell _ _ _ _ (by show W0.heap.size ≠ g; have := h.ne3; omega)).trans h.res, h.ne1, h.ne3, h.base, grown_setn h.gr (by have := h.ne3; omega) k v⟩
theorem CgSt.cell {dv : Value} {w0 W0 W : World} {rb g : Nat} {os : Array Value} {s : Rd} (h : CgSt dv w0 W0 W rb g os s) (k : Nat) : W.cell? ⟨g, k, none⟩ = os[k]? := blk_cell h.op k
theorem CgSt.fro {dv : Value} {w0 W0 W : World} {rb g : Nat} {os : Array Value} {s : Rd} (h : CgSt dv w0 W0 W rb g os s) (k : Nat) : W.frozen? ⟨g, k, none⟩ = false := blk_frozen h.op k
theorem CdSt.rcell {dv : Value} {w0 W : World} {rb : Nat} {s : Rd} (h : CdSt dv w0 W rb s) : ∃ A c, W.cell? ⟨rb, 0, none⟩ = some (.slice A s.b.length c) ∧ W.cell? ⟨rb, 1, none⟩ = some dv ∧ W.cell? ⟨rb, 2, none⟩ = some (.bool s.bad) ∧ s.b.length ≤ c ∧ RdB W A s.b.length s.b := by
 obtain ⟨A, c, hr, hc, hA⟩ := h.row
 obtain ⟨x0, x2, _, _⟩ := CdSt.cell0 hr (w0 := w0)
 exact ⟨A, c, x0, (CdSt.cell1 hr).1, x2, hc, rdb_below hA h.bel⟩
def CopQ (dv : Value) (w0 W : World) (rb : Nat) (r : OpT × Rd) (e : Ending) (W' : World) : Prop :=
 ∃ A c, e = .returned (.agg (opC r.1 A c).toArray) ∧ Kd.R k67 67 W' W.heap.size (fun _ => True) (.slice A r.1.p.length c) r.1.p ∧ CdSt dv w0 W' rb r.2 ∧ W.grownBy W' (some rb)
theorem getO_nat {l : List Int} (hb : Bytes l) (hl : l.length ≤ 1000000) : ∃ (x : OpT) (n : Nat) (is : Bool), getO l = (x, (n : Int), is) ∧ n ≤ 1000000 ∧ (x.id.length = 16 ∧ x.fro.length = 16 ∧ x.d.length = 32) := by
 have hs := getO_safe hb hl
 rcases getO_is l hb hl with h | ⟨x, rest, e, h, hq⟩
 ·refine ⟨zO, 0, false, ?_, by decide, ⟨rfl, rfl, rfl⟩⟩
  unfold getO at h ⊢
  split
  ·rfl
  ·rename_i hc
   rw [if_neg hc] at h
   cases h
 ·exact ⟨x, (opB x).length, true, hq, by have := congrArg List.length e; rw [List.length_append] at this; omega, h.2.id.1, h.2.fro.1, h.2.d.1⟩
set_option maxHeartbeats 8000000 in
theorem cop_a (Ad : Option Addr) (cd : Nat) (d : List ByteArray) (w0 W : World) (rb : Nat) (s : Rd) (h : CdSt (.slice Ad d.length cd) w0 W rb s) (he : s.b.length = 0) :
  Calls Try.prog 125 #[.pointer (some ⟨rb, 0, none⟩)] W (CopQ (.slice Ad d.length cd) w0 W rb (oneR d s)) := by
 have HONE : Aside0 (oneR d s = opvR s) := ⟨by unfold oneR; rw [if_pos (.inl (List.length_eq_zero_iff.1 he))]⟩
 obtain ⟨x, n, is, hq, hn, hxl⟩ := getO_nat h.byt h.len
 obtain ⟨s1, hs1⟩ : ∃ s1, (skipR s n is).2 = s1 := ⟨_, rfl⟩
 have HRES : Aside0 (oneR d s = (x, s1)) := ⟨by rw [HONE.out]; unfold opvR parR; rw [hq]; dsimp only; rw [Int.toNat_natCast, hs1]⟩
 have HS1 := am hs1
 have HN := am hn
 have HXL := am hxl
 have HLT := am h.lt
 have HB0 := am h.bel.size
 have H1 := am (h.below (below_alloc (Below.refl W.heap.size W) (.cells Try.zeroCells98 98)))
 have HZ1 := am (blk_new W (.cells Try.zeroCells98 98))
 obtain ⟨A, c, x0, x1, x2, hc, hA⟩ := H1.out.rcell
 have e1 : ((s.b.length : Int) == 0) = true := by rw [he]; rfl
 have e2 : ((s.b.length : Int) = 0) = True := eq_true (by omega)
 have e3 : (s.b.length = 0) = True := eq_true he
 have hog := oget_call A c s.b (W.alloc (.cells Try.zeroCells98 98)) hA hc h.byt h.len
 rw [hq] at hog
 have HOG := am hog
 rw [HRES.out]
 clear h hq hn hs1 hxl hc hA hog he
 go_enter Try.func125, Try.ntmps125
 go_wp2_with fail
 refine HOG.out.mono ?_
 rintro e_ w1 ⟨⟨A1, c1, rfl, hR1⟩, hb1⟩
 dsimp only at hR1 ⊢
 have HW1 : Aside0 (W.heap.size + 1 ≤ w1.heap.size) := ⟨by have := hb1.size; rw [alloc_size] at this; exact this⟩
 have HI := am (opInfo HXL.out A1 c1)
 have hoz : (opC x A1 c1).toArray.size = 71 := by rw [List.size_toArray, opC_len HXL.out]
 have HO1 := am (opC_one x A1 c1)
 obtain ⟨os, hos⟩ : ∃ os, (opC x A1 c1).toArray = os := ⟨_, rfl⟩
 rw [hos] at HI hoz HO1 ⊢
 have HOS := am hos
 have hsn := store_new w1 Try.zeroCells98 os 98 (by rw [hoz]; kernel_rfl) HO1.out
 have H2 := am ((H1.out.below hb1).below (below_alloc (Below.refl w1.heap.size w1) (.cells os 98)))
 have HZ2 := am (blk_alloc (blk_below HZ1.out hb1) (.cells os 98))
 have HN2 := am (blk_new w1 (.cells os 98))
 have HG2 := am (((World.grownBy_alloc W (.cells Try.zeroCells98 98) (some rb)).trans (grown_of_below hb1 _)).trans (World.grownBy_alloc w1 (.cells os 98) (some rb)))
 have HR2 := am (Kd.R_below (Kd.R_lower hR1 (show W.heap.size + 1 ≤ _ by rw [alloc_size]; omega)) (below_alloc (Below.refl w1.heap.size w1) (.cells os 98)))
 clear hR1 hb1 x0 x1 x2 hos
 go_wp2_with fail
 refine (cskip_call _ w0 _ rb s n is H2.out HN.out).mono ?_
 rintro e_ w2 ⟨⟨A3, c3, rfl, _, _⟩, hst2, hg2⟩
 rw [HS1.out] at hst2
 have H3 := am hst2
 have HZ3 := am (blk_grown HZ2.out hg2 (fun he => by injection he with he; have := HLT.out; omega))
 have HN3 := am (blk_grown HN2.out hg2 (fun he => by injection he with he; have := HLT.out; have := HW1.out; omega))
 have HG3 := am (HG2.out.trans hg2)
 have HR3 := am (R_old HR2.out hg2 (by have := HLT.out; omega))
 have hst := storeA (cs := os) HZ3.out (by rw [hoz]; kernel_rfl) HO1.out
 clear hst2 hg2 hsn
 go_wp2_with (first
  | ((with_reducible refine gate_dst (N := 39) rfl ?_); refine wpList_load_row rfl 98 (.tmp 3) rfl w1.heap.size rfl 98 os (0, 0) _ HN3.out Try.underlying98 rfl HI.out ?_)
  | fail)
 refine bodyPost_ret (v := .agg os) ?_ rfl ⟨A1, c1, by rw [HOS.out], ?_, H3.out.setRow (by have := HLT.out; omega) HB0.out os, grown_row HG3.out (Nat.le_refl _) os⟩
 ·exact results_cell_row (P := Try.prog) Try.results125 _ _ W.heap.size 98 os (0, 0) _ rfl (setRow_heap _ _ _ _ _ _ HZ3.out) Try.underlying98 rfl HI.out
 ·exact Kd.R_lower (R_row HR3.out HZ3.out pc_types os) (Nat.le_succ _)
set_option maxHeartbeats 8000000 in
theorem cop_b (Ad : Option Addr) (cd : Nat) (d : List ByteArray) (w0 W : World) (rb : Nat) (s : Rd) (h : CdSt (.slice Ad d.length cd) w0 W rb s) (he : 0 < s.b.length) (h4 : s.b.getD 0 0 ≠ 4) :
  Calls Try.prog 125 #[.pointer (some ⟨rb, 0, none⟩)] W (CopQ (.slice Ad d.length cd) w0 W rb (oneR d s)) := by
 have HONE : Aside0 (oneR d s = opvR s) := ⟨by unfold oneR; rw [if_pos (.inr h4)]⟩
 obtain ⟨x, n, is, hq, hn, hxl⟩ := getO_nat h.byt h.len
 obtain ⟨s1, hs1⟩ : ∃ s1, (skipR s n is).2 = s1 := ⟨_, rfl⟩
 have HRES : Aside0 (oneR d s = (x, s1)) := ⟨by rw [HONE.out]; unfold opvR parR; rw [hq]; dsimp only; rw [Int.toNat_natCast, hs1]⟩
 have HS1 := am hs1
 have HN := am hn
 have HXL := am hxl
 have HLT := am h.lt
 have HB0 := am h.bel.size
 have H1 := am (h.below (below_alloc (Below.refl W.heap.size W) (.cells Try.zeroCells98 98)))
 have HZ1 := am (blk_new W (.cells Try.zeroCells98 98))
 obtain ⟨A, c, x0, x1, x2, hc, hA⟩ := H1.out.rcell
 have e1 : ((s.b.length : Int) == 0) = false := by rw [beq_eq_false_iff_ne]; omega
 have e2 : ((s.b.length : Int) = 0) = False := eq_false (by omega)
 have e4 : ((0 : Int) < (s.b.length : Int)) = True := eq_true (by omega)
 have e5 : (0 < s.b.length) = True := eq_true he
 obtain ⟨ad, hAd, b0⟩ := Kd.at_int hA 0 (by decide) (by show (0 : Int) < (s.b.length : Int); omega)
 obtain ⟨hv, hhv⟩ : ∃ hv, rd s.b 0 = hv := ⟨_, rfl⟩
 have h4' : hv ≠ 4 := by rw [← hhv]; exact h4
 rw [hhv, show ad.add (Int.toNat 0) = ad by simp [Addr.add]] at b0
 subst hAd
 have e6 : (hv != 4) = true := by simpa using h4'
 have e7 : (hv == 4) = false := by simpa using h4'
 have hog := oget_call (some ad) c s.b (W.alloc (.cells Try.zeroCells98 98)) hA hc h.byt h.len
 rw [hq] at hog
 have HOG := am hog
 rw [HRES.out]
 clear h hq hn hs1 hxl hc hA hog he h4 hhv h4'
 go_enter Try.func125, Try.ntmps125
 go_wp2_with fail
 refine HOG.out.mono ?_
 rintro e_ w1 ⟨⟨A1, c1, rfl, hR1⟩, hb1⟩
 dsimp only at hR1 ⊢
 have HW1 : Aside0 (W.heap.size + 1 ≤ w1.heap.size) := ⟨by have := hb1.size; rw [alloc_size] at this; exact this⟩
 have HI := am (opInfo HXL.out A1 c1)
 have hoz : (opC x A1 c1).toArray.size = 71 := by rw [List.size_toArray, opC_len HXL.out]
 have HO1 := am (opC_one x A1 c1)
 obtain ⟨os, hos⟩ : ∃ os, (opC x A1 c1).toArray = os := ⟨_, rfl⟩
 rw [hos] at HI hoz HO1 ⊢
 have HOS := am hos
 have hsn := store_new w1 Try.zeroCells98 os 98 (by rw [hoz]; kernel_rfl) HO1.out
 have H2 := am ((H1.out.below hb1).below (below_alloc (Below.refl w1.heap.size w1) (.cells os 98)))
 have HZ2 := am (blk_alloc (blk_below HZ1.out hb1) (.cells os 98))
 have HN2 := am (blk_new w1 (.cells os 98))
 have HG2 := am (((World.grownBy_alloc W (.cells Try.zeroCells98 98) (some rb)).trans (grown_of_below hb1 _)).trans (World.grownBy_alloc w1 (.cells os 98) (some rb)))
 have HR2 := am (Kd.R_below (Kd.R_lower hR1 (show W.heap.size + 1 ≤ _ by rw [alloc_size]; omega)) (below_alloc (Below.refl w1.heap.size w1) (.cells os 98)))
 clear hR1 hb1 x0 x1 x2 hos
 go_wp2_with fail
 refine (cskip_call _ w0 _ rb s n is H2.out HN.out).mono ?_
 rintro e_ w2 ⟨⟨A3, c3, rfl, _, _⟩, hst2, hg2⟩
 rw [HS1.out] at hst2
 have H3 := am hst2
 have HZ3 := am (blk_grown HZ2.out hg2 (fun he => by injection he with he; have := HLT.out; omega))
 have HN3 := am (blk_grown HN2.out hg2 (fun he => by injection he with he; have := HLT.out; have := HW1.out; omega))
 have HG3 := am (HG2.out.trans hg2)
 have HR3 := am (R_old HR2.out hg2 (by have := HLT.out; omega))
 have hst := storeA (cs := os) HZ3.out (by rw [hoz]; kernel_rfl) HO1.out
 clear hst2 hg2 hsn
 go_wp2_with (first
  | ((with_reducible refine gate_dst (N := 39) rfl ?_); refine wpList_load_row rfl 98 (.tmp 3) rfl w1.heap.size rfl 98 os (0, 0) _ HN3.out Try.underlying98 rfl HI.out ?_)
  | fail)
 refine bodyPost_ret (v := .agg os) ?_ rfl ⟨A1, c1, by rw [HOS.out], ?_, H3.out.setRow (by have := HLT.out; omega) HB0.out os, grown_row HG3.out (Nat.le_refl _) os⟩
 ·exact results_cell_row (P := Try.prog) Try.results125 _ _ W.heap.size 98 os (0, 0) _ rfl (setRow_heap _ _ _ _ _ _ HZ3.out) Try.underlying98 rfl HI.out
 ·exact Kd.R_lower (R_row HR3.out HZ3.out pc_types os) (Nat.le_succ _)
theorem cell_setn {W : World} {a : Addr} {g : Nat} (h : a.block ≠ g) (k : Nat) (v : Value) : (W.setCell ⟨g, k, none⟩ v).cell? a = W.cell? a := World.cell?_of_block (Below.heap_setCell _ _ _ _ h)
set_option maxHeartbeats 8000000 in
theorem cop_c (Ad : Option Addr) (cd : Nat) (d : List ByteArray) (w0 W : World) (rb : Nat) (s : Rd) (h : CdSt (.slice Ad d.length cd) w0 W rb s) (hd : d.length ≤ 16) (hD : ∀ W' : World, W.grownBy W' (some rb) → Kd.C Kd.string W' Ad d.length d) (he : 0 < s.b.length) (h4 : s.b.getD 0 0 = 4) :
  Calls Try.prog 125 #[.pointer (some ⟨rb, 0, none⟩)] W (CopQ (.slice Ad d.length cd) w0 W rb (oneR d s)) := by
 have HONE : Aside0 (oneR d s = knownR d s) := ⟨by unfold oneR; rw [if_neg (by rintro (h | h); rw [h] at he; exact absurd he (by decide); exact h h4)]⟩
 have HD := am hD
 have HD16 := am hd
 have HLT := am h.lt
 have HB0 := am h.bel.size
 have H1 := am (h.below (below_alloc (Below.refl W.heap.size W) (.cells Try.zeroCells98 98)))
 have HZ1 := am (blk_new W (.cells Try.zeroCells98 98))
 have HG1 := am (World.grownBy_alloc W (.cells Try.zeroCells98 98) (some rb))
 obtain ⟨A, c, x0, x1, x2, hc, hA⟩ := H1.out.rcell
 have e1 : ((s.b.length : Int) == 0) = false := by rw [beq_eq_false_iff_ne]; omega
 have e2 : ((s.b.length : Int) = 0) = False := eq_false (by omega)
 have e4 : ((0 : Int) < (s.b.length : Int)) = True := eq_true (by omega)
 have e5 : (0 < s.b.length) = True := eq_true he
 obtain ⟨ad, hAd, b0⟩ := Kd.at_int hA 0 (by decide) (by show (0 : Int) < (s.b.length : Int); omega)
 obtain ⟨hv, hhv⟩ : ∃ hv, rd s.b 0 = hv := ⟨_, rfl⟩
 have h4' : hv = 4 := by rw [← hhv]; exact h4
 rw [hhv, show ad.add (Int.toNat 0) = ad by simp [Addr.add], h4'] at b0
 subst hAd
 obtain ⟨s1, hs1⟩ : ∃ s1, (skipR s 1 true).2 = s1 := ⟨_, rfl⟩
 obtain ⟨id, hid⟩ : ∃ id, (takeR 16 s1).1 = id := ⟨_, rfl⟩
 obtain ⟨s2, hs2⟩ : ∃ s2, (takeR 16 s1).2 = s2 := ⟨_, rfl⟩
 have HIDL : Aside0 (id.length = 16) := ⟨by rw [← hid]; exact skipR_len _ _ _⟩
 have HS1 := am hs1
 have HID : Aside0 ((takeR 16 s1) = (id, s2)) := ⟨by rw [← hid, ← hs2]⟩
 have HID1 : Aside0 ((skipR s1 16 true) = (id, s2)) := ⟨HID.out⟩
 obtain ⟨os, hos⟩ : ∃ os, (opC ⟨1, id, 0, 0, 0, ⟨#[]⟩, [], z16, 0, z32⟩ none 0).toArray = os := ⟨_, rfl⟩
 have HOS := am hos
 have HBU := am (built_head 1 id HIDL.out)
 have hoz : os.size = 71 := by rw [← hos, List.size_toArray, opC_len ⟨HIDL.out, rfl, rfl⟩]
 have HO1 : Aside0 (os.all (·.oneCell') = true) := ⟨by rw [← hos]; exact opC_one _ _ _⟩
 rw [hos] at HBU
 clear h hd hD he h4 hc hA hhv h4' hs1 hid hs2 hos
 go_enter Try.func125, Try.ntmps125
 go_wp2_with fail
 refine (cskip_call _ w0 _ rb s 1 true H1.out (by decide)).mono ?_
 rintro e_ w1 ⟨⟨A1, c1, rfl, _, _⟩, hst1, hg1⟩
 rw [HS1.out] at hst1
 have H1b := am hst1
 have HZ1b := am (blk_grown HZ1.out hg1 (fun he => by injection he with he; have := HLT.out; omega))
 have HG1b := am (HG1.out.trans hg1)
 have HSZ1 : Aside0 (W.heap.size < w1.heap.size) := ⟨by have := hg1.size; rw [alloc_size] at this; omega⟩
 clear hst1 hg1 b0 x0 x1 x2
 go_wp2_with fail
 refine (cskip_call _ w0 _ rb s1 16 true H1b.out (by decide)).mono ?_
 rintro e_ w2 ⟨⟨A2, c2, rfl, hc2, hr2⟩, hst2, hg2⟩
 rw [HID1.out] at hst2 hr2
 obtain ⟨ad2, hA2, hat⟩ := rdb_at hr2 (by decide)
 subst hA2
 have HAT := am hat
 have har := fun W1 : World => run_arrayAt (P := Try.prog) (w := W1) 94 5 16 (some ad2) 16 c2 Try.underlying94 (by decide)
 have hz16 : (cells8 id).size = 16 := by rw [cells8_size, HIDL.out]
 have HSZ2 : Aside0 (W.heap.size < w2.heap.size) := ⟨Nat.lt_of_lt_of_le HSZ1.out hg2.size⟩
 have H2 : Aside0 (CgSt (.slice Ad d.length cd) w0 W (w2.alloc (.cells os 98)) rb w2.heap.size os s2) := ⟨⟨hst2.below (below_alloc (Below.refl _ _) _), blk_new w2 _, hoz, blk_alloc (blk_grown HZ1b.out hg2 (fun he => by injection he with he; have := HLT.out; omega)) _, HLT.out, HSZ2.out, HB0.out, (HG1b.out.trans hg2).trans (World.grownBy_alloc _ _ _)⟩⟩
 have hsn := store_new w2 Try.zeroCells98 os 98 (by rw [hoz]; kernel_rfl) HO1.out
 obtain ⟨A3, c3, x0, x1, x2, hc3, hr3⟩ := H2.out.rd.rcell
 have HR2 := am (And.intro hc3 hr3)
 obtain ⟨gn, gu, gi, hget, hgn, hgu, hg10⟩ := getL_nat H2.out.rd.byt H2.out.rd.len
 have HG : Aside0 (IsGet s2.b ((gn : Int), (gu : Int), gi)) := ⟨by have := getL_is H2.out.rd.byt (by have := H2.out.rd.len; omega); rwa [hget] at this⟩
 obtain ⟨sn, sr, su, si, hsg, hsu⟩ := stGet_ex ((gn : Int), (gu : Int), gi) ⟨gu, rfl, hg10⟩
 obtain ⟨s3, hs3⟩ : ∃ s3, (skipR s2 su si).2 = s3 := ⟨_, rfl⟩
 have HS : Aside0 (stR s2 = ((sn, sr), s3)) := ⟨by unfold stR; rw [hget, hsg]; dsimp only; rw [Int.toNat_natCast, hs3]⟩
 have hstg := stamp_Get.calls (2 * s2.b.length + 3) A3 c3 s2.b gn gu gi (w2.alloc (.cells os 98)) HR2.out.2 HR2.out.1 (Get_eq HG.out H2.out.rd.byt (by have := H2.out.rd.len; omega) _ (by omega)) hgn
 rw [hsg] at hstg
 have HST := am hstg
 have HSU := am hsu
 have HS3 := am hs3
 clear hst2 hg2 hc2 hr2 hat hc3 hr3 hget hgn hgu hg10 hsg hsu hs3 hstg
 go_wp2_with (first
  | ((with_reducible refine gate_dst (N := 45) rfl ?_); refine wpList_load_cells rfl 94 (.tmp 44) rfl ad2 rfl (cells8 id) _ HAT.out Try.underlying94 rfl (by rw [hz16]; kernel_rfl) ?_)
  | ((with_reducible refine gate_dst (N := 46) rfl ?_); refine wpList_build_cells rfl 98 _ rfl os ?hb ?_; case hb => (simp only [List.map_toArray, List.map_cons, List.map_nil]; exact HBU.out))
  | fail)
 refine HST.out.mono ?_
 rintro e_ w3 ⟨rfl, hb3⟩
 have H3 := am ((H2.out.below hb3).below (below_alloc (Below.refl w3.heap.size w3) (.cells #[.int .i64 sn, .int .i64 sr] 96)))
 have HW3 : Aside0 (w2.heap.size < w3.heap.size) := ⟨by have := hb3.size; rw [alloc_size] at this; omega⟩
 clear hb3 x0 x1 x2 hsn har
 dsimp only
 go_wp2_with fail
 refine (cskip_call _ w0 _ rb s2 su si H3.out.rd (by have := HSU.out; omega)).mono ?_
 rintro e_ w4 ⟨⟨A4, c4, rfl, _, _⟩, hst4, hg4⟩
 rw [HS3.out] at hst4
 have H4 := am (H3.out.read hst4 hg4)
 have HQ4 := am (blk_grown (blk_new w3 (.cells #[.int .i64 sn, .int .i64 sr] 96)) hg4 (fun he => by injection he with he; have := HW3.out; have := HSZ2.out; have := HLT.out; omega))
 obtain ⟨no, hno⟩ : ∃ no, (byteR s3).1 = no := ⟨_, rfl⟩
 obtain ⟨s4, hs4⟩ : ∃ s4, (byteR s3).2 = s4 := ⟨_, rfl⟩
 have HNO : Aside0 (byteR s3 = (no, s4)) := ⟨by rw [← hno, ← hs4]⟩
 have HNO2 : Aside0 ((skipR s3 1 true).2 = s4) := ⟨by rw [← hs4]; rfl⟩
 have HNO1 : Aside0 (rd (skipR s3 1 true).1 0 = no) := ⟨by rw [← hno]; rfl⟩
 have HNOB : Aside0 (0 ≤ no ∧ no ≤ 255) := ⟨by
  rw [← hno]
  show 0 ≤ (skipR s3 1 true).1.getD 0 0 ∧ (skipR s3 1 true).1.getD 0 0 ≤ 255
  rw [List.getD_eq_getElem?_getD]
  cases hq : (skipR s3 1 true).1[0]? with
  | none => exact ⟨Int.le_refl _, by decide⟩
  | some b => exact (skip_byt (s := s3) hst4.byt 1 true b (List.mem_of_getElem? hq))⟩
 obtain ⟨_, o17, o18, o19, o20, _, _⟩ := opC_at (x := ⟨1, id, 0, 0, 0, ⟨#[]⟩, [], z16, 0, z32⟩) ⟨HIDL.out, rfl, rfl⟩ none 0
 rw [HOS.out] at o17 o18 o19 o20
 have HO := am (And.intro o17 (And.intro o18 (And.intro o19 o20)))
 clear hst4 hg4 hno hs4 o17 o18 o19 o20
 go_wp2_with fail
 refine wp_region_held_drew (S := (fun W_ => W_.heap[w3.heap.size]? = some (.cells #[.int .i64 sn, .int .i64 sr] 96 (0, 0)))) (by kernel_rfl) (HQ4.out) (fun hHeld => ?_)
 refine tq (i := 0) (v := ?_) ?hy ?_
 case hy => (intro W_ hW_; have q0 := (blk_cell hW_ 0).trans rfl; have q1 := (blk_cell hW_ 1).trans rfl; go_simp; first | done | with_reducible rfl)
 try simp only [sp]
 refine th (i := 1) ?_
 refine th (i := 6) ?_
 refine tr (i := 2) (fun K hK => ?_)
 go_wp2_with fail
 refine (cskx_call _ w0 _ rb s3 1 true (H4.out.below (below_drew (Below.refl _ _))).rd (by decide)).mono ?_
 rintro e_ w5 ⟨⟨⟨A5, c5, rfl, hc5, hr5⟩, hst5, hg5⟩, hblk⟩
 obtain ⟨ad5, hA5, b5⟩ := Kd.at_int hr5 0 (by omega) (by omega)
 subst hA5
 rw [HNO1.out, show ad5.add (Int.toNat 0) = ad5 by simp [Addr.add]] at b5
 rw [HNO2.out] at hst5
 refine hK.out _ _ (blk_grown hHeld hg5 (fun he => by injection he with he; have := HW3.out; have := HSZ2.out; have := HLT.out; omega)) ?_
 clear hK K hHeld
 intro hHeld
 try simp only [sp]
 have HBA : Aside0 (ad5.block ≠ w2.heap.size) := ⟨by
  have h1 := hblk (by decide) ad5 c5 rfl
  have h2 := H4.out.rd.base
  have h3 := HSZ2.out
  have h4 := HB0.out
  have h5 := blk_lt (H4.out.below (below_drew (Below.refl _ _))).op
  rcases h1 with h1 | h1
  ·omega
  ·exact fun he => by rw [he] at h1; exact absurd h5 (Nat.not_lt.2 h1)⟩
 have H5 := am ((H4.out.below (below_drew (Below.refl _ _))).read hst5 hg5)
 have hwn : IntKind.i64.wrap no = no := by have := HNOB.out; simp [IntKind.wrap, IntKind.bits, IntKind.signed]; omega
 refine wpAnyH_str (S2 := fun W_ => W_.heap[w3.heap.size]? = some (.cells #[.int .i64 sn, .int .i64 sr] 96 (0, 0)) ∧ W_.cell? ad5 = some (.int .u8 no)) (fun _ h => h.1) _ _ _ _ ?_
 have hHeld := And.intro hHeld b5
 clear hst5 hg5 hc5 hr5 hblk b5
 refine th (i := 3) ?_
 refine tu (i := 4) (fun W_ hW_ => hW_.2) ?_
 refine th (i := 5) ?_
 refine tr (i := 7) (fun K hK => ?_)
 have z17 := H5.out.fro 17
 have z18 := H5.out.fro 18
 have u17 := (H5.out.cell 17).trans HO.out.1
 have u18 := (H5.out.cell 18).trans HO.out.2.1
 go_wp2_with fail
 refine hK.out _ _ (⟨(Below.heap_setCell _ _ _ _ (by show w3.heap.size ≠ w2.heap.size; have := HW3.out; omega)).trans ((Below.heap_setCell _ _ _ _ (by show w3.heap.size ≠ w2.heap.size; have := HW3.out; omega)).trans hHeld.1), (cell_setn HBA.out _ _).trans ((cell_setn HBA.out _ _).trans hHeld.2)⟩) ?_
 clear hK K hHeld
 intro hHeld
 try simp only [sp]
 clear z17 z18 u17 u18
 obtain ⟨on, hon⟩ : ∃ on, (opC ⟨1, id, sn, sr, 0, ⟨#[]⟩, [], z16, 0, z32⟩ none 0).toArray = on := ⟨_, rfl⟩
 have HON := am hon
 have H7 : Aside0 (CgSt (.slice Ad d.length cd) w0 W ((w5.setCell ⟨w2.heap.size, 17, none⟩ (.int .i64 sn)).setCell ⟨w2.heap.size, 18, none⟩ (.int .i64 sr)) rb w2.heap.size on s4) := ⟨by
  have := (H5.out.put 17 (.int .i64 sn)).put 18 (.int .i64 sr)
  rw [← HOS.out, setN 1 sn sr id HIDL.out, hon] at this
  exact this⟩
 obtain ⟨_, _, _, n19, n20, _, _⟩ := opC_at (x := ⟨1, id, sn, sr, 0, ⟨#[]⟩, [], z16, 0, z32⟩) ⟨HIDL.out, rfl, rfl⟩ none 0
 rw [hon] at n19 n20
 have HON19 := am n19
 have HON20 := am n20
 clear hon n19 n20
 refine th (i := 8) ?_
 refine tr (i := 9) (fun K hK => ?_)
 have z19 := H7.out.fro 19
 have u19 := (H7.out.cell 19).trans HON19.out
 go_wp2_with fail
 refine hK.out _ _ (⟨(Below.heap_setCell _ _ _ _ (by show w3.heap.size ≠ w2.heap.size; have := HW3.out; omega)).trans hHeld.1, (cell_setn HBA.out _ _).trans hHeld.2⟩) ?_
 clear hK K hHeld
 intro hHeld
 try simp only [sp]
 clear z19 u19
 have H8 := am (H7.out.put 19 (.int .i64 no))
 refine td ?_
 clear hHeld
 obtain ⟨A6, c6, x0, x1, x2, hc6, hr6⟩ := H8.out.rd.rcell
 have hwd : wrap64 ((d.length : Int) - 1) = (d.length : Int) - 1 := by have := HD16.out; unfold wrap64; omega
 have hwd2 : IntKind.i64.wrap ((d.length : Int) - 1) = (d.length : Int) - 1 := by have := HD16.out; simp [IntKind.wrap, IntKind.bits, IntKind.signed]; omega
 clear hc6 hr6
 go_wp2_with fail
 refine (cnum_call _ w0 _ rb s4 ((d.length : Int) - 1) H8.out.rd (by have := HD16.out; omega) (by have := HD16.out; omega)).mono ?_
 rintro e_ w6 ⟨rfl, hst6, hg6⟩
 obtain ⟨nm, hnm⟩ : ∃ nm, (numR ((d.length : Int) - 1) s4).1 = nm := ⟨_, rfl⟩
 obtain ⟨s5, hs5⟩ : ∃ s5, (numR ((d.length : Int) - 1) s4).2 = s5 := ⟨_, rfl⟩
 have HNM : Aside0 (numR ((d.length : Int) - 1) s4 = (nm, s5)) := ⟨by rw [← hnm, ← hs5]⟩
 have hrng : s5.bad = false → 0 ≤ nm ∧ nm < (d.length : Int) := fun hb => by
  have hbb : (numR ((d.length : Int) - 1) s4).2.bad = false := by rw [hs5]; exact hb
  obtain ⟨g1, g2, _⟩ := (numR_good ((d.length : Int) - 1) (by have := HD16.out; omega)).got s4 H8.out.rd.byt H8.out.rd.len hbb
  rw [hnm] at g2
  exact ⟨g2.1, by omega⟩
 have HRNG := am hrng
 rw [hs5] at hst6
 rw [hnm]
 have H9 := am (H8.out.read hst6 hg6)
 obtain ⟨A7, c7, y0, y1, y2, _, _⟩ := H9.out.rd.rcell
 have HKN : Aside0 (oneR d s = (⟨1, id, sn, sr, no, if s5.bad = true then ⟨#[]⟩ else d.getD nm.toNat ⟨#[]⟩, [], z16, 0, z32⟩, s5)) := ⟨by
  rw [HONE.out]
  unfold knownR
  rw [HS1.out]
  dsimp only
  rw [HID.out]
  dsimp only
  rw [HS.out]
  dsimp only
  rw [HNO.out]
  dsimp only
  rw [HNM.out]⟩
 clear hst6 hg6 hnm hs5 hrng x0 x1 x2
 cases hbad : s5.bad
 ·have hr2 := HRNG.out hbad
  obtain ⟨nn, hnn⟩ : ∃ nn : Nat, nm = (nn : Int) := ⟨nm.toNat, by omega⟩
  subst hnn
  have hnl : nn < d.length := by omega
  obtain ⟨v, hv_⟩ : ∃ v, d.getD nn ⟨#[]⟩ = v := ⟨_, rfl⟩
  obtain ⟨add, hAdd, b1⟩ := str_at (HD.out _ H9.out.gr) hnl v hv_
  subst hAdd
  have HKN2 : Aside0 (oneR d s = (⟨1, id, sn, sr, no, v, [], z16, 0, z32⟩, s5)) := ⟨by rw [HKN.out, hbad, if_neg (by decide), Int.toNat_natCast, hv_]⟩
  rw [hbad] at y2
  have m1 : ((nn : Int) < (d.length : Int)) = True := eq_true (by omega)
  have m2 : (nn < d.length) = True := eq_true hnl
  have m3 : (0 ≤ (nn : Int)) = True := by simp
  have z20 := H9.out.fro 20
  have u20 := (H9.out.cell 20).trans ((show (on.setIfInBounds 19 (.int .i64 no))[20]? = on[20]? from Array.getElem?_setIfInBounds_ne (by decide)).trans HON20.out)
  obtain ⟨oa, hoa⟩ : ∃ oa, (opC ⟨1, id, sn, sr, no, v, [], z16, 0, z32⟩ none 0).toArray = oa := ⟨_, rfl⟩
  have H10 : Aside0 (CgSt (.slice (some add) d.length cd) w0 W (w6.setCell ⟨w2.heap.size, 20, none⟩ (.string v)) rb w2.heap.size oa s5) := ⟨by
   have := H9.out.put 20 (.string v)
   rw [← HON.out, set1 1 sn sr no v id HIDL.out, hoa] at this
   exact this⟩
  have HOA := am hoa
  have hoz2 := H10.out.sz
  have HO2 : Aside0 (oa.all (·.oneCell') = true) := ⟨by rw [← hoa]; exact opC_one _ _ _⟩
  have HI2 : Aside0 ((Try.prog.info? 98).map (·.size) = some oa.size) := ⟨by rw [hoz2]; exact infoOp⟩
  have hst := storeA (cs := oa) H10.out.res (by rw [hoz2]; kernel_rfl) HO2.out
  clear hbad hr2 hnl hv_ hoa
  go_wp2_with (first
   | ((with_reducible refine gate_dst (N := 89) rfl ?_); refine wpList_load_row rfl 98 (.tmp 6) rfl w2.heap.size rfl 98 oa (0, 0) _ H10.out.op Try.underlying98 rfl HI2.out ?_)
   | fail)
  rw [HKN2.out]
  refine bodyPost_ret (v := .agg oa) ?_ rfl ⟨none, 0, by rw [← HOA.out], Kd.R_nil _ _ _ _ _, H10.out.rd.setRow (by have := HLT.out; omega) HB0.out oa, grown_row H10.out.gr (Nat.le_refl _) oa⟩
  exact results_cell_row (P := Try.prog) Try.results125 _ _ W.heap.size 98 oa (0, 0) _ rfl (setRow_heap _ _ _ _ _ _ H10.out.res) Try.underlying98 rfl HI2.out
 ·have HKN2 : Aside0 (oneR d s = (⟨1, id, sn, sr, no, ⟨#[]⟩, [], z16, 0, z32⟩, s5)) := ⟨by rw [HKN.out, hbad, if_pos rfl]⟩
  rw [hbad] at y2
  obtain ⟨oa, hoa⟩ : ∃ oa, (opC ⟨1, id, sn, sr, no, ⟨#[]⟩, [], z16, 0, z32⟩ none 0).toArray = oa := ⟨_, rfl⟩
  have H10 : Aside0 (CgSt (.slice Ad d.length cd) w0 W w6 rb w2.heap.size oa s5) := ⟨by
   have := H9.out
   rw [← HON.out, set4 1 sn sr no id HIDL.out, hoa] at this
   exact this⟩
  have HOA := am hoa
  have hoz2 := H10.out.sz
  have HO2 : Aside0 (oa.all (·.oneCell') = true) := ⟨by rw [← hoa]; exact opC_one _ _ _⟩
  have HI2 : Aside0 ((Try.prog.info? 98).map (·.size) = some oa.size) := ⟨by rw [hoz2]; exact infoOp⟩
  have hst := storeA (cs := oa) H10.out.res (by rw [hoz2]; kernel_rfl) HO2.out
  clear hbad y0 y1 hoa
  go_wp2_with (first
   | ((with_reducible refine gate_dst (N := 89) rfl ?_); refine wpList_load_row rfl 98 (.tmp 6) rfl w2.heap.size rfl 98 oa (0, 0) _ H10.out.op Try.underlying98 rfl HI2.out ?_)
   | fail)
  rw [HKN2.out]
  refine bodyPost_ret (v := .agg oa) ?_ rfl ⟨none, 0, by rw [← HOA.out], Kd.R_nil _ _ _ _ _, H10.out.rd.setRow (by have := HLT.out; omega) HB0.out oa, grown_row H10.out.gr (Nat.le_refl _) oa⟩
  exact results_cell_row (P := Try.prog) Try.results125 _ _ W.heap.size 98 oa (0, 0) _ rfl (setRow_heap _ _ _ _ _ _ H10.out.res) Try.underlying98 rfl HI2.out
theorem cop_call (Ad : Option Addr) (cd : Nat) (d : List ByteArray) (w0 W : World) (rb : Nat) (s : Rd) (h : CdSt (.slice Ad d.length cd) w0 W rb s) (hd : d.length ≤ 16) (hD : ∀ W' : World, W.grownBy W' (some rb) → Kd.C Kd.string W' Ad d.length d) :
  Calls Try.prog 125 #[.pointer (some ⟨rb, 0, none⟩)] W (CopQ (.slice Ad d.length cd) w0 W rb (oneR d s)) := by
 by_cases he : s.b.length = 0
 ·exact cop_a Ad cd d w0 W rb s h he
 by_cases h4 : s.b.getD 0 0 = 4
 ·exact cop_c Ad cd d w0 W rb s h hd hD (by omega) h4
 ·exact cop_b Ad cd d w0 W rb s h (by omega) h4
end
section
open Go.RowKit Go.Proofs.YtchaegfdcdlfaaaW.PrintWords Go.Proofs.YtchaegfdcdlfaaaW.PrintLast Go.Proofs.YtchaegfdcdlfaaaW.PrintMore
open Go.Proofs.Ytchaegfdcdlfaaa.Y (Bytes RdB put put_length bytesOf_bytes)
theorem R_reader {α : Type} {d : Kd α} {e base rb t : Nat} {W W1 : World} {v : Value} {xs : List α} {cs : Array Value} (h : d.R e W base (fun _ => True) v xs) (hb : W.heap[rb]? = some (.cells cs t (0, 0))) (ht : ∀ q, q ∈ e :: d.E → q ≠ t) (hg : W.grownBy W1 (some rb)) : d.R e W1 base (fun _ => True) v xs :=
 Kd.R_mono (Kd.R_grown (Kd.R_types h hb ht) hg (fun k hk he => hk.2 (by injection he))) (fun _ _ => trivial)
theorem str_types (t : Nat) (ht : 9 ≠ t) : ∀ q, q ∈ 9 :: Kd.string.E → q ≠ t := fun q hq => by
 rcases List.mem_cons.1 hq with rfl | h
 ·exact ht
 ·cases h
theorem opK_E : opK.E = [67] := rfl
theorem op_types (t : Nat) (h1 : 98 ≠ t) (h2 : 67 ≠ t) : ∀ q, q ∈ 98 :: opK.E → q ≠ t := fun q hq => by
 rw [opK_E] at hq
 simp only [List.mem_cons, List.not_mem_nil, or_false] at hq
 omega
theorem bat_types (t : Nat) (h0 : 92 ≠ t) (h1 : 98 ≠ t) (h2 : 67 ≠ t) : ∀ q, q ∈ 92 :: batK.E → q ≠ t := fun q hq => by
 have : batK.E = [98, 67] := rfl
 rw [this] at hq
 simp only [List.mem_cons, List.not_mem_nil, or_false] at hq
 omega
theorem opK_M {w : World} {base : Nat} {ok : Nat → Prop} {x : OpT} {A : Option Addr} {c : Nat} (hl : x.id.length = 16 ∧ x.fro.length = 16 ∧ x.d.length = 32) (h : Kd.R k67 67 w base ok (.slice A x.p.length c) x.p) : opK.M w base ok x (opC x A c) :=
 ⟨[.int .i64 x.kind], _, rfl, rfl, nums .u8 x.id, _, rfl, ⟨rfl, hl.1⟩, [.int .i64 x.n], _, rfl, rfl, [.int .i64 x.rep], _, rfl, rfl, [.int .i64 x.no], _, rfl, rfl, [.string x.v], _, rfl, rfl, [.slice A x.p.length c], _, rfl, ⟨_, rfl, h⟩, nums .u8 x.fro, _, rfl, ⟨rfl, hl.2.1⟩, [.int .i64 x.fno], _, rfl, rfl, ⟨rfl, hl.2.2⟩⟩
structure GtSt (w1 W : World) (rb g : Nat) (base : List Int) (Ad : Option Addr) (cd : Nat) (d : List ByteArray) (Ap : Option Addr) (cp : Nat) (bs : List (List OpT)) (s : Rd) : Prop where
 rd : CdSt (.slice Ad d.length cd) w1 W rb s
 drow : Kd.R Kd.string 9 W w1.heap.size (fun _ => True) (.slice Ad d.length cd) d
 pl : W.heap[g]? = some (.cells (planC ⟨base, bs⟩ Ap cp).toArray 81 (0, 0))
 prow : Kd.R batK 92 W w1.heap.size (fun _ => True) (.slice Ap bs.length cp) bs
 glt : w1.heap.size ≤ g
 gne : g ≠ rb
 b32 : base.length = 32
end
section
open Go.RowKit Go.Proofs.YtchaegfdcdlfaaaW.PrintWords Go.Proofs.YtchaegfdcdlfaaaW.PrintLast Go.Proofs.YtchaegfdcdlfaaaW.PrintMore
open Go.Proofs.Ytchaegfdcdlfaaa.Y (Bytes RdB put put_length bytesOf_bytes)
variable {w1 W W1 : World} {rb g : Nat} {base : List Int} {Ad Ap : Option Addr} {cd cp : Nat} {d : List ByteArray} {bs : List (List OpT)} {s s1 : Rd}
theorem CdSt.blk {dv : Value} (h : CdSt dv w1 W rb s) : ∃ cs, W.heap[rb]? = some (.cells cs 174 (0, 0)) := by
 obtain ⟨A, c, hr, _⟩ := h.row
 exact ⟨_, hr⟩
theorem GtSt.read (h : GtSt w1 W rb g base Ad cd d Ap cp bs s) (hst : CdSt (.slice Ad d.length cd) w1 W1 rb s1) (hg : W.grownBy W1 (some rb)) : GtSt w1 W1 rb g base Ad cd d Ap cp bs s1 := by
 obtain ⟨cs, hb⟩ := h.rd.blk
 exact ⟨hst, R_reader h.drow hb (str_types 174 (by decide)) hg, blk_grown h.pl hg (fun he => h.gne (by injection he)), R_reader h.prow hb (bat_types 174 (by decide) (by decide) (by decide)) hg, h.glt, h.gne, h.b32⟩
theorem GtSt.below (h : GtSt w1 W rb g base Ad cd d Ap cp bs s) (hb : Below W.heap.size W W1) : GtSt w1 W1 rb g base Ad cd d Ap cp bs s := h.read (h.rd.below hb) (grown_of_below hb _)
theorem CdSt.cells {dv : Value} (h : CdSt dv w1 W rb s) : ∃ A c, W.cell? ⟨rb, 0, none⟩ = some (.slice A s.b.length c) ∧ W.cell? ⟨rb, 1, none⟩ = some dv ∧ W.cell? ⟨rb, 2, none⟩ = some (.bool s.bad) ∧ W.frozen? ⟨rb, 0, none⟩ = false ∧ W.frozen? ⟨rb, 1, none⟩ = false ∧ W.frozen? ⟨rb, 2, none⟩ = false := by
 obtain ⟨A, c, hr, hc, hA⟩ := h.row
 exact ⟨A, c, (blk_cell hr 0).trans rfl, (blk_cell hr 1).trans rfl, (blk_cell hr 2).trans rfl, blk_frozen hr 0, blk_frozen hr 1, blk_frozen hr 2⟩
theorem GtSt.setbad (h : GtSt w1 W rb g base Ad cd d Ap cp bs s) (b : Bool) : GtSt w1 (W.setCell ⟨rb, 2, none⟩ (.bool b)) rb g base Ad cd d Ap cp bs ⟨s.b, b⟩ := by
 have hg : W.grownBy (W.setCell ⟨rb, 2, none⟩ (.bool b)) (some rb) := grown_set (World.grownBy.refl W (some rb)) 2 _
 refine h.read ?_ hg
 obtain ⟨A, c, hr, hc, hA⟩ := h.rd.row
 exact ⟨h.rd.base, ⟨A, c, blk_put hr 2 _ rfl, hc, hA⟩, h.rd.byt, h.rd.len, below_set h.rd.bel h.rd.base⟩
theorem GtSt.setb (h : GtSt w1 W rb g base Ad cd d Ap cp bs s) {A : Option Addr} {c : Nat} {l : List Int} (hA : RdB w1 A l.length l) (hc : l.length ≤ c) (hb : Bytes l) (hl : l.length ≤ 1000000) : GtSt w1 (W.setCell ⟨rb, 0, none⟩ (.slice A l.length c)) rb g base Ad cd d Ap cp bs ⟨l, s.bad⟩ := by
 have hg : W.grownBy (W.setCell ⟨rb, 0, none⟩ (.slice A l.length c)) (some rb) := grown_set (World.grownBy.refl W (some rb)) 0 _
 refine h.read ?_ hg
 obtain ⟨A', c', hr, hc', hA'⟩ := h.rd.row
 exact ⟨h.rd.base, ⟨A, c, blk_put hr 0 _ rfl, hc, hA⟩, hb, hl, below_set h.rd.bel h.rd.base⟩
theorem GtSt.dict (h : GtSt w1 W rb g base Ad cd d Ap cp bs s) {v : ByteArray} {Ae : Option Addr} {ce : Nat} (hR : Kd.R Kd.string 9 W1 w1.heap.size (fun _ => True) (.slice Ae (d ++ [v]).length ce) (d ++ [v])) (hg : W.grownBy W1 (Value.slice Ad d.length cd).ownBlock) (hB : Below w1.heap.size w1 W1) :
  GtSt w1 (W1.setCell ⟨rb, 1, none⟩ (.slice Ae (d ++ [v]).length ce)) rb g base Ae ce (d ++ [v]) Ap cp bs s ∧ W1.cell? ⟨rb, 1, none⟩ = some (.slice Ad d.length cd) ∧ W1.frozen? ⟨rb, 1, none⟩ = false := by
 obtain ⟨A, c, hr, hc, hA⟩ := h.rd.row
 have hr1 := blk_grown hr hg (Kd.R_ne h.drow hr (by decide))
 have hg2 : W1.grownBy (W1.setCell ⟨rb, 1, none⟩ (.slice Ae (d ++ [v]).length ce)) (some rb) := grown_set (World.grownBy.refl W1 (some rb)) 1 _
 have hp1 : Kd.R batK 92 W1 w1.heap.size (fun _ => True) (.slice Ap bs.length cp) bs := Kd.R_over' h.prow (Kd.R_typed h.drow) (bat_types 9 (by decide) (by decide) (by decide)) hg
 refine ⟨⟨⟨h.rd.base, ⟨A, c, blk_put hr1 1 _ rfl, hc, hA⟩, h.rd.byt, h.rd.len, below_set hB h.rd.base⟩, R_reader hR hr1 (str_types 174 (by decide)) hg2, blk_grown (blk_grown h.pl hg (Kd.R_ne h.drow h.pl (by decide))) hg2 (fun he => h.gne (by injection he)), R_reader hp1 hr1 (bat_types 174 (by decide) (by decide) (by decide)) hg2, h.glt, h.gne, h.b32⟩, (blk_cell hr1 1).trans rfl, blk_frozen hr1 1⟩
theorem planC_set {p : PlanT} (h : p.base.length = 32) (A A2 : Option Addr) (c c2 : Nat) (l2 : List (List OpT)) : (planC p A c).toArray.setIfInBounds 32 (.slice A2 l2.length c2) = (planC ⟨p.base, l2⟩ A2 c2).toArray := by
 have hl : (nums .u8 p.base).length = 32 := by simp [nums, h]
 simp only [List.setIfInBounds_toArray, planC]
 congr 1
 rw [List.set_append, if_neg (by omega), hl]
 rfl
theorem GtSt.plan (h : GtSt w1 W rb g base Ad cd d Ap cp bs s) {bs2 : List (List OpT)} {Ae : Option Addr} {ce : Nat} (hR : Kd.R batK 92 W1 w1.heap.size (fun _ => True) (.slice Ae bs2.length ce) bs2) (hg : W.grownBy W1 (Value.slice Ap bs.length cp).ownBlock) (hB : Below w1.heap.size w1 W1) :
  GtSt w1 (W1.setCell ⟨g, 32, none⟩ (.slice Ae bs2.length ce)) rb g base Ad cd d Ae ce bs2 s ∧ W1.cell? ⟨g, 32, none⟩ = some (.slice Ap bs.length cp) ∧ W1.frozen? ⟨g, 32, none⟩ = false := by
 obtain ⟨A, c, hr, hc, hA⟩ := h.rd.row
 have hr1 := blk_grown hr hg (Kd.R_ne h.prow hr (by decide))
 have hpl := blk_grown h.pl hg (Kd.R_ne h.prow h.pl (by decide))
 have hd1 : Kd.R Kd.string 9 W1 w1.heap.size (fun _ => True) (.slice Ad d.length cd) d := Kd.R_over' h.drow (Kd.R_typed h.prow) (str_types 92 (by decide)) hg
 have hset : ∀ t (ht : 81 = t), True := fun _ _ => trivial
 have hg2 : W1.grownBy (W1.setCell ⟨g, 32, none⟩ (.slice Ae bs2.length ce)) (some g) := grown_set (World.grownBy.refl W1 (some g)) 32 _
 have k32 := planC_32 (m := ⟨base, bs⟩) h.b32 Ap cp
 refine ⟨⟨⟨h.rd.base, ⟨A, c, (Below.heap_setCell _ _ _ _ (by show rb ≠ g; exact fun he => h.gne he.symm)).trans hr1, hc, hA⟩, h.rd.byt, h.rd.len, below_set hB h.glt⟩, R_reader hd1 hpl (str_types 81 (by decide)) hg2, ?_, R_reader hR hpl (bat_types 81 (by decide) (by decide) (by decide)) hg2, h.glt, h.gne, h.b32⟩, (blk_cell hpl 32).trans k32, blk_frozen hpl 32⟩
 exact (blk_put hpl 32 _ rfl).trans (by rw [planC_set h.b32])
end
section
open Go.RowKit Go.Proofs.YtchaegfdcdlfaaaW.PrintWords Go.Proofs.YtchaegfdcdlfaaaW.PrintLast Go.Proofs.YtchaegfdcdlfaaaW.PrintMore
open Go.Proofs.Ytchaegfdcdlfaaa.Y (Bytes RdB)
theorem list_ex (P : Nat → Value → Prop) : ∀ n, (∀ j, j < n → ∃ v, P j v) → ∃ vs : List Value, vs.length = n ∧ ∀ j v, vs[j]? = some v → P j v
 | 0, _ => ⟨[], rfl, fun j v h => by simp at h⟩
 | n + 1, h => by
  obtain ⟨vs, hl, hv⟩ := list_ex P n (fun j hj => h j (by omega))
  obtain ⟨v, hp⟩ := h n (by omega)
  refine ⟨vs ++ [v], by rw [List.length_append, hl]; rfl, fun j u hj => ?_⟩
  by_cases hjn : j < vs.length
  ·rw [List.getElem?_append_left hjn] at hj
   exact hv j u hj
  ·rw [List.getElem?_append_right (by omega)] at hj
   have : j - vs.length = 0 := by
    have := (List.getElem?_eq_some_iff.1 hj).1
    simp at this
    omega
   rw [this] at hj
   obtain rfl := Option.some.inj hj
   have : j = n := by omega
   rw [this]
   exact hp
theorem rows_drop {w : World} {A : Option Addr} {c : Nat} {l : List (List Int)} {n : Nat} (hC : Kd.C (Kd.slice 5 (Kd.int .u8)) w A n l) (hc : n ≤ c) (m : Nat) (hm : m ≤ n) :
  ∃ A' : Option Addr, (∀ W : World, (Instr.slice 53 (.slice A n c) (some (.int .i64 (m : Int))) none none).run Try.prog W = .ok (.slice A' (n - m) (c - m)) W) ∧ Kd.C (Kd.slice 5 (Kd.int .u8)) w A' (n - m) (l.drop m) := by
 obtain ⟨hl, hmax, h3⟩ := hC
 obtain ⟨i0, hi0, _, hsz0, _⟩ := info_parts info40
 obtain ⟨vs, hvl, hvs⟩ := list_ex (fun j v => ∃ ad, A = some ad ∧ w.cell? (ad.add j) = some v ∧ ∀ p, l[j]? = some p → ∃ B k, v = .slice B p.length k ∧ p.length ≤ k ∧ RdB w B p.length p) n (fun j hj => by
  obtain ⟨ad, hA, hc2⟩ := h3 (by omega)
  obtain ⟨cs, hcl, ⟨B, k, rfl, hk, hB⟩, hcell⟩ := hc2 j (l[j]) (List.getElem?_eq_getElem (by omega))
  have := hcell 0 _ rfl
  rw [show (Kd.slice 5 (Kd.int .u8)).sz = 1 from rfl, Nat.mul_one, Nat.add_zero] at this
  refine ⟨_, ad, hA, this, fun p hp => ?_⟩
  rw [List.getElem?_eq_getElem (by omega)] at hp
  obtain rfl := Option.some.inj hp
  exact ⟨B, k, rfl, hk, hB⟩)
 subst hvl
 obtain ⟨A', hcut, hA, hC'⟩ := print_drop_of (P := Try.prog) (fun v : Value => v) undef 53 40 .i64 Try.underlying53 hi0 hsz0 A c vs (m : Int) (by omega) (by omega) hc
 simp only [Int.toNat_natCast, List.length_drop] at hcut hA hC'
 have hR := hA w ⟨rfl, by omega, fun h0 => by
  obtain ⟨ad, hAd, _⟩ := h3 h0
  refine ⟨ad, hAd, fun j hj => ?_⟩
  obtain ⟨ad2, hAd2, hcell, _⟩ := hvs j _ (List.getElem?_eq_getElem hj)
  obtain rfl := Option.some.inj (hAd.symm.trans hAd2)
  rw [hcell, List.getD_eq_getElem?_getD, List.getElem?_eq_getElem hj]
  rfl⟩
 refine ⟨A', hcut, ⟨by rw [List.length_drop, hl], by omega, fun h0 => ?_⟩⟩
 obtain ⟨_, _, hR3⟩ := hR
 obtain ⟨ad, hAd, hcells⟩ := hR3 h0
 refine ⟨ad, hAd, fun j p hj => ?_⟩
 rw [List.getElem?_drop] at hj
 have hjl : m + j < vs.length := by
  have := (List.getElem?_eq_some_iff.1 hj).1
  omega
 obtain ⟨_, _, _, hp⟩ := hvs (m + j) _ (List.getElem?_eq_getElem hjl)
 obtain ⟨B, k, hv, hk, hB⟩ := hp p hj
 have hcell := hcells j (by omega)
 rw [List.getD_eq_getElem?_getD, List.getElem?_drop, List.getElem?_eq_getElem hjl, Option.getD_some, hv] at hcell
 refine ⟨[.slice B p.length k], rfl, ⟨B, k, rfl, hk, hB⟩, fun i u hi => ?_⟩
 have hi0' : i = 0 := by
  have := (List.getElem?_eq_some_iff.1 hi).1
  simp at this
  exact this
 subst hi0'
 obtain rfl := Option.some.inj hi
 rw [show (Kd.slice 5 (Kd.int .u8)).sz = 1 from rfl, Nat.mul_one, Nat.add_zero]
 exact hcell
end
section
open Go.RowKit Go.Proofs.YtchaegfdcdlfaaaW.PrintWords Go.Proofs.YtchaegfdcdlfaaaW.PrintLast Go.Proofs.YtchaegfdcdlfaaaW.PrintMore
open Go.Proofs.Ytchaegfdcdlfaaa.Y (Bytes RdB put put_length bytesOf_bytes)
attribute [local go_sem] max2_int min2_int max_two min_two max_three min_three max_four min_four
def CgQ (w : World) (r : PlanT × Int) (e : Ending) (w' : World) : Prop :=
 (∃ A c, e = .returned (.tuple #[.agg (planC r.1 A c).toArray, .int .i64 r.2]) ∧ r.1.b.length ≤ c ∧ Kd.C batK w' A r.1.b.length r.1.b) ∧ Below w.heap.size w w'
theorem info92 : (Try.prog.info? 92).map (fun i => (i.zero, i.size, i.bytes)) = some (some (.slice none 0 0), 1, 24) := by kernel_rfl
theorem zeroOp2 : (Try.prog.info? 98).map (fun i => (i.zero, i.size)) = some (some (.agg Try.zeroCells98), 71) := by kernel_rfl
theorem zeroPlan : (Try.prog.info? 81).map (·.zero) = some (some (.agg #[.int .u8 0, .int .u8 0, .int .u8 0, .int .u8 0, .int .u8 0, .int .u8 0, .int .u8 0, .int .u8 0, .int .u8 0, .int .u8 0, .int .u8 0, .int .u8 0, .int .u8 0, .int .u8 0, .int .u8 0, .int .u8 0, .int .u8 0, .int .u8 0, .int .u8 0, .int .u8 0, .int .u8 0, .int .u8 0, .int .u8 0, .int .u8 0, .int .u8 0, .int .u8 0, .int .u8 0, .int .u8 0, .int .u8 0, .int .u8 0, .int .u8 0, .int .u8 0, .slice none 0 0])) := by kernel_rfl
theorem built_pl0 : Try.prog.built 81 [] = some (planC zPl none 0).toArray := by kernel_rfl
theorem built_pl (d : List Int) (hd : d.length = 32) : Try.prog.built 81 [(0, .agg (cells8 d))] = some (planC ⟨d, []⟩ none 0).toArray := by
 obtain ⟨i, hi, hz0⟩ := Option.map_eq_some_iff.1 zeroPlan
 unfold Program.built
 have e0 : (Try.prog.info? 28).map (·.size) = some 32 := by kernel_rfl
 have e1 : (Try.prog.info? 79).map (·.size) = some 1 := by kernel_rfl
 obtain ⟨i0, hi0, hs0⟩ := Option.map_eq_some_iff.1 e0
 obtain ⟨i1, hi1, hs1⟩ := Option.map_eq_some_iff.1 e1
 rw [hi, Try.underlying81]
 simp only [hz0, List.mapM_cons, List.mapM_nil, hi0, hi1, Option.map_some, hs0, hs1, Option.pure_def, Option.bind_eq_bind, Option.bind_some]
 have := fill_some (([(0, 32), (32, 1)] : List (Nat × Nat)).toArray[·]?) [(0, .agg (cells8 d))] 0 #[.int .u8 0, .int .u8 0, .int .u8 0, .int .u8 0, .int .u8 0, .int .u8 0, .int .u8 0, .int .u8 0, .int .u8 0, .int .u8 0, .int .u8 0, .int .u8 0, .int .u8 0, .int .u8 0, .int .u8 0, .int .u8 0, .int .u8 0, .int .u8 0, .int .u8 0, .int .u8 0, .int .u8 0, .int .u8 0, .int .u8 0, .int .u8 0, .int .u8 0, .int .u8 0, .int .u8 0, .int .u8 0, .int .u8 0, .int .u8 0, .int .u8 0, .int .u8 0, .slice none 0 0] ⟨by simp [Value.cells, cells8, hd], trivial⟩ (by simp [partsL, Value.cells, cells8, hd])
 rw [show (Value.agg #[.int .u8 0, .int .u8 0, .int .u8 0, .int .u8 0, .int .u8 0, .int .u8 0, .int .u8 0, .int .u8 0, .int .u8 0, .int .u8 0, .int .u8 0, .int .u8 0, .int .u8 0, .int .u8 0, .int .u8 0, .int .u8 0, .int .u8 0, .int .u8 0, .int .u8 0, .int .u8 0, .int .u8 0, .int .u8 0, .int .u8 0, .int .u8 0, .int .u8 0, .int .u8 0, .int .u8 0, .int .u8 0, .int .u8 0, .int .u8 0, .int .u8 0, .int .u8 0, .slice none 0 0]).cells = #[.int .u8 0, .int .u8 0, .int .u8 0, .int .u8 0, .int .u8 0, .int .u8 0, .int .u8 0, .int .u8 0, .int .u8 0, .int .u8 0, .int .u8 0, .int .u8 0, .int .u8 0, .int .u8 0, .int .u8 0, .int .u8 0, .int .u8 0, .int .u8 0, .int .u8 0, .int .u8 0, .int .u8 0, .int .u8 0, .int .u8 0, .int .u8 0, .int .u8 0, .int .u8 0, .int .u8 0, .int .u8 0, .int .u8 0, .int .u8 0, .int .u8 0, .int .u8 0, .slice none 0 0] from rfl]
 rw [this]
 simp [partsL, Value.cells, cells8, hd, planC, nums]
theorem planC_one (p : PlanT) (A : Option Addr) (c : Nat) : (planC p A c).toArray.all (·.oneCell') = true := by
 rw [Array.all_eq_true_iff_forall_mem]
 intro v hv
 simp only [planC, List.mem_toArray, List.mem_append, nums, List.mem_map, List.mem_singleton] at hv
 rcases hv with ⟨q, _, rfl⟩ | rfl <;> rfl
theorem planC_size {p : PlanT} (h : p.base.length = 32) (A : Option Addr) (c : Nat) : (planC p A c).toArray.size = 33 := by
 rw [List.size_toArray]
 simp [planC, nums, h]
theorem row_at {W : World} {A : Option Addr} {n : Nat} {l : List (List Int)} (h : Kd.C (Kd.slice 5 (Kd.int .u8)) W A n l) {i : Nat} (hi : i < n) (x : List Int) (hx : l.getD i [] = x) :
  ∃ ad B c, A = some ad ∧ x.length ≤ c ∧ RdB W B x.length x ∧ W.cell? (ad.add i) = some (.slice B x.length c) := by
 obtain ⟨ad, cs, hA, hcl, hk, hcell⟩ := Kd.C_get h [] (i : Int) (by omega) (by omega)
 rw [Int.toNat_natCast, hx] at hk
 rw [Int.toNat_natCast] at hcell
 obtain ⟨B, c, rfl, hc, hC⟩ := hk
 have := hcell 0 _ rfl
 rw [show (Kd.slice 5 (Kd.int .u8)).sz = 1 from rfl, Nat.mul_one, Nat.add_zero] at this
 exact ⟨ad, B, c, hA, hc, hC, this⟩
set_option maxHeartbeats 4000000 in
theorem getp_err (A : Option Addr) (c : Nat) (l : List Int) (w : World) (hr : RdB w A l.length l) (hc : l.length ≤ c) (hb : Bytes l) (hl : l.length ≤ 1000000) (he : (secs l).2 ≠ 0) :
  Calls Try.prog 72 #[.slice A l.length c] w (CgQ w (getPl l)) := by
 have HG : Aside0 (getPl l = (zPl, (secs l).2)) := ⟨if_pos he⟩
 have HSC := am (secs_call A c l (w.alloc (.cells #[.int .u8 0, .int .u8 0, .int .u8 0, .int .u8 0, .int .u8 0, .int .u8 0, .int .u8 0, .int .u8 0, .int .u8 0, .int .u8 0, .int .u8 0, .int .u8 0, .int .u8 0, .int .u8 0, .int .u8 0, .int .u8 0, .int .u8 0, .int .u8 0, .int .u8 0, .int .u8 0, .int .u8 0, .int .u8 0, .int .u8 0, .int .u8 0, .int .u8 0, .int .u8 0, .int .u8 0, .int .u8 0, .int .u8 0, .int .u8 0, .int .u8 0, .int .u8 0, .slice none 0 0] 81)) (Y.rdb_below hr (below_alloc (Below.refl _ _) _)) hc hb hl)
 obtain ⟨k, hk⟩ : ∃ k, (secs l).2 = k := ⟨_, rfl⟩
 rw [hk] at HG HSC he
 have HZ0 := am (blk_new w (.cells #[.int .u8 0, .int .u8 0, .int .u8 0, .int .u8 0, .int .u8 0, .int .u8 0, .int .u8 0, .int .u8 0, .int .u8 0, .int .u8 0, .int .u8 0, .int .u8 0, .int .u8 0, .int .u8 0, .int .u8 0, .int .u8 0, .int .u8 0, .int .u8 0, .int .u8 0, .int .u8 0, .int .u8 0, .int .u8 0, .int .u8 0, .int .u8 0, .int .u8 0, .int .u8 0, .int .u8 0, .int .u8 0, .int .u8 0, .int .u8 0, .int .u8 0, .int .u8 0, .slice none 0 0] 81))
 have e1 : (k != 0) = true := by simpa using he
 have e2 : (k == 0) = false := by simpa using he
 obtain ⟨zs, hzs⟩ : ∃ zs, (planC zPl none 0).toArray = zs := ⟨_, rfl⟩
 have HZS := am hzs
 have hbz := built_pl0
 rw [hzs] at hbz
 have HBZ := am hbz
 have hzz : zs.size = 33 := by rw [← hzs]; exact planC_size rfl none 0
 have HZ1 : Aside0 (zs.all (·.oneCell') = true) := ⟨by rw [← hzs]; exact planC_one _ _ _⟩
 rw [HG.out]
 clear hr hc hb hl he hk hzs hbz
 go_enter Try.func72, Try.ntmps72
 go_wp2_with fail
 refine HSC.out.mono ?_
 rintro e_ w1 ⟨⟨A1, c1, rfl, _, _⟩, hb1⟩
 have HZ := am (blk_below HZ0.out hb1)
 have HB1 := am (below_step (below_alloc (Below.refl w.heap.size w) (.cells #[.int .u8 0, .int .u8 0, .int .u8 0, .int .u8 0, .int .u8 0, .int .u8 0, .int .u8 0, .int .u8 0, .int .u8 0, .int .u8 0, .int .u8 0, .int .u8 0, .int .u8 0, .int .u8 0, .int .u8 0, .int .u8 0, .int .u8 0, .int .u8 0, .int .u8 0, .int .u8 0, .int .u8 0, .int .u8 0, .int .u8 0, .int .u8 0, .int .u8 0, .int .u8 0, .int .u8 0, .int .u8 0, .int .u8 0, .int .u8 0, .int .u8 0, .int .u8 0, .slice none 0 0] 81)) hb1)
 have hst := storeA (cs := zs) HZ.out (by rw [hzz]; rfl) HZ1.out
 clear hb1
 go_wp2_with (first
  | ((with_reducible refine gate_dst (N := 22) rfl ?_); refine wpList_build_cells rfl 81 _ rfl zs ?hb ?_; case hb => (simp only [List.map_toArray, List.map_nil]; exact HBZ.out))
  | fail)
 refine bodyPost_ret (v := .tuple #[.agg zs, .int .i64 k]) ?_ rfl ⟨⟨none, 0, by rw [← HZS.out], Nat.le_refl _, ⟨rfl, by show (0 : Nat) ≤ 9223372036854775807; decide, fun h => absurd h (by show ¬ (0 < 0); decide)⟩⟩, below_row HB1.out (Nat.le_refl _)⟩
 exact results_ct (P := Try.prog) Try.results72 _ _ w.heap.size 81 zs (0, 0) _ rfl (setRow_heap _ _ _ _ _ _ HZ.out) Try.underlying81 rfl (by rw [hzz]; exact infoPlan)
theorem secs_pos {l : List Int} (hl : 0 < l.length ∨ True) (h : (secs l).2 = 0) : 0 < (secs l).1.length := by
 unfold secs sectL at h ⊢
 rw [if_pos (.inl rfl)] at h ⊢
 by_cases h0 : (openL l).2.2.2 ≠ 0
 ·rw [if_pos h0] at h
  exact absurd h h0
 ·rw [if_neg h0] at h ⊢
  by_cases h1 : (openL l).1 ≠ (if ([] : List (List Int)).length = 0 then 2 else 3)
  ·rw [if_pos h1] at h
   cases h
  ·rw [if_neg h1] at h ⊢
   have grow : ∀ (k : Nat) (acc : List (List Int)) (b : List Int), 0 < acc.length → (sectL k acc b).2 = 0 → 0 < (sectL k acc b).1.length := by
    intro k
    induction k with
    | zero => intro acc b ha _; exact ha
    | succ k ih =>
     intro acc b ha h2
     unfold sectL at h2 ⊢
     by_cases c0 : acc.length = 0 ∨ 0 < b.length
     ·rw [if_pos c0] at h2 ⊢
      by_cases c1 : (openL b).2.2.2 ≠ 0
      ·rw [if_pos c1] at h2
       exact absurd h2 c1
      ·rw [if_neg c1] at h2 ⊢
       by_cases c2 : (openL b).1 ≠ (if acc.length = 0 then 2 else 3)
       ·rw [if_pos c2] at h2
        cases h2
       ·rw [if_neg c2] at h2 ⊢
        exact ih _ _ (by simp) h2
     ·rw [if_neg c0] at h2 ⊢
      exact ha
   exact grow _ _ _ (by simp) h
theorem sect_few : ∀ (k : Nat) (acc : List (List Int)) (b : List Int), Bytes b → b.length ≤ 1000000 → (sectL k acc b).1.length ≤ acc.length + b.length
 | 0, acc, b, _, _ => by show acc.length ≤ _; omega
 | k + 1, acc, b, hb, hl => by
  unfold sectL
  by_cases c0 : acc.length = 0 ∨ 0 < b.length
  ·rw [if_pos c0]
   by_cases c1 : (openL b).2.2.2 ≠ 0
   ·rw [if_pos c1]; exact Nat.zero_le _
   ·rw [if_neg c1]
    by_cases c2 : (openL b).1 ≠ (if acc.length = 0 then 2 else 3)
    ·rw [if_pos c2]; exact Nat.zero_le _
    ·rw [if_neg c2]
     obtain ⟨u, hu, hul, hu6⟩ := open_used hb hl (by simpa using c1)
     have := sect_few k (acc ++ [(openL b).2.1]) (b.drop (openL b).2.2.1.toNat) (by_drop hb _) (by rw [List.length_drop]; omega)
     rw [hu, Int.toNat_natCast, List.length_append, List.length_drop] at this
     simp only [List.length_cons, List.length_nil] at this
     rw [hu, Int.toNat_natCast]
     omega
  ·rw [if_neg c0]
   show acc.length ≤ _
   omega
theorem secs_few {b : List Int} (hb : Bytes b) (hl : b.length ≤ 1000000) : (secs b).1.length ≤ 1000000 := by
 have := sect_few (b.length + 1) [] b hb hl
 unfold secs
 simp only [List.length_nil] at this
 omega
def GpFin (A : Option Addr) (c n : Nat) (w w1 w2 : World) (ad1 : Addr) (ns c1 : Nat) (base : List Int) (d : List ByteArray) (s : Rd) (b : Bool) (a : Act) (W : World) : Prop :=
 ∃ (u : Nat → Value) (Ad : Option Addr) (cd : Nat), a = ⟨#[.slice A n c, u 1, .pointer (some ⟨w.heap.size, 0, none⟩), .int .i64 0, .slice (some ad1) ns c1, u 5, .pointer (some ⟨w1.heap.size, 0, none⟩), .pointer (some ⟨w2.heap.size, 0, none⟩), u 8, .func (.func 125) #[.pointer (some ⟨w1.heap.size, 0, none⟩)] #[], u 10, u 11, u 12, u 13, u 14, u 15, u 16, u 17, u 18, u 19, u 20, u 21, u 22, u 23, u 24, u 25, u 26, u 27, u 28, u 29, u 30, u 31, u 32, u 33, u 34, u 35, u 36, u 37, u 38, u 39, u 40, u 41, u 42, u 43, u 44, u 45, u 46, u 47, u 48, u 49, u 50, u 51, u 52, u 53, u 54, u 55, u 56, u 57, u 58, u 59, u 60, u 61, u 62, u 63, u 64, u 65, u 66, u 67, u 68, u 69, u 70, u 71, u 72, u 73, u 74, u 75, u 76, u 77, u 78, u 79, u 80, u 81, u 82, u 83, u 84, u 85, u 86, u 87, u 88, u 89, u 90, u 91, u 92, u 93, u 94, u 95, u 96, u 97, u 98, u 99, u 100, u 101, u 102, u 103, u 104, u 105, u 106, u 107, u 108, u 109, u 110, u 111, u 112, u 113, u 114, u 115, u 116, u 117, u 118, u 119, u 120, u 121, u 122, u 123, u 124, u 125, u 126, u 127, u 128, u 129, u 130, u 131, u 132, u 133, u 134, u 135, u 136, u 137, u 138, u 139, u 140], []⟩ ∧ GtSt w1 W w1.heap.size w2.heap.size base Ad cd d none 0 [] ⟨s.b, b⟩
theorem GpFin.mk {A : Option Addr} {c n : Nat} {w w1 w2 : World} {ad1 : Addr} {ns c1 : Nat} {base : List Int} {d : List ByteArray} {s : Rd} {b : Bool} (a : Act) (W : World) (Ad : Option Addr) (cd : Nat) (h : GtSt w1 W w1.heap.size w2.heap.size base Ad cd d none 0 [] ⟨s.b, b⟩) (he : a = ⟨#[.slice A n c, a.tmps.getD 1 undef, .pointer (some ⟨w.heap.size, 0, none⟩), .int .i64 0, .slice (some ad1) ns c1, a.tmps.getD 5 undef, .pointer (some ⟨w1.heap.size, 0, none⟩), .pointer (some ⟨w2.heap.size, 0, none⟩), a.tmps.getD 8 undef, .func (.func 125) #[.pointer (some ⟨w1.heap.size, 0, none⟩)] #[], a.tmps.getD 10 undef, a.tmps.getD 11 undef, a.tmps.getD 12 undef, a.tmps.getD 13 undef, a.tmps.getD 14 undef, a.tmps.getD 15 undef, a.tmps.getD 16 undef, a.tmps.getD 17 undef, a.tmps.getD 18 undef, a.tmps.getD 19 undef, a.tmps.getD 20 undef, a.tmps.getD 21 undef, a.tmps.getD 22 undef, a.tmps.getD 23 undef, a.tmps.getD 24 undef, a.tmps.getD 25 undef, a.tmps.getD 26 undef, a.tmps.getD 27 undef, a.tmps.getD 28 undef, a.tmps.getD 29 undef, a.tmps.getD 30 undef, a.tmps.getD 31 undef, a.tmps.getD 32 undef, a.tmps.getD 33 undef, a.tmps.getD 34 undef, a.tmps.getD 35 undef, a.tmps.getD 36 undef, a.tmps.getD 37 undef, a.tmps.getD 38 undef, a.tmps.getD 39 undef, a.tmps.getD 40 undef, a.tmps.getD 41 undef, a.tmps.getD 42 undef, a.tmps.getD 43 undef, a.tmps.getD 44 undef, a.tmps.getD 45 undef, a.tmps.getD 46 undef, a.tmps.getD 47 undef, a.tmps.getD 48 undef, a.tmps.getD 49 undef, a.tmps.getD 50 undef, a.tmps.getD 51 undef, a.tmps.getD 52 undef, a.tmps.getD 53 undef, a.tmps.getD 54 undef, a.tmps.getD 55 undef, a.tmps.getD 56 undef, a.tmps.getD 57 undef, a.tmps.getD 58 undef, a.tmps.getD 59 undef, a.tmps.getD 60 undef, a.tmps.getD 61 undef, a.tmps.getD 62 undef, a.tmps.getD 63 undef, a.tmps.getD 64 undef, a.tmps.getD 65 undef, a.tmps.getD 66 undef, a.tmps.getD 67 undef, a.tmps.getD 68 undef, a.tmps.getD 69 undef, a.tmps.getD 70 undef, a.tmps.getD 71 undef, a.tmps.getD 72 undef, a.tmps.getD 73 undef, a.tmps.getD 74 undef, a.tmps.getD 75 undef, a.tmps.getD 76 undef, a.tmps.getD 77 undef, a.tmps.getD 78 undef, a.tmps.getD 79 undef, a.tmps.getD 80 undef, a.tmps.getD 81 undef, a.tmps.getD 82 undef, a.tmps.getD 83 undef, a.tmps.getD 84 undef, a.tmps.getD 85 undef, a.tmps.getD 86 undef, a.tmps.getD 87 undef, a.tmps.getD 88 undef, a.tmps.getD 89 undef, a.tmps.getD 90 undef, a.tmps.getD 91 undef, a.tmps.getD 92 undef, a.tmps.getD 93 undef, a.tmps.getD 94 undef, a.tmps.getD 95 undef, a.tmps.getD 96 undef, a.tmps.getD 97 undef, a.tmps.getD 98 undef, a.tmps.getD 99 undef, a.tmps.getD 100 undef, a.tmps.getD 101 undef, a.tmps.getD 102 undef, a.tmps.getD 103 undef, a.tmps.getD 104 undef, a.tmps.getD 105 undef, a.tmps.getD 106 undef, a.tmps.getD 107 undef, a.tmps.getD 108 undef, a.tmps.getD 109 undef, a.tmps.getD 110 undef, a.tmps.getD 111 undef, a.tmps.getD 112 undef, a.tmps.getD 113 undef, a.tmps.getD 114 undef, a.tmps.getD 115 undef, a.tmps.getD 116 undef, a.tmps.getD 117 undef, a.tmps.getD 118 undef, a.tmps.getD 119 undef, a.tmps.getD 120 undef, a.tmps.getD 121 undef, a.tmps.getD 122 undef, a.tmps.getD 123 undef, a.tmps.getD 124 undef, a.tmps.getD 125 undef, a.tmps.getD 126 undef, a.tmps.getD 127 undef, a.tmps.getD 128 undef, a.tmps.getD 129 undef, a.tmps.getD 130 undef, a.tmps.getD 131 undef, a.tmps.getD 132 undef, a.tmps.getD 133 undef, a.tmps.getD 134 undef, a.tmps.getD 135 undef, a.tmps.getD 136 undef, a.tmps.getD 137 undef, a.tmps.getD 138 undef, a.tmps.getD 139 undef, a.tmps.getD 140 undef], []⟩) : GpFin A c n w w1 w2 ad1 ns c1 base d s b a W :=
 ⟨fun k => a.tmps.getD k undef, Ad, cd, he, h⟩
set_option maxHeartbeats 16000000 in
theorem getp_ok (A : Option Addr) (c : Nat) (l : List Int) (w : World) (hr : RdB w A l.length l) (hc : l.length ≤ c) (hb : Bytes l) (hl : l.length ≤ 1000000) (he : (secs l).2 = 0) :
  Calls Try.prog 72 #[.slice A l.length c] w (CgQ w (getPl l)) := by
 have hpos := secs_pos (.inr trivial) he
 have hsb := secs_byt hb hl
 have hsafe := rdPl_safe hsb
 have HG : Aside0 (getPl l = if (rdPl (secs l).1).2 = true ∨ (putPl (rdPl (secs l).1).1).2 ≠ 0 ∨ (putPl (rdPl (secs l).1).1).1 ≠ l then (zPl, 2) else ((rdPl (secs l).1).1, 0)) := ⟨by unfold getPl; rw [if_neg (by rw [he]; simp)]⟩
 have hsc := secs_call A c l (w.alloc (.cells #[.int .u8 0, .int .u8 0, .int .u8 0, .int .u8 0, .int .u8 0, .int .u8 0, .int .u8 0, .int .u8 0, .int .u8 0, .int .u8 0, .int .u8 0, .int .u8 0, .int .u8 0, .int .u8 0, .int .u8 0, .int .u8 0, .int .u8 0, .int .u8 0, .int .u8 0, .int .u8 0, .int .u8 0, .int .u8 0, .int .u8 0, .int .u8 0, .int .u8 0, .int .u8 0, .int .u8 0, .int .u8 0, .int .u8 0, .int .u8 0, .int .u8 0, .int .u8 0, .slice none 0 0] 81)) (Y.rdb_below hr (below_alloc (Below.refl _ _) _)) hc hb hl
 rw [he] at hsc
 have HSC := am hsc
 obtain ⟨ss, hss⟩ : ∃ ss, (secs l).1 = ss := ⟨_, rfl⟩
 rw [hss] at HG HSC hpos hsb hsafe
 obtain ⟨h0, bs, rfl⟩ : ∃ h0 bs, ss = h0 :: bs := by
  cases ss with
  | nil => exact absurd hpos (by decide)
  | cons a t => exact ⟨a, t, rfl⟩
 obtain ⟨ns, hns⟩ : ∃ ns, (h0 :: bs).length = ns := ⟨_, rfl⟩
 have HNS : Aside0 (ns = bs.length + 1) := ⟨by rw [← hns]; rfl⟩
 rw [hns] at HSC
 have HBL := am (secs_few hb hl)
 rw [hss] at HBL
 clear hns
 have HSB := am hsb
 have HSAFE := am hsafe
 have HR := am hr
 have HC := am hc
 have HBY := am hb
 have HLL := am hl
 have HZ0 := am (blk_new w (.cells #[.int .u8 0, .int .u8 0, .int .u8 0, .int .u8 0, .int .u8 0, .int .u8 0, .int .u8 0, .int .u8 0, .int .u8 0, .int .u8 0, .int .u8 0, .int .u8 0, .int .u8 0, .int .u8 0, .int .u8 0, .int .u8 0, .int .u8 0, .int .u8 0, .int .u8 0, .int .u8 0, .int .u8 0, .int .u8 0, .int .u8 0, .int .u8 0, .int .u8 0, .int .u8 0, .int .u8 0, .int .u8 0, .int .u8 0, .int .u8 0, .int .u8 0, .int .u8 0, .slice none 0 0] 81))
 clear hpos hsb hsafe hsc hss hr hc hb hl he
 go_enter Try.func72, Try.ntmps72
 go_wp2_with fail
 refine HSC.out.mono ?_
 rintro e_ w1 ⟨⟨A1, c1_, rfl, hc1, hC1⟩, hb1⟩
 have HZ := am (blk_below HZ0.out hb1)
 have HB1 := am (below_step (below_alloc (Below.refl w.heap.size w) (.cells #[.int .u8 0, .int .u8 0, .int .u8 0, .int .u8 0, .int .u8 0, .int .u8 0, .int .u8 0, .int .u8 0, .int .u8 0, .int .u8 0, .int .u8 0, .int .u8 0, .int .u8 0, .int .u8 0, .int .u8 0, .int .u8 0, .int .u8 0, .int .u8 0, .int .u8 0, .int .u8 0, .int .u8 0, .int .u8 0, .int .u8 0, .int .u8 0, .int .u8 0, .int .u8 0, .int .u8 0, .int .u8 0, .int .u8 0, .int .u8 0, .int .u8 0, .int .u8 0, .slice none 0 0] 81)) hb1)
 have HC1 := am (And.intro hc1 hC1)
 obtain ⟨ad1, B0, cb0, hA1, hcb0, hrB0, x0⟩ := row_at hC1 (i := 0) (by have := HNS.out; omega) h0 rfl
 subst hA1
 rw [show ad1.add 0 = ad1 by simp [Addr.add]] at x0
 have HRD : Aside0 (CdSt (.slice none 0 0) w1 (w1.alloc (.cells #[.slice B0 h0.length cb0, .slice none 0 0, .bool false] 174)) w1.heap.size ⟨h0, false⟩) := ⟨⟨Nat.le_refl _, ⟨B0, cb0, blk_new w1 _, hcb0, hrB0⟩, (HSB.out h0 (by simp)).1, by have := (HSB.out h0 (by simp)).2; show h0.length ≤ 1000000; omega, below_alloc (Below.refl _ _) _⟩⟩
 have e1 : ((0 : Int) < (ns : Int)) = True := eq_true (by have := HNS.out; omega)
 have e2 : (0 < ns) = True := eq_true (by have := HNS.out; omega)
 clear hc1 hC1 hb1 hcb0 hrB0
 go_wp2_with fail
 refine (cskip_call _ w1 _ w1.heap.size ⟨h0, false⟩ 32 true HRD.out (by decide)).mono ?_
 rintro e_ w2 ⟨⟨A2, c2, rfl, hc2, hr2⟩, hst2, hg2⟩
 obtain ⟨base, hbase⟩ : ∃ base, (takeR 32 (⟨h0, false⟩ : Rd)).1 = base := ⟨_, rfl⟩
 obtain ⟨s1, hs1⟩ : ∃ s1, (takeR 32 (⟨h0, false⟩ : Rd)).2 = s1 := ⟨_, rfl⟩
 have HTK : Aside0 (takeR 32 ⟨h0, false⟩ = (base, s1)) := ⟨by rw [← hbase, ← hs1]⟩
 have HTK1 : Aside0 (skipR ⟨h0, false⟩ 32 true = (base, s1)) := ⟨HTK.out⟩
 have HB32 : Aside0 (base.length = 32) := ⟨by rw [← hbase]; exact skipR_len _ _ _⟩
 rw [HTK1.out] at hst2 hr2
 obtain ⟨ad2, hA2, hat⟩ := rdb_at hr2 (by decide)
 subst hA2
 have HAT := am hat
 have har := fun W1 : World => run_arrayAt (P := Try.prog) (w := W1) 28 5 32 (some ad2) 32 c2 Try.underlying28 (by decide)
 have hz32 : (cells8 base).size = 32 := by rw [cells8_size, HB32.out]
 have HBU := am (built_pl base HB32.out)
 obtain ⟨ps, hps⟩ : ∃ ps, (planC ⟨base, []⟩ none 0).toArray = ps := ⟨_, rfl⟩
 rw [hps] at HBU
 have hpz : ps.size = 33 := by rw [← hps]; exact planC_size HB32.out none 0
 have HP1 : Aside0 (ps.all (·.oneCell') = true) := ⟨by rw [← hps]; exact planC_one _ _ _⟩
 have hsn := store_new w2 #[.int .u8 0, .int .u8 0, .int .u8 0, .int .u8 0, .int .u8 0, .int .u8 0, .int .u8 0, .int .u8 0, .int .u8 0, .int .u8 0, .int .u8 0, .int .u8 0, .int .u8 0, .int .u8 0, .int .u8 0, .int .u8 0, .int .u8 0, .int .u8 0, .int .u8 0, .int .u8 0, .int .u8 0, .int .u8 0, .int .u8 0, .int .u8 0, .int .u8 0, .int .u8 0, .int .u8 0, .int .u8 0, .int .u8 0, .int .u8 0, .int .u8 0, .int .u8 0, .slice none 0 0] ps 81 (by rw [hpz]; rfl) HP1.out
 have H2 : Aside0 (GtSt w1 (w2.alloc (.cells ps 81)) w1.heap.size w2.heap.size base none 0 [] none 0 [] s1) := ⟨by
  have hlt := blk_lt (CdSt.blk hst2).choose_spec
  exact ⟨hst2.below (below_alloc (Below.refl _ _) _), Kd.R_nil _ _ _ _ _, by rw [hps]; exact blk_new w2 _, Kd.R_nil _ _ _ _ _, by omega, by omega, HB32.out⟩⟩
 have hmf : ∀ (fn : Fn) (first cap : Array Value) (w : World), (Instr.makeFunc fn first cap).run Try.prog w = .ok (.func fn first cap) w := fun _ _ _ _ => rfl
 have HPLT : Aside0 (w1.heap.size < w2.heap.size) := ⟨blk_lt (CdSt.blk hst2).choose_spec⟩
 clear hst2 hg2 hc2 hr2 hbase hs1 hat hps x0 e1 e2
 go_wp2_with (first
  | ((with_reducible refine gate_dst (N := 32) rfl ?_); refine wpList_load_cells rfl 28 (.tmp 31) rfl ad2 rfl (cells8 base) _ HAT.out Try.underlying28 rfl (by rw [hz32]; kernel_rfl) ?_)
  | ((with_reducible refine gate_dst (N := 33) rfl ?_); refine wpList_build_cells rfl 81 _ rfl ps ?hb ?_; case hb => (simp only [List.map_toArray, List.map_cons, List.map_nil]; exact HBU.out))
  | fail)
 refine (cnum_call _ w1 _ w1.heap.size s1 16 H2.out.rd (by decide) (by decide)).mono ?_
 rintro e_ w3 ⟨rfl, hst3, hg3⟩
 have hrg := numR_range 16 (by decide) s1 H2.out.rd.byt H2.out.rd.len
 obtain ⟨kk, hkk⟩ : ∃ kk : Nat, (numR 16 s1).1 = (kk : Int) := ⟨(numR 16 s1).1.toNat, by omega⟩
 have HKK : Aside0 (kk ≤ 16) := ⟨by omega⟩
 obtain ⟨s2, hs2⟩ : ∃ s2, (numR 16 s1).2 = s2 := ⟨_, rfl⟩
 have HNM : Aside0 (numR 16 s1 = ((kk : Int), s2)) := ⟨by rw [← hkk, ← hs2]⟩
 rw [hs2] at hst3
 rw [hkk]
 have H3 := am (H2.out.read hst3 hg3)
 clear hst3 hg3 hrg hkk hs2 hsn har
 go_wp2_with fail
 go_loopg [40] kk (fun kq v40 W => ∃ (i : Nat) (Ad : Option Addr) (cd : Nat), v40 = .int .i64 i ∧ Aside0 (kq + i = kk) ∧ Aside0 (GtSt w1 W w1.heap.size w2.heap.size base Ad cd (itR textR i s2).1 none 0 [] (itR textR i s2).2))
 case atStart => exact ⟨0, none, 0, rfl, ⟨rfl⟩, H3⟩
 case round =>
  clear H3
  obtain ⟨i, Ad, cd, rfl, HK, HT⟩ := hrel
  obtain ⟨wo, rfl⟩ : ∃ wo : World, wo = wr := ⟨_, rfl⟩
  by_cases hi : i < kk
  ·obtain ⟨c0, c1⟩ := ltY hi
   have c2 := wr1 (i := i) (by have := HKK.out; omega)
   have HI := am hi
   have HIT : Aside0 (itR textR (i + 1) s2 = ((itR textR i s2).1 ++ [(textR (itR textR i s2).2).1], (textR (itR textR i s2).2).2)) := ⟨rfl⟩
   have HLI : Aside0 ((itR textR i s2).1.length = i) := ⟨itR_len textR i s2⟩
   obtain ⟨d, hd⟩ : ∃ d, (itR textR i s2).1 = d := ⟨_, rfl⟩
   obtain ⟨s3, hs3⟩ : ∃ s3, (itR textR i s2).2 = s3 := ⟨_, rfl⟩
   rw [hd, hs3] at HT HIT
   rw [hd] at HLI
   obtain ⟨v, hv⟩ : ∃ v, (textR s3).1 = v := ⟨_, rfl⟩
   obtain ⟨s4, hs4⟩ : ∃ s4, (textR s3).2 = s4 := ⟨_, rfl⟩
   have HTX : Aside0 (textR s3 = (v, s4)) := ⟨by rw [← hv, ← hs4]⟩
   rw [HTX.out] at HIT
   dsimp only at HIT
   have HTD := am (HT.out.below (below_drew (Below.refl wo.heap.size wo)))
   clear hi hd hs3 hv hs4
   go_wp2_with fail
   refine wp_region_held_drew (S := (fun _ => True)) (by kernel_rfl) (trivial) (fun hHeld => ?_)
   refine th (i := 0) ?_
   refine th (i := 1) ?_
   refine th (i := 2) ?_
   refine th (i := 3) ?_
   refine th (i := 5) ?_
   refine wpAnyH_ready (rs := [4, 6]) (by kernel_rfl) (by simp) ?_
   refine AllReadyH.cons (by simp only [List.getElem?_toArray, List.getElem?_cons_succ, List.getElem?_cons_zero]; rfl) (fun K hK => ?b9_o_4) (AllReadyH.cons (by simp only [List.getElem?_toArray, List.getElem?_cons_succ, List.getElem?_cons_zero]; rfl) (fun K hK => ?b9_o_6) AllReadyH.nil)
   case' b9_o_4 =>
    rw [if_pos (by rfl)]
    have x1 := HTD.out.rd.cells.choose_spec.choose_spec.2.1
    go_wp2_with fail
    refine hK.out _ _ (trivial) ?_
    clear hK K hHeld
    intro hHeld
    try simp only [sp]
    clear x1
    refine tr (i := 6) (fun K hK => ?_)
    go_wp2_with fail
    refine (cword_call _ w1 _ w1.heap.size s3 HTD.out.rd).mono ?_
    rintro e_ w5 ⟨rfl, hst5, hg5⟩
    refine hK.out _ _ (trivial) ?_
    clear hK K hHeld
    intro hHeld
    try simp only [sp]
    rw [HTX.out] at hst5 ⊢
    dsimp only
    have HT5 := am (HTD.out.read hst5 hg5)
    clear hst5 hg5
    refine tr (i := 7) (fun K hK => ?_)
    go_wp2_with fail
    refine hK.out _ _ (trivial) ?_
    clear hK K hHeld
    intro hHeld
    try simp only [sp]
    refine wpAnyH_ready (rs := [8]) (by kernel_rfl) (by simp) ?_
    refine AllReadyH.cons (by simp only [List.getElem?_toArray, List.getElem?_cons_succ, List.getElem?_cons_zero]; rfl) (fun K hK => ?_) AllReadyH.nil
    refine Kd.R_append_step Kd.string (w0 := w1) w1.heap.size (by rfl) (.tmp 46) (.tmp 49) 90 9 (.string ⟨#[]⟩) 16 rfl Try.underlying90 zeroS3 rfl (by decide) (by decide) (.slice Ad d.length cd) d v [.string v] (fun _ => True) (fun _ => False) (by rfl) (by rfl) rfl (fun _ h => h.elim) (fun _ _ => trivial) HT5.out.drow HT5.out.rd.bel HT5.out.rd.bel.size (by have := HLI.out; have := HI.out; have := HKK.out; omega) ?_
    intro v8 w8 hR8 hB8 hg8 hat8
    obtain ⟨A8, c8, rfl⟩ := Kd.R_slice hR8
    obtain ⟨hT8, y1, z1⟩ := HT5.out.dict hR8 hg8 hB8
    simp only [List.length_append, List.length_cons, List.length_nil, Nat.zero_add] at hT8
    have HT8 := am hT8
    clear hR8 hB8 hg8 hat8 hT8
    refine hK.out _ _ (trivial) ?_
    clear hK K hHeld
    intro hHeld
    try simp only [sp]
    refine th (i := 9) ?_
    refine th (i := 10) ?_
    refine tr (i := 11) (fun K hK => ?_)
    go_wp2_with fail
    refine hK.out _ _ (trivial) ?_
    clear hK K hHeld
    intro hHeld
    try simp only [sp]
    clear y1 z1
    refine td ?_
   case' b9_o_6 =>
    rw [if_pos (by rfl)]
    go_wp2_with fail
    refine (cword_call _ w1 _ w1.heap.size s3 HTD.out.rd).mono ?_
    rintro e_ w5 ⟨rfl, hst5, hg5⟩
    refine hK.out _ _ (trivial) ?_
    clear hK K hHeld
    intro hHeld
    try simp only [sp]
    rw [HTX.out] at hst5 ⊢
    dsimp only
    have HT5 := am (HTD.out.read hst5 hg5)
    clear hst5 hg5
    refine wpAnyH_ready (rs := [4, 7]) (by kernel_rfl) (by simp) ?_
    refine AllReadyH.cons (by simp only [List.getElem?_toArray, List.getElem?_cons_succ, List.getElem?_cons_zero]; rfl) (fun K hK => ?b9_6_4) (AllReadyH.cons (by simp only [List.getElem?_toArray, List.getElem?_cons_succ, List.getElem?_cons_zero]; rfl) (fun K hK => ?b9_6_7) AllReadyH.nil)
    case' b9_6_4 =>
     rw [if_pos (by rfl)]
     have x1 := HT5.out.rd.cells.choose_spec.choose_spec.2.1
     go_wp2_with fail
     refine hK.out _ _ (trivial) ?_
     clear hK K hHeld
     intro hHeld
     try simp only [sp]
     clear x1
     refine tr (i := 7) (fun K hK => ?_)
     go_wp2_with fail
     refine hK.out _ _ (trivial) ?_
     clear hK K hHeld
     intro hHeld
     try simp only [sp]
     refine wpAnyH_ready (rs := [8]) (by kernel_rfl) (by simp) ?_
     refine AllReadyH.cons (by simp only [List.getElem?_toArray, List.getElem?_cons_succ, List.getElem?_cons_zero]; rfl) (fun K hK => ?_) AllReadyH.nil
     refine Kd.R_append_step Kd.string (w0 := w1) w1.heap.size (by rfl) (.tmp 46) (.tmp 49) 90 9 (.string ⟨#[]⟩) 16 rfl Try.underlying90 zeroS3 rfl (by decide) (by decide) (.slice Ad d.length cd) d v [.string v] (fun _ => True) (fun _ => False) (by rfl) (by rfl) rfl (fun _ h => h.elim) (fun _ _ => trivial) HT5.out.drow HT5.out.rd.bel HT5.out.rd.bel.size (by have := HLI.out; have := HI.out; have := HKK.out; omega) ?_
     intro v8 w8 hR8 hB8 hg8 hat8
     obtain ⟨A8, c8, rfl⟩ := Kd.R_slice hR8
     obtain ⟨hT8, y1, z1⟩ := HT5.out.dict hR8 hg8 hB8
     simp only [List.length_append, List.length_cons, List.length_nil, Nat.zero_add] at hT8
     have HT8 := am hT8
     clear hR8 hB8 hg8 hat8 hT8
     refine hK.out _ _ (trivial) ?_
     clear hK K hHeld
     intro hHeld
     try simp only [sp]
     refine th (i := 9) ?_
     refine th (i := 10) ?_
     refine tr (i := 11) (fun K hK => ?_)
     go_wp2_with fail
     refine hK.out _ _ (trivial) ?_
     clear hK K hHeld
     intro hHeld
     try simp only [sp]
     clear y1 z1
     refine td ?_
    case' b9_6_7 =>
     rw [if_pos (by rfl)]
     go_wp2_with fail
     refine hK.out _ _ (trivial) ?_
     clear hK K hHeld
     intro hHeld
     try simp only [sp]
     refine tr (i := 4) (fun K hK => ?_)
     have x1 := (HT5.out.below (below_alloc (Below.refl _ _) (.cells #[.string v] 9))).rd.cells.choose_spec.choose_spec.2.1
     go_wp2_with fail
     refine hK.out _ _ (trivial) ?_
     clear hK K hHeld
     intro hHeld
     try simp only [sp]
     clear x1
     refine wpAnyH_ready (rs := [8]) (by kernel_rfl) (by simp) ?_
     refine AllReadyH.cons (by simp only [List.getElem?_toArray, List.getElem?_cons_succ, List.getElem?_cons_zero]; rfl) (fun K hK => ?_) AllReadyH.nil
     refine Kd.R_append_step Kd.string (w0 := w1) w1.heap.size (by rfl) (.tmp 46) (.tmp 49) 90 9 (.string ⟨#[]⟩) 16 rfl Try.underlying90 zeroS3 rfl (by decide) (by decide) (.slice Ad d.length cd) d v [.string v] (fun _ => True) (fun _ => False) (by rfl) (by rfl) rfl (fun _ h => h.elim) (fun _ _ => trivial) HT5.out.drow HT5.out.rd.bel HT5.out.rd.bel.size (by have := HLI.out; have := HI.out; have := HKK.out; omega) ?_
     intro v8 w8 hR8 hB8 hg8 hat8
     obtain ⟨A8, c8, rfl⟩ := Kd.R_slice hR8
     obtain ⟨hT8, y1, z1⟩ := HT5.out.dict hR8 hg8 hB8
     simp only [List.length_append, List.length_cons, List.length_nil, Nat.zero_add] at hT8
     have HT8 := am hT8
     clear hR8 hB8 hg8 hat8 hT8
     refine hK.out _ _ (trivial) ?_
     clear hK K hHeld
     intro hHeld
     try simp only [sp]
     refine th (i := 9) ?_
     refine th (i := 10) ?_
     refine tr (i := 11) (fun K hK => ?_)
     go_wp2_with fail
     refine hK.out _ _ (trivial) ?_
     clear hK K hHeld
     intro hHeld
     try simp only [sp]
     clear y1 z1
     refine td ?_
   all_goals
    clear hHeld
    go_wp2_with fail
    go_roundg (kk - (i + 1))
    case measure => have := HK.out; have := HI.out; omega
    case rel => exact ⟨i + 1, A8, c8, by first | rfl | (simp [c2]; done), ⟨by have := HI.out; omega⟩, ⟨by rw [HIT.out]; exact HT8.out⟩⟩
  ·obtain ⟨c0, c1⟩ := ltN hi
   have hik : i = kk := by have := HK.out; omega
   subst hik
   obtain ⟨d, hd⟩ : ∃ d, (itR textR i s2).1 = d := ⟨_, rfl⟩
   obtain ⟨s3, hs3⟩ : ∃ s3, (itR textR i s2).2 = s3 := ⟨_, rfl⟩
   have HD16 : Aside0 (d.length ≤ 16) := ⟨by rw [← hd, itR_len]; exact HKK.out⟩
   have HIT : Aside0 (itR textR i s2 = (d, s3)) := ⟨by rw [← hd, ← hs3]⟩
   have HDS : Aside0 (∀ v ∈ d, v.size ≤ 200) := ⟨by
    rw [← hd]
    have b1 := num_byt (m := 16) H2.out.rd.byt H2.out.rd.len
    rw [HNM.out] at b1
    exact texts_safe i b1.1 b1.2⟩
   rw [hd, hs3] at HT
   obtain ⟨mm, hmm⟩ : ∃ mm, (numR 16 s3).1 = mm := ⟨_, rfl⟩
   obtain ⟨s4, hs4⟩ : ∃ s4, (numR 16 s3).2 = s4 := ⟨_, rfl⟩
   have HMM : Aside0 (numR 16 s3 = (mm, s4)) := ⟨by rw [← hmm, ← hs4]⟩
   have HRDH : Aside0 (∀ bad0, (decide (mm ≠ (bs.length : Int)) || (decide (0 < s4.b.length) || s4.bad)) = bad0 → rdPl (h0 :: bs) = (⟨base, (bodsR d bs bad0 bs.length).1⟩, (bodsR d bs bad0 bs.length).2)) := ⟨fun bad0 hb0 => by
    show rdH h0 bs = _
    unfold rdH
    rw [HTK.out]
    dsimp only
    rw [HNM.out]
    dsimp only
    rw [Int.toNat_natCast, HIT.out]
    dsimp only
    rw [HMM.out]
    dsimp only
    rw [hb0]⟩
   clear hi hd hs3 hmm hs4
   go_upto_region 11 with (fail)
   obtain ⟨bad0, hbad0⟩ : ∃ bad0, (decide (mm ≠ (bs.length : Int)) || (decide (0 < s4.b.length) || s4.bad)) = bad0 := ⟨_, rfl⟩
   have HBAD := am hbad0
   clear hbad0
   refine cut_region (GpFin A c l.length w w1 w2 ad1 ns c1_ base d s4 bad0) ?_ ?_
   case refine_1 =>
    go_wp2_with fail
    refine (cnum_call _ w1 _ w1.heap.size s3 16 HT.out.rd (by decide) (by decide)).mono ?_
    rintro e_ w4 ⟨rfl, hst4, hg4⟩
    rw [HMM.out] at hst4 ⊢
    dsimp only
    have H4 := am (HT.out.read hst4 hg4)
    obtain ⟨A4, c4, y0, y1, y2, z0, z1, z2⟩ := H4.out.rd.cells
    have hwn : IntKind.i64.wrap ((ns : Int) - 1) = (bs.length : Int) := by have := HNS.out; have := HBL.out; simp only [List.length_cons] at this; simp [IntKind.wrap, IntKind.bits, IntKind.signed]; omega
    clear hst4 hg4
    by_cases hm : mm = (bs.length : Int)
    ·have d1 : (mm != (bs.length : Int)) = false := by simpa using hm
     have d2 : (mm == (bs.length : Int)) = true := by simpa using hm
     by_cases h0l : 0 < s4.b.length
     ·have d3 : decide ((s4.b.length : Int) > 0) = true := decide_eq_true (by omega)
      have d4 : decide (s4.b.length > 0) = true := decide_eq_true h0l
      have d5 : decide (0 < s4.b.length) = true := decide_eq_true h0l
      have hb : bad0 = true := by rw [← HBAD.out, d5]; simp
      clear hm h0l
      go_wp2_with fail
      subst hb
      exact GpFin.mk _ _ _ _ (H4.out.setbad true) rfl
     ·have d3 : decide ((s4.b.length : Int) > 0) = false := decide_eq_false (by omega)
      have d4 : decide (s4.b.length > 0) = false := decide_eq_false h0l
      have d5 : decide (0 < s4.b.length) = false := decide_eq_false h0l
      have hb : bad0 = s4.bad := by rw [← HBAD.out, d5, decide_eq_false (by simpa using hm)]; simp
      clear hm h0l
      go_wp2_with fail
      exact GpFin.mk _ _ _ _ (H4.out.setbad s4.bad) rfl
    ·have d1 : (mm != (bs.length : Int)) = true := by simpa using hm
     have d2 : (mm == (bs.length : Int)) = false := by simpa using hm
     have hb : bad0 = true := by rw [← HBAD.out, decide_eq_true hm]; rfl
     clear hm
     go_wp2_with fail
     subst hb
     exact GpFin.mk _ _ _ _ (H4.out.setbad true) rfl
   case refine_2 =>
    clear HT HK c0 c1
    rintro a W5 ⟨u, Ad5, cd5, rfl, hT5⟩
    have HT5 := am hT5
    have hnb : ns - 1 = bs.length := by have := HNS.out; omega
    obtain ⟨A8, hsl, hC8⟩ := rows_drop HC1.out.2 HC1.out.1 1 (by have := HNS.out; omega)
    rw [hnb] at hsl hC8
    have hsl1 : ∀ W : World, (Instr.slice 53 (.slice (some ad1) ns c1_) (some (.int .i64 1)) none none).run Try.prog W = .ok (.slice A8 bs.length (c1_ - 1)) W := hsl
    have HC8 : Aside0 (Kd.C (Kd.slice 5 (Kd.int .u8)) w1 A8 bs.length bs) := ⟨hC8⟩
    have HBN : Aside0 (bs.length ≤ 1000000) := ⟨by have := HBL.out; simp only [List.length_cons] at this; omega⟩
    clear hT5 hnb hsl hC8
    go_wp2_with fail
    clear hsl1
    go_loopg [80] bs.length (fun kq v80 W => ∃ (k : Nat) (Ap : Option Addr) (cp : Nat) (sq : Rd), v80 = .int .i64 k ∧ Aside0 (kq + k = bs.length) ∧ Aside0 (GtSt w1 W w1.heap.size w2.heap.size base Ad5 cd5 d Ap cp (bodsR d bs bad0 k).1 sq) ∧ Aside0 (sq.bad = (bodsR d bs bad0 k).2))
    case atStart => exact ⟨0, none, 0, _, rfl, ⟨rfl⟩, HT5, ⟨rfl⟩⟩
    case round =>
     clear HT5
     obtain ⟨k, Ap, cp, sq, rfl, HKB, HT, HSQ⟩ := hrel
     obtain ⟨wo, rfl⟩ : ∃ wo : World, wo = wr := ⟨_, rfl⟩
     by_cases hk : k < bs.length
     ·obtain ⟨body, hbody⟩ : ∃ body, bs.getD k [] = body := ⟨_, rfl⟩
      obtain ⟨adb, Bb, cb, hAb, hcb, hrb, hcellb⟩ := row_at HC8.out hk body hbody
      subst hAb
      have hbm : body ∈ h0 :: bs := by
       rw [← hbody, List.getD_eq_getElem?_getD, List.getElem?_eq_getElem hk]
       exact List.mem_cons_of_mem _ (List.getElem_mem hk)
      have hbb := HSB.out body hbm
      have xb : wo.cell? (adb.add k) = some (.slice Bb body.length cb) := (HT.out.rd.bel.cell (World.block_lt_of_cell? w1 _ hcellb)).trans hcellb
      obtain ⟨_, _, y0, _, _, z0, _, _⟩ := HT.out.rd.cells
      have HS1 := am (HT.out.setb hrb hcb hbb.1 (by omega))
      obtain ⟨sk, hsk⟩ : ∃ sk : Rd, (⟨body, sq.bad⟩ : Rd) = sk := ⟨_, rfl⟩
      rw [hsk] at HS1
      have HBS : Aside0 (bodsR d bs bad0 (k + 1) = ((bodsR d bs bad0 k).1 ++ [(batR d sk).1], (batR d sk).2.bad || decide (0 < (batR d sk).2.b.length))) := ⟨by
       rw [← hsk, ← hbody, HSQ.out]
       rfl⟩
      obtain ⟨nk, hnk⟩ : ∃ nk : Nat, (numR 20 sk).1 = (nk : Int) := ⟨(numR 20 sk).1.toNat, by have := numR_range 20 (by decide) sk HS1.out.rd.byt HS1.out.rd.len; omega⟩
      have HNK : Aside0 (nk ≤ 20) := ⟨by have := numR_range 20 (by decide) sk HS1.out.rd.byt HS1.out.rd.len; omega⟩
      obtain ⟨sn, hsn⟩ : ∃ sn, (numR 20 sk).2 = sn := ⟨_, rfl⟩
      have HNM2 : Aside0 (numR 20 sk = ((nk : Int), sn)) := ⟨by rw [← hnk, ← hsn]⟩
      have HBR : Aside0 (batR d sk = itR (oneR d) nk sn) := ⟨by unfold batR; rw [HNM2.out]; dsimp only; rw [Int.toNat_natCast]⟩
      obtain ⟨c0, c1⟩ := ltY hk
      have c3 : (0 ≤ (k : Int)) = True := by simp
      have c2 := wr1 (i := k) (by have := HBN.out; omega)
      have HI := am hk
      clear hk hbody hcb hrb hcellb hbm hbb hsk hnk hsn
      go_wp2_with fail
      refine (cnum_call _ w1 _ w1.heap.size sk 20 HS1.out.rd (by decide) (by decide)).mono ?_
      rintro e_ w3 ⟨rfl, hst3, hg3⟩
      rw [HNM2.out] at hst3 ⊢
      dsimp only
      have H3 := am (HS1.out.read hst3 hg3)
      have HRB := am (show w1.heap.size < w3.heap.size from blk_lt (CdSt.blk hst3).choose_spec)
      clear hst3 hg3 xb y0 z0
      go_wp2_with fail
      go_loopg [12, 90] nk (fun kq v12 v90 W => ∃ (j : Nat) (Ao : Option Addr) (co : Nat) (ops : List OpT) (sj : Rd), v12 = .slice Ao ops.length co ∧ v90 = .int .i64 j ∧ Aside0 (kq + j = nk) ∧ Aside0 (itR (oneR d) j sn = (ops, sj)) ∧ Aside0 (w3.grownBy W (some w1.heap.size)) ∧ Aside0 (CdSt (.slice Ad5 d.length cd5) w1 W w1.heap.size sj) ∧ Aside0 (Kd.R opK 98 W w3.heap.size (fun _ => True) (.slice Ao ops.length co) ops))
      case atStart => exact ⟨0, none, 0, [], sn, rfl, rfl, ⟨rfl⟩, ⟨rfl⟩, ⟨World.grownBy.refl _ _⟩, ⟨H3.out.rd⟩, ⟨Kd.R_nil _ _ _ _ _⟩⟩
      case round =>
       obtain ⟨j, Ao, co, ops, sj, rfl, rfl, HKJ, HIJ, HGJ, HCJ, HRJ⟩ := hrel
       obtain ⟨wx, rfl⟩ : ∃ wx : World, wx = wr := ⟨_, rfl⟩
       have HOPL : Aside0 (ops.length = j) := ⟨by have := itR_len (oneR d) j sn; rw [HIJ.out] at this; exact this⟩
       by_cases hj : j < nk
       ·obtain ⟨x, hx⟩ : ∃ x, (oneR d sj).1 = x := ⟨_, rfl⟩
        obtain ⟨sj2, hsj⟩ : ∃ sj2, (oneR d sj).2 = sj2 := ⟨_, rfl⟩
        have HX : Aside0 (oneR d sj = (x, sj2)) := ⟨by rw [← hx, ← hsj]⟩
        have HIT : Aside0 (itR (oneR d) (j + 1) sn = (ops ++ [x], sj2)) := ⟨by
         show ((itR (oneR d) j sn).1 ++ [(oneR d (itR (oneR d) j sn).2).1], (oneR d (itR (oneR d) j sn).2).2) = _
         rw [HIJ.out]
         dsimp only
         rw [HX.out]⟩
        have hos := one_safe (d := d) HDS.out HCJ.out.byt HCJ.out.len
        rw [hx] at hos
        have HXL : Aside0 (x.id.length = 16 ∧ x.fro.length = 16 ∧ x.d.length = 32) := ⟨hos.byt.id.1, hos.byt.fro.1, hos.byt.d.1⟩
        have hcop := cop_call Ad5 cd5 d w1 wx w1.heap.size sj HCJ.out HD16.out (fun W' hg => by
         obtain ⟨cs, hcs⟩ := H3.out.rd.blk
         exact (Kd.R_reads' (R_reader H3.out.drow hcs (str_types 174 (by decide)) (HGJ.out.trans hg))).2.2)
        rw [HX.out] at hcop
        have HCOP := am hcop
        obtain ⟨d0, d1⟩ := ltY hj
        have d2 := wr1 (i := j) (by have := HNK.out; omega)
        have HJ := am hj
        clear hj hx hsj hos hcop
        go_wp2_with fail
        refine HCOP.out.mono ?_
        rintro e_ w9 ⟨A9, c9, rfl, hR9, hst9, hg9⟩
        dsimp only at hR9 hst9 ⊢
        have HST9 := am hst9
        have HG9 := am (HGJ.out.trans hg9)
        have HR9 := am (R_old HRJ.out hg9 HRB.out)
        have HM9 := am (opK.M_lower (show w3.heap.size ≤ wx.heap.size from HGJ.out.size) (opK_M HXL.out (Kd.R_mono (Kd.R_bound hR9) (ok' := fun q => wx.heap.size ≤ q) (fun q hq => hq.2.1))))
        have HOK9 : Aside0 (∀ q, wx.heap.size ≤ q → True ∧ some q ≠ (Value.slice Ao ops.length co).ownBlock) := ⟨fun q hq => ⟨trivial, fun he => by have := Kd.R_lt HRJ.out q he.symm; omega⟩⟩
        have hxz : (opC x A9 c9).toArray.size = 71 := by rw [List.size_toArray, opC_len HXL.out]
        obtain ⟨xs, hxs⟩ : ∃ xs, opC x A9 c9 = xs := ⟨_, rfl⟩
        rw [hxs] at HM9 hxz ⊢
        have HXZ := am hxz
        clear hR9 hst9 hg9 hxs hxz
        go_wp2_with (first
         | ((with_reducible refine gate_dst (N := 95) rfl ?_); refine wpList_buildSlice_one rfl 92 98 (.tmp 94) rfl 71 xs.toArray _ Try.underlying92 zeroOp2 HXZ.out.symm (by decide) (by decide) rfl ?_)
         | ((with_reducible refine gate_builtin (b := .append) (xs := #[.tmp 92, .tmp 95]) rfl ?_); at_builtin; refine Kd.R_append opK (w0 := w9) w3.heap.size rfl (.tmp 92) (.tmp 95) 92 98 (.agg Try.zeroCells98) 144 rfl Try.underlying92 zeroOp3 zeroOp3s (by decide) (by decide) (.slice Ao ops.length co) ops x xs (fun _ => True) (fun q => wx.heap.size ≤ q) rfl rfl HM9.out HOK9.out (fun _ _ => trivial) HR9.out (Below.mono (Below.refl _ _) HG9.out.size) HG9.out.size (by have := HOPL.out; have := HJ.out; have := HNK.out; omega) ?_; intro v10 w10 hR10 hB10 hg10 hat10; obtain ⟨A10, c10, rfl⟩ := Kd.R_slice hR10; have hhi := own_hi HR9.out; have HR10 := am hR10; have HST10 := am (HST9.out.grown hg10 (fun he => by have := hhi _ he.symm; have := HRB.out; omega) (below_grown HST9.out.bel hg10 HST9.out.bel.size (fun q hq => by have := hhi _ hq; have := HRB.out; omega))); have HG10 := am (HG9.out.andThen hg10 (fun q hq => .inl (hhi _ hq))); clear hR10 hB10 hg10 hat10 hhi)
         | fail)
        go_roundg (nk - (j + 1))
        case measure => have := HKJ.out; have := HJ.out; omega
        case rel => exact ⟨j + 1, A10, c10, ops ++ [x], sj2, by simp, by first | rfl | (simp [d2]; done), ⟨by have := HJ.out; omega⟩, HIT, HG10, HST10, HR10⟩
       ·obtain ⟨d0, d1⟩ := ltN hj
        have hjn : j = nk := by have := HKJ.out; omega
        subst hjn
        have HBS2 : Aside0 (bodsR d bs bad0 (k + 1) = ((bodsR d bs bad0 k).1 ++ [ops], sj.bad || decide (0 < sj.b.length))) := ⟨by rw [HBS.out, HBR.out, HIJ.out]⟩
        have HX := am (H3.out.read HCJ.out HGJ.out)
        obtain ⟨_, _, y0, y1, y2, _, _, z2⟩ := HX.out.rd.cells
        have HPLL : Aside0 (∀ q, w3.heap.size ≤ q → True ∧ some q ≠ (Value.slice Ap (bodsR d bs bad0 k).1.length cp).ownBlock) := ⟨fun q hq => ⟨trivial, fun he => by have := Kd.R_lt H3.out.prow q he.symm; omega⟩⟩
        have HBOL : Aside0 ((bodsR d bs bad0 k).1.length ≤ 1000000) := ⟨by
         have hl : ∀ q, (bodsR d bs bad0 q).1.length = q := by
          intro q
          induction q with
          | zero => rfl
          | succ q ih => show ((bodsR d bs bad0 q).1 ++ [_]).length = _; rw [List.length_append, ih]; rfl
         rw [hl]
         have := HI.out
         have := HBN.out
         omega⟩
        obtain ⟨bq, hbq⟩ : ∃ bq, (bodsR d bs bad0 k).1 = bq := ⟨_, rfl⟩
        rw [hbq] at HX HPLL HBOL HBS2
        have HGN : Aside0 (w2.heap.size < w3.heap.size) := ⟨by rw [hbq] at H3; exact blk_lt H3.out.pl⟩
        obtain ⟨b2, hb2⟩ : ∃ b2, (sj.bad || decide (0 < sj.b.length)) = b2 := ⟨_, rfl⟩
        rw [hb2] at HBS2
        have HB2 := am hb2
        have HY := am (HX.out.setbad b2)
        have k32 := planC_32 (m := ⟨base, bq⟩) HB32.out Ap cp
        have f32 := (blk_cell HY.out.pl 32).trans k32
        have HSZX : Aside0 ((wx.setCell ⟨w1.heap.size, 2, none⟩ (.bool b2)).heap.size = wx.heap.size) := ⟨by simp [World.setCell]⟩
        have HRO := am (R_old HRJ.out (grown_set (World.grownBy.refl wx (some w1.heap.size)) 2 (.bool b2)) HRB.out)
        have HMO : Aside0 (batK.M (wx.setCell ⟨w1.heap.size, 2, none⟩ (.bool b2)) w1.heap.size (fun q => w3.heap.size ≤ q) ops [.slice Ao ops.length co]) := ⟨⟨_, rfl, Kd.R_lower (Kd.R_mono (Kd.R_bound HRO.out) (fun q hq => hq.2.1)) (Nat.le_of_lt HRB.out)⟩⟩
        clear hj hbq hb2 k32
        cases hsb : sj.bad
        ·rw [hsb] at y2
         have g1 : decide ((sj.b.length : Int) > 0) = b2 := by
          rw [← HB2.out, hsb]
          by_cases h : 0 < sj.b.length
          ·rw [decide_eq_true h, decide_eq_true (by omega)]; rfl
          ·rw [decide_eq_false h, decide_eq_false (by omega)]; rfl
         have g2 : decide (sj.b.length > 0) = b2 := by rw [← HB2.out, hsb]; rfl
         have g3 : decide (0 < sj.b.length) = b2 := g2
         clear hsb
         go_wp2_with (first
          | ((with_reducible refine gate_builtin (b := .append) (xs := #[.tmp 114, .tmp 116]) rfl ?_); at_builtin; refine Kd.R_append batK (w0 := w1) w1.heap.size rfl (.tmp 114) (.tmp 116) 79 92 (.slice none 0 0) 24 rfl Try.underlying79 info92 rfl (by decide) (by decide) (.slice Ap bq.length cp) bq ops [.slice Ao ops.length co] (fun _ => True) (fun q => w3.heap.size ≤ q) rfl (by rw [HSZX.out]; rfl) HMO.out HPLL.out (fun _ _ => trivial) HY.out.prow HY.out.rd.bel HY.out.rd.bel.size (by have := HBOL.out; omega) ?_; intro v11 w11 hR11 hB11 hg11 hat11; obtain ⟨A11, c11, rfl⟩ := Kd.R_slice hR11; obtain ⟨hT11, u32, z32⟩ := HY.out.plan hR11 hg11 hB11; simp only [List.length_append, List.length_cons, List.length_nil, Nat.zero_add] at hT11; have HT11 := am hT11; clear hR11 hB11 hg11 hat11 hT11)
          | fail)
         go_roundg (bs.length - (k + 1))
         case measure => have := HKB.out; have := HI.out; omega
         case rel => exact ⟨k + 1, A11, c11, _, by first | rfl | (simp [c2]; done), ⟨by have := HI.out; omega⟩, ⟨by rw [HBS2.out]; exact HT11.out⟩, ⟨by rw [HBS2.out]⟩⟩
        ·rw [hsb] at y2
         obtain rfl : b2 = true := by rw [← HB2.out, hsb]; rfl
         clear hsb
         go_wp2_with (first
          | ((with_reducible refine gate_builtin (b := .append) (xs := #[.tmp 114, .tmp 116]) rfl ?_); at_builtin; refine Kd.R_append batK (w0 := w1) w1.heap.size rfl (.tmp 114) (.tmp 116) 79 92 (.slice none 0 0) 24 rfl Try.underlying79 info92 rfl (by decide) (by decide) (.slice Ap bq.length cp) bq ops [.slice Ao ops.length co] (fun _ => True) (fun q => w3.heap.size ≤ q) rfl (by rw [HSZX.out]; rfl) HMO.out HPLL.out (fun _ _ => trivial) HY.out.prow HY.out.rd.bel HY.out.rd.bel.size (by have := HBOL.out; omega) ?_; intro v11 w11 hR11 hB11 hg11 hat11; obtain ⟨A11, c11, rfl⟩ := Kd.R_slice hR11; obtain ⟨hT11, u32, z32⟩ := HY.out.plan hR11 hg11 hB11; simp only [List.length_append, List.length_cons, List.length_nil, Nat.zero_add] at hT11; have HT11 := am hT11; clear hR11 hB11 hg11 hat11 hT11)
          | fail)
         go_roundg (bs.length - (k + 1))
         case measure => have := HKB.out; have := HI.out; omega
         case rel => exact ⟨k + 1, A11, c11, _, by first | rfl | (simp [c2]; done), ⟨by have := HI.out; omega⟩, ⟨by rw [HBS2.out]; exact HT11.out⟩, ⟨by rw [HBS2.out]⟩⟩
     ·obtain ⟨c0, c1⟩ := ltN hk
      have hkl : k = bs.length := by have := HKB.out; omega
      subst hkl
      obtain ⟨q, hq⟩ : ∃ q, (bodsR d bs bad0 bs.length).1 = q := ⟨_, rfl⟩
      obtain ⟨bz, hbz⟩ : ∃ bz, (bodsR d bs bad0 bs.length).2 = bz := ⟨_, rfl⟩
      have hrd := HRDH.out bad0 HBAD.out
      rw [hq, hbz] at hrd
      rw [hq] at HT
      rw [hbz] at HSQ
      have hsf := HSAFE.out
      rw [hrd] at HG hsf
      dsimp only at HG hsf
      obtain ⟨pl, hpl⟩ : ∃ pl : PlanT, (⟨base, q⟩ : PlanT) = pl := ⟨_, rfl⟩
      have hqb : q = pl.b := by rw [← hpl]
      rw [hpl] at HG hsf
      have HPLN : Aside0 (wo.heap[w2.heap.size]? = some (.cells (planC pl Ap cp).toArray 81 (0, 0))) := ⟨by rw [← hpl]; exact HT.out.pl⟩
      have hpr := HT.out.prow
      rw [hqb] at hpr
      have HPR := am hpr
      have hrw := (Kd.R_reads' HT.out.prow).2
      rw [hqb] at hrw
      have HROW := am hrw
      have hput := putp_call pl Ap cp wo hsf.1 hrw.1 hrw.2 (fun b hb x hx => by
       have := ((hsf.2 b (by rw [hqb]; exact hb)).1 x hx).p
       show x.p.length ≤ 9223372036854775807
       omega)
      have HPUT := am hput
      have hps := planC_size (p := pl) hsf.1.base.1 Ap cp
      have HP1 := am (planC_one pl Ap cp)
      have HRD := am HT.out.rd
      have HRES : Aside0 (wo.heap[w.heap.size]? = some (.cells #[.int .u8 0, .int .u8 0, .int .u8 0, .int .u8 0, .int .u8 0, .int .u8 0, .int .u8 0, .int .u8 0, .int .u8 0, .int .u8 0, .int .u8 0, .int .u8 0, .int .u8 0, .int .u8 0, .int .u8 0, .int .u8 0, .int .u8 0, .int .u8 0, .int .u8 0, .int .u8 0, .int .u8 0, .int .u8 0, .int .u8 0, .int .u8 0, .int .u8 0, .int .u8 0, .int .u8 0, .int .u8 0, .int .u8 0, .int .u8 0, .int .u8 0, .int .u8 0, .slice none 0 0] 81 (0, 0))) := ⟨(HT.out.rd.bel.block _ (blk_lt HZ.out)).trans HZ.out⟩
      have HBW : Aside0 (Below w.heap.size w wo) := ⟨below_step HB1.out HT.out.rd.bel⟩
      obtain ⟨ms, hms⟩ : ∃ ms, (planC pl Ap cp).toArray = ms := ⟨_, rfl⟩
      rw [hms] at HPLN HPUT hps HP1
      have HMS := am hms
      have HMI : Aside0 ((Try.prog.info? 81).map (·.size) = some ms.size) := ⟨by rw [hps]; exact infoPlan⟩
      obtain ⟨pb, pe⟩ : ∃ pb pe, putPl pl = (pb, pe) := ⟨_, _, rfl⟩
      obtain ⟨pe, hpe⟩ := pe
      rw [hpe] at HPUT HG
      dsimp only at HPUT HG
      have HPE : Aside0 (pe = 0 → Bytes pb) := ⟨fun h => by
       unfold putPl at hpe
       split at hpe
       ·rename_i hm
        have := congrArg Prod.fst hpe
        dsimp only at this
        rw [← this]
        exact plB_byt hm hsf.1
       ·have := congrArg Prod.snd hpe
        dsimp only at this
        rw [← this] at h
        cases h⟩
      clear hk hq hbz hrd hsf hpl hqb hrw hput hms hpe hpr
      go_wp2_with (first
       | ((with_reducible refine gate_dst (N := 121) rfl ?_); refine wpList_load_row rfl 81 (.tmp 7) rfl w2.heap.size rfl 81 ms (0, 0) _ HPLN.out Try.underlying81 rfl HMI.out ?_)
       | fail)
      refine HPUT.out.mono ?_
      rintro e_ w7 ⟨⟨A7, c7, rfl, hc7, hr7⟩, hb7⟩
      dsimp only at hc7 hr7 ⊢
      have HRD7 := am (HRD.out.below hb7)
      have HPL7 := am (blk_below HPLN.out hb7)
      have HRES7 := am (blk_below HRES.out hb7)
      have HBW7 := am (below_step HBW.out hb7)
      have HPR7 := am (Kd.R_below HPR.out hb7)
      have HE7 := am (And.intro hc7 hr7)
      obtain ⟨_, _, y0, y1, y2, _, _, _⟩ := HRD7.out.cells
      obtain ⟨zs, hzs⟩ : ∃ zs, (planC zPl none 0).toArray = zs := ⟨_, rfl⟩
      have HZS := am hzs
      have hbz0 := built_pl0
      rw [hzs] at hbz0
      have HBZ := am hbz0
      have hzz : zs.size = 33 := by rw [← hzs]; exact planC_size rfl none 0
      have HZ1 : Aside0 (zs.all (·.oneCell') = true) := ⟨by rw [← hzs]; exact planC_one _ _ _⟩
      have HNO : Aside0 (∀ W : World, Below w.heap.size w W → W.heap[w.heap.size]? = some (.cells #[.int .u8 0, .int .u8 0, .int .u8 0, .int .u8 0, .int .u8 0, .int .u8 0, .int .u8 0, .int .u8 0, .int .u8 0, .int .u8 0, .int .u8 0, .int .u8 0, .int .u8 0, .int .u8 0, .int .u8 0, .int .u8 0, .int .u8 0, .int .u8 0, .int .u8 0, .int .u8 0, .int .u8 0, .int .u8 0, .int .u8 0, .int .u8 0, .int .u8 0, .int .u8 0, .int .u8 0, .int .u8 0, .int .u8 0, .int .u8 0, .int .u8 0, .int .u8 0, .slice none 0 0] 81 (0, 0)) → CgQ w (zPl, 2) (.returned (.tuple #[.agg zs, .int .i64 2])) (W.setRow w.heap.size zs)) := ⟨fun W hb hz => ⟨⟨none, 0, by rw [← HZS.out], Nat.le_refl _, ⟨rfl, by show (0 : Nat) ≤ 9223372036854775807; decide, fun h => absurd h (by show ¬ (0 < 0); decide)⟩⟩, below_row hb (Nat.le_refl _)⟩⟩
      clear hc7 hr7 hb7 hzs hbz0
      cases hz : sq.bad
      ·rw [hz] at y2
       have hbz2 : bz = false := by rw [← HSQ.out, hz]
       by_cases hp0 : pe = 0
       ·subst hp0
        have heq : Calls Try.prog 127 #[.slice A7 pb.length c7, .slice A l.length c] w7 fun e w' => e = .returned (.bool (decide (pb = l))) ∧ Drawn0 w7 w' := by
         refine bytes_Equal.calls A7 c7 pb A c l _ w7 HE7.out.2 HE7.out.1 (Y.rdb_below HR.out HBW7.out) HC.out ?_
         unfold bytes_Equal.f
         congr 1
         by_cases h : pb = l
         ·rw [decide_eq_true h, h]; simp
         ·rw [decide_eq_false h, beq_eq_false_iff_ne]
          intro h2
          have h3 := congrArg bytesOf (bytes_inj h2)
          rw [bytesOf_strOf (HPE.out rfl), bytesOf_strOf HBY.out] at h3
          exact h h3
        have HEQ := am heq
        clear heq hz
        by_cases hpl : pb = l
        ·have HGE : Aside0 (getPl l = (pl, 0)) := ⟨by rw [HG.out, hbz2, if_neg (by rw [hpl]; simp)]⟩
         rw [decide_eq_true hpl] at HEQ
         clear hpl
         go_wp2_with fail
         refine HEQ.out.mono ?_
         rintro e_ w8 ⟨rfl, ⟨q8, rfl⟩⟩
         have hst := storeA (cs := ms) (w := w7.drewN q8) HRES7.out (by rw [hps]; rfl) HP1.out
         clear y0 y1 y2
         go_wp2_with (first
          | ((with_reducible refine gate_dst (N := 140) rfl ?_); refine wpList_load_row rfl 81 (.tmp 7) rfl w2.heap.size rfl 81 ms (0, 0) _ HPL7.out Try.underlying81 rfl HMI.out ?_)
          | fail)
         rw [HGE.out]
         refine bodyPost_ret (v := .tuple #[.agg ms, .int .i64 0]) ?_ rfl ⟨⟨Ap, cp, by rw [← HMS.out], HROW.out.1, ?_⟩, below_row (pw_below_drewN HBW7.out q8) (Nat.le_refl _)⟩
         ·exact results_ct (P := Try.prog) Try.results72 _ _ w.heap.size 81 ms (0, 0) _ rfl (setRow_heap _ _ _ _ _ _ HRES7.out) Try.underlying81 rfl HMI.out
         ·exact (Kd.R_reads' (R_row (Kd.R_below HPR7.out (pw_below_drewN (Below.refl _ _) q8)) (show (w7.drewN q8).heap[w.heap.size]? = _ from HRES7.out) (bat_types 81 (by decide) (by decide) (by decide)) ms)).2.2
        ·have HGE : Aside0 (getPl l = (zPl, 2)) := ⟨by rw [HG.out, if_pos (.inr (.inr hpl))]⟩
         rw [decide_eq_false hpl] at HEQ
         clear hpl
         go_wp2_with fail
         refine HEQ.out.mono ?_
         rintro e_ w8 ⟨rfl, ⟨q8, rfl⟩⟩
         have hst := storeA (cs := zs) (w := w7.drewN q8) HRES7.out (by rw [hzz]; rfl) HZ1.out
         clear y0 y1 y2
         go_wp2_with (first
          | ((with_reducible refine gate_dst (N := 139) rfl ?_); refine wpList_build_cells rfl 81 _ rfl zs ?hb ?_; case hb => (simp only [List.map_toArray, List.map_nil]; exact HBZ.out))
          | fail)
         rw [HGE.out]
         refine bodyPost_ret (v := .tuple #[.agg zs, .int .i64 2]) ?_ rfl (HNO.out _ (pw_below_drewN HBW7.out q8) HRES7.out)
         exact results_ct (P := Try.prog) Try.results72 _ _ w.heap.size 81 zs (0, 0) _ rfl (setRow_heap _ _ _ _ _ _ HRES7.out) Try.underlying81 rfl (by rw [hzz]; exact infoPlan)
       ·have HGE : Aside0 (getPl l = (zPl, 2)) := ⟨by rw [HG.out, if_pos (.inr (.inl hp0))]⟩
        have p1 : (pe != 0) = true := by simpa using hp0
        have p2 : (pe == 0) = false := by simpa using hp0
        have hst := storeA (cs := zs) (w := w7) HRES7.out (by rw [hzz]; rfl) HZ1.out
        clear hz hp0
        go_wp2_with (first
         | ((with_reducible refine gate_dst (N := 139) rfl ?_); refine wpList_build_cells rfl 81 _ rfl zs ?hb ?_; case hb => (simp only [List.map_toArray, List.map_nil]; exact HBZ.out))
         | fail)
        rw [HGE.out]
        refine bodyPost_ret (v := .tuple #[.agg zs, .int .i64 2]) ?_ rfl (HNO.out _ HBW7.out HRES7.out)
        exact results_ct (P := Try.prog) Try.results72 _ _ w.heap.size 81 zs (0, 0) _ rfl (setRow_heap _ _ _ _ _ _ HRES7.out) Try.underlying81 rfl (by rw [hzz]; exact infoPlan)
      ·rw [hz] at y2
       have hbz2 : bz = true := by rw [← HSQ.out, hz]
       have HGE : Aside0 (getPl l = (zPl, 2)) := ⟨by rw [HG.out, if_pos (.inl hbz2)]⟩
       have hst := storeA (cs := zs) (w := w7) HRES7.out (by rw [hzz]; rfl) HZ1.out
       clear hz hbz2
       go_wp2_with (first
        | ((with_reducible refine gate_dst (N := 139) rfl ?_); refine wpList_build_cells rfl 81 _ rfl zs ?hb ?_; case hb => (simp only [List.map_toArray, List.map_nil]; exact HBZ.out))
        | fail)
       rw [HGE.out]
       refine bodyPost_ret (v := .tuple #[.agg zs, .int .i64 2]) ?_ rfl (HNO.out _ HBW7.out HRES7.out)
       exact results_ct (P := Try.prog) Try.results72 _ _ w.heap.size 81 zs (0, 0) _ rfl (setRow_heap _ _ _ _ _ _ HRES7.out) Try.underlying81 rfl (by rw [hzz]; exact infoPlan)
theorem getp_call (A : Option Addr) (c : Nat) (l : List Int) (w : World) (hr : RdB w A l.length l) (hc : l.length ≤ c) (hb : Bytes l) (hl : l.length ≤ 1000000) :
  Calls Try.prog 72 #[.slice A l.length c] w (CgQ w (getPl l)) := by
 by_cases he : (secs l).2 = 0
 ·exact getp_ok A c l w hr hc hb hl he
 ·exact getp_err A c l w hr hc hb hl he
end
section
open Go.RowKit Go.Proofs.YtchaegfdcdlfaaaW.PrintWords Go.Proofs.YtchaegfdcdlfaaaW.PrintLast Go.Proofs.YtchaegfdcdlfaaaW.PrintMore
open Go.Proofs.Ytchaegfdcdlfaaa.Y (Bytes RdB put put_length)
def id7 : List Int := 7 :: List.replicate 15 0
def abcd : ByteArray := ⟨#[97, 98, 99, 100]⟩
def setX : OpT := ⟨1, id7, 1, 0, 0, abcd, [], z16, 0, z32⟩
def twoP : PlanT := ⟨z32, [[setX, setX]]⟩
theorem id7_byt : Bytes id7 := fun x hx => by
 rcases List.mem_cons.1 hx with rfl | hx
 ·decide
 ·rw [(List.mem_replicate.1 hx).2]; decide
theorem setX_byt : OpByt setX := ⟨⟨rfl, id7_byt⟩, ⟨rfl, z_byt 16⟩, ⟨rfl, z_byt 32⟩⟩
theorem setX_lens : setX.id.length = 16 ∧ setX.fro.length = 16 ∧ setX.d.length = 32 := ⟨rfl, rfl, rfl⟩
theorem twoP_byt : PlByt twoP := ⟨⟨rfl, z_byt 32⟩, fun l hl x hx => by
 rw [List.mem_singleton.1 hl] at hx
 rcases List.mem_cons.1 hx with rfl | hx
 ·exact setX_byt
 ·rw [List.mem_singleton.1 hx]; exact setX_byt⟩
theorem twoP_may : mayPl twoP = true := by decide +kernel
theorem zPl_may : mayPl zPl = true := by decide +kernel
theorem twoP_dict : dictP twoP = [abcd] := by decide +kernel
theorem zPl_dict : dictP zPl = [] := by decide +kernel
theorem zPl_len : (plB zPl).length = 40 := by
 have h : (hdB zPl []).length = 34 := by decide +kernel
 unfold plB
 rw [zPl_dict, List.length_append, packL_length, h]
 decide +kernel
theorem twoP_len : (plB twoP).length = 92 := by
 have h : (hdB twoP [abcd]).length = 39 := by decide +kernel
 have h2 : (bodyB [abcd] [setX, setX]).length = 41 := by decide +kernel
 have h3 : allB (secB [abcd]) twoP.b = secB [abcd] [setX, setX] ++ [] := rfl
 unfold plB
 rw [twoP_dict, List.length_append, packL_length, h, h3, List.append_nil]
 unfold secB
 rw [packL_length, h2]
 decide +kernel
theorem zPl_put : putPl zPl = (plB zPl, 0) := if_pos zPl_may
theorem twoP_put : putPl twoP = (plB twoP, 0) := if_pos twoP_may
theorem built94 : Try.prog.built 94 [(0, .int .u8 7)] = some (cells8 id7) := by kernel_rfl
theorem built96 : Try.prog.built 96 [(0, .int .i64 1)] = some #[.int .i64 1, .int .i64 0] := by kernel_rfl
theorem built98 : Try.prog.built 98 [(0, .int .i64 1), (1, .agg (cells8 id7)), (2, .agg #[.int .i64 1, .int .i64 0]), (4, .string ⟨#[97, 98, 99, 100]⟩)] = some (opC setX none 0).toArray := by kernel_rfl
theorem built81 (A : Option Addr) (n c : Nat) : Try.prog.built 81 [(1, .slice A n c)] = some (nums .u8 z32 ++ [Value.slice A n c]).toArray := by kernel_rfl
theorem wpList_buildSlice_two {P : Program} {ops : Array Oper} {rest : List Oper} {o : Oper} {a : Act} {w : World} {Q : Exit → Act → World → Prop} (hg : o.guard = none) (t e : TypeId) (x y : Operand) (ho : o.op = .buildSlice t 2 #[(0, x), (1, y)])
  (n : Nat) (cs : Array Value) (z : Value) (hu : P.underlying t = some (.slice e)) (hi : (P.info? e).map (fun i => (i.zero, i.size)) = some (some z, n)) (hn : n = cs.size) (h0 : 0 < n) (h1 : n ≤ 1000) (hx : a.eval x = .agg cs) (hy : a.eval y = .agg cs)
  (h : wpList P ops Q rest (a.put o.dst (.slice (some ⟨w.heap.size, 0, none⟩) 2 2)) (w.alloc (.cells (cs ++ cs) e))) : wpList P ops Q (o :: rest) a w := by
 obtain ⟨ie, hie, hz⟩ := Option.map_eq_some_iff.1 hi
 simp only [Prod.mk.injEq] at hz
 obtain ⟨hz0, hz1⟩ := hz
 refine wpList_buildSlice hg t e 2 _ ho (cs ++ cs) ie z hu hie hz0 (by rw [hz1]; omega) (by rw [hz1]; omega) ?_ h
 have := fill_whole (fun i => some (i * ie.size, ie.size)) [(0, .agg cs), (1, .agg cs)] ((Array.range (2 * ie.size)).map (z.cells[· % z.cells.size]!)) ⟨by simp [hz1, hn, Value.cells], by simp [hz1, hn, Value.cells], trivial⟩ (by simp [partsL, Value.cells, hz1, hn]; omega)
 simp only [List.map_toArray, List.map_cons, List.map_nil, hx, hy]
 rw [show cs ++ cs = (partsL [(0, .agg cs), (1, .agg cs)]).toArray from by apply Array.ext'; simp [partsL, Value.cells]]
 exact this
theorem two_C {W : World} {g g2 : Nat} (h1 : W.heap[g]? = some (.cells ((opC setX none 0).toArray ++ (opC setX none 0).toArray) 98 (0, 0))) (h2 : W.heap[g2]? = some (.cells #[.slice (some ⟨g, 0, none⟩) 2 2] 92 (0, 0))) :
  Kd.C batK W (some ⟨g2, 0, none⟩) 1 [[setX, setX]] := by
 have hxl : (opC setX none 0).length = 71 := opC_len setX_lens none 0
 have hk : ∀ cs, cs = opC setX none 0 → opK.K W setX cs := fun cs hcs => opK_K.2 ⟨none, 0, hcs, rfl, rfl, rfl, Nat.le_refl _, ⟨rfl, by show (0 : Nat) ≤ 9223372036854775807; decide, fun h => absurd h (by show ¬ (0 < 0); decide)⟩⟩
 have hC : Kd.C opK W (some ⟨g, 0, none⟩) 2 [setX, setX] := by
  refine ⟨rfl, by decide, fun _ => ⟨_, rfl, fun j p hj => ?_⟩⟩
  have hj2 : j < 2 := by
   have := (List.getElem?_eq_some_iff.1 hj).1
   simpa using this
  have hp : p = setX := by
   match j, hj2, hj with
   | 0, _, h => exact (Option.some.inj h).symm
   | 1, _, h => exact (Option.some.inj h).symm
  subst hp
  refine ⟨opC setX none 0, hxl, hk _ rfl, fun i u hu => ?_⟩
  have hil : i < 71 := by
   have := (List.getElem?_eq_some_iff.1 hu).1
   omega
  rw [show opK.sz = 71 from rfl, add_at, blk_cell h1]
  match j, hj2 with
  | 0, _ =>
   rw [Nat.zero_mul, Nat.zero_add, Array.getElem?_append_left (by simp; omega), List.getElem?_toArray]
   exact hu
  | 1, _ =>
   rw [Nat.one_mul, Array.getElem?_append_right (by simp; omega), List.getElem?_toArray, List.size_toArray, hxl, show 71 + i - 71 = i by omega]
   exact hu
 refine ⟨rfl, by decide, fun _ => ⟨_, rfl, fun j p hj => ?_⟩⟩
 have hj0 : j = 0 := by
  have := (List.getElem?_eq_some_iff.1 hj).1
  simp at this
  exact this
 subst hj0
 obtain rfl := Option.some.inj hj
 refine ⟨[.slice (some ⟨g, 0, none⟩) 2 2], rfl, batK_K.2 ⟨_, _, rfl, Nat.le_refl _, hC⟩, fun i u hu => ?_⟩
 have hi0 : i = 0 := by
  have := (List.getElem?_eq_some_iff.1 hu).1
  simp at this
  exact this
 subst hi0
 obtain rfl := Option.some.inj hu
 rw [Nat.zero_mul, Nat.zero_add, add_at, blk_cell h2]
 rfl
end
section
open Go.RowKit Go.Proofs.YtchaegfdcdlfaaaW.PrintWords Go.Proofs.YtchaegfdcdlfaaaW.PrintLast Go.Proofs.YtchaegfdcdlfaaaW.PrintMore
open Go.Proofs.Ytchaegfdcdlfaaa.Y (Bytes RdB put put_length)
attribute [local go_sem] max2_int min2_int max_two min_two max_three min_three max_four min_four
theorem C_nil (W : World) : Kd.C batK W none zPl.b.length zPl.b := ⟨rfl, by show (0 : Nat) ≤ 9223372036854775807; decide, fun h => absurd h (by show ¬ (0 < 0); decide)⟩
set_option maxHeartbeats 16000000 in
theorem awake18_call (w : World) : Calls Try.prog 68 #[] w fun e w' => e = .returned (.bool true) ∧ Below w.heap.size w w' := by
 have h1 := fun W : World => putp_call zPl none 0 W zPl_byt (Nat.le_refl _) (C_nil W) (fun b hb => by cases hb)
 rw [zPl_put] at h1
 obtain ⟨b1, hb1⟩ : ∃ b1, plB zPl = b1 := ⟨_, rfl⟩
 have hl1 := zPl_len
 have hy1 := plB_byt zPl_may zPl_byt
 have hg1 := getPl_put zPl_may zPl_byt
 rw [hb1] at h1 hl1 hy1 hg1
 have HP1 : Aside0 (∀ W : World, Calls Try.prog 70 #[.agg (planC zPl none 0).toArray] W fun e w' => (∃ A c, e = .returned (.tuple #[.slice A 40 c, .int .i64 0]) ∧ 40 ≤ c ∧ RdB w' A 40 b1) ∧ Below W.heap.size W w') := ⟨fun W => by
  have := h1 W
  unfold CpQ at this
  rw [hl1] at this
  exact this⟩
 have HG1 : Aside0 (∀ (A : Option Addr) (c : Nat) (W : World), RdB W A 40 b1 → 40 ≤ c → Calls Try.prog 72 #[.slice A 40 c] W (CgQ W (zPl, 0))) := ⟨fun A c W hr hc => by
  have h := getp_call A c b1 W (by rw [hl1]; exact hr) (by rw [hl1]; exact hc) hy1 (by rw [hl1]; decide)
  rw [hg1, hl1] at h
  exact h⟩
 obtain ⟨zs, hzs⟩ : ∃ zs, (planC zPl none 0).toArray = zs := ⟨_, rfl⟩
 have hbz := built_pl0
 rw [hzs] at HP1 hbz
 have HBZ := am hbz
 clear h1 hb1 hl1 hy1 hg1 hzs hbz
 obtain ⟨b2, hb2⟩ : ∃ b2, plB twoP = b2 := ⟨_, rfl⟩
 have hl2 := twoP_len
 have hy2 := plB_byt twoP_may twoP_byt
 have hg2 := getPl_put twoP_may twoP_byt
 rw [hb2] at hl2 hy2 hg2
 have hfit : ∀ b ∈ twoP.b, ∀ x ∈ b, FitO x := fun b hb x hx => by
  rw [List.mem_singleton.1 hb] at hx
  have : x = setX := by
   rcases List.mem_cons.1 hx with rfl | hx
   ·rfl
   ·exact List.mem_singleton.1 hx
  rw [this]
  show (0 : Nat) ≤ 9223372036854775807
  decide
 have HP2 : Aside0 (∀ (g : Nat) (W : World), Kd.C batK W (some ⟨g, 0, none⟩) 1 [[setX, setX]] → Calls Try.prog 70 #[.agg (planC twoP (some ⟨g, 0, none⟩) 1).toArray] W fun e w' => (∃ A c, e = .returned (.tuple #[.slice A 92 c, .int .i64 0]) ∧ 92 ≤ c ∧ RdB w' A 92 b2) ∧ Below W.heap.size W w') := ⟨fun g W hC => by
  have := putp_call twoP (some ⟨g, 0, none⟩) 1 W twoP_byt (Nat.le_refl _) hC hfit
  rw [twoP_put, hb2] at this
  unfold CpQ at this
  rw [hl2] at this
  exact this⟩
 have HG2 : Aside0 (∀ (A : Option Addr) (c : Nat) (W : World), RdB W A 92 b2 → 92 ≤ c → Calls Try.prog 72 #[.slice A 92 c] W (CgQ W (twoP, 0))) := ⟨fun A c W hr hc => by
  have h := getp_call A c b2 W (by rw [hl2]; exact hr) (by rw [hl2]; exact hc) hy2 (by rw [hl2]; decide)
  rw [hg2, hl2] at h
  exact h⟩
 have HD2 : Aside0 (∀ (g : Nat) (W : World), Kd.C batK W (some ⟨g, 0, none⟩) 1 [[setX, setX]] → Calls Try.prog 74 #[.agg (planC twoP (some ⟨g, 0, none⟩) 1).toArray] W (RowS W [abcd])) := ⟨fun g W hC => by
  have := dict_call twoP (some ⟨g, 0, none⟩) 1 W rfl (Nat.le_refl _) hC (by decide) (by decide) (fun b hb x hx => by
   have := (mayO_facts (((mayPl_facts twoP_may).2 b hb).2.2 x hx)).2.2.2.2.2.2.2.2.1
   omega)
  rw [twoP_dict] at this
  exact this⟩
 have HS2 : Aside0 (∀ (g : Nat) (A : Option Addr) (c : Nat) (W : World), Kd.C batK W (some ⟨g, 0, none⟩) 1 [[setX, setX]] → Kd.C batK W A 1 [[setX, setX]] → Calls Try.prog 73 #[.agg (planC twoP A c).toArray, .agg (planC twoP (some ⟨g, 0, none⟩) 1).toArray] W fun e w' => e = .returned (.bool true) ∧ Below W.heap.size W w') := ⟨fun g A c W hC hC2 => by
  have := samepl_call twoP twoP A (some ⟨g, 0, none⟩) c 1 W rfl rfl hC2 hC hfit hfit
  rw [samePl_eq.2 rfl] at this
  exact this⟩
 have HM2 : Aside0 (∀ (g : Nat) (W : World), Kd.C batK W (some ⟨g, 0, none⟩) 1 [[setX, setX]] → Calls Try.prog 71 #[.agg (planC twoP (some ⟨g, 0, none⟩) 1).toArray] W fun e w' => e = .returned (.bool true) ∧ Below W.heap.size W w') := ⟨fun g W hC => by
  have := mayp_call twoP (some ⟨g, 0, none⟩) 1 W rfl (Nat.le_refl _) hC hfit
  rw [twoP_may] at this
  exact this⟩
 clear hb2 hl2 hy2 hg2 hfit
 have hxz : (opC setX none 0).toArray.size = 71 := by rw [List.size_toArray, opC_len setX_lens]
 have HX1 := am (opC_one setX none 0)
 have HXC := am (fun (W : World) (g g2 : Nat) (a : W.heap[g]? = some (.cells ((opC setX none 0).toArray ++ (opC setX none 0).toArray) 98 (0, 0))) (b : W.heap[g2]? = some (.cells #[.slice (some ⟨g, 0, none⟩) 2 2] 92 (0, 0))) => two_C a b)
 have HB98 := am built98
 have HB94 := am built94
 have HB96 := am built96
 have HB81 := am built81
 obtain ⟨xs, hxs⟩ : ∃ xs, (opC setX none 0).toArray = xs := ⟨_, rfl⟩
 rw [hxs] at hxz HX1 HXC HB98
 have HXI : Aside0 ((Try.prog.info? 98).map (·.size) = some xs.size) := ⟨by rw [hxz]; exact infoOp⟩
 obtain ⟨i7, hi7⟩ : ∃ i7, cells8 id7 = i7 := ⟨_, rfl⟩
 rw [hi7] at HB98 HB94
 clear hxs hi7
 go_enter Try.func68, Try.ntmps68
 go_wp2_with (first
  | ((with_reducible refine gate_dst (N := 13) rfl ?_); refine wpList_build_cells rfl 81 _ rfl zs ?hb ?_; case hb => (simp only [List.map_toArray, List.map_nil]; exact HBZ.out))
  | fail)
 refine (HP1.out _).mono ?_
 rintro e_ w1 ⟨⟨A1, c1, rfl, hc1, hr1⟩, hb1⟩
 have HW1 := am hb1
 have HE1 := am (And.intro hc1 hr1)
 clear hc1 hr1 hb1
 go_wp2_with fail
 refine (HG1.out _ _ _ HE1.out.2 HE1.out.1).mono ?_
 rintro e_ w2 ⟨⟨A2, c2, rfl, hc2, hC2⟩, hb2⟩
 have HW2 := am (below_step HW1.out hb2)
 have hq1 := planC_size (p := zPl) rfl A2 c2
 have hq1o := planC_one zPl A2 c2
 have k1 := planC_32 (m := zPl) rfl A2 c2
 obtain ⟨q1, hqe⟩ : ∃ q1, (planC zPl A2 c2).toArray = q1 := ⟨_, rfl⟩
 rw [hqe] at hq1 hq1o k1
 dsimp only
 rw [hqe]
 have hsn1 := store_new w2 #[.int .u8 0, .int .u8 0, .int .u8 0, .int .u8 0, .int .u8 0, .int .u8 0, .int .u8 0, .int .u8 0, .int .u8 0, .int .u8 0, .int .u8 0, .int .u8 0, .int .u8 0, .int .u8 0, .int .u8 0, .int .u8 0, .int .u8 0, .int .u8 0, .int .u8 0, .int .u8 0, .int .u8 0, .int .u8 0, .int .u8 0, .int .u8 0, .int .u8 0, .int .u8 0, .int .u8 0, .int .u8 0, .int .u8 0, .int .u8 0, .int .u8 0, .int .u8 0, .slice none 0 0] q1 81 (by rw [hq1]; rfl) hq1o
 have hsn2 := store_new (w2.alloc (.cells q1 81)) Try.zeroCells98 xs 98 (by rw [hxz]; kernel_rfl) HX1.out
 rw [alloc_size] at hsn2
 have HB5 := am (blk_new (w2.alloc (.cells q1 81)) (.cells xs 98))
 rw [alloc_size] at HB5
 obtain ⟨wC, hwC⟩ : ∃ wC, ((w2.alloc (.cells q1 81)).alloc (.cells xs 98)).alloc (.cells (xs ++ xs) 98) = wC := ⟨_, rfl⟩
 have hsC : wC.heap.size = w2.heap.size + 1 + 1 + 1 := by rw [← hwC, alloc_size, alloc_size, alloc_size]
 have hbC : wC.heap[w2.heap.size + 1 + 1]? = some (.cells (xs ++ xs) 98 (0, 0)) := by
  have := blk_new ((w2.alloc (.cells q1 81)).alloc (.cells xs 98)) (.cells (xs ++ xs) 98)
  rw [alloc_size, alloc_size, hwC] at this
  exact this
 have hbq : wC.heap[w2.heap.size]? = some (.cells q1 81 (0, 0)) := by rw [← hwC]; exact blk_alloc (blk_alloc (blk_new w2 _) _) _
 have hbelC : Below w2.heap.size w2 wC := by rw [← hwC]; exact below_alloc (below_alloc (below_alloc (Below.refl _ _) _) _) _
 obtain ⟨p2, hp2⟩ : ∃ p2, (planC twoP (some ⟨w2.heap.size + 1 + 1 + 1, 0, none⟩) 1).toArray = p2 := ⟨_, rfl⟩
 have hp2z : p2.size = 33 := by rw [← hp2]; exact planC_size rfl _ _
 have hp2o : p2.all (·.oneCell') = true := by rw [← hp2]; exact planC_one _ _ _
 have HB81 : Aside0 (Try.prog.built 81 [(1, .slice (some ⟨w2.heap.size + 1 + 1 + 1, 0, none⟩) 1 1)] = some p2) := ⟨by rw [← hp2]; exact HB81.out _ _ _⟩
 have hsn3 := store_new (wC.alloc (.cells #[.slice (some ⟨w2.heap.size + 1 + 1, 0, none⟩) 2 2] 92)) #[.int .u8 0, .int .u8 0, .int .u8 0, .int .u8 0, .int .u8 0, .int .u8 0, .int .u8 0, .int .u8 0, .int .u8 0, .int .u8 0, .int .u8 0, .int .u8 0, .int .u8 0, .int .u8 0, .int .u8 0, .int .u8 0, .int .u8 0, .int .u8 0, .int .u8 0, .int .u8 0, .int .u8 0, .int .u8 0, .int .u8 0, .int .u8 0, .int .u8 0, .int .u8 0, .int .u8 0, .int .u8 0, .int .u8 0, .int .u8 0, .int .u8 0, .int .u8 0, .slice none 0 0] p2 81 (by rw [hp2z]; rfl) hp2o
 rw [alloc_size, hsC] at hsn3
 obtain ⟨wE, hwE⟩ : ∃ wE, (wC.alloc (.cells #[.slice (some ⟨w2.heap.size + 1 + 1, 0, none⟩) 2 2] 92)).alloc (.cells p2 81) = wE := ⟨_, rfl⟩
 have hC5 : Kd.C batK wE (some ⟨w2.heap.size + 1 + 1 + 1, 0, none⟩) 1 [[setX, setX]] := by
  refine HXC.out wE (w2.heap.size + 1 + 1) (w2.heap.size + 1 + 1 + 1) ?_ ?_
  ·rw [← hwE]; exact blk_alloc (blk_alloc hbC _) _
  ·rw [← hwE]
   have := blk_new wC (.cells #[.slice (some ⟨w2.heap.size + 1 + 1, 0, none⟩) 2 2] 92)
   rw [hsC] at this
   exact blk_alloc this _
 have hb6 : wE.heap[w2.heap.size + 1 + 1 + 1 + 1]? = some (.cells p2 81 (0, 0)) := by
  have := blk_new (wC.alloc (.cells #[.slice (some ⟨w2.heap.size + 1 + 1, 0, none⟩) 2 2] 92)) (.cells p2 81)
  rw [alloc_size, hsC, hwE] at this
  exact this
 have hbqE : wE.heap[w2.heap.size]? = some (.cells q1 81 (0, 0)) := by rw [← hwE]; exact blk_alloc (blk_alloc hbq _) _
 have hbelE : Below w2.heap.size w2 wE := by
  rw [← hwE]
  exact below_step (below_step hbelC (below_alloc (Below.refl _ _) _)) (below_alloc (Below.refl _ _) _)
 have HP2' := HP2.out (w2.heap.size + 1 + 1 + 1) wE hC5
 rw [hp2] at HP2'
 have HPI : Aside0 ((Try.prog.info? 81).map (·.size) = some p2.size) := ⟨by rw [hp2z]; exact infoPlan⟩
 have HBE : Aside0 (((wC.alloc (.cells #[.slice (some ⟨w2.heap.size + 1 + 1, 0, none⟩) 2 2] 92)).alloc (.cells p2 81)).heap[w2.heap.size + 1 + 1 + 1 + 1]? = some (.cells p2 81 (0, 0))) := ⟨by rw [hwE]; exact hb6⟩
 have HPQ : Aside0 (Calls Try.prog 70 #[.agg p2] ((wC.alloc (.cells #[.slice (some ⟨w2.heap.size + 1 + 1, 0, none⟩) 2 2] 92)).alloc (.cells p2 81)) fun e w' => (∃ A c, e = .returned (.tuple #[.slice A 92 c, .int .i64 0]) ∧ 92 ≤ c ∧ RdB w' A 92 b2) ∧ Below wE.heap.size wE w') := ⟨by rw [hwE]; exact HP2'⟩
 have HC5 := am hC5
 have HB6 := am hb6
 have HBQ := am hbqE
 have HBLE := am (below_step HW2.out hbelE)
 have HP2E := am hp2
 have HK1 := am k1
 have HWC := am hwC
 have HCS : Aside0 (wC = ((w2.alloc (.cells q1 81)).alloc (.cells xs 98)).alloc (.cells (xs ++ xs) 98)) := ⟨hwC.symm⟩
 clear hc2 hC2 hb2 hqe hq1o k1 hwC hsC hbC hbq hbelC hp2o hC5 hb6 hbqE hbelE HP2' hwE hp2
 rw [HCS.out] at hsn3 HBE HPQ
 go_wp2_with (first
  | ((with_reducible refine gate_dst (N := 22) rfl ?_); refine wpList_build_cells rfl 94 _ rfl i7 ?hb ?_; case hb => (simp only [List.map_toArray, List.map_cons, List.map_nil]; exact HB94.out))
  | ((with_reducible refine gate_dst (N := 23) rfl ?_); refine wpList_build_cells rfl 96 _ rfl #[.int .i64 1, .int .i64 0] ?hb ?_; case hb => (simp only [List.map_toArray, List.map_cons, List.map_nil]; exact HB96.out))
  | ((with_reducible refine gate_dst (N := 24) rfl ?_); refine wpList_build_cells rfl 98 _ rfl xs ?hb ?_; case hb => (simp only [List.map_toArray, List.map_cons, List.map_nil]; exact HB98.out))
  | ((with_reducible refine gate_dst (N := 25) rfl ?_); refine wpList_load_row rfl 98 (.tmp 5) rfl (w2.heap.size + 1) rfl 98 xs (0, 0) _ HB5.out Try.underlying98 rfl HXI.out ?_)
  | ((with_reducible refine gate_dst (N := 26) rfl ?_); refine wpList_load_row rfl 98 (.tmp 5) rfl (w2.heap.size + 1) rfl 98 xs (0, 0) _ HB5.out Try.underlying98 rfl HXI.out ?_)
  | ((with_reducible refine gate_dst (N := 27) rfl ?_); refine wpList_buildSlice_two rfl 92 98 (.tmp 25) (.tmp 26) rfl 71 xs _ Try.underlying92 zeroOp2 hxz.symm (by decide) (by decide) rfl rfl ?_)
  | ((with_reducible refine gate_dst (N := 29) rfl ?_); refine wpList_build_cells rfl 81 _ rfl p2 ?hb ?_; case hb => (simp only [List.map_toArray, List.map_cons, List.map_nil]; exact HB81.out))
  | ((with_reducible refine gate_dst (N := 31) rfl ?_); refine wpList_load_row rfl 81 (.tmp 6) rfl (w2.heap.size + 1 + 1 + 1 + 1) rfl 81 p2 (0, 0) _ HBE.out Try.underlying81 rfl HPI.out ?_)
  | fail)
 refine HPQ.out.mono ?_
 rintro e_ w3 ⟨⟨A3, c3, rfl, hc3, hr3⟩, hb3⟩
 have HC6 := am (Kd.C_below HC5.out hb3)
 have HB7 := am (blk_below HB6.out hb3)
 have HBQ3 := am (blk_below HBQ.out hb3)
 have HBL3 := am (below_step HBLE.out hb3)
 have HE3 := am (And.intro hc3 hr3)
 clear hc3 hr3 hb3 hsn1 hsn2 hsn3
 go_wp2_with fail
 refine (HG2.out _ _ _ HE3.out.2 HE3.out.1).mono ?_
 rintro e_ w4 ⟨⟨A4, c4, rfl, hc4, hC4⟩, hb4⟩
 dsimp only at hc4 hC4 ⊢
 have hq2 := planC_size (p := twoP) rfl A4 c4
 have hq2o := planC_one twoP A4 c4
 have HS3 := am (fun (W : World) (a : Kd.C batK W (some ⟨w2.heap.size + 1 + 1 + 1, 0, none⟩) 1 [[setX, setX]]) (b : Kd.C batK W A4 1 [[setX, setX]]) => HS2.out (w2.heap.size + 1 + 1 + 1) A4 c4 W a b)
 obtain ⟨q2, hq2e⟩ : ∃ q2, (planC twoP A4 c4).toArray = q2 := ⟨_, rfl⟩
 rw [hq2e] at hq2 hq2o HS3 ⊢
 rw [HP2E.out] at HS3
 have hsn4 := store_new w4 #[.int .u8 0, .int .u8 0, .int .u8 0, .int .u8 0, .int .u8 0, .int .u8 0, .int .u8 0, .int .u8 0, .int .u8 0, .int .u8 0, .int .u8 0, .int .u8 0, .int .u8 0, .int .u8 0, .int .u8 0, .int .u8 0, .int .u8 0, .int .u8 0, .int .u8 0, .int .u8 0, .int .u8 0, .int .u8 0, .int .u8 0, .int .u8 0, .int .u8 0, .int .u8 0, .int .u8 0, .int .u8 0, .int .u8 0, .int .u8 0, .int .u8 0, .int .u8 0, .slice none 0 0] q2 81 (by rw [hq2]; rfl) hq2o
 have HQI : Aside0 ((Try.prog.info? 81).map (·.size) = some q2.size) := ⟨by rw [hq2]; exact infoPlan⟩
 have HC8 := am (Kd.C_alloc (Kd.C_below HC6.out hb4) (.cells q2 81))
 have HB8 := am (blk_alloc (blk_below HB7.out hb4) (.cells q2 81))
 have HBQ4 := am (blk_alloc (blk_below HBQ3.out hb4) (.cells q2 81))
 have HB9 := am (blk_new w4 (.cells q2 81))
 have HC9 := am (Kd.C_alloc hC4 (.cells q2 81))
 have HBL4 := am (below_step (below_step HBL3.out hb4) (below_alloc (Below.refl _ _) (.cells q2 81)))
 have hdd := HD2.out (w2.heap.size + 1 + 1 + 1) _ HC8.out
 rw [HP2E.out] at hdd
 have HDD := am hdd
 clear hc4 hC4 hb4 hq2o hq2e hdd
 go_wp2_with (first
  | ((with_reducible refine gate_dst (N := 40) rfl ?_); refine wpList_load_row rfl 81 (.tmp 6) rfl (w2.heap.size + 1 + 1 + 1 + 1) rfl 81 p2 (0, 0) _ HB8.out Try.underlying81 rfl HPI.out ?_)
  | fail)
 refine HDD.out.mono ?_
 rintro e_ w5 ⟨⟨A5, c5, rfl, hc5, hC5⟩, hb5⟩
 have HB10 := am (blk_below HB8.out hb5)
 have HB11 := am (blk_below HB9.out hb5)
 have HBQ5 := am (blk_below HBQ4.out hb5)
 have HC10 := am (Kd.C_below HC8.out hb5)
 have HC11 := am (Kd.C_below HC9.out hb5)
 have HBL5 := am (below_step HBL4.out hb5)
 obtain ⟨ad5, hA5, x5⟩ := str_at hC5 (i := 0) (by decide) abcd rfl
 subst hA5
 rw [show ad5.add 0 = ad5 by simp [Addr.add]] at x5
 have f32 := (blk_cell HBQ5.out 32).trans HK1.out
 have hab : abcd.toList = [97, 98, 99, 100] := by decide +kernel
 clear hc5 hC5 hb5 hsn4
 go_wp2_with (first
  | ((with_reducible refine gate_dst (N := 75) rfl ?_); refine wpList_load_row_g (by rfl) 81 (.tmp 9) rfl w4.heap.size rfl 81 q2 (0, 0) _ HB11.out Try.underlying81 rfl HQI.out ?_)
  | ((with_reducible refine gate_dst (N := 76) rfl ?_); refine wpList_load_row_g (by rfl) 81 (.tmp 6) rfl (w2.heap.size + 1 + 1 + 1 + 1) rfl 81 p2 (0, 0) _ HB10.out Try.underlying81 rfl HPI.out ?_)
  | fail)
 refine (HS3.out _ HC10.out HC11.out).mono ?_
 rintro e_ w6 ⟨rfl, hb6⟩
 have HB12 := am (blk_below HB10.out hb6)
 have HC12 := am (Kd.C_below HC10.out hb6)
 have HBL6 := am (below_step HBL5.out hb6)
 have hmm := HM2.out (w2.heap.size + 1 + 1 + 1) _ HC12.out
 rw [HP2E.out] at hmm
 have HMM := am hmm
 clear hb6 hmm f32 x5
 go_wp2_with (first
  | ((with_reducible refine gate_dst (N := 80) rfl ?_); refine wpList_load_row_g (by rfl) 81 (.tmp 6) rfl (w2.heap.size + 1 + 1 + 1 + 1) rfl 81 p2 (0, 0) _ HB12.out Try.underlying81 rfl HPI.out ?_)
  | fail)
 refine HMM.out.mono ?_
 rintro e_ w7 ⟨rfl, hb7⟩
 have HBL7 := am (below_step HBL6.out hb7)
 clear hb7
 go_wp2_with fail
 go_ret
 exact ⟨rfl, HBL7.out⟩
end
section
open Go.RowKit Go.Proofs.YtchaegfdcdlfaaaW.PrintWords Go.Proofs.YtchaegfdcdlfaaaW.PrintLast Go.Proofs.YtchaegfdcdlfaaaW.PrintMore
open Go.Proofs.Ytchaegfdcdlfaaa.Y (Bytes RdB put put_range put_length put_length_pos word word_length word_bytes rdb_below rdb_drewN put_call row_slice conv0 bytes_of_wf rdb_cut rdb_take)
attribute [local go_sem] max2_int min2_int max_two min_two max_three min_three max_four min_four
theorem plan_store (w : World) (p : PlanT) (A : Option Addr) (c : Nat) (h : p.base.length = 32) : (storeCells ⟨w.heap.size, 0, none⟩ (planC p A c).toArray.toList).run Try.prog (w.alloc (.cells #[.int .u8 0, .int .u8 0, .int .u8 0, .int .u8 0, .int .u8 0, .int .u8 0, .int .u8 0, .int .u8 0, .int .u8 0, .int .u8 0, .int .u8 0, .int .u8 0, .int .u8 0, .int .u8 0, .int .u8 0, .int .u8 0, .int .u8 0, .int .u8 0, .int .u8 0, .int .u8 0, .int .u8 0, .int .u8 0, .int .u8 0, .int .u8 0, .int .u8 0, .int .u8 0, .int .u8 0, .int .u8 0, .int .u8 0, .int .u8 0, .int .u8 0, .int .u8 0, .slice none 0 0] 81)) = .ok () (w.alloc (.cells (planC p A c).toArray 81)) :=
 store_new w #[.int .u8 0, .int .u8 0, .int .u8 0, .int .u8 0, .int .u8 0, .int .u8 0, .int .u8 0, .int .u8 0, .int .u8 0, .int .u8 0, .int .u8 0, .int .u8 0, .int .u8 0, .int .u8 0, .int .u8 0, .int .u8 0, .int .u8 0, .int .u8 0, .int .u8 0, .int .u8 0, .int .u8 0, .int .u8 0, .int .u8 0, .int .u8 0, .int .u8 0, .int .u8 0, .int .u8 0, .int .u8 0, .int .u8 0, .int .u8 0, .int .u8 0, .int .u8 0, .slice none 0 0] _ 81 (by rw [planC_size h]; rfl) (planC_one p A c)
theorem PlanOk.byt {p : PlanT} (h : PlanOk p) : PlByt p :=
 ⟨⟨h.base.1, bytes_of_wf h.base.2⟩, fun l hl x hx => ⟨⟨(h.b l hl x hx).id.1, bytes_of_wf (h.b l hl x hx).id.2⟩, ⟨(h.b l hl x hx).fro.1, bytes_of_wf (h.b l hl x hx).fro.2⟩, ⟨(h.b l hl x hx).d.1, bytes_of_wf (h.b l hl x hx).d.2⟩⟩⟩
theorem ops_fit {W : World} {A : Option Addr} {l : List OpT} (h : Kd.C opK W A l.length l) : ∀ x ∈ l, FitO x := fun x hx => by
 obtain ⟨i, hi, rfl⟩ := List.getElem_of_mem hx
 obtain ⟨ad, B, c, _, _, _, hC, _⟩ := op_at h hi l[i] (by rw [List.getD_eq_getElem?_getD, List.getElem?_eq_getElem hi]; rfl)
 exact hC.2.1
theorem plan_fit {W : World} {A : Option Addr} {l : List (List OpT)} (h : Kd.C batK W A l.length l) : ∀ b ∈ l, ∀ x ∈ b, FitO x := fun b hb => by
 obtain ⟨i, hi, rfl⟩ := List.getElem_of_mem hb
 obtain ⟨ad, B, c, _, _, hC, _⟩ := bat_at h hi l[i] (by rw [List.getD_eq_getElem?_getD, List.getElem?_eq_getElem hi]; rfl)
 exact ops_fit hC
theorem putPl_bytes {p : PlanT} (hb : PlByt p) : Bytes (putPl p).1 := by
 unfold putPl
 split
 ·rename_i h
  exact plB_byt h hb
 ·intro x hx
  cases hx
theorem putPl_len {p : PlanT} (hb : PlByt p) : (putPl p).1.length ≤ 515827 := by
 unfold putPl
 split
 ·rename_i h
  exact plB_len h hb
 ·show (0 : Nat) ≤ 515827
  decide
theorem z32_eq18 : cells8 zPl.base = #[.int .u8 0, .int .u8 0, .int .u8 0, .int .u8 0, .int .u8 0, .int .u8 0, .int .u8 0, .int .u8 0, .int .u8 0, .int .u8 0, .int .u8 0, .int .u8 0, .int .u8 0, .int .u8 0, .int .u8 0, .int .u8 0, .int .u8 0, .int .u8 0, .int .u8 0, .int .u8 0, .int .u8 0, .int .u8 0, .int .u8 0, .int .u8 0, .int .u8 0, .int .u8 0, .int .u8 0, .int .u8 0, .int .u8 0, .int .u8 0, .int .u8 0, .int .u8 0] := rfl
theorem eql_z18 (W : World) : (binOp .eql 28 (.agg (cells8 zPl.base)) (.agg #[.int .u8 0, .int .u8 0, .int .u8 0, .int .u8 0, .int .u8 0, .int .u8 0, .int .u8 0, .int .u8 0, .int .u8 0, .int .u8 0, .int .u8 0, .int .u8 0, .int .u8 0, .int .u8 0, .int .u8 0, .int .u8 0, .int .u8 0, .int .u8 0, .int .u8 0, .int .u8 0, .int .u8 0, .int .u8 0, .int .u8 0, .int .u8 0, .int .u8 0, .int .u8 0, .int .u8 0, .int .u8 0, .int .u8 0, .int .u8 0, .int .u8 0, .int .u8 0])).run Try.prog W = .ok (.bool true) W := by
 have := eql8 (P := Try.prog) (w := W) (t := 28) Try.underlying28 Try.info5i Try.underlying5 cells5 zPl.base zPl.base rfl rfl
 rw [show (zPl.base == zPl.base) = true from beq_self_eq_true _] at this
 rw [← z32_eq18]
 exact this
end
section
open Go.RowKit Go.Proofs.YtchaegfdcdlfaaaW.PrintWords Go.Proofs.YtchaegfdcdlfaaaW.PrintLast Go.Proofs.YtchaegfdcdlfaaaW.PrintMore
open Go.Proofs.Ytchaegfdcdlfaaa.Y (Bytes RdB)
attribute [local go_sem] max2_int min2_int max_two min_two max_three min_three max_four min_four
def allV (l : List OpT) : List ByteArray := (l.filter (fun x => decide (x.kind = 1))).map (·.v)
theorem allV_app (l m : List OpT) : allV (l ++ m) = allV l ++ allV m := by unfold allV; rw [List.filter_append, List.map_append]
theorem allV_one {x : OpT} (h : x.kind = 1) : allV [x] = [x.v] := by simp [allV, h]
theorem allV_not {x : OpT} (h : ¬ x.kind = 1) : allV [x] = [] := by simp [allV, h]
theorem allV_len (l : List OpT) : (allV l).length ≤ l.length := by unfold allV; rw [List.length_map]; exact List.length_filter_le _ _
theorem svals_all (l : List OpT) : (svals l).Sublist (allV l) := by
 unfold svals allV
 refine List.Sublist.map _ ?_
 rw [show (fun x : OpT => decide (x.kind = 1) && decide (4 ≤ x.v.size)) = (fun x : OpT => (fun x : OpT => decide (4 ≤ x.v.size)) x && (fun x : OpT => decide (x.kind = 1)) x) from funext fun x => Bool.and_comm _ _, ← List.filter_filter]
 exact List.filter_sublist
theorem few_facts {p : PlanT} (h : fewP p = true) : p.b.length ≤ 20 ∧ (∀ b ∈ p.b, b.length ≤ 24) ∧ (∀ b ∈ p.b, ∀ x ∈ b, x.v.size ≤ 300) ∧ p.b.flatten.length ≤ 480 := by
 unfold fewP at h
 rw [Bool.and_eq_true, List.all_eq_true] at h
 have h1 : p.b.length ≤ 20 := of_decide_eq_true h.1
 have hb : ∀ b ∈ p.b, b.length ≤ 24 ∧ ∀ x ∈ b, x.v.size ≤ 300 := fun b hb => by
  have := h.2 b hb
  unfold fewB fewOs at this
  rw [Bool.and_eq_true, Bool.and_eq_true, List.all_eq_true] at this
  refine ⟨of_decide_eq_true this.2, fun x hx => ?_⟩
  have h2 := this.1.2 x hx
  unfold fewO at h2
  simp only [Bool.and_eq_true, decide_eq_true_eq] at h2
  omega
 refine ⟨h1, fun b hb' => (hb b hb').1, fun b hb' => (hb b hb').2, ?_⟩
 have : ∀ l : List (List OpT), (∀ b ∈ l, b.length ≤ 24) → l.flatten.length ≤ 24 * l.length := by
  intro l
  induction l with
  | nil => intro _; exact Nat.le_refl _
  | cons b l ih =>
   intro hl
   have h1 := hl b (by simp)
   have h2 := ih (fun x hx => hl x (by simp [hx]))
   rw [List.flatten_cons, List.length_append, List.length_cons]
   omega
 have := this p.b (fun b hb' => (hb b hb').1)
 omega
theorem flat_take {α : Type} (l : List (List α)) (i : Nat) (h : i < l.length) (x : List α) (hx : l.getD i [] = x) : (l.take (i + 1)).flatten = (l.take i).flatten ++ x := by
 rw [List.take_succ_eq_append_getElem h, List.flatten_append]
 rw [List.getD_eq_getElem?_getD, List.getElem?_eq_getElem h] at hx
 rw [show l[i] = x from hx]
 simp
theorem take_one {α : Type} (l : List α) (i : Nat) (h : i < l.length) (z x : α) (hx : l.getD i z = x) : l.take (i + 1) = l.take i ++ [x] := by
 rw [List.take_succ_eq_append_getElem h]
 rw [List.getD_eq_getElem?_getD, List.getElem?_eq_getElem h] at hx
 rw [show l[i] = x from hx]
theorem drop_one {α : Type} (l : List α) (i : Nat) (h : i < l.length) (z x : α) (hx : l.getD i z = x) : l.drop i = x :: l.drop (i + 1) := by
 rw [List.drop_eq_getElem_cons h]
 rw [List.getD_eq_getElem?_getD, List.getElem?_eq_getElem h] at hx
 rw [show l[i] = x from hx]
theorem nodup_ne {α : Type} {l : List α} (h : l.Nodup) {i k : Nat} (hi : i < l.length) (hk : k < i) (z s t : α) (hs : l.getD i z = s) (ht : l.getD k z = t) : s ≠ t := by
 have hkl : k < l.length := by omega
 rw [List.getD_eq_getElem?_getD, List.getElem?_eq_getElem hi] at hs
 rw [List.getD_eq_getElem?_getD, List.getElem?_eq_getElem hkl] at ht
 intro he
 have e : l[i] = l[k] := by rw [show l[i] = s from hs, show l[k] = t from ht, he]
 exact (List.pairwise_iff_getElem.1 h) k i hkl hi hk e.symm
theorem sub_step {α : Type} {l m : List α} {t s : α} (h : (t :: l).Sublist (s :: m)) (hne : s ≠ t) : (t :: l).Sublist m := by
 cases h with
 | cons _ h => exact h
 | cons_cons _ h => exact absurd rfl hne
end
end Go.Proofs.Ytchaegfdcdlfaaa.X
