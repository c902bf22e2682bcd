/- Texts of this claim, one behind the other: DLay, DApply, DAwake, JFacts, JWords. -/
import Derived.Shelf.Strings.Builder1
import Derived.Shelf.Strings.BuilderK
import Derived.Test.YtchaegfdcdlfaaaE1v
import Derived.Test.YtchaegfdcdlfaaaE2v
import Derived.Test.YtchaegfdcdlfaaaE4v
import Derived.JoinedOf
import Derived.Test.YtchaegfdcdlfaaaProg
import Derived.KernelRfl

/- Go's text builder: the library's contracts at this program's numbers. -/
namespace Go.Proofs.Ytchaegfdcdlfaaa.X
set_option linter.unusedVariables false
open Go.RowKit Go.Proofs Go.Shelf

/-- The numbers. -/
def ren : Ren where
  f := fun n => if n = 166 then 99 else if n = 169 then 100 else if n = 240 then 145 else if n = 276 then 170 else 0
  t := fun n => if n = 3 then 3 else if n = 4 then 4 else if n = 5 then 5 else if n = 9 then 9 else if n = 20 then 20 else if n = 37 then 40 else if n = 70 then 131 else if n = 72 then 133 else if n = 75 then 135 else if n = 80 then 138 else if n = 127 then 198 else if n = 164 then 232 else 0
  g := fun n => n
set_option maxRecDepth 100000 in
theorem lay166 : Lays.n166 Try.prog ren := by
  constructor
  all_goals first | kernel_rfl | (intro w; kernel_rfl)
set_option maxRecDepth 100000 in
theorem lay169 : Lays.n169 Try.prog ren := by
  constructor
  all_goals first | kernel_rfl | (intro w; kernel_rfl)
set_option maxRecDepth 100000 in
theorem layX : Builder.Extra Try.prog ren := by
  refine { sizeBuilder := ?_, liesBuilder := ?_, t5 := ?_, a5 := ?_, z5 := ?_, v5 := ?_, infoByte := ?_, cellsByte := ?_, sizeByte := ?_, neB5 := ?_ }
  all_goals first | kernel_rfl | (intro w; kernel_rfl) | decide
/-- A builder that holds a text. -/
def BuAt (W : World) (base b : Nat) (u : ByteArray) : Prop := Lib.IsBuilderF 133 5 base b (Lib.byteCells u.data.toList) W
theorem builder_stays {T e : TypeId} {B b : Nat} {p : Value} {bs : List Value} {W W' : World} (h : Lib.BuilderAtF T e B b p bs W) (hb : Below W.heap.size W W') : Lib.BuilderAtF T e B b p bs W' := by
  have hl := Lib.BuilderAtF.lt h
  unfold Lib.BuilderAtF at h ⊢
  obtain ⟨h1, v, h2, h3, h4⟩ := h
  refine ⟨h1, v, (hb.block b hl).trans h2, ?_, h4⟩
  refine h3.kept (row := none) ⟨hb.os, hb.tape, hb.output, hb.size, fun k hk _ => hb.block k hk⟩ ?_
  cases v.ownBlock with
  | none => exact .inl rfl
  | some k => exact .inr (by simp)
theorem BuAt.below {W W' : World} {base b : Nat} {u : ByteArray} (h : BuAt W base b u) (hb : Below W.heap.size W W') : BuAt W' base b u := by
  unfold BuAt Lib.IsBuilderF at *
  rcases h with h | h
  · exact .inl (builder_stays h hb)
  · exact .inr (builder_stays h hb)
theorem bu_new (w : World) : BuAt (w.alloc (.cells #[.pointer none, .slice none 0 0] 133)) w.heap.size w.heap.size ByteArray.empty := Lib.IsBuilderF.of (Lib.fresh_isBuilder 133 5 w)
theorem ws_call (base b : Nat) (u s : ByteArray) (w : World) (h : BuAt w base b u) (hlen : u.size + s.size ≤ 1000000000) (hBw : base ≤ w.heap.size) :
    Calls Try.prog 99 #[.pointer (some ⟨b, 0, none⟩), .string s] w fun e w' => e = .returned (.tuple #[.int .i64 s.size, .nilIface]) ∧ BuAt w' base b (u ++ s) ∧ Below base w w' ∧ Lib.OthersKept 5 (some b) w w' := by
  refine (Any.Builder_WriteString_k lay166 layX base b _ s w h (by rw [Lib.byteCells_length]; rw [show u.data.toList.length = u.size by rw [Array.length_toList]; rfl]; omega) hBw).mono ?_
  rintro e w' ⟨rfl, h1, h2, h3⟩
  refine ⟨rfl, ?_, h2, h3⟩
  have e : Lib.byteCells (u ++ s).data.toList = Lib.byteCells u.data.toList ++ Lib.strCells s := by
    simp [Lib.byteCells, Lib.strCells]
  unfold BuAt
  rw [e]
  exact .inr h1
theorem str_call (base b : Nat) (u : ByteArray) (w : World) (h : BuAt w base b u) (hBw : base ≤ w.heap.size) :
    Calls Try.prog 100 #[.pointer (some ⟨b, 0, none⟩)] w fun e w' => e = .returned (.string u) ∧ Below base w w' := by
  refine (Any.Builder_String_any_k lay169 layX base b _ w h hBw).mono ?_
  rintro e w' ⟨rfl, _, h2, _⟩
  exact ⟨by simp, h2⟩
end Go.Proofs.Ytchaegfdcdlfaaa.X

/- delta.Apply, walked; in the printed form. -/
namespace Go.Proofs.Ytchaegfdcdlfaaa.X
set_option linter.unusedVariables false
set_option linter.unusedSimpArgs false
open Go.RowKit Go.Maps Go.Proofs.YtchaegfdcdlfaaaW.PrintWords Go.Proofs.YtchaegfdcdlfaaaW.PrintLast Go.Proofs.YtchaegfdcdlfaaaW.PrintMore

theorem part_size {base : ByteArray} {l : List S67} {j : Nat} (h : mayL l = true) (hf : (l.take j).all (fits base) = true) : (outL base (l.take j)).size ≤ 200 := by
  have h1 := (mayL_append (l := l.take j) (m := l.drop j) (by rw [List.take_append_drop]; exact h)).1
  have h2 := (mayL_iff _).1 h1
  have h3 := outL_size base h2.1 hf
  omega
theorem fits_not {base : ByteArray} {l : List S67} {j : Nat} (h : j < l.length) (hp : fits base (l.getD j z67) = false) : ¬ (mayL l = true ∧ l.all (fits base) = true) := by
  rintro ⟨_, hm⟩
  have := List.all_eq_true.1 hm (l.getD j z67) (by rw [List.getD_eq_getElem?_getD, List.getElem?_eq_getElem h]; exact List.getElem_mem h)
  rw [hp] at this
  simp at this
theorem getD_may {l : List S67} {j : Nat} (h : j < l.length) (hm : mayL l = true) : mayP (l.getD j z67) = true :=
  List.all_eq_true.1 ((mayL_iff l).1 hm).1 (l.getD j z67) (by rw [List.getD_eq_getElem?_getD, List.getElem?_eq_getElem h]; exact List.getElem_mem h)
/-- A piece's own block. -/
def BoxAt (W : World) (g : Nat) (p : S67) : Prop := W.heap[g]? = some (.cells #[.bool p.f0, .int .i64 p.f1, .int .i64 p.f2, .string p.f3] 67 (0, 0))
theorem BoxAt.cells {W : World} {g : Nat} {b0 : Bool} {x1 x2 : Int} {s3 : ByteArray} (h : BoxAt W g ⟨b0, x1, x2, s3⟩) : W.cell? ⟨g, 0, none⟩ = some (.bool b0) ∧ W.cell? ⟨g, 1, none⟩ = some (.int .i64 x1) ∧ W.cell? ⟨g, 2, none⟩ = some (.int .i64 x2) ∧ W.cell? ⟨g, 3, none⟩ = some (.string s3) :=
  ⟨(blk_cell h 0).trans rfl, (blk_cell h 1).trans rfl, (blk_cell h 2).trans rfl, (blk_cell h 3).trans rfl⟩
theorem BoxAt.kept {W W' : World} {g b : Nat} {p : S67} (h : BoxAt W g p) (hk : Lib.OthersKept 5 (some b) W W') (hne : g ≠ b) : BoxAt W' g p :=
  hk g _ h (by simpa using hne) (by intro c fz e; injection e with _ e2; simp at e2)
theorem box_full {W : World} {g : Nat} (h : W.heap[g]? = some (.cells #[.bool false, .int .i64 0, .int .i64 0, .string (⟨#[]⟩ : ByteArray)] 67 (0, 0))) (b0 : Bool) (x1 x2 : Int) (s3 : ByteArray) :
    BoxAt ((((W.setCell ⟨g, 0, none⟩ (.bool b0)).setCell ⟨g, 1, none⟩ (.int .i64 x1)).setCell ⟨g, 2, none⟩ (.int .i64 x2)).setCell ⟨g, 3, none⟩ (.string s3)) g ⟨b0, x1, x2, s3⟩ :=
  blk_put (blk_put (blk_put (blk_put h 0 _ rfl) 1 _ rfl) 2 _ rfl) 3 _ rfl
theorem no_bytes {s : ByteArray} (h : s.size = 0) : s = ⟨#[]⟩ := by
  apply ByteArray.ext
  show s.data = #[]
  exact Array.eq_empty_of_size_eq_zero h
theorem bu_low (w : World) {base : Nat} (h : base ≤ w.heap.size) : BuAt (w.alloc (.cells #[.pointer none, .slice none 0 0] 133)) base w.heap.size ⟨#[]⟩ :=
  Lib.IsBuilderF.of (Or.inl ⟨h, .slice none 0 0, heap_alloc_new w _, World.ownsRow_nil _ _ _ _, by simp [Value.ownBlock]⟩)
theorem bu_lt {W : World} {base b : Nat} {u : ByteArray} (h : BuAt W base b u) : b < W.heap.size := by
  unfold BuAt Lib.IsBuilderF at h
  rcases h with h | h <;> exact Lib.BuilderAtF.lt h
set_option maxHeartbeats 2000000 in
set_option maxRecDepth 100000 in
theorem apply_no {l : List S67} {n : Nat} (hn : l.length = n) (A : Option Addr) (c : Nat) (base : ByteArray) (w : World) (hr : Kd.C k67 w A n l) (hc : n ≤ c) (hl : n ≤ 1000000000) (hm : mayL l = false) :
    Calls Try.prog 56 #[.string base, .slice A n c] w fun e w' => e = .returned (.tuple #[.string ⟨#[]⟩, .bool false]) ∧ Below w.heap.size w w' := by
  go_enter Try.func56, Try.ntmps56
  go_wp2_with fail
  refine (may_callB hn A c _ hr hc hl false hm).mono ?_
  rintro e w1 ⟨rfl, hb1⟩
  go_wp2_with fail
  go_ret2
  exact ⟨rfl, hb1⟩
set_option maxHeartbeats 8000000 in
set_option maxRecDepth 100000 in
theorem apply_yes {l : List S67} {n : Nat} (hn : l.length = n) (A : Option Addr) (c : Nat) (base : ByteArray) (w : World) (hr : Kd.C k67 w A n l) (hc : n ≤ c) (hl : n ≤ 1000000000) (hbs : base.size ≤ 140737488351232) (hm : mayL l = true) (x : ByteArray × Bool) (hx : applyL base l = x) :
    Calls Try.prog 56 #[.string base, .slice A n c] w fun e w' => e = .returned (.tuple #[.string x.1, .bool x.2]) ∧ Below w.heap.size w w' := by
  have HR := Aside0.mk hr
  have HLN := Aside0.mk hn
  have HC := Aside0.mk hc
  have HN := Aside0.mk hl
  have HS := Aside0.mk hbs
  have HM := Aside0.mk hm
  have HX := Aside0.mk hx
  clear hr hn hc hl hbs hm hx
  go_enter Try.func56, Try.ntmps56
  go_wp2_with fail
  refine (may_callB HLN.out A c _ HR.out HC.out HN.out true HM.out).mono ?_
  rintro e w1 ⟨rfl, hb1⟩
  have HB1 := Aside0.mk hb1
  clear hb1
  go_wp2_with fail
  obtain ⟨bu, hbu⟩ : ∃ bu, bu = w1.heap.size := ⟨_, rfl⟩
  have HBW : Aside0 (w.heap.size ≤ bu) := ⟨by rw [hbu]; exact below_size HB1.out⟩
  have HBU0 : Aside0 (BuAt (w1.alloc (.cells #[.pointer none, .slice none 0 0] 133)) w.heap.size bu (outL base (l.take 0))) := ⟨by rw [hbu]; exact bu_low w1 (below_size HB1.out)⟩
  have HB2 : Aside0 (Below w.heap.size w (w1.alloc (.cells #[.pointer none, .slice none 0 0] 133))) := ⟨below_alloc HB1.out _⟩
  rw [← hbu]
  clear hbu
  go_loopg [14] n (fun k v w' => ∃ j : Nat, v = .int .i64 j ∧ Aside0 (k = n - j ∧ j ≤ n) ∧ Aside0 ((l.take j).all (fits base) = true) ∧ Aside0 (BuAt w' w.heap.size bu (outL base (l.take j))) ∧ Aside0 (Below w.heap.size w w'))
  case atStart => exact ⟨0, rfl, ⟨by omega, by omega⟩, ⟨rfl⟩, HBU0, HB2⟩
  case round =>
    clear HBU0 HB2 HB1
    obtain ⟨j, rfl, HJ, HT, HBU, HB⟩ := hrel
    by_cases hj : j < n
    · have HJ2 := Aside0.mk hj
      have hjl : j < l.length := by rw [HLN.out]; exact hj
      have HJL := Aside0.mk hjl
      obtain ⟨p, hpd⟩ : ∃ p, l.getD j z67 = p := ⟨_, rfl⟩
      have HPD := Aside0.mk hpd
      have hmp := getD_may hjl HM.out
      rw [hpd] at hmp
      obtain ⟨ad, hA, hx0, hx1, hx2, hx3⟩ := pc_at (Kd.C_below HR.out HB.out) hj p hpd
      subst hA
      have HUS : Aside0 ((outL base (l.take j)).size ≤ 200) := ⟨part_size HM.out HT.out⟩
      obtain ⟨u, hu⟩ : ∃ u, u = outL base (l.take j) := ⟨_, rfl⟩
      rw [← hu] at HBU HUS
      have HU := Aside0.mk hu
      obtain ⟨b0, x1, x2, s3, hpe⟩ : ∃ b0 x1 x2 s3, p = ⟨b0, x1, x2, s3⟩ := ⟨_, _, _, _, rfl⟩
      have HPE := Aside0.mk hpe
      rw [hpe] at hx0 hx1 hx2 hx3 hmp
      dsimp only at hx0 hx1 hx2 hx3
      have e1 : decide ((j : Int) < (n : Int)) = true := by simpa using hj
      have e2 : ((j : Int) < (n : Int)) = True := by simpa using hj
      have e3 : (0 ≤ (j : Int)) = True := by simp
      have ew : IntKind.i64.wrap ((j : Int) + 1) = ((j + 1 : Nat) : Int) := by have := HN.out; rw [wrap_ok _ (by omega) (by omega)]; omega
      clear hj hu hjl
      cases b0
      · have h4 : x1 = 0 ∧ x2 = 0 ∧ 1 ≤ s3.size ∧ s3.size ≤ 200 := (mayP_true hmp).2 rfl
        have H4 := Aside0.mk h4
        have HF : Aside0 (fits base p = true) := ⟨by rw [hpe]; rfl⟩
        have HO : Aside0 (outP base p = s3) := ⟨by rw [hpe]; unfold outP; rw [if_neg (by simp)]⟩
        clear h4 hmp hpd hpe
        go_wp2_with (first | ((with_reducible refine gate_dst (N := 8) rfl ?_); (try (refine gate_guard (by rfl) ?_; dsimp only)); refine box_event ?hg (N := 8) ?hd (cs := #[.bool false, .int .i64 0, .int .i64 0, .string (⟨#[]⟩ : ByteArray)]) (t := 67) ?hr ?_; (case hd => rfl); (case hg => rfl); (case hr => first | (go_simp; done) | (go_simp; rfl)); intro gb hg w15 hbox hb; have HG := Aside0.mk (show w.heap.size ≤ gb by rw [hg]; exact below_size HB.out); have HB2 := Aside0.mk (below_step HB.out hb); have HBX := Aside0.mk hbox; have HBB := Aside0.mk hb; have HGB := Aside0.mk (Nat.le_of_eq hg.symm); have HNE := Aside0.mk (show gb ≠ bu by have := bu_lt HBU.out; omega); have z0 : w15.cell? ⟨gb, 0, none⟩ = some (.bool false) := (blk_cell hbox 0).trans rfl; have z1 : w15.cell? ⟨gb, 1, none⟩ = some (.int .i64 0) := (blk_cell hbox 1).trans rfl; have z2 : w15.cell? ⟨gb, 2, none⟩ = some (.int .i64 0) := (blk_cell hbox 2).trans rfl; have z3 : w15.cell? ⟨gb, 3, none⟩ = some (.string (⟨#[]⟩ : ByteArray)) := (blk_cell hbox 3).trans rfl; have y0 := blk_frozen hbox 0; have y1 := blk_frozen hbox 1; have y2 := blk_frozen hbox 2; have y3 := blk_frozen hbox 3; clear hb hbox hg) | fail)
        refine (ws_call w.heap.size bu u s3 _ (HBU.out.below (by repeat (first | exact HBB.out | refine below_set ?_ HGB.out))) (by have := HUS.out; have := H4.out; omega) (below_size (by repeat (first | exact HB2.out | refine below_set ?_ HG.out | apply pw_below_drewN | apply below_drew1)))).mono ?_
        rintro e w2 ⟨rfl, hbu2, hbel2, hok2⟩
        obtain ⟨q0, q1, q2, q3⟩ := ((box_full HBX.out false x1 x2 s3).kept hok2 HNE.out).cells
        have HBU2 := Aside0.mk hbu2
        have HB3 : Aside0 (Below w.heap.size w w2) := ⟨Below.trans (by repeat (first | exact HB2.out | refine below_set ?_ HG.out | apply pw_below_drewN | apply below_drew1)) hbel2⟩
        clear hbu2 hbel2 hok2 z0 z1 z2 z3 y0 y1 y2 y3
        go_wp2_with fail
        go_roundg (n - (j + 1))
        case measure => have := HJ.out; have := HJ2.out; omega
        case rel => exact ⟨j + 1, by simp [ew], ⟨rfl, by have := HJ2.out; omega⟩, ⟨by rw [take_snocD l j HJL.out, HPD.out, List.all_append, HT.out]; simp [HF.out]⟩, ⟨by rw [take_snocD l j HJL.out, HPD.out, outL_append, outL_one, HO.out, ← HU.out]; exact HBU2.out⟩, HB3⟩
      · have h4 : 0 ≤ x1 ∧ x1 ≤ 200 ∧ 1 ≤ x2 ∧ x2 ≤ 200 ∧ s3.size = 0 := (mayP_true hmp).1 rfl
        obtain ⟨a, rfl⟩ := Int.eq_ofNat_of_zero_le h4.1
        obtain ⟨d, rfl⟩ := Int.eq_ofNat_of_zero_le (show 0 ≤ x2 by omega)
        have H4 : Aside0 (a ≤ 200 ∧ 1 ≤ d ∧ d ≤ 200 ∧ s3.size = 0) := ⟨by omega⟩
        obtain ⟨q, hq⟩ : ∃ q : Int, q = (base.size : Int) - (a : Int) := ⟨_, rfl⟩
        have wq : IntKind.i64.wrap ((base.size : Int) - (a : Int)) = q := by have := HS.out; rw [wrap_ok _ (by omega) (by omega), hq]
        by_cases hfit : a + d ≤ base.size
        · have f1 : decide ((d : Int) > q) = false := decide_eq_false (by omega)
          have f2 : decide (q < (d : Int)) = false := decide_eq_false (by omega)
          have f3 : (q < (d : Int)) = False := eq_false (by omega)
          have HF : Aside0 (fits base p = true) := ⟨by rw [hpe]; simp [fits]; omega⟩
          obtain ⟨z, hz⟩ : ∃ z : Nat, z = a + d := ⟨_, rfl⟩
          have wz : IntKind.i64.wrap ((a : Int) + (d : Int)) = (z : Int) := by rw [wrap_ok _ (by omega) (by omega), hz]; omega
          have hcut := cut_text base a z (by omega) (by omega)
          obtain ⟨cu, hcu⟩ : ∃ cu, cu = base.extract a z := ⟨_, rfl⟩
          rw [← hcu] at hcut
          have HO : Aside0 (outP base p = cu) := ⟨by rw [hpe]; unfold outP; rw [if_pos rfl, hcu, hz]; rfl⟩
          have HCS : Aside0 (cu.size ≤ 200) := ⟨by rw [hcu]; simp only [ByteArray.size_extract]; omega⟩
          have HS3 : Aside0 (u ++ s3 = u) := ⟨by rw [no_bytes h4.2.2.2.2, bytes_nil]⟩
          clear h4 hmp hpd hpe hfit hz hcu hq
          go_wp2_with (first | ((with_reducible refine gate_dst (N := 8) rfl ?_); (try (refine gate_guard (by rfl) ?_; dsimp only)); refine box_event ?hg (N := 8) ?hd (cs := #[.bool false, .int .i64 0, .int .i64 0, .string (⟨#[]⟩ : ByteArray)]) (t := 67) ?hr ?_; (case hd => rfl); (case hg => rfl); (case hr => first | (go_simp; done) | (go_simp; rfl)); intro gb hg w15 hbox hb; have HG := Aside0.mk (show w.heap.size ≤ gb by rw [hg]; exact below_size HB.out); have HB2 := Aside0.mk (below_step HB.out hb); have HBX := Aside0.mk hbox; have HBB := Aside0.mk hb; have HGB := Aside0.mk (Nat.le_of_eq hg.symm); have HNE := Aside0.mk (show gb ≠ bu by have := bu_lt HBU.out; omega); have z0 : w15.cell? ⟨gb, 0, none⟩ = some (.bool false) := (blk_cell hbox 0).trans rfl; have z1 : w15.cell? ⟨gb, 1, none⟩ = some (.int .i64 0) := (blk_cell hbox 1).trans rfl; have z2 : w15.cell? ⟨gb, 2, none⟩ = some (.int .i64 0) := (blk_cell hbox 2).trans rfl; have z3 : w15.cell? ⟨gb, 3, none⟩ = some (.string (⟨#[]⟩ : ByteArray)) := (blk_cell hbox 3).trans rfl; have y0 := blk_frozen hbox 0; have y1 := blk_frozen hbox 1; have y2 := blk_frozen hbox 2; have y3 := blk_frozen hbox 3; clear hb hbox hg) | fail)
          refine (ws_call w.heap.size bu u s3 _ (HBU.out.below (by repeat (first | exact HBB.out | refine below_set ?_ HGB.out))) (by have := HUS.out; have := H4.out; omega) (below_size (by repeat (first | exact HB2.out | refine below_set ?_ HG.out | apply pw_below_drewN | apply below_drew1)))).mono ?_
          rintro e w2 ⟨rfl, hbu2, hbel2, hok2⟩
          rw [HS3.out] at hbu2
          obtain ⟨q0, q1, q2, q3⟩ := ((box_full HBX.out true (a : Int) (d : Int) s3).kept hok2 HNE.out).cells
          have HBU2 := Aside0.mk hbu2
          have HB3 : Aside0 (Below w.heap.size w w2) := ⟨Below.trans (by repeat (first | exact HB2.out | refine below_set ?_ HG.out | apply pw_below_drewN | apply below_drew1)) hbel2⟩
          clear hbu2 hbel2 hok2 z0 z1 z2 z3 y0 y1 y2 y3
          go_wp2_with fail
          refine (ws_call w.heap.size bu u cu _ HBU2.out (by have := HUS.out; have := HCS.out; omega) (below_size HB3.out)).mono ?_
          rintro e w3 ⟨rfl, hbu3, hbel3, hok3⟩
          have HBU3 := Aside0.mk hbu3
          have HB4 : Aside0 (Below w.heap.size w w3) := ⟨Below.trans HB3.out hbel3⟩
          clear hbu3 hbel3 hok3
          go_wp2_with fail
          go_roundg (n - (j + 1))
          case measure => have := HJ.out; have := HJ2.out; omega
          case rel => exact ⟨j + 1, by simp [ew], ⟨rfl, by have := HJ2.out; omega⟩, ⟨by rw [take_snocD l j HJL.out, HPD.out, List.all_append, HT.out]; simp [HF.out]⟩, ⟨by rw [take_snocD l j HJL.out, HPD.out, outL_append, outL_one, HO.out, ← HU.out]; exact HBU3.out⟩, HB4⟩
        · have f1 : decide ((d : Int) > q) = true := decide_eq_true (by omega)
          have f2 : decide (q < (d : Int)) = true := decide_eq_true (by omega)
          have f3 : (q < (d : Int)) = True := eq_true (by omega)
          have HF : Aside0 (fits base p = false) := ⟨by rw [hpe]; simp [fits]; omega⟩
          have HXX : Aside0 (x = (⟨#[]⟩, false)) := ⟨by rw [← HX.out]; exact applyL_no (fits_not HJL.out (by rw [HPD.out]; exact HF.out))⟩
          clear h4 hmp hpd hpe hfit hq
          go_wp2_with (first | ((with_reducible refine gate_dst (N := 8) rfl ?_); (try (refine gate_guard (by rfl) ?_; dsimp only)); refine box_event ?hg (N := 8) ?hd (cs := #[.bool false, .int .i64 0, .int .i64 0, .string (⟨#[]⟩ : ByteArray)]) (t := 67) ?hr ?_; (case hd => rfl); (case hg => rfl); (case hr => first | (go_simp; done) | (go_simp; rfl)); intro gb hg w15 hbox hb; have HG := Aside0.mk (show w.heap.size ≤ gb by rw [hg]; exact below_size HB.out); have HB2 := Aside0.mk (below_step HB.out hb); have HBX := Aside0.mk hbox; have HBB := Aside0.mk hb; have HGB := Aside0.mk (Nat.le_of_eq hg.symm); have HNE := Aside0.mk (show gb ≠ bu by have := bu_lt HBU.out; omega); have z0 : w15.cell? ⟨gb, 0, none⟩ = some (.bool false) := (blk_cell hbox 0).trans rfl; have z1 : w15.cell? ⟨gb, 1, none⟩ = some (.int .i64 0) := (blk_cell hbox 1).trans rfl; have z2 : w15.cell? ⟨gb, 2, none⟩ = some (.int .i64 0) := (blk_cell hbox 2).trans rfl; have z3 : w15.cell? ⟨gb, 3, none⟩ = some (.string (⟨#[]⟩ : ByteArray)) := (blk_cell hbox 3).trans rfl; have y0 := blk_frozen hbox 0; have y1 := blk_frozen hbox 1; have y2 := blk_frozen hbox 2; have y3 := blk_frozen hbox 3; clear hb hbox hg) | fail)
          go_ret2
          exact ⟨by rw [HXX.out]; rfl, (by repeat (first | exact HB2.out | refine below_set ?_ HG.out | apply pw_below_drewN | apply below_drew1))⟩
    · have e1 : decide ((j : Int) < (n : Int)) = false := by simpa using hj
      have e2 : ((j : Int) < (n : Int)) = False := by simpa using hj
      have htk : l.take j = l := List.take_of_length_le (by rw [HLN.out]; omega)
      rw [htk] at HT HBU
      have HXX : Aside0 (x = (outL base l, true)) := ⟨by rw [← HX.out]; exact applyL_yes HM.out HT.out⟩
      clear htk hj
      go_wp2_with fail
      refine (str_call w.heap.size bu (outL base l) _ HBU.out (below_size HB.out)).mono ?_
      rintro e w2 ⟨rfl, hb2⟩
      have HB5 : Aside0 (Below w.heap.size w w2) := ⟨Below.trans HB.out hb2⟩
      clear hb2
      go_wp2_with fail
      go_ret2
      exact ⟨by rw [HXX.out]; rfl, HB5.out⟩
theorem apply_callB {l : List S67} {n : Nat} (hn : l.length = n) (A : Option Addr) (c : Nat) (base : ByteArray) (w : World) (hr : Kd.C k67 w A n l) (hc : n ≤ c) (hl : n ≤ 1000000000) (hbs : base.size ≤ 140737488351232) (x : ByteArray × Bool) (hx : applyL base l = x) :
    Calls Try.prog 56 #[.string base, .slice A n c] w fun e w' => e = .returned (.tuple #[.string x.1, .bool x.2]) ∧ Below w.heap.size w w' := by
  cases hm : mayL l
  · have : x = (⟨#[]⟩, false) := by rw [← hx]; exact applyL_no (fun h => by rw [hm] at h; simp at h)
    subst this
    exact apply_no hn A c base w hr hc hl hm
  · exact apply_yes hn A c base w hr hc hl hbs hm x hx
/-- In the printed form. -/
def delta_Apply.f (k : Nat) (a0 : ByteArray) (l1 : List (S67)) : Option (ByteArray × Bool) := if l1.length ≤ 1000000000 ∧ a0.size ≤ 140737488351232 then some (applyL a0 l1) else none
theorem delta_Apply.mono : ∀ a0 a1 k, LeO (delta_Apply.f k a0 a1) (delta_Apply.f (k + 1) a0 a1) := fun _ _ _ => LeO.refl _
theorem delta_Apply.calls (k : Nat) (a0 : ByteArray) (A1 : Option Addr) (c1 : Nat) (l1 : List (S67)) (r1 : ByteArray) (r2 : Bool) (w : World) (hr1 : Kd.C k67 w A1 l1.length l1) (hc1 : l1.length ≤ c1) (h : delta_Apply.f k a0 l1 = some (r1, r2)) :
    Calls Try.prog 56 #[.string a0, .slice A1 l1.length c1] w fun e w' => e = .returned (.tuple #[.string r1, .bool r2]) ∧ Below w.heap.size w w' := by
  unfold delta_Apply.f at h
  split at h
  · rename_i hl
    exact apply_callB rfl A1 c1 a0 w hr1 hc1 hl.1 hl.2 (r1, r2) (Option.some.inj h)
  · simp at h
end Go.Proofs.Ytchaegfdcdlfaaa.X

/- The example of layer 11, walked; in the printed form. -/
namespace Go.Proofs.Ytchaegfdcdlfaaa.X
set_option linter.unusedVariables false
set_option linter.unusedSimpArgs false
open Go.RowKit Go.Maps Go.Proofs.YtchaegfdcdlfaaaW.PrintWords Go.Proofs.YtchaegfdcdlfaaaW.PrintLast Go.Proofs.YtchaegfdcdlfaaaW.PrintMore

def awP : List Int := [2, 0, 1, 120, 1, 0, 16]
theorem aw_put : delta_Put.f 30 awL = some (awP, true) := by decide +kernel
theorem aw_get : delta_Get.f 30 awP = some (awL, 7, true) := by kernel_rfl
theorem pc_two {W : World} {A : Option Addr} {p q : S67} (h : Kd.C k67 W A 2 [p, q]) : ∃ ad, A = some ad ∧ PcAt W ad p ∧ PcAt W ⟨ad.block, ad.off + 4, none⟩ q := by
  obtain ⟨ad, hA, h0⟩ := pc_at h (i := 0) (by omega) p rfl
  subst hA
  have h1 := pc_at' h (i := 1) (by omega) q rfl
  exact ⟨ad, rfl, h0, h1⟩
set_option maxHeartbeats 4000000 in
set_option maxRecDepth 100000 in
theorem awake11_call (w : World) : Calls Try.prog 48 #[] w fun e w' => e = .returned (.bool true) ∧ Below w.heap.size w w' := by
  have h3 : (signOf awA).length = 3 := by rw [aw_of]; rfl
  have HA : awA.size ≤ 1000000 := by decide +kernel
  have HX : awX.size ≤ 100000 := by decide +kernel
  go_enter Try.func48, Try.ntmps48
  go_wp2_with fail
  refine (sign_callB awA HA (signOf awA) rfl 3 h3 _).mono ?_
  rintro e w1 ⟨A, c, rfl, hc, hr, hb1⟩
  have HB1 := Aside0.mk hb1
  have HR1 := Aside0.mk hr
  clear hb1 hr hc
  go_wp2_with fail
  refine (make_callB h3 A c awX _ HR1.out (signOf_ok awA) (by omega) HX awL aw_make 2 rfl).mono ?_
  rintro e w2 ⟨A2, c2, rfl, hc2, hr2, hb2⟩
  have HB2 := Aside0.mk (below_step HB1.out hb2)
  have HR2 := Aside0.mk hr2
  have HC2 := Aside0.mk hc2
  clear hb2 hr2 hc2 HB1 HR1
  go_wp2_with fail
  refine (apply_callB (l := awL) (n := 2) rfl A2 c2 awA _ HR2.out HC2.out (by omega) (by omega) (awX, true) aw_apply).mono ?_
  rintro e w3 ⟨rfl, hb3⟩
  have HB3 := Aside0.mk (below_step HB2.out hb3)
  have HR3 := Aside0.mk (Kd.C_below HR2.out hb3)
  clear hb3 HB2 HR2
  go_wp2_with fail
  refine (delta_Put.calls 30 A2 c2 awL awP true _ HR3.out HC2.out aw_put).mono ?_
  rintro e w4 ⟨v4, rfl, ho4, hb4⟩
  obtain ⟨A4, c4, rfl, hc4, hr4⟩ := Kd.R_reads ho4
  have HB4 := Aside0.mk (below_step HB3.out hb4)
  have HR4 := Aside0.mk (Kd.C_below HR3.out hb4)
  have HP4 := Aside0.mk hr4
  have HC4 := Aside0.mk hc4
  clear hb4 ho4 hr4 hc4 HB3 HR3
  go_wp2_with fail
  refine (delta_Get.calls 30 A4 c4 awP awL 7 true _ HP4.out HC4.out aw_get).mono ?_
  rintro e w5 ⟨v5, rfl, ho5, hb5⟩
  obtain ⟨A5, c5, rfl, hc5, hr5⟩ := Kd.R_reads ho5
  have HB5 := Aside0.mk (below_step HB4.out hb5)
  obtain ⟨ad, hA, hp, hq⟩ := pc_two (Kd.C_below HR4.out hb5)
  subst hA
  obtain ⟨x0, x1, x2, x3⟩ := hp
  obtain ⟨y0, y1, y2, y3⟩ := hq
  clear hb5 ho5 hr5 hc5
  have hxl : awX.toList = [120, 97, 98, 99, 100, 101, 102, 103, 104, 105, 106, 107, 108, 109, 110, 111, 112] := by rw [ByteArray.toList_eq]; rfl
  have hpl : awP.length = 7 := rfl
  go_wp2_with fail
  go_ret
  exact ⟨rfl, HB5.out⟩
/-- In the printed form. -/
def rolodexlaw11_awake.f : Option Bool := some true
theorem rolodexlaw11_awake.calls (r : Bool) (w : World) (h : rolodexlaw11_awake.f = some r) :
    Calls Try.prog 48 #[] w fun e w' => e = .returned (.bool r) ∧ Below w.heap.size w w' := by
  obtain rfl : true = r := Option.some.inj h
  exact awake11_call w
end Go.Proofs.Ytchaegfdcdlfaaa.X

/- What a function leads to, reckoned with little fuel: for the closed facts of a row in a large program. -/
namespace Go.Proofs.Ytchaegfdcdlfaaa.J
open Go

/-- The list of what a function leads to; none where the fuel does not do. -/
def closT (P : Program) : (fuel : Nat) → (todo seen : List FuncId) → Option (List FuncId)
  | 0, _, _ => none
  | _ + 1, [], seen => some seen.reverse
  | n + 1, f :: todo, seen => if seen.contains f then closT P n todo seen else closT P n ((P.funcs[f]?).elim [] P.leadsTo ++ todo) (f :: seen)
theorem closT_via (P : Program) : ∀ (n N : Nat) (todo seen r : List FuncId), closT P n todo seen = some r → n ≤ N → P.closureVia N todo seen = r
  | 0, _, _, _, _, h, _ => by simp [closT] at h
  | n + 1, N, [], seen, r, h, hn => by
    obtain ⟨N, rfl⟩ : ∃ M, N = M + 1 := ⟨N - 1, by omega⟩
    have h2 : some seen.reverse = some r := h
    exact Option.some.inj h2
  | n + 1, N, f :: todo, seen, r, h, hn => by
    obtain ⟨N, rfl⟩ : ∃ M, N = M + 1 := ⟨N - 1, by omega⟩
    rw [closT] at h
    rw [Program.closureVia]
    split at h
    · rename_i hs
      rw [if_pos hs]
      exact closT_via P n N todo seen r h (by omega)
    · rename_i hs
      rw [if_neg hs]
      exact closT_via P n N _ _ r h (by omega)
theorem sum_ge {α : Type} (g : α → Nat) : ∀ l : List α, l.length ≤ (l.map fun x => g x + 1).sum
  | [] => by simp
  | x :: l => by
    have := sum_ge g l
    simp only [List.length_cons, List.map_cons, List.sum_cons]
    omega
theorem clos_eq {P : Program} {f n : Nat} (hn : n ≤ 1 + P.funcs.size) (h : (closT P n [f] []).isSome = true) : P.closure f = (closT P n [f] []).getD [] := by
  obtain ⟨r, hr⟩ := Option.isSome_iff_exists.1 h
  have hs := sum_ge (fun g => (P.leadsTo g).length) P.funcs.toList
  rw [Array.length_toList] at hs
  unfold Program.closure
  rw [closT_via P n _ [f] [] r hr (by omega), hr]
  rfl
/-- None of what it leads to leads back. -/
def backT (P : Program) (n : Nat) (L : List FuncId) : Bool := L.any fun g => ((P.funcs[g]?).elim [] P.leadsTo).any fun h => match closT P n [h] [] with | some r => r.contains g | none => true
theorem no_back {P : Program} {n : Nat} (hn : n ≤ 1 + P.funcs.size) {L : List FuncId} (h : backT P n L = false) : (L.any fun g => ((P.funcs[g]?).elim [] P.leadsTo).any fun h => (P.closure h).contains g) = false := by
  rw [List.any_eq_false]
  intro g hg
  have h1 := List.any_eq_false.1 h g hg
  intro h2
  apply h1
  rw [List.any_eq_true] at h2 ⊢
  obtain ⟨x, hx, hc⟩ := h2
  refine ⟨x, hx, ?_⟩
  cases hq : closT P n [x] [] with
  | none => rfl
  | some r =>
    rw [clos_eq hn (f := x) (by rw [hq]; rfl), hq] at hc
    exact hc
end Go.Proofs.Ytchaegfdcdlfaaa.J

/- The head words of the dump: the first three, whatever follows. -/
namespace Go.Proofs.Ytchaegfdcdlfaaa.J
set_option linter.unusedVariables false
set_option linter.unusedSimpArgs false
open Go
def hC : List Nat := [104, 97, 114, 110, 101, 115, 115]
def sC : List Nat := [101, 101, 101, 97, 99, 57, 48, 51, 52, 50, 99, 101, 98, 57, 52, 56, 52, 97, 97, 101, 99, 49, 54, 55, 97, 55, 99, 55, 53, 101, 48, 52, 54, 97, 97, 101, 57, 56, 55, 100, 101, 51, 55, 53, 99, 54, 48, 57, 97, 97, 51, 49, 97, 52, 50, 101, 53, 98, 100, 98, 100, 53, 48, 53]
def cC : List Nat := [99, 117, 116]
def rC : List Nat := [97, 116, 32, 114, 111, 108, 111, 100, 101, 120, 47, 114, 111, 108, 111, 100, 101, 120, 108, 97, 119, 49, 48, 46, 83, 105, 103, 110, 84, 101, 108, 108, 115, 32, 114, 111, 108, 111, 100, 101, 120, 47, 114, 111, 108, 111, 100, 101, 120, 108, 97, 119, 49, 48, 46, 83, 105, 103, 110, 70, 105, 110, 100, 115, 32, 114, 111, 108, 111, 100, 101, 120, 47, 114, 111, 108, 111, 100, 101, 120, 108, 97, 119, 49, 48, 46, 83, 105, 103, 110, 77, 97, 110, 121, 32, 114, 111, 108, 111, 100, 101, 120, 47, 114, 111, 108, 111, 100, 101, 120, 108, 97, 119, 49, 48, 46, 83, 105, 103, 110, 78, 111, 110, 101, 32, 114, 111, 108, 111, 100, 101, 120, 47, 114, 111, 108, 111, 100, 101, 120, 108, 97, 119, 49, 48, 46, 83, 105, 103, 110, 74, 111, 105, 110, 32, 114, 111, 108, 111, 100, 101, 120, 47, 114, 111, 108, 111, 100, 101, 120, 108, 97, 119, 48, 50, 46, 83, 101, 99, 116, 105, 111, 110, 84, 101, 108, 108, 115, 32, 114, 111, 108, 111, 100, 101, 120, 47, 114, 111, 108, 111, 100, 101, 120, 108, 97, 119, 48, 50, 46, 83, 101, 99, 116, 105, 111, 110, 66, 97, 99, 107, 32, 114, 111, 108, 111, 100, 101, 120, 47, 114, 111, 108, 111, 100, 101, 120, 108, 97, 119, 48, 50, 46, 83, 101, 99, 116, 105, 111, 110, 79, 110, 101, 32, 114, 111, 108, 111, 100, 101, 120, 47, 114, 111, 108, 111, 100, 101, 120, 108, 97, 119, 48, 50, 46, 83, 101, 99, 116, 105, 111, 110, 67, 117, 116, 32, 114, 111, 108, 111, 100, 101, 120, 47, 114, 111, 108, 111, 100, 101, 120, 108, 97, 119, 48, 50, 46, 83, 101, 99, 116, 105, 111, 110, 83, 117, 109, 115, 32, 114, 111, 108, 111, 100, 101, 120, 47, 114, 111, 108, 111, 100, 101, 120, 108, 97, 119, 48, 50, 46, 83, 101, 99, 116, 105, 111, 110, 80, 97, 114, 116, 115, 32, 114, 111, 108, 111, 100, 101, 120, 47, 114, 111, 108, 111, 100, 101, 120, 108, 97, 119, 48, 50, 46, 83, 101, 99, 116, 105, 111, 110, 76, 111, 110, 103, 32, 114, 111, 108, 111, 100, 101, 120, 47, 114, 111, 108, 111, 100, 101, 120, 108, 97, 119, 49, 49, 46, 68, 101, 108, 116, 97, 66, 121, 116, 101, 115, 32, 114, 111, 108, 111, 100, 101, 120, 47, 114, 111, 108, 111, 100, 101, 120, 108, 97, 119, 49, 49, 46, 68, 101, 108, 116, 97, 77, 97, 107, 101, 115, 32, 114, 111, 108, 111, 100, 101, 120, 47, 114, 111, 108, 111, 100, 101, 120, 108, 97, 119, 49, 49, 46, 68, 101, 108, 116, 97, 80, 97, 114, 116, 115, 32, 114, 111, 108, 111, 100, 101, 120, 47, 114, 111, 108, 111, 100, 101, 120, 108, 97, 119, 49, 49, 46, 68, 101, 108, 116, 97, 79, 119, 110, 32, 114, 111, 108, 111, 100, 101, 120, 47, 114, 111, 108, 111, 100, 101, 120, 108, 97, 119, 49, 49, 46, 68, 101, 108, 116, 97, 76, 101, 97, 115, 116, 32, 114, 111, 108, 111, 100, 101, 120, 47, 114, 111, 108, 111, 100, 101, 120, 108, 97, 119, 49, 49, 46, 68, 101, 108, 116, 97, 78, 111, 110, 101, 32, 114, 111, 108, 111, 100, 101, 120, 47, 114, 111, 108, 111, 100, 101, 120, 108, 97, 119, 49, 49, 46, 68, 101, 108, 116, 97, 84, 101, 108, 108, 115, 32, 114, 111, 108, 111, 100, 101, 120, 47, 114, 111, 108, 111, 100, 101, 120, 108, 97, 119, 49, 49, 46, 68, 101, 108, 116, 97, 66, 97, 99, 107, 32, 114, 111, 108, 111, 100, 101, 120, 47, 114, 111, 108, 111, 100, 101, 120, 108, 97, 119, 49, 51, 46, 77, 97, 110, 105, 99, 66, 97, 99, 107, 32, 114, 111, 108, 111, 100, 101, 120, 47, 114, 111, 108, 111, 100, 101, 120, 108, 97, 119, 49, 51, 46, 77, 97, 110, 105, 99, 67, 104, 97, 110, 103, 101, 100, 32, 114, 111, 108, 111, 100, 101, 120, 47, 114, 111, 108, 111, 100, 101, 120, 108, 97, 119, 49, 51, 46, 77, 97, 110, 105, 99, 65, 108, 111, 110, 101, 32, 114, 111, 108, 111, 100, 101, 120, 47, 114, 111, 108, 111, 100, 101, 120, 108, 97, 119, 49, 56, 46, 67, 111, 100, 101, 66, 97, 99, 107, 32, 114, 111, 108, 111, 100, 101, 120, 47, 114, 111, 108, 111, 100, 101, 120, 108, 97, 119, 49, 56, 46, 67, 111, 100, 101, 67, 104, 97, 110, 103, 101, 100, 32, 114, 111, 108, 111, 100, 101, 120, 47, 114, 111, 108, 111, 100, 101, 120, 108, 97, 119, 49, 56, 46, 67, 111, 100, 101, 68, 105, 99, 116, 32, 114, 111, 108, 111, 100, 101, 120, 47, 114, 111, 108, 111, 100, 101, 120, 108, 97, 119, 49, 56, 46, 67, 111, 100, 101, 66, 97, 116, 99, 104, 32, 114, 111, 108, 111, 100, 101, 120, 47, 114, 111, 108, 111, 100, 101, 120, 108, 97, 119, 49, 56, 46, 67, 111, 100, 101, 76, 101, 115, 115]
def sign (n : Nat) : Char := Char.ofNat n
theorem split_word : ∀ (w rest : List Char), (∀ c ∈ w, c ≠ sign 32) → wordsSigns (w ++ sign 32 :: rest) = w :: wordsSigns rest
  | [], rest, _ => by
    show wordsSigns (sign 32 :: rest) = _
    rw [wordsSigns.eq_def]
    rfl
  | c :: w, rest, h => by
    have ih := split_word w rest (fun x hx => h x (by simp [hx]))
    have hc : c ≠ sign 32 := h c (by simp)
    show wordsSigns (c :: (w ++ sign 32 :: rest)) = _
    rw [wordsSigns.eq_def]
    split
    · rename_i heq; cases heq
    · rename_i heq
      injection heq with h1 _
      exact absurd h1 hc
    · rename_i heq
      injection heq with h1 h2
      subst h1
      subst h2
      rw [ih]
theorem initChars : Try.prog.initOrder.toList = hC.map sign ++ sign 32 :: (sC.map sign ++ sign 32 :: (cC.map sign ++ sign 32 :: rC.map sign)) := by
  have h : Try.prog.initOrder = String.ofList (hC.map sign ++ sign 32 :: (sC.map sign ++ sign 32 :: (cC.map sign ++ sign 32 :: rC.map sign))) := by kernel_rfl
  rw [h, String.toList_ofList]
theorem noBlank (l : List Nat) (h : l.all (fun n => decide (33 ≤ n ∧ n < 128)) = true) : ∀ c ∈ l.map sign, c ≠ sign 32 := fun c hc e => by
  obtain ⟨n, hn, rfl⟩ := List.mem_map.1 hc
  have h1 := List.all_eq_true.1 h n hn
  have h2 : 33 ≤ n ∧ n < 128 := by simpa using h1
  have h3 := congrArg Char.toNat e
  have hv : ∀ m, m < 128 → (sign m).toNat = m := fun m hm => by
    have hval : m.isValidChar := Or.inl (by omega)
    unfold sign Char.ofNat
    rw [dif_pos hval]
    show (UInt32.ofNatLT m _).toNat = m
    rw [UInt32.toNat_ofNatLT]
  rw [hv n h2.2, hv 32 (by omega)] at h3
  omega
theorem headWords : ∃ X, wordsSigns Try.prog.initOrder.toList = hC.map sign :: sC.map sign :: cC.map sign :: X := by
  refine ⟨wordsSigns (rC.map sign), ?_⟩
  rw [initChars, split_word _ _ (noBlank hC (by decide +kernel)), split_word _ _ (noBlank sC (by decide +kernel)), split_word _ _ (noBlank cC (by decide +kernel))]
theorem behind (X : List (List Char)) : behindMainWord (hC.map sign :: sC.map sign :: cC.map sign :: X) = cC.map sign :: X := by kernel_rfl
theorem notWhole : (cC.map sign == "gc".toList || cC.map sign == "spec".toList) = false := by kernel_rfl
theorem isCut : (cC.map sign == "cut".toList) = true := by kernel_rfl
theorem later : Try.prog.laysLater = false := by kernel_rfl
theorem noReflect : Try.prog.bearsReflect = false := by kernel_rfl
theorem door : Try.prog.doorFits [] = true := by kernel_rfl
theorem strip (X : List (List Char)) : stripLifts liftWords (cC.map sign :: X) = ([], cC.map sign :: X) := by kernel_rfl
theorem cutWord : cC.map sign = "cut".toList := by kernel_rfl
theorem mayEnter_of {P : Program} {c : List Char} {X : List (List Char)} (h : behindMainWord (wordsSigns P.initOrder.toList) = c :: X) (h1 : stripLifts liftWords (c :: X) = ([], c :: X)) (h2 : c = "cut".toList)
    (h3 : P.laysLater = false) (h4 : P.bearsReflect = false) (h5 : P.doorFits [] = true) : P.mayEnter = true := by
  unfold Program.mayEnter
  rw [h]
  simp [h1, h3, h4, h5]
  simp [h2]
theorem liftsFinal_of {P : Program} {c : List Char} {X : List (List Char)} (h : behindMainWord (wordsSigns P.initOrder.toList) = c :: X) (h1 : stripLifts liftWords (c :: X) = ([], c :: X)) (h2 : c = "cut".toList) : P.liftsFinal = false := by
  unfold Program.liftsFinal Program.headLifts
  rw [h]
  simp [h1]
  simp [h2]
theorem make_of {P : Program} {c : List Char} {X : List (List Char)} (h : behindMainWord (wordsSigns P.initOrder.toList) = c :: X) (h1 : (c == "gc".toList || c == "spec".toList) = false) (h2 : (c == "cut".toList) = true) : P.make = some .cut := by
  unfold Program.make
  rw [h]
  show (if (c == "gc".toList || c == "spec".toList) = true then _ else if (c == "cut".toList || (c == "finals".toList && X.head? == some "cut".toList)) = true then _ else _) = _
  rw [h1, h2, if_neg (by decide), if_pos (by rw [Bool.true_or])]
theorem behindHead : ∃ X, behindMainWord (wordsSigns Try.prog.initOrder.toList) = cC.map sign :: X := by
  obtain ⟨X, hX⟩ := headWords
  exact ⟨X, (congrArg behindMainWord hX).trans (behind X)⟩
theorem mayEnter : Try.prog.mayEnter = true := behindHead.elim fun X h => mayEnter_of h (strip X) cutWord later noReflect door
theorem liftsFinal : Try.prog.liftsFinal = false := behindHead.elim fun X h => liftsFinal_of h (strip X) cutWord
theorem make : Try.prog.make = some .cut := behindHead.elim fun X h => make_of h notWhole isCut
end Go.Proofs.Ytchaegfdcdlfaaa.J
