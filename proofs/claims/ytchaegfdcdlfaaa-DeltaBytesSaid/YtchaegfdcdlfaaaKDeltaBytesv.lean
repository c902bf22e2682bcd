/- DeltaBytes: the walk, the plain law, the row. -/
import Derived.WalkMore
import Derived.Test.YtchaegfdcdlfaaaE5v
import Derived.Test.YtchaegfdcdlfaaaF1v
import Derived.Test.YtchaegfdcdlfaaaG1v
import Derived.Test.YtchaegfdcdlfaaaE1v
import Derived.Test.YtchaegfdcdlfaaaG2v
import Derived.Test.YtchaegfdcdlfaaaE4v
import Derived.Test.YtchaegfdcdlfaaaRows
import Derived.WalkKit
import Derived.ProofKit
import Derived.OpenShut
import Derived.ShutString
import Derived.ChangeOld
import Derived.Below
import Derived.SizedLaws
import Derived.Test.YtchaegfdcdlfaaaVSized

/- The document's Get of pieces, walked; in the printed form. -/
namespace Go.Proofs.Ytchaegfdcdlfaaa.X
set_option linter.unusedVariables false
set_option linter.unusedSimpArgs false
open Go.Proofs.Ytchaegfdcdlfaaa.Y (IsGet Bytes RdB readR rget_call rread_call rdb_drop rdb_below)
open Go.RowKit Go.Maps Go.Proofs.YtchaegfdcdlfaaaW.PrintWords Go.Proofs.YtchaegfdcdlfaaaW.PrintLast Go.Proofs.YtchaegfdcdlfaaaW.PrintMore

theorem rget_callB {l : List Int} (n u : Nat) (z : Bool) (g : getL l = ((n : Int), (u : Int), z)) (hb : Bytes l) (hl : l.length ≤ 1000000000) (m : Nat) (hm : l.length = m) (A : Option Addr) (c : Nat) (w : World) (hr : RdB w A m l) (hc : m ≤ c) :
    Calls Try.prog 91 #[.slice A m c] w fun e w' => e = .returned (.tuple #[.int .u64 (n : Int), .int .i64 (u : Int), .bool z]) ∧ Below w.heap.size w w' := by
  subst hm
  have h := getL_is hb hl
  rw [g] at h
  exact rget_call h hb (by omega) A c w hr hc
theorem rread_callB {l : List Int} (x : ByteArray) (v : Nat) (z : Bool) (g : readR l (getL l) 200 = (x, (v : Int), z)) (hb : Bytes l) (hl : l.length ≤ 1000000000) (m : Nat) (hm : l.length = m) (A : Option Addr) (c : Nat) (w : World) (hr : RdB w A m l) (hc : m ≤ c) :
    Calls Try.prog 96 #[.slice A m c, .int .i64 200] w fun e w' => e = .returned (.tuple #[.string x, .int .i64 (v : Int), .bool z]) ∧ Below w.heap.size w w' := by
  subst hm
  exact rread_call (getL_is hb hl) hb (by omega) 200 (by omega) A c w hr hc (x, (v : Int), z) g
theorem rdb_dropN (A : Option Addr) (c : Nat) (l : List Int) (n : Nat) (hn : l.length = n) (m : Nat) (hm : m ≤ n) (hc : n ≤ c) :
    ∃ A' : Option Addr, (∀ W : World, (Instr.slice 40 (.slice A n c) (some (.int .i64 (m : Int))) none none).run Try.prog W = .ok (.slice A' (n - m) (c - m)) W) ∧ (∀ w : World, RdB w A n l → RdB w A' (n - m) (l.drop m)) ∧ n - m ≤ c - m := by
  subst hn
  exact rdb_drop A c l m hm hc
abbrev GetQ (w : World) (r : List S67 × Int × Bool) (e : Ending) (w' : World) : Prop := ∃ v : Value, e = .returned (.tuple #[v, .int .i64 r.2.1, .bool r.2.2]) ∧ k67.R 67 w' w.heap.size (fun _ => True) v r.1 ∧ Below w.heap.size w w'
theorem box_kept {W W' : World} {g : Nat} {p : S67} (h : BoxAt W g p) (hb : Below W.heap.size W W') : BoxAt W' g p := (hb.block g (blk_lt h)).trans h
theorem readR_form {l : List Int} (hb : Bytes l) (hl : l.length ≤ 1000000000) : ∃ (x : ByteArray) (v : Nat) (z : Bool), readR l (getL l) 200 = (x, (v : Int), z) ∧ v ≤ l.length := by
  have h := readR_used hb hl 200
  exact ⟨_, (readR l (getL l) 200).2.1.toNat, _, by rw [Int.toNat_of_nonneg h.1], by omega⟩
theorem rd_dropG (b : List Int) (at_ : Nat) (c : Int) (t : List Int) (h : b.drop at_ = c :: t) : rd b (at_ : Int) = c := by
  have hl : at_ < b.length := by
    have := congrArg List.length h
    rw [List.length_drop, List.length_cons] at this
    omega
  rw [List.drop_eq_getElem_cons hl] at h
  injection h with h1 _
  unfold rd
  rw [Int.toNat_natCast, List.getD_eq_getElem?_getD, List.getElem?_eq_getElem hl, ← h1]
  rfl
theorem getsR_none (d : Nat) (b : List Int) (acc : List S67) (a : Nat) (h : (pieceR b).2.2 = false) : finR acc a (getsR (d + 1) b) = ([], 0, false) := by
  show finR acc a (if (pieceR b).2.2 = true then _ else none) = _
  rw [if_neg (by simp [h])]
  rfl
theorem getsR_some (d : Nat) (b : List Int) (acc : List S67) (a : Nat) (p : S67) (v : Nat) (h : pieceR b = (p, (v : Int), true)) : finR acc a (getsR (d + 1) b) = finR (acc ++ [p]) (a + v) (getsR d (b.drop v)) := by
  show finR acc a (if (pieceR b).2.2 = true then (getsR d (b.drop (pieceR b).2.1.toNat)).map fun r => ((pieceR b).1 :: r.1, (pieceR b).2.1.toNat + r.2) else none) = _
  rw [h]
  dsimp only
  rw [if_pos rfl, Int.toNat_natCast, finR_step]

set_option maxHeartbeats 16000000 in
set_option maxRecDepth 100000 in
theorem pget_no (A : Option Addr) (c : Nat) (b : List Int) (m : Nat) (hm : b.length = m) (w : World) (hr : RdB w A m b) (hc : m ≤ c) (hb : Bytes b) (hl : m ≤ 1000000) (n u : Nat) (hg : getL b = ((n : Int), (u : Int), false)) : Calls Try.prog 53 #[.slice A m c] w (GetQ w ([], 0, false)) := by
  go_enter Try.func53, Try.ntmps53
  go_wp2_with fail
  refine (rget_callB n u false hg hb (by omega) m hm A c _ hr hc).mono ?_
  rintro e w1 ⟨rfl, hb1⟩
  go_wp2_with fail
  go_ret3
  exact ⟨.slice none 0 0, rfl, Kd.R_nil _ _ _ _ _, hb1⟩
set_option maxHeartbeats 16000000 in
set_option maxRecDepth 100000 in
theorem pget_many (A : Option Addr) (c : Nat) (b : List Int) (m : Nat) (hm : b.length = m) (w : World) (hr : RdB w A m b) (hc : m ≤ c) (hb : Bytes b) (hl : m ≤ 1000000) (n u : Nat) (hg : getL b = ((n : Int), (u : Int), true)) (hn : 60 < n) : Calls Try.prog 53 #[.slice A m c] w (GetQ w ([], 0, false)) := by
  have d1 : decide ((n : Int) > 60) = true := decide_eq_true (by omega)
  have d2 : decide (60 < n) = true := decide_eq_true hn
  go_enter Try.func53, Try.ntmps53
  go_wp2_with fail
  refine (rget_callB n u true hg hb (by omega) m hm A c _ hr hc).mono ?_
  rintro e w1 ⟨rfl, hb1⟩
  go_wp2_with fail
  go_ret3
  exact ⟨.slice none 0 0, rfl, Kd.R_nil _ _ _ _ _, hb1⟩
set_option maxHeartbeats 16000000 in
set_option maxRecDepth 100000 in
theorem pget_main (A : Option Addr) (c : Nat) (b : List Int) (m : Nat) (hm : b.length = m) (w : World) (hr : RdB w A m b) (hc : m ≤ c) (hb : Bytes b) (hl : m ≤ 1000000) (n u : Nat) (hg : getL b = ((n : Int), (u : Int), true)) (hu : u ≤ m) (hn : n ≤ 60) (r : List S67 × Int × Bool) (hr0 : finR [] u (getsR n (b.drop u)) = r) : Calls Try.prog 53 #[.slice A m c] w (GetQ w r) := by
  have d1 : decide ((n : Int) > 60) = false := decide_eq_false (by omega)
  have d2 : decide (60 < n) = false := decide_eq_false (by omega)
  have wn : IntKind.i64.wrap (n : Int) = (n : Int) := wrap_ok _ (by omega) (by omega)
  have HR := Aside0.mk hr
  have HM := Aside0.mk hm
  have HC := Aside0.mk hc
  have HBY := Aside0.mk hb
  have HL := Aside0.mk hl
  have HGL := Aside0.mk hg
  have HU := Aside0.mk hu
  have HN := Aside0.mk hn
  have HR0 := Aside0.mk hr0
  clear hr hm hc hb hl hg hu hn hr0
  go_enter Try.func53, Try.ntmps53
  go_wp2_with fail
  refine (rget_callB n u true HGL.out HBY.out (by have := HL.out; have := HM.out; omega) m HM.out A c _ HR.out HC.out).mono ?_
  rintro e w1 ⟨rfl, hb1⟩
  have HB1 := Aside0.mk hb1
  clear hb1
  go_wp2_with fail
  go_loopg [6, 8, 9] n (fun k v6 v8 v9 W => ∃ (V : Value) (a i : Nat) (acc : List S67), V = v8 ∧ v6 = .int .i64 a ∧ v9 = .int .i64 i ∧ Aside0 (k = n - i ∧ i ≤ n ∧ acc.length = i ∧ a ≤ m) ∧ Aside0 (finR acc a (getsR (n - i) (b.drop a)) = r) ∧ Aside0 (k67.R 67 W w.heap.size (fun _ => True) V acc) ∧ Aside0 (Below w.heap.size w W))
  case atStart => exact ⟨_, u, 0, [], rfl, rfl, rfl, ⟨by have := HU.out; exact ⟨rfl, Nat.zero_le _, rfl, this⟩⟩, ⟨HR0.out⟩, ⟨Kd.R_nil _ _ _ _ _⟩, HB1⟩
  case round =>
    obtain ⟨V, a, i, acc, rfl, rfl, rfl, HI, HRES0, HO, HB⟩ := hrel
    clear HB1 HR0
    obtain ⟨AV, cV, hV⟩ := Kd.R_slice HO.out
    by_cases hi : i < n
    · have e1 : decide ((i : Int) < (n : Int)) = true := by simpa using hi
      have e2 : ((i : Int) < (n : Int)) = True := by simpa using hi
      have ew : IntKind.i64.wrap ((i : Int) + 1) = ((i + 1 : Nat) : Int) := by have := HN.out; rw [wrap_ok _ (by omega) (by omega)]; omega
      obtain ⟨d, hd⟩ : ∃ d, n - i = d + 1 := ⟨n - i - 1, by omega⟩
      have HI2 : Aside0 (i < n ∧ n - (i + 1) = d) := ⟨by omega⟩
      have hres := HRES0.out
      rw [hd] at hres
      clear hi hd
      by_cases ha : a < m
      · obtain ⟨c0, t, ht⟩ : ∃ c0 t, b.drop a = c0 :: t := by
          cases hq : b.drop a with
          | nil => have := congrArg List.length hq; rw [List.length_drop, HM.out, List.length_nil] at this; omega
          | cons c0 t => exact ⟨c0, t, rfl⟩
        have hrd := rd_dropG b a c0 t ht
        obtain ⟨ad, hA, hx⟩ := Kd.at_int (Kd.C_below HR.out HB.out) (a : Int) (by omega) (by omega)
        subst hA
        rw [hrd, Int.toNat_natCast] at hx
        have hbt : Bytes (c0 :: t) := by rw [← ht]; exact drop_bytes HBY.out a
        have hcb := hbt c0 (by simp)
        have htb : Bytes t := fun x hx => hbt x (by simp [hx])
        have HTB := Aside0.mk htb
        have htl : t.length + 1 = m - a := by have := congrArg List.length ht; rw [List.length_drop, HM.out, List.length_cons] at this; omega
        have HTL := Aside0.mk htl
        have hd1 : b.drop (a + 1) = t := by rw [← List.drop_drop, ht]; rfl
        have HD1 := Aside0.mk hd1
        have g1 : decide ((a : Int) ≥ (m : Int)) = false := decide_eq_false (by omega)
        have g2 : decide (m ≤ a) = false := decide_eq_false (by omega)
        have g3 : (0 ≤ (a : Int)) = True := by simp
        have g4 : ((a : Int) < (m : Int)) = True := eq_true (by omega)
        rw [ht] at hres
        obtain ⟨a1, ha1⟩ : ∃ a1, a1 = a + 1 := ⟨_, rfl⟩
        have wa : IntKind.i64.wrap ((a : Int) + 1) = (a1 : Int) := by have := HL.out; rw [wrap_ok _ (by omega) (by omega)]; omega
        have HA1 : Aside0 (a1 = a + 1 ∧ a1 ≤ m) := ⟨by omega⟩
        obtain ⟨A', hcut, hdr, hcc⟩ := rdb_dropN (some ad) c b m HM.out a1 (by omega) HC.out
        have HDR : Aside0 (∀ w : World, RdB w (some ad) m b → RdB w A' (m - a1) t) := ⟨fun w h => by have := hdr w h; rw [ha1, HD1.out] at this; rw [ha1]; exact this⟩
        have HCC := Aside0.mk hcc
        have HTL2 : Aside0 (t.length = m - a1) := ⟨by omega⟩
        clear hdr hcc ht hrd hbt htb htl hd1 ha ha1
        by_cases hc1 : c0 > 1
        · have f1 : decide (c0 > 1) = true := decide_eq_true hc1
          have f2 : decide (1 < c0) = true := decide_eq_true hc1
          have HRES : Aside0 (r = ([], 0, false)) := ⟨by rw [← hres]; exact getsR_none d _ acc a (by rw [pieceR_big c0 t hc1])⟩
          clear hc1 hcb hres hV
          go_wp2_with fail
          go_ret3
          exact ⟨.slice none 0 0, by rw [HRES.out]; rfl, by rw [HRES.out]; exact Kd.R_nil _ _ _ _ _, HB.out⟩
        · by_cases hc0 : c0 = 0
          · subst hc0
            obtain ⟨x, v, z, hrr, hv⟩ := readR_form HTB.out (by have := HL.out; have := HTL.out; omega)
            have HRR := Aside0.mk hrr
            have HV := Aside0.mk hv
            have hpz : pieceR (0 :: t) = (⟨false, 0, 0, x⟩, ((v + 1 : Nat) : Int), z) := by rw [pieceR_zero, hrr]; rfl
            have HPZ := Aside0.mk hpz
            have HRES1 := Aside0.mk hres
            clear hc1 hcb hrr hv hpz hres
            subst hV
            cases z
            · have HRES : Aside0 (r = ([], 0, false)) := ⟨by rw [← HRES1.out]; exact getsR_none d _ acc a (by rw [HPZ.out])⟩
              go_wp2_with (first | ((with_reducible refine gate_dst (N := 10) rfl ?_); (try (refine gate_guard (by rfl) ?_; dsimp only)); refine box_event ?hg (N := 10) ?hd (cs := #[.bool false, .int .i64 0, .int .i64 0, .string (⟨#[]⟩ : ByteArray)]) (t := 67) ?hr ?_; (case hd => rfl); (case hg => rfl); (case hr => first | (go_simp; done) | (go_simp; rfl)); intro gb hg w15 hbox hb; have HG := Aside0.mk (show w.heap.size ≤ gb by rw [hg]; exact below_size HB.out); have HB2 := Aside0.mk (below_step HB.out hb); have HBX := Aside0.mk hbox; have HO2 := Aside0.mk (Kd.R_below (Kd.R_elderB HO.out gb (Nat.le_of_eq hg.symm)) hb); have z0 : w15.cell? ⟨gb, 0, none⟩ = some (.bool false) := (blk_cell hbox 0).trans rfl; have z1 : w15.cell? ⟨gb, 1, none⟩ = some (.int .i64 0) := (blk_cell hbox 1).trans rfl; have z2 : w15.cell? ⟨gb, 2, none⟩ = some (.int .i64 0) := (blk_cell hbox 2).trans rfl; have z3 : w15.cell? ⟨gb, 3, none⟩ = some (.string (⟨#[]⟩ : ByteArray)) := (blk_cell hbox 3).trans rfl; have y0 := blk_frozen hbox 0; have y1 := blk_frozen hbox 1; have y2 := blk_frozen hbox 2; have y3 := blk_frozen hbox 3; clear hb hbox hg) | fail)
              refine (rread_callB x v false HRR.out HTB.out (by have := HL.out; have := HTL.out; omega) (m - a1) HTL2.out A' (c - a1) _ (HDR.out _ (Kd.C_below HR.out (by repeat (first | exact HB2.out | refine below_set ?_ HG.out | apply pw_below_drewN | apply below_drew1)))) HCC.out).mono ?_
              rintro e w2 ⟨rfl, hb2⟩
              have HB3 := Aside0.mk (below_step (by repeat (first | exact HB2.out | refine below_set ?_ HG.out | apply pw_below_drewN | apply below_drew1)) hb2)
              clear hb2 z0 z1 z2 z3 y0 y1 y2 y3
              go_wp2_with fail
              go_ret3
              exact ⟨.slice none 0 0, by rw [HRES.out]; rfl, by rw [HRES.out]; exact Kd.R_nil _ _ _ _ _, HB3.out⟩
            · obtain ⟨a2, ha2⟩ : ∃ a2, a2 = a1 + v := ⟨_, rfl⟩
              have wa2 : IntKind.i64.wrap ((a1 : Int) + (v : Int)) = (a2 : Int) := by have := HL.out; have := HV.out; have := HTL.out; have := HA1.out; rw [wrap_ok _ (by omega) (by omega)]; omega
              have HN2 : Aside0 (finR (acc ++ [⟨false, 0, 0, x⟩]) a2 (getsR d (b.drop a2)) = r) := ⟨by
                rw [← HRES1.out, getsR_some d _ acc a _ (v + 1) HPZ.out, ha2, HA1.out.1, show a + (v + 1) = a + 1 + v by omega]
                congr 2
                rw [← List.drop_drop, HD1.out]
                rfl⟩
              have HA2 : Aside0 (a2 ≤ m) := ⟨by have := HV.out; have := HTL.out; have := HA1.out; omega⟩
              clear ha2
              go_wp2_with (first | ((with_reducible refine gate_dst (N := 10) rfl ?_); (try (refine gate_guard (by rfl) ?_; dsimp only)); refine box_event ?hg (N := 10) ?hd (cs := #[.bool false, .int .i64 0, .int .i64 0, .string (⟨#[]⟩ : ByteArray)]) (t := 67) ?hr ?_; (case hd => rfl); (case hg => rfl); (case hr => first | (go_simp; done) | (go_simp; rfl)); intro gb hg w15 hbox hb; have HG := Aside0.mk (show w.heap.size ≤ gb by rw [hg]; exact below_size HB.out); have HB2 := Aside0.mk (below_step HB.out hb); have HBX := Aside0.mk hbox; have HO2 := Aside0.mk (Kd.R_below (Kd.R_elderB HO.out gb (Nat.le_of_eq hg.symm)) hb); have z0 : w15.cell? ⟨gb, 0, none⟩ = some (.bool false) := (blk_cell hbox 0).trans rfl; have z1 : w15.cell? ⟨gb, 1, none⟩ = some (.int .i64 0) := (blk_cell hbox 1).trans rfl; have z2 : w15.cell? ⟨gb, 2, none⟩ = some (.int .i64 0) := (blk_cell hbox 2).trans rfl; have z3 : w15.cell? ⟨gb, 3, none⟩ = some (.string (⟨#[]⟩ : ByteArray)) := (blk_cell hbox 3).trans rfl; have y0 := blk_frozen hbox 0; have y1 := blk_frozen hbox 1; have y2 := blk_frozen hbox 2; have y3 := blk_frozen hbox 3; clear hb hbox hg) | fail)
              refine (rread_callB x v true HRR.out HTB.out (by have := HL.out; have := HTL.out; omega) (m - a1) HTL2.out A' (c - a1) _ (HDR.out _ (Kd.C_below HR.out (by repeat (first | exact HB2.out | refine below_set ?_ HG.out | apply pw_below_drewN | apply below_drew1)))) HCC.out).mono ?_
              rintro e w2 ⟨rfl, hb2⟩
              have HBQ := Aside0.mk (box_kept (box_full HBX.out false 0 0 ⟨#[]⟩) hb2)
              have HO3 : Aside0 (k67.R 67 w2 w.heap.size (fun k => True ∧ k ≠ gb) (.slice AV acc.length cV) acc) := ⟨Kd.R_below (by repeat (first | exact HO2.out | refine Kd.R_move ?_ (fun k hk => Below.heap_setCell _ ⟨gb, _, none⟩ _ k hk.2))) hb2⟩
              have HB3 := Aside0.mk (below_step (by repeat (first | exact HB2.out | refine below_set ?_ HG.out | apply pw_below_drewN | apply below_drew1)) hb2)
              clear hb2 z0 z1 z2 z3 y0 y1 y2 y3 HO2 HB2
              have HO2 := HO3
              have HB2 := HB3
              clear HO3 HB3
              obtain ⟨z0, z1, z2, z3⟩ := HBQ.out.cells
              have y0 := blk_frozen HBQ.out 0
              have y3 := blk_frozen HBQ.out 3
              go_wp2_with (first
                | ((with_reducible refine gate_builtin (b := .append) (xs := #[.tmp 117, .tmp 119]) rfl ?_); at_builtin; refine Kd.R_append k67 (w0 := w) w.heap.size rfl _ _ 55 67 (.agg #[(.bool false), (.int .i64 0), (.int .i64 0), (.string ⟨#[]⟩)]) 40 rfl Try.underlying55 info67 rfl (by decide) (by omega) (.slice AV acc.length cV) acc (⟨false, 0, 0, x⟩ : S67) [.bool false, .int .i64 0, .int .i64 0, .string x] (fun k => True ∧ k ≠ gb) (fun _ => False) rfl (by first | (go_simp; done) | (go_simp; rfl)) (k67_mkM _ _ _ (⟨false, 0, 0, x⟩ : S67)) (fun _ hk => hk.elim) ?aF (by repeat (first | exact HO2.out | refine Kd.R_move ?_ (fun k hk => Below.heap_setCell _ ⟨gb, _, none⟩ _ k hk.2))) (by repeat (first | exact HB2.out | refine below_set ?_ HG.out | apply pw_below_drewN | apply below_drew1)) (below_size (by repeat (first | exact HB2.out | refine below_set ?_ HG.out | apply pw_below_drewN | apply below_drew1))) (by have := HI.out; have := HN.out; omega) ?_; (case aF => exact fun k hk => ⟨trivial, fun he => by have h_ := blk_lt (blk_put HBQ.out 3 (.string x) rfl); omega⟩); intro v2 w4 hR2 hB2 hg2 hat2; have HP := Aside0.mk (Kd.R_mono hR2 (fun _ _ => trivial)); have HB9 := Aside0.mk hB2; clear hR2 hB2 hg2 hat2)
                | fail)
              go_roundg (n - (i + 1))
              case measure => have := HI.out; have := HI2.out; omega
              case rel => exact ⟨v2, a2, i + 1, acc ++ [(⟨false, 0, 0, x⟩ : S67)], rfl, by simp, by simp [ew], ⟨by have := HI.out; have := HI2.out; have := HA2.out; refine ⟨rfl, by omega, ?_, this⟩; rw [List.length_append]; simp; omega⟩, ⟨by rw [HI2.out.2]; exact HN2.out⟩, ⟨HP.out⟩, HB9⟩
          · have hc1' : c0 = 1 := by omega
            subst hc1'
            obtain ⟨n1, u1, hg1, hu1⟩ := getL_used HTB.out (by have := HL.out; have := HTL.out; omega)
            generalize hz1 : (getL t).2.2 = z1 at hg1
            have HG1 := Aside0.mk hg1
            have HU1 := Aside0.mk hu1
            have htb2 : Bytes (t.drop u1) := drop_bytes HTB.out u1
            have HTB2 := Aside0.mk htb2
            obtain ⟨n2, u2, hg2, hu2⟩ := getL_used htb2 (by have := HL.out; have := HTL.out; rw [List.length_drop]; omega)
            rw [List.length_drop] at hu2
            generalize hz2 : (getL (t.drop u1)).2.2 = z2 at hg2
            have HG2 := Aside0.mk hg2
            have HU2 := Aside0.mk hu2
            have hpz := pieceR_one t n1 u1 n2 u2 z1 z2 hg1 hg2
            have HPZ := Aside0.mk hpz
            have HRES1 := Aside0.mk hres
            obtain ⟨b1, hb1⟩ : ∃ b1, b1 = a1 + u1 := ⟨_, rfl⟩
            have wb1 : IntKind.i64.wrap ((a1 : Int) + (u1 : Int)) = (b1 : Int) := by have := HL.out; have := HTL.out; have := HA1.out; rw [wrap_ok _ (by omega) (by omega)]; omega
            obtain ⟨a2, ha2⟩ : ∃ a2, a2 = b1 + u2 := ⟨_, rfl⟩
            have wb2 : IntKind.i64.wrap ((b1 : Int) + (u2 : Int)) = (a2 : Int) := by have := HL.out; have := HTL.out; have := HA1.out; rw [wrap_ok _ (by omega) (by omega)]; omega
            have HA2 : Aside0 (a2 ≤ m) := ⟨by have := HTL.out; have := HA1.out; omega⟩
            obtain ⟨A2, hcut2, hdr2, hcc2⟩ := rdb_dropN (some ad) c b m HM.out b1 (by have := HTL.out; have := HA1.out; omega) HC.out
            have hd2 : b.drop b1 = t.drop u1 := by rw [hb1, HA1.out.1, ← List.drop_drop, HD1.out]
            have HDR2 : Aside0 (∀ w : World, RdB w (some ad) m b → RdB w A2 (m - b1) (t.drop u1)) := ⟨fun w h => by have := hdr2 w h; rw [hd2] at this; exact this⟩
            have HCC2 := Aside0.mk hcc2
            have HTL3 : Aside0 ((t.drop u1).length = m - b1) := ⟨by have := HTL2.out; have := HA1.out; rw [List.length_drop]; omega⟩
            have HEND : Aside0 (a2 = a + (1 + u1 + u2)) := ⟨by have := HA1.out; omega⟩
            clear hc1 hc0 hcb hg1 hu1 hz1 htb2 hg2 hu2 hz2 hpz hres hb1 ha2 hd2 hdr2 hcc2
            subst hV
            cases z1
            · cases z2
              · have HRES : Aside0 (r = ([], 0, false)) := ⟨by rw [← HRES1.out]; exact getsR_none d _ acc a (by rw [HPZ.out, if_neg (by simp)])⟩
                go_wp2_with (first | ((with_reducible refine gate_dst (N := 10) rfl ?_); (try (refine gate_guard (by rfl) ?_; dsimp only)); refine box_event ?hg (N := 10) ?hd (cs := #[.bool false, .int .i64 0, .int .i64 0, .string (⟨#[]⟩ : ByteArray)]) (t := 67) ?hr ?_; (case hd => rfl); (case hg => rfl); (case hr => first | (go_simp; done) | (go_simp; rfl)); intro gb hg w15 hbox hb; have HG := Aside0.mk (show w.heap.size ≤ gb by rw [hg]; exact below_size HB.out); have HB2 := Aside0.mk (below_step HB.out hb); have HBX := Aside0.mk hbox; have HO2 := Aside0.mk (Kd.R_below (Kd.R_elderB HO.out gb (Nat.le_of_eq hg.symm)) hb); have z0 : w15.cell? ⟨gb, 0, none⟩ = some (.bool false) := (blk_cell hbox 0).trans rfl; have z1 : w15.cell? ⟨gb, 1, none⟩ = some (.int .i64 0) := (blk_cell hbox 1).trans rfl; have z2 : w15.cell? ⟨gb, 2, none⟩ = some (.int .i64 0) := (blk_cell hbox 2).trans rfl; have z3 : w15.cell? ⟨gb, 3, none⟩ = some (.string (⟨#[]⟩ : ByteArray)) := (blk_cell hbox 3).trans rfl; have y0 := blk_frozen hbox 0; have y1 := blk_frozen hbox 1; have y2 := blk_frozen hbox 2; have y3 := blk_frozen hbox 3; clear hb hbox hg) | fail)
                refine (rget_callB n1 u1 false HG1.out HTB.out (by have := HL.out; have := HTL.out; omega) (m - a1) HTL2.out A' (c - a1) _ (HDR.out _ (Kd.C_below HR.out (by repeat (first | exact HB2.out | refine below_set ?_ HG.out | apply pw_below_drewN | apply below_drew1)))) HCC.out).mono ?_
                rintro e w2 ⟨rfl, hb2⟩
                have HBQ := Aside0.mk (box_kept (box_full HBX.out true 0 0 ⟨#[]⟩) hb2)
                have HO3 : Aside0 (k67.R 67 w2 w.heap.size (fun k => True ∧ k ≠ gb) (.slice AV acc.length cV) acc) := ⟨Kd.R_below (by repeat (first | exact HO2.out | refine Kd.R_move ?_ (fun k hk => Below.heap_setCell _ ⟨gb, _, none⟩ _ k hk.2))) hb2⟩
                have HB3 := Aside0.mk (below_step (by repeat (first | exact HB2.out | refine below_set ?_ HG.out | apply pw_below_drewN | apply below_drew1)) hb2)
                clear hb2 z0 z1 z2 z3 y0 y1 y2 y3 HO2 HB2
                have HO2 := HO3
                have HB2 := HB3
                clear HO3 HB3
                obtain ⟨z0, z1, z2, z3⟩ := HBQ.out.cells
                have y1 := blk_frozen HBQ.out 1
                have y2 := blk_frozen HBQ.out 2
                go_wp2_with fail
                refine (rget_callB n2 u2 false HG2.out HTB2.out (by have := HL.out; have := HTL2.out; have := HU1.out; rw [List.length_drop]; omega) (m - b1) HTL3.out A2 (c - b1) _ (HDR2.out _ (Kd.C_below HR.out (by repeat (first | exact HB2.out | refine below_set ?_ HG.out | apply pw_below_drewN | apply below_drew1)))) HCC2.out).mono ?_
                rintro e w3 ⟨rfl, hb3⟩
                have HBQ3 := Aside0.mk (box_kept HBQ.out hb3)
                have HO3 : Aside0 (k67.R 67 w3 w.heap.size (fun k => True ∧ k ≠ gb) (.slice AV acc.length cV) acc) := ⟨Kd.R_below (by repeat (first | exact HO2.out | refine Kd.R_move ?_ (fun k hk => Below.heap_setCell _ ⟨gb, _, none⟩ _ k hk.2))) hb3⟩
                have HB3 := Aside0.mk (below_step (by repeat (first | exact HB2.out | refine below_set ?_ HG.out | apply pw_below_drewN | apply below_drew1)) hb3)
                clear hb3 z0 z1 z2 z3 y1 y2 HO2 HB2 HBQ
                have HO2 := HO3
                have HB2 := HB3
                have HBQ := HBQ3
                clear HO3 HB3 HBQ3
                obtain ⟨z0, z1, z2, z3⟩ := HBQ.out.cells
                have y1 := blk_frozen HBQ.out 1
                have y2 := blk_frozen HBQ.out 2
                go_wp2_with fail
                go_ret3
                exact ⟨.slice none 0 0, by rw [HRES.out]; rfl, by rw [HRES.out]; exact Kd.R_nil _ _ _ _ _, HB2.out⟩
              · have HRES : Aside0 (r = ([], 0, false)) := ⟨by rw [← HRES1.out]; exact getsR_none d _ acc a (by rw [HPZ.out, if_neg (by simp)])⟩
                go_wp2_with (first | ((with_reducible refine gate_dst (N := 10) rfl ?_); (try (refine gate_guard (by rfl) ?_; dsimp only)); refine box_event ?hg (N := 10) ?hd (cs := #[.bool false, .int .i64 0, .int .i64 0, .string (⟨#[]⟩ : ByteArray)]) (t := 67) ?hr ?_; (case hd => rfl); (case hg => rfl); (case hr => first | (go_simp; done) | (go_simp; rfl)); intro gb hg w15 hbox hb; have HG := Aside0.mk (show w.heap.size ≤ gb by rw [hg]; exact below_size HB.out); have HB2 := Aside0.mk (below_step HB.out hb); have HBX := Aside0.mk hbox; have HO2 := Aside0.mk (Kd.R_below (Kd.R_elderB HO.out gb (Nat.le_of_eq hg.symm)) hb); have z0 : w15.cell? ⟨gb, 0, none⟩ = some (.bool false) := (blk_cell hbox 0).trans rfl; have z1 : w15.cell? ⟨gb, 1, none⟩ = some (.int .i64 0) := (blk_cell hbox 1).trans rfl; have z2 : w15.cell? ⟨gb, 2, none⟩ = some (.int .i64 0) := (blk_cell hbox 2).trans rfl; have z3 : w15.cell? ⟨gb, 3, none⟩ = some (.string (⟨#[]⟩ : ByteArray)) := (blk_cell hbox 3).trans rfl; have y0 := blk_frozen hbox 0; have y1 := blk_frozen hbox 1; have y2 := blk_frozen hbox 2; have y3 := blk_frozen hbox 3; clear hb hbox hg) | fail)
                refine (rget_callB n1 u1 false HG1.out HTB.out (by have := HL.out; have := HTL.out; omega) (m - a1) HTL2.out A' (c - a1) _ (HDR.out _ (Kd.C_below HR.out (by repeat (first | exact HB2.out | refine below_set ?_ HG.out | apply pw_below_drewN | apply below_drew1)))) HCC.out).mono ?_
                rintro e w2 ⟨rfl, hb2⟩
                have HBQ := Aside0.mk (box_kept (box_full HBX.out true 0 0 ⟨#[]⟩) hb2)
                have HO3 : Aside0 (k67.R 67 w2 w.heap.size (fun k => True ∧ k ≠ gb) (.slice AV acc.length cV) acc) := ⟨Kd.R_below (by repeat (first | exact HO2.out | refine Kd.R_move ?_ (fun k hk => Below.heap_setCell _ ⟨gb, _, none⟩ _ k hk.2))) hb2⟩
                have HB3 := Aside0.mk (below_step (by repeat (first | exact HB2.out | refine below_set ?_ HG.out | apply pw_below_drewN | apply below_drew1)) hb2)
                clear hb2 z0 z1 z2 z3 y0 y1 y2 y3 HO2 HB2
                have HO2 := HO3
                have HB2 := HB3
                clear HO3 HB3
                obtain ⟨z0, z1, z2, z3⟩ := HBQ.out.cells
                have y1 := blk_frozen HBQ.out 1
                have y2 := blk_frozen HBQ.out 2
                go_wp2_with fail
                refine (rget_callB n2 u2 true HG2.out HTB2.out (by have := HL.out; have := HTL2.out; have := HU1.out; rw [List.length_drop]; omega) (m - b1) HTL3.out A2 (c - b1) _ (HDR2.out _ (Kd.C_below HR.out (by repeat (first | exact HB2.out | refine below_set ?_ HG.out | apply pw_below_drewN | apply below_drew1)))) HCC2.out).mono ?_
                rintro e w3 ⟨rfl, hb3⟩
                have HBQ3 := Aside0.mk (box_kept HBQ.out hb3)
                have HO3 : Aside0 (k67.R 67 w3 w.heap.size (fun k => True ∧ k ≠ gb) (.slice AV acc.length cV) acc) := ⟨Kd.R_below (by repeat (first | exact HO2.out | refine Kd.R_move ?_ (fun k hk => Below.heap_setCell _ ⟨gb, _, none⟩ _ k hk.2))) hb3⟩
                have HB3 := Aside0.mk (below_step (by repeat (first | exact HB2.out | refine below_set ?_ HG.out | apply pw_below_drewN | apply below_drew1)) hb3)
                clear hb3 z0 z1 z2 z3 y1 y2 HO2 HB2 HBQ
                have HO2 := HO3
                have HB2 := HB3
                have HBQ := HBQ3
                clear HO3 HB3 HBQ3
                obtain ⟨z0, z1, z2, z3⟩ := HBQ.out.cells
                have y1 := blk_frozen HBQ.out 1
                have y2 := blk_frozen HBQ.out 2
                go_wp2_with fail
                go_ret3
                exact ⟨.slice none 0 0, by rw [HRES.out]; rfl, by rw [HRES.out]; exact Kd.R_nil _ _ _ _ _, HB2.out⟩
            · cases z2
              · have HRES : Aside0 (r = ([], 0, false)) := ⟨by rw [← HRES1.out]; exact getsR_none d _ acc a (by rw [HPZ.out, if_neg (by simp)])⟩
                go_wp2_with (first | ((with_reducible refine gate_dst (N := 10) rfl ?_); (try (refine gate_guard (by rfl) ?_; dsimp only)); refine box_event ?hg (N := 10) ?hd (cs := #[.bool false, .int .i64 0, .int .i64 0, .string (⟨#[]⟩ : ByteArray)]) (t := 67) ?hr ?_; (case hd => rfl); (case hg => rfl); (case hr => first | (go_simp; done) | (go_simp; rfl)); intro gb hg w15 hbox hb; have HG := Aside0.mk (show w.heap.size ≤ gb by rw [hg]; exact below_size HB.out); have HB2 := Aside0.mk (below_step HB.out hb); have HBX := Aside0.mk hbox; have HO2 := Aside0.mk (Kd.R_below (Kd.R_elderB HO.out gb (Nat.le_of_eq hg.symm)) hb); have z0 : w15.cell? ⟨gb, 0, none⟩ = some (.bool false) := (blk_cell hbox 0).trans rfl; have z1 : w15.cell? ⟨gb, 1, none⟩ = some (.int .i64 0) := (blk_cell hbox 1).trans rfl; have z2 : w15.cell? ⟨gb, 2, none⟩ = some (.int .i64 0) := (blk_cell hbox 2).trans rfl; have z3 : w15.cell? ⟨gb, 3, none⟩ = some (.string (⟨#[]⟩ : ByteArray)) := (blk_cell hbox 3).trans rfl; have y0 := blk_frozen hbox 0; have y1 := blk_frozen hbox 1; have y2 := blk_frozen hbox 2; have y3 := blk_frozen hbox 3; clear hb hbox hg) | fail)
                refine (rget_callB n1 u1 true HG1.out HTB.out (by have := HL.out; have := HTL.out; omega) (m - a1) HTL2.out A' (c - a1) _ (HDR.out _ (Kd.C_below HR.out (by repeat (first | exact HB2.out | refine below_set ?_ HG.out | apply pw_below_drewN | apply below_drew1)))) HCC.out).mono ?_
                rintro e w2 ⟨rfl, hb2⟩
                have HBQ := Aside0.mk (box_kept (box_full HBX.out true 0 0 ⟨#[]⟩) hb2)
                have HO3 : Aside0 (k67.R 67 w2 w.heap.size (fun k => True ∧ k ≠ gb) (.slice AV acc.length cV) acc) := ⟨Kd.R_below (by repeat (first | exact HO2.out | refine Kd.R_move ?_ (fun k hk => Below.heap_setCell _ ⟨gb, _, none⟩ _ k hk.2))) hb2⟩
                have HB3 := Aside0.mk (below_step (by repeat (first | exact HB2.out | refine below_set ?_ HG.out | apply pw_below_drewN | apply below_drew1)) hb2)
                clear hb2 z0 z1 z2 z3 y0 y1 y2 y3 HO2 HB2
                have HO2 := HO3
                have HB2 := HB3
                clear HO3 HB3
                obtain ⟨z0, z1, z2, z3⟩ := HBQ.out.cells
                have y1 := blk_frozen HBQ.out 1
                have y2 := blk_frozen HBQ.out 2
                go_wp2_with fail
                refine (rget_callB n2 u2 false HG2.out HTB2.out (by have := HL.out; have := HTL2.out; have := HU1.out; rw [List.length_drop]; omega) (m - b1) HTL3.out A2 (c - b1) _ (HDR2.out _ (Kd.C_below HR.out (by repeat (first | exact HB2.out | refine below_set ?_ HG.out | apply pw_below_drewN | apply below_drew1)))) HCC2.out).mono ?_
                rintro e w3 ⟨rfl, hb3⟩
                have HBQ3 := Aside0.mk (box_kept HBQ.out hb3)
                have HO3 : Aside0 (k67.R 67 w3 w.heap.size (fun k => True ∧ k ≠ gb) (.slice AV acc.length cV) acc) := ⟨Kd.R_below (by repeat (first | exact HO2.out | refine Kd.R_move ?_ (fun k hk => Below.heap_setCell _ ⟨gb, _, none⟩ _ k hk.2))) hb3⟩
                have HB3 := Aside0.mk (below_step (by repeat (first | exact HB2.out | refine below_set ?_ HG.out | apply pw_below_drewN | apply below_drew1)) hb3)
                clear hb3 z0 z1 z2 z3 y1 y2 HO2 HB2 HBQ
                have HO2 := HO3
                have HB2 := HB3
                have HBQ := HBQ3
                clear HO3 HB3 HBQ3
                obtain ⟨z0, z1, z2, z3⟩ := HBQ.out.cells
                have y1 := blk_frozen HBQ.out 1
                have y2 := blk_frozen HBQ.out 2
                go_wp2_with fail
                go_ret3
                exact ⟨.slice none 0 0, by rw [HRES.out]; rfl, by rw [HRES.out]; exact Kd.R_nil _ _ _ _ _, HB2.out⟩
              · by_cases hb1 : 200 < n1
                · have HRES : Aside0 (r = ([], 0, false)) := ⟨by rw [← HRES1.out]; exact getsR_none d _ acc a (by rw [HPZ.out, if_neg (by omega)])⟩
                  have k1 : decide ((n1 : Int) > 200) = true := decide_eq_true (by omega)
                  have k2 : decide (200 < n1) = true := decide_eq_true (by omega)
                  clear hb1
                  go_wp2_with (first | ((with_reducible refine gate_dst (N := 10) rfl ?_); (try (refine gate_guard (by rfl) ?_; dsimp only)); refine box_event ?hg (N := 10) ?hd (cs := #[.bool false, .int .i64 0, .int .i64 0, .string (⟨#[]⟩ : ByteArray)]) (t := 67) ?hr ?_; (case hd => rfl); (case hg => rfl); (case hr => first | (go_simp; done) | (go_simp; rfl)); intro gb hg w15 hbox hb; have HG := Aside0.mk (show w.heap.size ≤ gb by rw [hg]; exact below_size HB.out); have HB2 := Aside0.mk (below_step HB.out hb); have HBX := Aside0.mk hbox; have HO2 := Aside0.mk (Kd.R_below (Kd.R_elderB HO.out gb (Nat.le_of_eq hg.symm)) hb); have z0 : w15.cell? ⟨gb, 0, none⟩ = some (.bool false) := (blk_cell hbox 0).trans rfl; have z1 : w15.cell? ⟨gb, 1, none⟩ = some (.int .i64 0) := (blk_cell hbox 1).trans rfl; have z2 : w15.cell? ⟨gb, 2, none⟩ = some (.int .i64 0) := (blk_cell hbox 2).trans rfl; have z3 : w15.cell? ⟨gb, 3, none⟩ = some (.string (⟨#[]⟩ : ByteArray)) := (blk_cell hbox 3).trans rfl; have y0 := blk_frozen hbox 0; have y1 := blk_frozen hbox 1; have y2 := blk_frozen hbox 2; have y3 := blk_frozen hbox 3; clear hb hbox hg) | fail)
                  refine (rget_callB n1 u1 true HG1.out HTB.out (by have := HL.out; have := HTL.out; omega) (m - a1) HTL2.out A' (c - a1) _ (HDR.out _ (Kd.C_below HR.out (by repeat (first | exact HB2.out | refine below_set ?_ HG.out | apply pw_below_drewN | apply below_drew1)))) HCC.out).mono ?_
                  rintro e w2 ⟨rfl, hb2⟩
                  have HBQ := Aside0.mk (box_kept (box_full HBX.out true 0 0 ⟨#[]⟩) hb2)
                  have HO3 : Aside0 (k67.R 67 w2 w.heap.size (fun k => True ∧ k ≠ gb) (.slice AV acc.length cV) acc) := ⟨Kd.R_below (by repeat (first | exact HO2.out | refine Kd.R_move ?_ (fun k hk => Below.heap_setCell _ ⟨gb, _, none⟩ _ k hk.2))) hb2⟩
                  have HB3 := Aside0.mk (below_step (by repeat (first | exact HB2.out | refine below_set ?_ HG.out | apply pw_below_drewN | apply below_drew1)) hb2)
                  clear hb2 z0 z1 z2 z3 y0 y1 y2 y3 HO2 HB2
                  have HO2 := HO3
                  have HB2 := HB3
                  clear HO3 HB3
                  obtain ⟨z0, z1, z2, z3⟩ := HBQ.out.cells
                  have y1 := blk_frozen HBQ.out 1
                  have y2 := blk_frozen HBQ.out 2
                  go_wp2_with fail
                  refine (rget_callB n2 u2 true HG2.out HTB2.out (by have := HL.out; have := HTL2.out; have := HU1.out; rw [List.length_drop]; omega) (m - b1) HTL3.out A2 (c - b1) _ (HDR2.out _ (Kd.C_below HR.out (by repeat (first | exact HB2.out | refine below_set ?_ HG.out | apply pw_below_drewN | apply below_drew1)))) HCC2.out).mono ?_
                  rintro e w3 ⟨rfl, hb3⟩
                  have HBQ3 := Aside0.mk (box_kept HBQ.out hb3)
                  have HO3 : Aside0 (k67.R 67 w3 w.heap.size (fun k => True ∧ k ≠ gb) (.slice AV acc.length cV) acc) := ⟨Kd.R_below (by repeat (first | exact HO2.out | refine Kd.R_move ?_ (fun k hk => Below.heap_setCell _ ⟨gb, _, none⟩ _ k hk.2))) hb3⟩
                  have HB3 := Aside0.mk (below_step (by repeat (first | exact HB2.out | refine below_set ?_ HG.out | apply pw_below_drewN | apply below_drew1)) hb3)
                  clear hb3 z0 z1 z2 z3 y1 y2 HO2 HB2 HBQ
                  have HO2 := HO3
                  have HB2 := HB3
                  have HBQ := HBQ3
                  clear HO3 HB3 HBQ3
                  obtain ⟨z0, z1, z2, z3⟩ := HBQ.out.cells
                  have y1 := blk_frozen HBQ.out 1
                  have y2 := blk_frozen HBQ.out 2
                  go_wp2_with fail
                  go_ret3
                  exact ⟨.slice none 0 0, by rw [HRES.out]; rfl, by rw [HRES.out]; exact Kd.R_nil _ _ _ _ _, HB2.out⟩
                · by_cases hb2 : 200 < n2
                  · have HRES : Aside0 (r = ([], 0, false)) := ⟨by rw [← HRES1.out]; exact getsR_none d _ acc a (by rw [HPZ.out, if_neg (by omega)])⟩
                    have k1 : decide ((n1 : Int) > 200) = false := decide_eq_false (by omega)
                    have k2 : decide (200 < n1) = false := decide_eq_false (by omega)
                    have k3 : decide ((n2 : Int) > 200) = true := decide_eq_true (by omega)
                    have k4 : decide (200 < n2) = true := decide_eq_true (by omega)
                    clear hb1 hb2
                    go_wp2_with (first | ((with_reducible refine gate_dst (N := 10) rfl ?_); (try (refine gate_guard (by rfl) ?_; dsimp only)); refine box_event ?hg (N := 10) ?hd (cs := #[.bool false, .int .i64 0, .int .i64 0, .string (⟨#[]⟩ : ByteArray)]) (t := 67) ?hr ?_; (case hd => rfl); (case hg => rfl); (case hr => first | (go_simp; done) | (go_simp; rfl)); intro gb hg w15 hbox hb; have HG := Aside0.mk (show w.heap.size ≤ gb by rw [hg]; exact below_size HB.out); have HB2 := Aside0.mk (below_step HB.out hb); have HBX := Aside0.mk hbox; have HO2 := Aside0.mk (Kd.R_below (Kd.R_elderB HO.out gb (Nat.le_of_eq hg.symm)) hb); have z0 : w15.cell? ⟨gb, 0, none⟩ = some (.bool false) := (blk_cell hbox 0).trans rfl; have z1 : w15.cell? ⟨gb, 1, none⟩ = some (.int .i64 0) := (blk_cell hbox 1).trans rfl; have z2 : w15.cell? ⟨gb, 2, none⟩ = some (.int .i64 0) := (blk_cell hbox 2).trans rfl; have z3 : w15.cell? ⟨gb, 3, none⟩ = some (.string (⟨#[]⟩ : ByteArray)) := (blk_cell hbox 3).trans rfl; have y0 := blk_frozen hbox 0; have y1 := blk_frozen hbox 1; have y2 := blk_frozen hbox 2; have y3 := blk_frozen hbox 3; clear hb hbox hg) | fail)
                    refine (rget_callB n1 u1 true HG1.out HTB.out (by have := HL.out; have := HTL.out; omega) (m - a1) HTL2.out A' (c - a1) _ (HDR.out _ (Kd.C_below HR.out (by repeat (first | exact HB2.out | refine below_set ?_ HG.out | apply pw_below_drewN | apply below_drew1)))) HCC.out).mono ?_
                    rintro e w2 ⟨rfl, hb2⟩
                    have HBQ := Aside0.mk (box_kept (box_full HBX.out true 0 0 ⟨#[]⟩) hb2)
                    have HO3 : Aside0 (k67.R 67 w2 w.heap.size (fun k => True ∧ k ≠ gb) (.slice AV acc.length cV) acc) := ⟨Kd.R_below (by repeat (first | exact HO2.out | refine Kd.R_move ?_ (fun k hk => Below.heap_setCell _ ⟨gb, _, none⟩ _ k hk.2))) hb2⟩
                    have HB3 := Aside0.mk (below_step (by repeat (first | exact HB2.out | refine below_set ?_ HG.out | apply pw_below_drewN | apply below_drew1)) hb2)
                    clear hb2 z0 z1 z2 z3 y0 y1 y2 y3 HO2 HB2
                    have HO2 := HO3
                    have HB2 := HB3
                    clear HO3 HB3
                    obtain ⟨z0, z1, z2, z3⟩ := HBQ.out.cells
                    have y1 := blk_frozen HBQ.out 1
                    have y2 := blk_frozen HBQ.out 2
                    go_wp2_with fail
                    refine (rget_callB n2 u2 true HG2.out HTB2.out (by have := HL.out; have := HTL2.out; have := HU1.out; rw [List.length_drop]; omega) (m - b1) HTL3.out A2 (c - b1) _ (HDR2.out _ (Kd.C_below HR.out (by repeat (first | exact HB2.out | refine below_set ?_ HG.out | apply pw_below_drewN | apply below_drew1)))) HCC2.out).mono ?_
                    rintro e w3 ⟨rfl, hb3⟩
                    have HBQ3 := Aside0.mk (box_kept HBQ.out hb3)
                    have HO3 : Aside0 (k67.R 67 w3 w.heap.size (fun k => True ∧ k ≠ gb) (.slice AV acc.length cV) acc) := ⟨Kd.R_below (by repeat (first | exact HO2.out | refine Kd.R_move ?_ (fun k hk => Below.heap_setCell _ ⟨gb, _, none⟩ _ k hk.2))) hb3⟩
                    have HB3 := Aside0.mk (below_step (by repeat (first | exact HB2.out | refine below_set ?_ HG.out | apply pw_below_drewN | apply below_drew1)) hb3)
                    clear hb3 z0 z1 z2 z3 y1 y2 HO2 HB2 HBQ
                    have HO2 := HO3
                    have HB2 := HB3
                    have HBQ := HBQ3
                    clear HO3 HB3 HBQ3
                    obtain ⟨z0, z1, z2, z3⟩ := HBQ.out.cells
                    have y1 := blk_frozen HBQ.out 1
                    have y2 := blk_frozen HBQ.out 2
                    go_wp2_with fail
                    go_ret3
                    exact ⟨.slice none 0 0, by rw [HRES.out]; rfl, by rw [HRES.out]; exact Kd.R_nil _ _ _ _ _, HB2.out⟩
                  · have HN2 : Aside0 (finR (acc ++ [⟨true, (n1 : Int), (n2 : Int), ⟨#[]⟩⟩]) a2 (getsR d (b.drop a2)) = r) := ⟨by
                      rw [← HRES1.out, getsR_some d _ acc a ⟨true, (n1 : Int), (n2 : Int), ⟨#[]⟩⟩ (1 + u1 + u2) (by rw [HPZ.out, if_pos ⟨rfl, rfl, by omega, by omega⟩]; simp only [Int.natCast_add]; rfl), HEND.out]
                      congr 2
                      rw [show a + (1 + u1 + u2) = (a + 1) + (u1 + u2) by omega, ← List.drop_drop, HD1.out, show 1 + u1 + u2 = (u1 + u2) + 1 by omega]
                      rfl⟩
                    have k1 : decide ((n1 : Int) > 200) = false := decide_eq_false (by omega)
                    have k2 : decide (200 < n1) = false := decide_eq_false (by omega)
                    have k3 : decide ((n2 : Int) > 200) = false := decide_eq_false (by omega)
                    have k4 : decide (200 < n2) = false := decide_eq_false (by omega)
                    have wn1 : IntKind.i64.wrap (n1 : Int) = (n1 : Int) := wrap_ok _ (by omega) (by omega)
                    have wn2 : IntKind.i64.wrap (n2 : Int) = (n2 : Int) := wrap_ok _ (by omega) (by omega)
                    clear hb1 hb2
                    go_wp2_with (first | ((with_reducible refine gate_dst (N := 10) rfl ?_); (try (refine gate_guard (by rfl) ?_; dsimp only)); refine box_event ?hg (N := 10) ?hd (cs := #[.bool false, .int .i64 0, .int .i64 0, .string (⟨#[]⟩ : ByteArray)]) (t := 67) ?hr ?_; (case hd => rfl); (case hg => rfl); (case hr => first | (go_simp; done) | (go_simp; rfl)); intro gb hg w15 hbox hb; have HG := Aside0.mk (show w.heap.size ≤ gb by rw [hg]; exact below_size HB.out); have HB2 := Aside0.mk (below_step HB.out hb); have HBX := Aside0.mk hbox; have HO2 := Aside0.mk (Kd.R_below (Kd.R_elderB HO.out gb (Nat.le_of_eq hg.symm)) hb); have z0 : w15.cell? ⟨gb, 0, none⟩ = some (.bool false) := (blk_cell hbox 0).trans rfl; have z1 : w15.cell? ⟨gb, 1, none⟩ = some (.int .i64 0) := (blk_cell hbox 1).trans rfl; have z2 : w15.cell? ⟨gb, 2, none⟩ = some (.int .i64 0) := (blk_cell hbox 2).trans rfl; have z3 : w15.cell? ⟨gb, 3, none⟩ = some (.string (⟨#[]⟩ : ByteArray)) := (blk_cell hbox 3).trans rfl; have y0 := blk_frozen hbox 0; have y1 := blk_frozen hbox 1; have y2 := blk_frozen hbox 2; have y3 := blk_frozen hbox 3; clear hb hbox hg) | fail)
                    refine (rget_callB n1 u1 true HG1.out HTB.out (by have := HL.out; have := HTL.out; omega) (m - a1) HTL2.out A' (c - a1) _ (HDR.out _ (Kd.C_below HR.out (by repeat (first | exact HB2.out | refine below_set ?_ HG.out | apply pw_below_drewN | apply below_drew1)))) HCC.out).mono ?_
                    rintro e w2 ⟨rfl, hb2⟩
                    have HBQ := Aside0.mk (box_kept (box_full HBX.out true 0 0 ⟨#[]⟩) hb2)
                    have HO3 : Aside0 (k67.R 67 w2 w.heap.size (fun k => True ∧ k ≠ gb) (.slice AV acc.length cV) acc) := ⟨Kd.R_below (by repeat (first | exact HO2.out | refine Kd.R_move ?_ (fun k hk => Below.heap_setCell _ ⟨gb, _, none⟩ _ k hk.2))) hb2⟩
                    have HB3 := Aside0.mk (below_step (by repeat (first | exact HB2.out | refine below_set ?_ HG.out | apply pw_below_drewN | apply below_drew1)) hb2)
                    clear hb2 z0 z1 z2 z3 y0 y1 y2 y3 HO2 HB2
                    have HO2 := HO3
                    have HB2 := HB3
                    clear HO3 HB3
                    obtain ⟨z0, z1, z2, z3⟩ := HBQ.out.cells
                    have y1 := blk_frozen HBQ.out 1
                    have y2 := blk_frozen HBQ.out 2
                    go_wp2_with fail
                    refine (rget_callB n2 u2 true HG2.out HTB2.out (by have := HL.out; have := HTL2.out; have := HU1.out; rw [List.length_drop]; omega) (m - b1) HTL3.out A2 (c - b1) _ (HDR2.out _ (Kd.C_below HR.out (by repeat (first | exact HB2.out | refine below_set ?_ HG.out | apply pw_below_drewN | apply below_drew1)))) HCC2.out).mono ?_
                    rintro e w3 ⟨rfl, hb3⟩
                    have HBQ3 := Aside0.mk (box_kept HBQ.out hb3)
                    have HO3 : Aside0 (k67.R 67 w3 w.heap.size (fun k => True ∧ k ≠ gb) (.slice AV acc.length cV) acc) := ⟨Kd.R_below (by repeat (first | exact HO2.out | refine Kd.R_move ?_ (fun k hk => Below.heap_setCell _ ⟨gb, _, none⟩ _ k hk.2))) hb3⟩
                    have HB3 := Aside0.mk (below_step (by repeat (first | exact HB2.out | refine below_set ?_ HG.out | apply pw_below_drewN | apply below_drew1)) hb3)
                    clear hb3 z0 z1 z2 z3 y1 y2 HO2 HB2 HBQ
                    have HO2 := HO3
                    have HB2 := HB3
                    have HBQ := HBQ3
                    clear HO3 HB3 HBQ3
                    obtain ⟨z0, z1, z2, z3⟩ := HBQ.out.cells
                    have y1 := blk_frozen HBQ.out 1
                    have y2 := blk_frozen HBQ.out 2
                    go_wp2_with (first
                      | ((with_reducible refine gate_builtin (b := .append) (xs := #[.tmp 117, .tmp 119]) rfl ?_); at_builtin; refine Kd.R_append k67 (w0 := w) w.heap.size rfl _ _ 55 67 (.agg #[(.bool false), (.int .i64 0), (.int .i64 0), (.string ⟨#[]⟩)]) 40 rfl Try.underlying55 info67 rfl (by decide) (by omega) (.slice AV acc.length cV) acc (⟨true, (n1 : Int), (n2 : Int), ⟨#[]⟩⟩ : S67) [.bool true, .int .i64 (n1 : Int), .int .i64 (n2 : Int), .string ⟨#[]⟩] (fun k => True ∧ k ≠ gb) (fun _ => False) rfl (by first | (go_simp; done) | (go_simp; rfl)) (k67_mkM _ _ _ (⟨true, (n1 : Int), (n2 : Int), ⟨#[]⟩⟩ : S67)) (fun _ hk => hk.elim) ?aF (by repeat (first | exact HO2.out | refine Kd.R_move ?_ (fun k hk => Below.heap_setCell _ ⟨gb, _, none⟩ _ k hk.2))) (by repeat (first | exact HB2.out | refine below_set ?_ HG.out | apply pw_below_drewN | apply below_drew1)) (below_size (by repeat (first | exact HB2.out | refine below_set ?_ HG.out | apply pw_below_drewN | apply below_drew1))) (by have := HI.out; have := HN.out; omega) ?_; (case aF => exact fun k hk => ⟨trivial, fun he => by have h_ := blk_lt (blk_put (blk_put HBQ.out 1 (.int .i64 (n1 : Int)) rfl) 2 (.int .i64 (n2 : Int)) rfl); omega⟩); intro v2 w4 hR2 hB2 hg2 hat2; have HP := Aside0.mk (Kd.R_mono hR2 (fun _ _ => trivial)); have HB9 := Aside0.mk hB2; clear hR2 hB2 hg2 hat2)
                      | fail)
                    go_roundg (n - (i + 1))
                    case measure => have := HI.out; have := HI2.out; omega
                    case rel => exact ⟨v2, a2, i + 1, acc ++ [(⟨true, (n1 : Int), (n2 : Int), ⟨#[]⟩⟩ : S67)], rfl, by simp, by simp [ew], ⟨by have := HI.out; have := HI2.out; have := HA2.out; refine ⟨rfl, by omega, ?_, this⟩; rw [List.length_append]; simp; omega⟩, ⟨by rw [HI2.out.2]; exact HN2.out⟩, ⟨HP.out⟩, HB9⟩

      · have g1 : decide ((a : Int) ≥ (m : Int)) = true := decide_eq_true (by omega)
        have g2 : decide (m ≤ a) = true := decide_eq_true (by omega)
        have HRES : Aside0 (r = ([], 0, false)) := ⟨by rw [← hres]; exact getsR_none d _ acc a (by rw [List.drop_eq_nil_of_le (by rw [HM.out]; omega), pieceR_nil])⟩
        clear ha hres
        subst hV
        go_wp2_with fail
        go_ret3
        exact ⟨.slice none 0 0, by rw [HRES.out]; rfl, by rw [HRES.out]; exact Kd.R_nil _ _ _ _ _, HB.out⟩
    · have e1 : decide ((i : Int) < (n : Int)) = false := by simpa using hi
      have e2 : ((i : Int) < (n : Int)) = False := by simpa using hi
      have hres := HRES0.out
      rw [show n - i = 0 by omega] at hres
      have hres2 : (if mayL acc = true then (acc, (a : Int), true) else ([], 0, false)) = r := by
        rw [← hres]
        show _ = (if mayL (acc ++ []) = true then (acc ++ [], (a : Int) + ((0 : Nat) : Int), true) else ([], 0, false))
        rw [List.append_nil, show (a : Int) + ((0 : Nat) : Int) = (a : Int) by omega]
      clear hi hres
      obtain ⟨A8, c8, hv8, hc8, hC8⟩ := Kd.R_reads HO.out
      rw [hv8] at hV
      have HC8 := Aside0.mk hc8
      have HK8 := Aside0.mk hC8
      cases hmy : mayL acc
      · have HMY := Aside0.mk hmy
        have HRES : Aside0 (r = ([], 0, false)) := ⟨by rw [← hres2, hmy, if_neg (by simp)]⟩
        clear hres2 hmy hV hc8 hC8
        subst hv8
        go_wp2_with fail
        refine (rmay_call (l := acc) (n := acc.length) rfl A8 c8 _ HK8.out (by have := HI.out; have := HN.out; omega) false HMY.out).mono ?_
        rintro e w2 ⟨rfl, hb2⟩
        have HB3 := Aside0.mk (below_step HB.out hb2)
        clear hb2
        go_wp2_with fail
        go_ret3
        exact ⟨.slice none 0 0, by rw [HRES.out]; rfl, by rw [HRES.out]; exact Kd.R_nil _ _ _ _ _, HB3.out⟩
      · have HMY := Aside0.mk hmy
        have HRES : Aside0 (r = (acc, (a : Int), true)) := ⟨by rw [← hres2, hmy, if_pos rfl]⟩
        clear hres2 hmy hV hc8 hC8
        subst hv8
        go_wp2_with fail
        refine (rmay_call (l := acc) (n := acc.length) rfl A8 c8 _ HK8.out (by have := HI.out; have := HN.out; omega) true HMY.out).mono ?_
        rintro e w2 ⟨rfl, hb2⟩
        have HB3 := Aside0.mk (below_step HB.out hb2)
        have HO3 := Aside0.mk (Kd.R_below HO.out hb2)
        clear hb2
        go_wp2_with fail
        go_ret3
        exact ⟨.slice A8 acc.length c8, by rw [HRES.out]; rfl, by rw [HRES.out]; exact HO3.out, HB3.out⟩
theorem pget_call (A : Option Addr) (c : Nat) (b : List Int) (w : World) (hr : RdB w A b.length b) (hc : b.length ≤ c) (hb : Bytes b) (hl : b.length ≤ 1000000) : Calls Try.prog 53 #[.slice A b.length c] w (GetQ w (getP b)) := by
  obtain ⟨n, u, hg, hu⟩ := getL_used hb (by omega)
  generalize hz : (getL b).2.2 = z at hg
  cases z
  · have : getP b = ([], 0, false) := by unfold getP; rw [hg, if_neg (by simp)]
    rw [this]
    exact pget_no A c b b.length rfl w hr hc hb hl n u hg
  · by_cases hn : n ≤ 60
    · exact pget_main A c b b.length rfl w hr hc hb hl n u hg hu hn _ (getP_fin b n u hg hn).symm
    · have : getP b = ([], 0, false) := by unfold getP; rw [hg, if_neg (by dsimp only; omega)]
      rw [this]
      exact pget_many A c b b.length rfl w hr hc hb hl n u hg (by omega)
/-- In the printed form. -/
def rolodexref11_Get.f (k : Nat) (l0 : List Int) : Option ((List (S67)) × Int × Bool) := if l0.all (fun x => decide (0 ≤ x ∧ x ≤ 255)) = true ∧ l0.length ≤ 1000000 then some (getP l0) else none
theorem rolodexref11_Get.mono : ∀ a0 k, LeO (rolodexref11_Get.f k a0) (rolodexref11_Get.f (k + 1) a0) := fun _ _ => LeO.refl _
theorem rolodexref11_Get.calls (k : Nat) (A0 : Option Addr) (c0 : Nat) (l0 : List Int) (r1 : List (S67)) (r2 : Int) (r3 : Bool) (w : World) (hr0 : Kd.C (Kd.int .u8) w A0 l0.length l0) (hc0 : l0.length ≤ c0) (h : rolodexref11_Get.f k l0 = some (r1, r2, r3)) :
    Calls Try.prog 53 #[.slice A0 l0.length c0] w fun e w' => ∃ v0_ : Value, e = .returned (.tuple #[v0_, .int .i64 r2, .bool r3]) ∧ Kd.R k67 67 w' w.heap.size (fun _ => True) v0_ r1 ∧ Below w.heap.size w w' := by
  unfold rolodexref11_Get.f at h
  split at h
  · rename_i hl
    have hb : Bytes l0 := fun x hx => by simpa using List.all_eq_true.1 hl.1 x hx
    have hx := pget_call A0 c0 l0 w hr0 hc0 hb hl.2
    rw [Option.some.inj h] at hx
    exact hx
  · simp at h
theorem DRGet_eq (b : List Int) (hb : Bytes b) (hl : b.length ≤ 1000000) (k : Nat) : rolodexref11_Get.f k b = some (getP b) := by
  unfold rolodexref11_Get.f
  rw [if_pos ⟨List.all_eq_true.2 fun x hx => by simpa using hb x hx, hl⟩]
end Go.Proofs.Ytchaegfdcdlfaaa.X

-- Printed for this session by a program of its own over an edited copy of the translation's print.

namespace Go.Proofs.Ytchaegfdcdlfaaa.X
open Go.RowKit Go.Proofs.YtchaegfdcdlfaaaW.PrintWords Go.Proofs.YtchaegfdcdlfaaaW.PrintLast Go.Proofs.YtchaegfdcdlfaaaW.PrintMore
attribute [local go_sem] max2_int min2_int max_two min_two max_three min_three max_four min_four   -- for this text's walks alone
set_option linter.unusedVariables false
set_option linter.unusedSimpArgs false

/-! ### rolodexlaw11_DeltaBytes: function 15 -/
def rolodexlaw11_DeltaBytes.j0 : Nat → List (S67) → List Int → Bool → Bool → Option (Bool)
  | 0, _, _, _, _ => none
  | k + 1, x0, x1, x5, x31 => if x31 = true then (some x5) else ((delta_Put.f k x0).bind fun bt528 => ((rolodexref11_Put.f k x0).bind fun bt532 => ((delta_Get.f k x1).bind fun bt536 => ((rolodexref11_Get.f k x1).bind fun bt541 => ((rolodexref11_Same.f k bt536.1 bt541.1).bind fun t546 => (if (strOfNums bt528.1).toList = (strOfNums bt532.1).toList then (if (bt528.2 == bt532.2) = true then (if t546 = true then (if bt536.2.1 = bt541.2.1 then (some (bt536.2.2 == bt541.2.2)) else (some false)) else (some false)) else (some false)) else (some false)))))))
def rolodexlaw11_DeltaBytes.f (k : Nat) (l0 : List (S67)) (l1 : List Int) : Option (Bool) := (rolodexlaw11_awake.f).bind fun t526 => ((rolodexlaw11_few.f k l0).bind fun t527 => (if t526 = true then (if t527 = true then (rolodexlaw11_DeltaBytes.j0 k l0 l1 t526 (decide ((l1.length : Int) > 400))) else (rolodexlaw11_DeltaBytes.j0 k l0 l1 t526 true)) else (rolodexlaw11_DeltaBytes.j0 k l0 l1 t526 true)))
theorem rolodexlaw11_DeltaBytes.mono_l : ∀ k, (∀ y0 y1 y2 y3, LeO (rolodexlaw11_DeltaBytes.j0 k y0 y1 y2 y3) (rolodexlaw11_DeltaBytes.j0 (k + 1) y0 y1 y2 y3))
  | 0 => fun _ _ _ _ r h => by simp [rolodexlaw11_DeltaBytes.j0] at h
  | k + 1 => by
    have ih0 := rolodexlaw11_DeltaBytes.mono_l k
    · intro y0 y1 y2 y3
      unfold rolodexlaw11_DeltaBytes.j0
      repeat' first
      | (with_reducible exact ih0 _ _ _ _)
      | (with_reducible exact delta_Get.mono _ _)
      | (with_reducible exact delta_Put.mono _ _)
      | (with_reducible exact rolodexlaw11_few.mono _ _)
      | (with_reducible exact rolodexref11_Get.mono _ _)
      | (with_reducible exact rolodexref11_Put.mono _ _)
      | (with_reducible exact rolodexref11_Same.mono _ _ _)
      | (with_reducible exact LeO.refl _)
      | (with_reducible exact LeO.none _)
      | (with_reducible refine LeO.ite ?_ ?_)
      | (with_reducible refine LeO.bind ?_ (fun _ => ?_))
      | exact ih0 _ _ _ _
      | exact delta_Get.mono _ _
      | exact delta_Put.mono _ _
      | exact rolodexlaw11_few.mono _ _
      | exact rolodexref11_Get.mono _ _
      | exact rolodexref11_Put.mono _ _
      | exact rolodexref11_Same.mono _ _ _
      | exact LeO.none _
      | refine LeO.ite ?_ ?_
      | refine LeO.bind ?_ (fun _ => ?_)
theorem rolodexlaw11_DeltaBytes.mono : ∀ a0 a1 k, LeO (rolodexlaw11_DeltaBytes.f k a0 a1) (rolodexlaw11_DeltaBytes.f (k + 1) a0 a1) := by
  intro a0 a1 k
  have ih0 := rolodexlaw11_DeltaBytes.mono_l k
  unfold rolodexlaw11_DeltaBytes.f
  repeat' first
      | (with_reducible exact ih0 _ _ _ _)
      | (with_reducible exact delta_Get.mono _ _)
      | (with_reducible exact delta_Put.mono _ _)
      | (with_reducible exact rolodexlaw11_few.mono _ _)
      | (with_reducible exact rolodexref11_Get.mono _ _)
      | (with_reducible exact rolodexref11_Put.mono _ _)
      | (with_reducible exact rolodexref11_Same.mono _ _ _)
      | (with_reducible exact LeO.refl _)
      | (with_reducible exact LeO.none _)
      | (with_reducible refine LeO.ite ?_ ?_)
      | (with_reducible refine LeO.bind ?_ (fun _ => ?_))
      | exact ih0 _ _ _ _
      | exact delta_Get.mono _ _
      | exact delta_Put.mono _ _
      | exact rolodexlaw11_few.mono _ _
      | exact rolodexref11_Get.mono _ _
      | exact rolodexref11_Put.mono _ _
      | exact rolodexref11_Same.mono _ _ _
      | exact LeO.none _
      | refine LeO.ite ?_ ?_
      | refine LeO.bind ?_ (fun _ => ?_)
set_option maxHeartbeats 8000000 in
set_option maxRecDepth 100000 in
theorem rolodexlaw11_DeltaBytes.calls (k : Nat) (A0 : Option Addr) (c0 : Nat) (l0 : List (S67)) (A1 : Option Addr) (c1 : Nat) (l1 : List Int) (r : Bool) (w : World) (hr0 : Kd.C k67 w A0 l0.length l0) (hc0 : l0.length ≤ c0) (hr1 : Kd.C (Kd.int .u8) w A1 l1.length l1) (hc1 : l1.length ≤ c1) (h : rolodexlaw11_DeltaBytes.f k l0 l1 = some r) :
    Calls Try.prog 15 #[.slice A0 l0.length c0, .slice A1 l1.length c1] w fun e w' => e = .returned (.bool r) ∧ Below w.heap.size w w' := by
  have HR0 := Aside0.mk hr0
  have HC0 := Aside0.mk hc0
  clear hr0 hc0
  have HR1 := Aside0.mk hr1
  have HC1 := Aside0.mk hc1
  clear hr1 hc1
  have HB := Aside0.mk (Below.refl w.heap.size w)
  have H : ((rolodexlaw11_awake.f).bind fun t526 => ((rolodexlaw11_few.f k l0).bind fun t527 => (if t526 = true then (if t527 = true then (rolodexlaw11_DeltaBytes.j0 k l0 l1 t526 (decide ((l1.length : Int) > 400))) else (rolodexlaw11_DeltaBytes.j0 k l0 l1 t526 true)) else (rolodexlaw11_DeltaBytes.j0 k l0 l1 t526 true)))) = some r := h
  clear h
  replace H := Option.bind_eq_some_iff.mp H
  obtain ⟨t526, A30, H⟩ := H
  replace H : ((rolodexlaw11_few.f k l0).bind fun t527 => (if t526 = true then (if t527 = true then (rolodexlaw11_DeltaBytes.j0 k l0 l1 t526 (decide ((l1.length : Int) > 400))) else (rolodexlaw11_DeltaBytes.j0 k l0 l1 t526 true)) else (rolodexlaw11_DeltaBytes.j0 k l0 l1 t526 true))) = some r := H
  have A3 := Aside0.mk A30
  clear A30
  replace H := Option.bind_eq_some_iff.mp H
  obtain ⟨t527, A40, H⟩ := H
  replace H : (if t526 = true then (if t527 = true then (rolodexlaw11_DeltaBytes.j0 k l0 l1 t526 (decide ((l1.length : Int) > 400))) else (rolodexlaw11_DeltaBytes.j0 k l0 l1 t526 true)) else (rolodexlaw11_DeltaBytes.j0 k l0 l1 t526 true)) = some r := H
  have A4 := Aside0.mk A40
  clear A40
  have HC5 := Aside0.mk H
  clear H
  go_enter Try.func15, Try.ntmps15
  go_upto_region 3 with (first | ((with_reducible refine gate_callee (f := 48) rfl ?_); refine goesL_ (some 18) rfl rfl Try.func48 (by kernel_rfl) rfl #[] rfl (by (try simp only [List.map_toArray, List.map_cons, List.map_nil]); first | done | rfl | (simp only [List.length_drop, List.length_take]; rfl)) ?_; (with_reducible refine (rolodexlaw11_awake.calls  t526 _ A3.out).mono ?_); rintro e w6 ⟨rfl, hb⟩; refine ⟨_, rfl, ?_⟩; have n0_ := Aside0.mk (below_step (by repeat (first | (with_reducible first | exact HB.out | apply below_alloc | apply pw_below_drewN | apply below_drew1) | exact HB.out)) hb); clear HB; have HB := n0_; clear n0_; (try clear hb); (try clear hb2); (try clear hk); (try clear hi)) | ((with_reducible refine gate_callee (f := 49) rfl ?_); refine goesL_ (some 20) rfl rfl Try.func49 (by kernel_rfl) rfl #[.slice A0 l0.length c0] rfl (by (try simp only [List.map_toArray, List.map_cons, List.map_nil]); first | done | rfl | (simp only [List.length_drop, List.length_take]; rfl)) ?_; (with_reducible refine (rolodexlaw11_few.calls k _ _ l0 t527 _ ?side1 ?side2 A4.out).mono ?_); (case side1 => repeat (first | exact (Kd.C_below HR0.out HB.out) | (with_reducible refine Kd.C_alloc ?_ _) | (with_reducible refine Kd.C_drewN ?_ _) | (with_reducible refine Kd.C_drew ?_))); (case side2 => exact HC0.out); rintro e w' ⟨rfl, ⟨nd, rfl⟩⟩; refine ⟨_, rfl, ?_⟩))
  (try simp only [Act.put, List.setIfInBounds_toArray, List.set_cons_zero, List.set_cons_succ])
  go_cut [31] (fun v31 wc => ∃ (kq : Nat) (x31_4 : Bool), v31 = .bool x31_4 ∧ Aside0 (rolodexlaw11_DeltaBytes.j0 kq l0 l1 t526 x31_4 = some r) ∧ Aside0 (kq ≤ k) ∧ Aside0 (Below w.heap.size w wc))
  case first =>
    have H := HC5.out
    clear HC5
    by_cases c7 : t526 = true
    · subst c7
      have H1 : (if t527 = true then (rolodexlaw11_DeltaBytes.j0 k l0 l1 true (decide ((l1.length : Int) > 400))) else (rolodexlaw11_DeltaBytes.j0 k l0 l1 true true)) = some r := by rw [if_pos rfl] at H; exact H
      clear H
      have H := H1
      clear H1
      by_cases c8 : t527 = true
      · subst c8
        have H1 : (rolodexlaw11_DeltaBytes.j0 k l0 l1 true (decide ((l1.length : Int) > 400))) = some r := by rw [if_pos rfl] at H; exact H
        clear H
        have H := H1
        clear H1
        have H' := Aside0.mk H
        clear H
        go_wp2
        go_meet
        case rel => exact ⟨_, (decide ((l1.length : Int) > 400)), (by first | rfl | (simp; done) | (simp [*]; done)), H', ⟨by first | omega | exact Nat.le_refl _⟩, ⟨by repeat (first | (with_reducible first | exact HB.out | apply below_alloc | apply pw_below_drewN | apply below_drew1) | exact HB.out)⟩⟩
      · replace c8 := Bool.eq_false_iff.mpr c8
        subst c8
        have H1 : (rolodexlaw11_DeltaBytes.j0 k l0 l1 true true) = some r := by rw [if_neg (show ¬ (false = true) by decide)] at H; exact H
        clear H
        have H := H1
        clear H1
        have H' := Aside0.mk H
        clear H
        go_wp2
        go_meet
        case rel => exact ⟨_, (true), (by first | rfl | (simp; done) | (simp [*]; done)), H', ⟨by first | omega | exact Nat.le_refl _⟩, ⟨by repeat (first | (with_reducible first | exact HB.out | apply below_alloc | apply pw_below_drewN | apply below_drew1) | exact HB.out)⟩⟩
    · replace c7 := Bool.eq_false_iff.mpr c7
      subst c7
      have H1 : (rolodexlaw11_DeltaBytes.j0 k l0 l1 false true) = some r := by rw [if_neg (show ¬ (false = true) by decide)] at H; exact H
      clear H
      have H := H1
      clear H1
      have H' := Aside0.mk H
      clear H
      go_wp2
      go_meet
      case rel => exact ⟨_, (true), (by first | rfl | (simp; done) | (simp [*]; done)), H', ⟨by first | omega | exact Nat.le_refl _⟩, ⟨by repeat (first | (with_reducible first | exact HB.out | apply below_alloc | apply pw_below_drewN | apply below_drew1) | exact HB.out)⟩⟩
  case rest =>
    clear HC5
    try clear c1
    try clear p2
    try clear c4
    try clear c7
    try clear c8
    obtain ⟨kq, x31_4, rfl, HA, HJ4, HB⟩ := hcut
    cases kq with
    | zero => exact absurd HA.out (by simp [rolodexlaw11_DeltaBytes.j0])
    | succ kj4 =>
      have H := HA.out
      clear HA
      simp only [rolodexlaw11_DeltaBytes.j0] at H
      by_cases c9 : x31_4 = true
      · subst c9
        have H1 : (some t526) = some r := by rw [if_pos rfl] at H; exact H
        clear H
        have H := H1
        clear H1
        obtain rfl := Option.some.inj H
        go_wp2
        go_ret
        exact ⟨by first | rfl | (simp [errW_none, errW_some] <;> rfl) | (simp [*, errW_none, errW_some] <;> rfl), by repeat (first | (with_reducible first | exact HB.out | apply below_alloc | apply pw_below_drewN | apply below_drew1) | exact HB.out)⟩
      · replace c9 := Bool.eq_false_iff.mpr c9
        subst c9
        have H1 : ((delta_Put.f kj4 l0).bind fun bt528 => ((rolodexref11_Put.f kj4 l0).bind fun bt532 => ((delta_Get.f kj4 l1).bind fun bt536 => ((rolodexref11_Get.f kj4 l1).bind fun bt541 => ((rolodexref11_Same.f kj4 bt536.1 bt541.1).bind fun t546 => (if (strOfNums bt528.1).toList = (strOfNums bt532.1).toList then (if (bt528.2 == bt532.2) = true then (if t546 = true then (if bt536.2.1 = bt541.2.1 then (some (bt536.2.2 == bt541.2.2)) else (some false)) else (some false)) else (some false)) else (some false))))))) = some r := by rw [if_neg (show ¬ (false = true) by decide)] at H; exact H
        clear H
        have H := H1
        clear H1
        replace H := Option.bind_eq_some_iff.mp H
        obtain ⟨⟨t528, t529⟩, A100, H⟩ := H
        replace H : ((rolodexref11_Put.f kj4 l0).bind fun bt532 => ((delta_Get.f kj4 l1).bind fun bt536 => ((rolodexref11_Get.f kj4 l1).bind fun bt541 => ((rolodexref11_Same.f kj4 bt536.1 bt541.1).bind fun t546 => (if (strOfNums t528).toList = (strOfNums bt532.1).toList then (if (t529 == bt532.2) = true then (if t546 = true then (if bt536.2.1 = bt541.2.1 then (some (bt536.2.2 == bt541.2.2)) else (some false)) else (some false)) else (some false)) else (some false)))))) = some r := H
        have A10 := Aside0.mk A100
        clear A100
        replace H := Option.bind_eq_some_iff.mp H
        obtain ⟨⟨t532, t533⟩, A110, H⟩ := H
        replace H : ((delta_Get.f kj4 l1).bind fun bt536 => ((rolodexref11_Get.f kj4 l1).bind fun bt541 => ((rolodexref11_Same.f kj4 bt536.1 bt541.1).bind fun t546 => (if (strOfNums t528).toList = (strOfNums t532).toList then (if (t529 == t533) = true then (if t546 = true then (if bt536.2.1 = bt541.2.1 then (some (bt536.2.2 == bt541.2.2)) else (some false)) else (some false)) else (some false)) else (some false))))) = some r := H
        have A11 := Aside0.mk A110
        clear A110
        replace H := Option.bind_eq_some_iff.mp H
        obtain ⟨⟨t536, t537, t538⟩, A120, H⟩ := H
        replace H : ((rolodexref11_Get.f kj4 l1).bind fun bt541 => ((rolodexref11_Same.f kj4 t536 bt541.1).bind fun t546 => (if (strOfNums t528).toList = (strOfNums t532).toList then (if (t529 == t533) = true then (if t546 = true then (if t537 = bt541.2.1 then (some (t538 == bt541.2.2)) else (some false)) else (some false)) else (some false)) else (some false)))) = some r := H
        have A12 := Aside0.mk A120
        clear A120
        replace H := Option.bind_eq_some_iff.mp H
        obtain ⟨⟨t541, t542, t543⟩, A130, H⟩ := H
        replace H : ((rolodexref11_Same.f kj4 t536 t541).bind fun t546 => (if (strOfNums t528).toList = (strOfNums t532).toList then (if (t529 == t533) = true then (if t546 = true then (if t537 = t542 then (some (t538 == t543)) else (some false)) else (some false)) else (some false)) else (some false))) = some r := H
        have A13 := Aside0.mk A130
        clear A130
        replace H := Option.bind_eq_some_iff.mp H
        obtain ⟨t546, A140, H⟩ := H
        replace H : (if (strOfNums t528).toList = (strOfNums t532).toList then (if (t529 == t533) = true then (if t546 = true then (if t537 = t542 then (some (t538 == t543)) else (some false)) else (some false)) else (some false)) else (some false)) = some r := H
        have A14 := Aside0.mk A140
        clear A140
        by_cases c15 : (strOfNums t528).toList = (strOfNums t532).toList
        · rw [if_pos c15] at H
          have c15b0 : ((strOfNums t528).toList == (strOfNums t532).toList) = true := beq_iff_eq.mpr c15
          have c15b1 : ((strOfNums t528).toList != (strOfNums t532).toList) = false := bne_eq_false_iff_eq.mpr c15
          clear c15
          by_cases c16 : (t529 == t533) = true
          · rw [if_pos c16] at H
            have c16b0 : (t529 == t533) = true := c16
            (try (have c16b1 : decide (t529 = t533) = true := by simpa using c16))
            (try (have c16b2 : (t529 == t533) = true := by simpa using c16))
            clear c16
            by_cases c17 : t546 = true
            · subst c17
              have H1 : (if t537 = t542 then (some (t538 == t543)) else (some false)) = some r := by rw [if_pos rfl] at H; exact H
              clear H
              have H := H1
              clear H1
              by_cases c18 : t537 = t542
              · rw [if_pos c18] at H
                have c18b0 : (t537 == t542) = true := beq_iff_eq.mpr c18
                have c18b1 : (t537 != t542) = false := bne_eq_false_iff_eq.mpr c18
                clear c18
                obtain rfl := Option.some.inj H
                go_wp2_with (first | ((with_reducible refine gate_callee (f := 50) rfl ?_); refine goesL_ (some 35) rfl rfl Try.func50 (by kernel_rfl) rfl #[.slice A0 l0.length c0] rfl (by (try simp only [List.map_toArray, List.map_cons, List.map_nil]); first | done | rfl | (simp only [List.length_drop, List.length_take]; rfl)) ?_; (with_reducible refine (delta_Put.calls kj4 _ _ l0 t528 t529 _ ?side1 ?side2 A10.out).mono ?_); (case side1 => repeat (first | exact (Kd.C_below HR0.out HB.out) | (with_reducible refine Kd.C_alloc ?_ _) | (with_reducible refine Kd.C_drewN ?_ _) | (with_reducible refine Kd.C_drew ?_))); (case side2 => exact HC0.out); rintro e w19 ⟨v530, rfl, ho0, hb⟩; refine ⟨_, rfl, ?_⟩; have n0_ := Aside0.mk (Kd.R_lower ho0 (below_size (by repeat (first | (with_reducible first | exact HB.out | apply below_alloc | apply pw_below_drewN | apply below_drew1) | exact HB.out)))); have n1_ := Aside0.mk (below_step (by repeat (first | (with_reducible first | exact HB.out | apply below_alloc | apply pw_below_drewN | apply below_drew1) | exact HB.out)) hb); clear HB; have HO531 := n0_; have HB := n1_; clear n0_ n1_; (try clear hb); (try clear hb2); (try clear hk); (try clear hi); (try clear ho0)) | ((with_reducible refine gate_callee (f := 51) rfl ?_); refine goesL_ (some 40) rfl rfl Try.func51 (by kernel_rfl) rfl #[.slice A0 l0.length c0] rfl (by (try simp only [List.map_toArray, List.map_cons, List.map_nil]); first | done | rfl | (simp only [List.length_drop, List.length_take]; rfl)) ?_; (with_reducible refine (rolodexref11_Put.calls kj4 _ _ l0 t532 t533 _ ?side1 ?side2 A11.out).mono ?_); (case side1 => repeat (first | exact (Kd.C_below HR0.out HB.out) | (with_reducible refine Kd.C_alloc ?_ _) | (with_reducible refine Kd.C_drewN ?_ _) | (with_reducible refine Kd.C_drew ?_))); (case side2 => exact HC0.out); rintro e w20 ⟨v534, rfl, ho0, hb⟩; refine ⟨_, rfl, ?_⟩; have n0_ := Aside0.mk (Kd.R_elder' (by (with_reducible repeat (first | apply Kd.R_alloc | apply Kd.R_drewN | apply Kd.R_drew)); exact HO531.out) (Kd.R_base ho0) hb); have n1_ := Aside0.mk (Kd.R_lower (Kd.R_new' ho0 (Kd.R_lt (by (with_reducible repeat (first | apply Kd.R_alloc | apply Kd.R_drewN | apply Kd.R_drew)); exact HO531.out))) (below_size (by repeat (first | (with_reducible first | exact HB.out | apply below_alloc | apply pw_below_drewN | apply below_drew1) | exact HB.out)))); have n2_ := Aside0.mk (below_step (by repeat (first | (with_reducible first | exact HB.out | apply below_alloc | apply pw_below_drewN | apply below_drew1) | exact HB.out)) hb); clear HO531; clear HB; have HO531 := n0_; have HO535 := n1_; have HB := n2_; clear n0_ n1_ n2_; (try clear hb); (try clear hb2); (try clear hk); (try clear hi); (try clear ho0)) | ((with_reducible refine gate_callee (f := 52) rfl ?_); refine goesL_ (some 45) rfl rfl Try.func52 (by kernel_rfl) rfl #[.slice A1 l1.length c1] rfl (by (try simp only [List.map_toArray, List.map_cons, List.map_nil]); first | done | rfl | (simp only [List.length_drop, List.length_take]; rfl)) ?_; (with_reducible refine (delta_Get.calls kj4 _ _ l1 t536 t537 t538 _ ?side1 ?side2 A12.out).mono ?_); (case side1 => repeat (first | exact (Kd.C_below HR1.out HB.out) | (with_reducible refine Kd.C_alloc ?_ _) | (with_reducible refine Kd.C_drewN ?_ _) | (with_reducible refine Kd.C_drew ?_))); (case side2 => exact HC1.out); rintro e w21 ⟨v539, rfl, ho0, hb⟩; refine ⟨_, rfl, ?_⟩; have n0_ := Aside0.mk (Kd.R_below (by (with_reducible repeat (first | apply Kd.R_alloc | apply Kd.R_drewN | apply Kd.R_drew)); exact HO531.out) hb); have n1_ := Aside0.mk (Kd.R_below (by (with_reducible repeat (first | apply Kd.R_alloc | apply Kd.R_drewN | apply Kd.R_drew)); exact HO535.out) hb); have n2_ := Aside0.mk (Kd.R_lower ho0 (below_size (by repeat (first | (with_reducible first | exact HB.out | apply below_alloc | apply pw_below_drewN | apply below_drew1) | exact HB.out)))); have n3_ := Aside0.mk (below_step (by repeat (first | (with_reducible first | exact HB.out | apply below_alloc | apply pw_below_drewN | apply below_drew1) | exact HB.out)) hb); clear HO531; clear HO535; clear HB; have HO531 := n0_; have HO535 := n1_; have HO540 := n2_; have HB := n3_; clear n0_ n1_ n2_ n3_; (try clear hb); (try clear hb2); (try clear hk); (try clear hi); (try clear ho0)) | ((with_reducible refine gate_callee (f := 53) rfl ?_); refine goesL_ (some 51) rfl rfl Try.func53 (by kernel_rfl) rfl #[.slice A1 l1.length c1] rfl (by (try simp only [List.map_toArray, List.map_cons, List.map_nil]); first | done | rfl | (simp only [List.length_drop, List.length_take]; rfl)) ?_; (with_reducible refine (rolodexref11_Get.calls kj4 _ _ l1 t541 t542 t543 _ ?side1 ?side2 A13.out).mono ?_); (case side1 => repeat (first | exact (Kd.C_below HR1.out HB.out) | (with_reducible refine Kd.C_alloc ?_ _) | (with_reducible refine Kd.C_drewN ?_ _) | (with_reducible refine Kd.C_drew ?_))); (case side2 => exact HC1.out); rintro e w22 ⟨v544, rfl, ho0, hb⟩; refine ⟨_, rfl, ?_⟩; have n0_ := Aside0.mk (Kd.R_below (by (with_reducible repeat (first | apply Kd.R_alloc | apply Kd.R_drewN | apply Kd.R_drew)); exact HO531.out) hb); have n1_ := Aside0.mk (Kd.R_below (by (with_reducible repeat (first | apply Kd.R_alloc | apply Kd.R_drewN | apply Kd.R_drew)); exact HO535.out) hb); have n2_ := Aside0.mk (Kd.R_elder' (by (with_reducible repeat (first | apply Kd.R_alloc | apply Kd.R_drewN | apply Kd.R_drew)); exact HO540.out) (Kd.R_base ho0) hb); have n3_ := Aside0.mk (Kd.R_lower (Kd.R_new' ho0 (Kd.R_lt (by (with_reducible repeat (first | apply Kd.R_alloc | apply Kd.R_drewN | apply Kd.R_drew)); exact HO540.out))) (below_size (by repeat (first | (with_reducible first | exact HB.out | apply below_alloc | apply pw_below_drewN | apply below_drew1) | exact HB.out)))); have n4_ := Aside0.mk (below_step (by repeat (first | (with_reducible first | exact HB.out | apply below_alloc | apply pw_below_drewN | apply below_drew1) | exact HB.out)) hb); clear HO531; clear HO535; clear HO540; clear HB; have HO531 := n0_; have HO535 := n1_; have HO540 := n2_; have HO545 := n3_; have HB := n4_; clear n0_ n1_ n2_ n3_ n4_; (try clear hb); (try clear hb2); (try clear hk); (try clear hi); (try clear ho0); obtain ⟨Ao23, co23, eo23⟩ := Kd.R_slice HO540.out; subst eo23; obtain ⟨Ao24, co24, eo24⟩ := Kd.R_slice HO545.out; subst eo24) | ((with_reducible refine gate_callee (f := 54) rfl ?_); refine goesL_ (some 57) rfl rfl Try.func54 (by kernel_rfl) rfl #[.slice Ao23 t536.length co23, .slice Ao24 t541.length co24] rfl (by (try simp only [List.map_toArray, List.map_cons, List.map_nil]); first | done | rfl | (simp only [List.length_drop, List.length_take]; rfl)) ?_; (with_reducible refine (rolodexref11_Same.calls kj4 _ _ t536 _ _ t541 true _ ?side1 ?side2 ?side3 ?side4 A14.out).mono ?_); (case side1 => repeat (first | exact (Kd.R_reads' HO540.out).2.2 | (with_reducible refine Kd.C_alloc ?_ _) | (with_reducible refine Kd.C_drewN ?_ _) | (with_reducible refine Kd.C_drew ?_))); (case side2 => exact (Kd.R_reads' HO540.out).2.1); (case side3 => repeat (first | exact (Kd.R_reads' HO545.out).2.2 | (with_reducible refine Kd.C_alloc ?_ _) | (with_reducible refine Kd.C_drewN ?_ _) | (with_reducible refine Kd.C_drew ?_))); (case side4 => exact (Kd.R_reads' HO545.out).2.1); rintro e w' ⟨rfl, ⟨nd, rfl⟩⟩; refine ⟨_, rfl, ?_⟩; have hcv25 := own_string (P := Try.prog) Try.underlying40 Try.underlying5 Try.underlying9 (Kd.own_of_R HO531.out); have hcvq25 := fun n_ => own_string (P := Try.prog) Try.underlying40 Try.underlying5 Try.underlying9 (Kd.own_of_R (Kd.R_drewN HO531.out n_)); have hcv26 := own_string (P := Try.prog) Try.underlying40 Try.underlying5 Try.underlying9 (Kd.own_of_R HO535.out); have hcvq26 := fun n_ => own_string (P := Try.prog) Try.underlying40 Try.underlying5 Try.underlying9 (Kd.own_of_R (Kd.R_drewN HO535.out n_))))
                go_ret
                exact ⟨by first | rfl | (simp [errW_none, errW_some] <;> rfl) | (simp [*, errW_none, errW_some] <;> rfl), by repeat (first | (with_reducible first | exact HB.out | apply below_alloc | apply pw_below_drewN | apply below_drew1) | exact HB.out)⟩
              · rw [if_neg c18] at H
                have c18b0 : (t537 == t542) = false := beq_eq_false_iff_ne.mpr c18
                have c18b1 : (t537 != t542) = true := bne_iff_ne.mpr c18
                obtain rfl := Option.some.inj H
                go_wp2_with (first | ((with_reducible refine gate_callee (f := 50) rfl ?_); refine goesL_ (some 35) rfl rfl Try.func50 (by kernel_rfl) rfl #[.slice A0 l0.length c0] rfl (by (try simp only [List.map_toArray, List.map_cons, List.map_nil]); first | done | rfl | (simp only [List.length_drop, List.length_take]; rfl)) ?_; (with_reducible refine (delta_Put.calls kj4 _ _ l0 t528 t529 _ ?side1 ?side2 A10.out).mono ?_); (case side1 => repeat (first | exact (Kd.C_below HR0.out HB.out) | (with_reducible refine Kd.C_alloc ?_ _) | (with_reducible refine Kd.C_drewN ?_ _) | (with_reducible refine Kd.C_drew ?_))); (case side2 => exact HC0.out); rintro e w27 ⟨v530, rfl, ho0, hb⟩; refine ⟨_, rfl, ?_⟩; have n0_ := Aside0.mk (Kd.R_lower ho0 (below_size (by repeat (first | (with_reducible first | exact HB.out | apply below_alloc | apply pw_below_drewN | apply below_drew1) | exact HB.out)))); have n1_ := Aside0.mk (below_step (by repeat (first | (with_reducible first | exact HB.out | apply below_alloc | apply pw_below_drewN | apply below_drew1) | exact HB.out)) hb); clear HB; have HO531 := n0_; have HB := n1_; clear n0_ n1_; (try clear hb); (try clear hb2); (try clear hk); (try clear hi); (try clear ho0)) | ((with_reducible refine gate_callee (f := 51) rfl ?_); refine goesL_ (some 40) rfl rfl Try.func51 (by kernel_rfl) rfl #[.slice A0 l0.length c0] rfl (by (try simp only [List.map_toArray, List.map_cons, List.map_nil]); first | done | rfl | (simp only [List.length_drop, List.length_take]; rfl)) ?_; (with_reducible refine (rolodexref11_Put.calls kj4 _ _ l0 t532 t533 _ ?side1 ?side2 A11.out).mono ?_); (case side1 => repeat (first | exact (Kd.C_below HR0.out HB.out) | (with_reducible refine Kd.C_alloc ?_ _) | (with_reducible refine Kd.C_drewN ?_ _) | (with_reducible refine Kd.C_drew ?_))); (case side2 => exact HC0.out); rintro e w28 ⟨v534, rfl, ho0, hb⟩; refine ⟨_, rfl, ?_⟩; have n0_ := Aside0.mk (Kd.R_elder' (by (with_reducible repeat (first | apply Kd.R_alloc | apply Kd.R_drewN | apply Kd.R_drew)); exact HO531.out) (Kd.R_base ho0) hb); have n1_ := Aside0.mk (Kd.R_lower (Kd.R_new' ho0 (Kd.R_lt (by (with_reducible repeat (first | apply Kd.R_alloc | apply Kd.R_drewN | apply Kd.R_drew)); exact HO531.out))) (below_size (by repeat (first | (with_reducible first | exact HB.out | apply below_alloc | apply pw_below_drewN | apply below_drew1) | exact HB.out)))); have n2_ := Aside0.mk (below_step (by repeat (first | (with_reducible first | exact HB.out | apply below_alloc | apply pw_below_drewN | apply below_drew1) | exact HB.out)) hb); clear HO531; clear HB; have HO531 := n0_; have HO535 := n1_; have HB := n2_; clear n0_ n1_ n2_; (try clear hb); (try clear hb2); (try clear hk); (try clear hi); (try clear ho0)) | ((with_reducible refine gate_callee (f := 52) rfl ?_); refine goesL_ (some 45) rfl rfl Try.func52 (by kernel_rfl) rfl #[.slice A1 l1.length c1] rfl (by (try simp only [List.map_toArray, List.map_cons, List.map_nil]); first | done | rfl | (simp only [List.length_drop, List.length_take]; rfl)) ?_; (with_reducible refine (delta_Get.calls kj4 _ _ l1 t536 t537 t538 _ ?side1 ?side2 A12.out).mono ?_); (case side1 => repeat (first | exact (Kd.C_below HR1.out HB.out) | (with_reducible refine Kd.C_alloc ?_ _) | (with_reducible refine Kd.C_drewN ?_ _) | (with_reducible refine Kd.C_drew ?_))); (case side2 => exact HC1.out); rintro e w29 ⟨v539, rfl, ho0, hb⟩; refine ⟨_, rfl, ?_⟩; have n0_ := Aside0.mk (Kd.R_below (by (with_reducible repeat (first | apply Kd.R_alloc | apply Kd.R_drewN | apply Kd.R_drew)); exact HO531.out) hb); have n1_ := Aside0.mk (Kd.R_below (by (with_reducible repeat (first | apply Kd.R_alloc | apply Kd.R_drewN | apply Kd.R_drew)); exact HO535.out) hb); have n2_ := Aside0.mk (Kd.R_lower ho0 (below_size (by repeat (first | (with_reducible first | exact HB.out | apply below_alloc | apply pw_below_drewN | apply below_drew1) | exact HB.out)))); have n3_ := Aside0.mk (below_step (by repeat (first | (with_reducible first | exact HB.out | apply below_alloc | apply pw_below_drewN | apply below_drew1) | exact HB.out)) hb); clear HO531; clear HO535; clear HB; have HO531 := n0_; have HO535 := n1_; have HO540 := n2_; have HB := n3_; clear n0_ n1_ n2_ n3_; (try clear hb); (try clear hb2); (try clear hk); (try clear hi); (try clear ho0)) | ((with_reducible refine gate_callee (f := 53) rfl ?_); refine goesL_ (some 51) rfl rfl Try.func53 (by kernel_rfl) rfl #[.slice A1 l1.length c1] rfl (by (try simp only [List.map_toArray, List.map_cons, List.map_nil]); first | done | rfl | (simp only [List.length_drop, List.length_take]; rfl)) ?_; (with_reducible refine (rolodexref11_Get.calls kj4 _ _ l1 t541 t542 t543 _ ?side1 ?side2 A13.out).mono ?_); (case side1 => repeat (first | exact (Kd.C_below HR1.out HB.out) | (with_reducible refine Kd.C_alloc ?_ _) | (with_reducible refine Kd.C_drewN ?_ _) | (with_reducible refine Kd.C_drew ?_))); (case side2 => exact HC1.out); rintro e w30 ⟨v544, rfl, ho0, hb⟩; refine ⟨_, rfl, ?_⟩; have n0_ := Aside0.mk (Kd.R_below (by (with_reducible repeat (first | apply Kd.R_alloc | apply Kd.R_drewN | apply Kd.R_drew)); exact HO531.out) hb); have n1_ := Aside0.mk (Kd.R_below (by (with_reducible repeat (first | apply Kd.R_alloc | apply Kd.R_drewN | apply Kd.R_drew)); exact HO535.out) hb); have n2_ := Aside0.mk (Kd.R_elder' (by (with_reducible repeat (first | apply Kd.R_alloc | apply Kd.R_drewN | apply Kd.R_drew)); exact HO540.out) (Kd.R_base ho0) hb); have n3_ := Aside0.mk (Kd.R_lower (Kd.R_new' ho0 (Kd.R_lt (by (with_reducible repeat (first | apply Kd.R_alloc | apply Kd.R_drewN | apply Kd.R_drew)); exact HO540.out))) (below_size (by repeat (first | (with_reducible first | exact HB.out | apply below_alloc | apply pw_below_drewN | apply below_drew1) | exact HB.out)))); have n4_ := Aside0.mk (below_step (by repeat (first | (with_reducible first | exact HB.out | apply below_alloc | apply pw_below_drewN | apply below_drew1) | exact HB.out)) hb); clear HO531; clear HO535; clear HO540; clear HB; have HO531 := n0_; have HO535 := n1_; have HO540 := n2_; have HO545 := n3_; have HB := n4_; clear n0_ n1_ n2_ n3_ n4_; (try clear hb); (try clear hb2); (try clear hk); (try clear hi); (try clear ho0); obtain ⟨Ao31, co31, eo31⟩ := Kd.R_slice HO540.out; subst eo31; obtain ⟨Ao32, co32, eo32⟩ := Kd.R_slice HO545.out; subst eo32) | ((with_reducible refine gate_callee (f := 54) rfl ?_); refine goesL_ (some 57) rfl rfl Try.func54 (by kernel_rfl) rfl #[.slice Ao31 t536.length co31, .slice Ao32 t541.length co32] rfl (by (try simp only [List.map_toArray, List.map_cons, List.map_nil]); first | done | rfl | (simp only [List.length_drop, List.length_take]; rfl)) ?_; (with_reducible refine (rolodexref11_Same.calls kj4 _ _ t536 _ _ t541 true _ ?side1 ?side2 ?side3 ?side4 A14.out).mono ?_); (case side1 => repeat (first | exact (Kd.R_reads' HO540.out).2.2 | (with_reducible refine Kd.C_alloc ?_ _) | (with_reducible refine Kd.C_drewN ?_ _) | (with_reducible refine Kd.C_drew ?_))); (case side2 => exact (Kd.R_reads' HO540.out).2.1); (case side3 => repeat (first | exact (Kd.R_reads' HO545.out).2.2 | (with_reducible refine Kd.C_alloc ?_ _) | (with_reducible refine Kd.C_drewN ?_ _) | (with_reducible refine Kd.C_drew ?_))); (case side4 => exact (Kd.R_reads' HO545.out).2.1); rintro e w' ⟨rfl, ⟨nd, rfl⟩⟩; refine ⟨_, rfl, ?_⟩; have hcv33 := own_string (P := Try.prog) Try.underlying40 Try.underlying5 Try.underlying9 (Kd.own_of_R HO531.out); have hcvq33 := fun n_ => own_string (P := Try.prog) Try.underlying40 Try.underlying5 Try.underlying9 (Kd.own_of_R (Kd.R_drewN HO531.out n_)); have hcv34 := own_string (P := Try.prog) Try.underlying40 Try.underlying5 Try.underlying9 (Kd.own_of_R HO535.out); have hcvq34 := fun n_ => own_string (P := Try.prog) Try.underlying40 Try.underlying5 Try.underlying9 (Kd.own_of_R (Kd.R_drewN HO535.out n_))))
                go_ret
                exact ⟨by first | rfl | (simp [errW_none, errW_some] <;> rfl) | (simp [*, errW_none, errW_some] <;> rfl), by repeat (first | (with_reducible first | exact HB.out | apply below_alloc | apply pw_below_drewN | apply below_drew1) | exact HB.out)⟩
            · replace c17 := Bool.eq_false_iff.mpr c17
              subst c17
              have H1 : (some false) = some r := by rw [if_neg (show ¬ (false = true) by decide)] at H; exact H
              clear H
              have H := H1
              clear H1
              obtain rfl := Option.some.inj H
              go_wp2_with (first | ((with_reducible refine gate_callee (f := 50) rfl ?_); refine goesL_ (some 35) rfl rfl Try.func50 (by kernel_rfl) rfl #[.slice A0 l0.length c0] rfl (by (try simp only [List.map_toArray, List.map_cons, List.map_nil]); first | done | rfl | (simp only [List.length_drop, List.length_take]; rfl)) ?_; (with_reducible refine (delta_Put.calls kj4 _ _ l0 t528 t529 _ ?side1 ?side2 A10.out).mono ?_); (case side1 => repeat (first | exact (Kd.C_below HR0.out HB.out) | (with_reducible refine Kd.C_alloc ?_ _) | (with_reducible refine Kd.C_drewN ?_ _) | (with_reducible refine Kd.C_drew ?_))); (case side2 => exact HC0.out); rintro e w35 ⟨v530, rfl, ho0, hb⟩; refine ⟨_, rfl, ?_⟩; have n0_ := Aside0.mk (Kd.R_lower ho0 (below_size (by repeat (first | (with_reducible first | exact HB.out | apply below_alloc | apply pw_below_drewN | apply below_drew1) | exact HB.out)))); have n1_ := Aside0.mk (below_step (by repeat (first | (with_reducible first | exact HB.out | apply below_alloc | apply pw_below_drewN | apply below_drew1) | exact HB.out)) hb); clear HB; have HO531 := n0_; have HB := n1_; clear n0_ n1_; (try clear hb); (try clear hb2); (try clear hk); (try clear hi); (try clear ho0)) | ((with_reducible refine gate_callee (f := 51) rfl ?_); refine goesL_ (some 40) rfl rfl Try.func51 (by kernel_rfl) rfl #[.slice A0 l0.length c0] rfl (by (try simp only [List.map_toArray, List.map_cons, List.map_nil]); first | done | rfl | (simp only [List.length_drop, List.length_take]; rfl)) ?_; (with_reducible refine (rolodexref11_Put.calls kj4 _ _ l0 t532 t533 _ ?side1 ?side2 A11.out).mono ?_); (case side1 => repeat (first | exact (Kd.C_below HR0.out HB.out) | (with_reducible refine Kd.C_alloc ?_ _) | (with_reducible refine Kd.C_drewN ?_ _) | (with_reducible refine Kd.C_drew ?_))); (case side2 => exact HC0.out); rintro e w36 ⟨v534, rfl, ho0, hb⟩; refine ⟨_, rfl, ?_⟩; have n0_ := Aside0.mk (Kd.R_elder' (by (with_reducible repeat (first | apply Kd.R_alloc | apply Kd.R_drewN | apply Kd.R_drew)); exact HO531.out) (Kd.R_base ho0) hb); have n1_ := Aside0.mk (Kd.R_lower (Kd.R_new' ho0 (Kd.R_lt (by (with_reducible repeat (first | apply Kd.R_alloc | apply Kd.R_drewN | apply Kd.R_drew)); exact HO531.out))) (below_size (by repeat (first | (with_reducible first | exact HB.out | apply below_alloc | apply pw_below_drewN | apply below_drew1) | exact HB.out)))); have n2_ := Aside0.mk (below_step (by repeat (first | (with_reducible first | exact HB.out | apply below_alloc | apply pw_below_drewN | apply below_drew1) | exact HB.out)) hb); clear HO531; clear HB; have HO531 := n0_; have HO535 := n1_; have HB := n2_; clear n0_ n1_ n2_; (try clear hb); (try clear hb2); (try clear hk); (try clear hi); (try clear ho0)) | ((with_reducible refine gate_callee (f := 52) rfl ?_); refine goesL_ (some 45) rfl rfl Try.func52 (by kernel_rfl) rfl #[.slice A1 l1.length c1] rfl (by (try simp only [List.map_toArray, List.map_cons, List.map_nil]); first | done | rfl | (simp only [List.length_drop, List.length_take]; rfl)) ?_; (with_reducible refine (delta_Get.calls kj4 _ _ l1 t536 t537 t538 _ ?side1 ?side2 A12.out).mono ?_); (case side1 => repeat (first | exact (Kd.C_below HR1.out HB.out) | (with_reducible refine Kd.C_alloc ?_ _) | (with_reducible refine Kd.C_drewN ?_ _) | (with_reducible refine Kd.C_drew ?_))); (case side2 => exact HC1.out); rintro e w37 ⟨v539, rfl, ho0, hb⟩; refine ⟨_, rfl, ?_⟩; have n0_ := Aside0.mk (Kd.R_below (by (with_reducible repeat (first | apply Kd.R_alloc | apply Kd.R_drewN | apply Kd.R_drew)); exact HO531.out) hb); have n1_ := Aside0.mk (Kd.R_below (by (with_reducible repeat (first | apply Kd.R_alloc | apply Kd.R_drewN | apply Kd.R_drew)); exact HO535.out) hb); have n2_ := Aside0.mk (Kd.R_lower ho0 (below_size (by repeat (first | (with_reducible first | exact HB.out | apply below_alloc | apply pw_below_drewN | apply below_drew1) | exact HB.out)))); have n3_ := Aside0.mk (below_step (by repeat (first | (with_reducible first | exact HB.out | apply below_alloc | apply pw_below_drewN | apply below_drew1) | exact HB.out)) hb); clear HO531; clear HO535; clear HB; have HO531 := n0_; have HO535 := n1_; have HO540 := n2_; have HB := n3_; clear n0_ n1_ n2_ n3_; (try clear hb); (try clear hb2); (try clear hk); (try clear hi); (try clear ho0)) | ((with_reducible refine gate_callee (f := 53) rfl ?_); refine goesL_ (some 51) rfl rfl Try.func53 (by kernel_rfl) rfl #[.slice A1 l1.length c1] rfl (by (try simp only [List.map_toArray, List.map_cons, List.map_nil]); first | done | rfl | (simp only [List.length_drop, List.length_take]; rfl)) ?_; (with_reducible refine (rolodexref11_Get.calls kj4 _ _ l1 t541 t542 t543 _ ?side1 ?side2 A13.out).mono ?_); (case side1 => repeat (first | exact (Kd.C_below HR1.out HB.out) | (with_reducible refine Kd.C_alloc ?_ _) | (with_reducible refine Kd.C_drewN ?_ _) | (with_reducible refine Kd.C_drew ?_))); (case side2 => exact HC1.out); rintro e w38 ⟨v544, rfl, ho0, hb⟩; refine ⟨_, rfl, ?_⟩; have n0_ := Aside0.mk (Kd.R_below (by (with_reducible repeat (first | apply Kd.R_alloc | apply Kd.R_drewN | apply Kd.R_drew)); exact HO531.out) hb); have n1_ := Aside0.mk (Kd.R_below (by (with_reducible repeat (first | apply Kd.R_alloc | apply Kd.R_drewN | apply Kd.R_drew)); exact HO535.out) hb); have n2_ := Aside0.mk (Kd.R_elder' (by (with_reducible repeat (first | apply Kd.R_alloc | apply Kd.R_drewN | apply Kd.R_drew)); exact HO540.out) (Kd.R_base ho0) hb); have n3_ := Aside0.mk (Kd.R_lower (Kd.R_new' ho0 (Kd.R_lt (by (with_reducible repeat (first | apply Kd.R_alloc | apply Kd.R_drewN | apply Kd.R_drew)); exact HO540.out))) (below_size (by repeat (first | (with_reducible first | exact HB.out | apply below_alloc | apply pw_below_drewN | apply below_drew1) | exact HB.out)))); have n4_ := Aside0.mk (below_step (by repeat (first | (with_reducible first | exact HB.out | apply below_alloc | apply pw_below_drewN | apply below_drew1) | exact HB.out)) hb); clear HO531; clear HO535; clear HO540; clear HB; have HO531 := n0_; have HO535 := n1_; have HO540 := n2_; have HO545 := n3_; have HB := n4_; clear n0_ n1_ n2_ n3_ n4_; (try clear hb); (try clear hb2); (try clear hk); (try clear hi); (try clear ho0); obtain ⟨Ao39, co39, eo39⟩ := Kd.R_slice HO540.out; subst eo39; obtain ⟨Ao40, co40, eo40⟩ := Kd.R_slice HO545.out; subst eo40) | ((with_reducible refine gate_callee (f := 54) rfl ?_); refine goesL_ (some 57) rfl rfl Try.func54 (by kernel_rfl) rfl #[.slice Ao39 t536.length co39, .slice Ao40 t541.length co40] rfl (by (try simp only [List.map_toArray, List.map_cons, List.map_nil]); first | done | rfl | (simp only [List.length_drop, List.length_take]; rfl)) ?_; (with_reducible refine (rolodexref11_Same.calls kj4 _ _ t536 _ _ t541 false _ ?side1 ?side2 ?side3 ?side4 A14.out).mono ?_); (case side1 => repeat (first | exact (Kd.R_reads' HO540.out).2.2 | (with_reducible refine Kd.C_alloc ?_ _) | (with_reducible refine Kd.C_drewN ?_ _) | (with_reducible refine Kd.C_drew ?_))); (case side2 => exact (Kd.R_reads' HO540.out).2.1); (case side3 => repeat (first | exact (Kd.R_reads' HO545.out).2.2 | (with_reducible refine Kd.C_alloc ?_ _) | (with_reducible refine Kd.C_drewN ?_ _) | (with_reducible refine Kd.C_drew ?_))); (case side4 => exact (Kd.R_reads' HO545.out).2.1); rintro e w' ⟨rfl, ⟨nd, rfl⟩⟩; refine ⟨_, rfl, ?_⟩; have hcv41 := own_string (P := Try.prog) Try.underlying40 Try.underlying5 Try.underlying9 (Kd.own_of_R HO531.out); have hcvq41 := fun n_ => own_string (P := Try.prog) Try.underlying40 Try.underlying5 Try.underlying9 (Kd.own_of_R (Kd.R_drewN HO531.out n_)); have hcv42 := own_string (P := Try.prog) Try.underlying40 Try.underlying5 Try.underlying9 (Kd.own_of_R HO535.out); have hcvq42 := fun n_ => own_string (P := Try.prog) Try.underlying40 Try.underlying5 Try.underlying9 (Kd.own_of_R (Kd.R_drewN HO535.out n_))))
              go_ret
              exact ⟨by first | rfl | (simp [errW_none, errW_some] <;> rfl) | (simp [*, errW_none, errW_some] <;> rfl), by repeat (first | (with_reducible first | exact HB.out | apply below_alloc | apply pw_below_drewN | apply below_drew1) | exact HB.out)⟩
          · rw [if_neg c16] at H
            have c16b0 : (t529 == t533) = false := by simpa using c16
            (try (have c16b1 : decide (t529 = t533) = false := by simpa using c16))
            (try (have c16b2 : (t529 == t533) = false := by simpa using c16))
            (try (have c16b3 : ¬ (t529 = t533) := by simpa using c16))
            clear c16
            obtain rfl := Option.some.inj H
            go_wp2_with (first | ((with_reducible refine gate_callee (f := 50) rfl ?_); refine goesL_ (some 35) rfl rfl Try.func50 (by kernel_rfl) rfl #[.slice A0 l0.length c0] rfl (by (try simp only [List.map_toArray, List.map_cons, List.map_nil]); first | done | rfl | (simp only [List.length_drop, List.length_take]; rfl)) ?_; (with_reducible refine (delta_Put.calls kj4 _ _ l0 t528 t529 _ ?side1 ?side2 A10.out).mono ?_); (case side1 => repeat (first | exact (Kd.C_below HR0.out HB.out) | (with_reducible refine Kd.C_alloc ?_ _) | (with_reducible refine Kd.C_drewN ?_ _) | (with_reducible refine Kd.C_drew ?_))); (case side2 => exact HC0.out); rintro e w43 ⟨v530, rfl, ho0, hb⟩; refine ⟨_, rfl, ?_⟩; have n0_ := Aside0.mk (Kd.R_lower ho0 (below_size (by repeat (first | (with_reducible first | exact HB.out | apply below_alloc | apply pw_below_drewN | apply below_drew1) | exact HB.out)))); have n1_ := Aside0.mk (below_step (by repeat (first | (with_reducible first | exact HB.out | apply below_alloc | apply pw_below_drewN | apply below_drew1) | exact HB.out)) hb); clear HB; have HO531 := n0_; have HB := n1_; clear n0_ n1_; (try clear hb); (try clear hb2); (try clear hk); (try clear hi); (try clear ho0)) | ((with_reducible refine gate_callee (f := 51) rfl ?_); refine goesL_ (some 40) rfl rfl Try.func51 (by kernel_rfl) rfl #[.slice A0 l0.length c0] rfl (by (try simp only [List.map_toArray, List.map_cons, List.map_nil]); first | done | rfl | (simp only [List.length_drop, List.length_take]; rfl)) ?_; (with_reducible refine (rolodexref11_Put.calls kj4 _ _ l0 t532 t533 _ ?side1 ?side2 A11.out).mono ?_); (case side1 => repeat (first | exact (Kd.C_below HR0.out HB.out) | (with_reducible refine Kd.C_alloc ?_ _) | (with_reducible refine Kd.C_drewN ?_ _) | (with_reducible refine Kd.C_drew ?_))); (case side2 => exact HC0.out); rintro e w44 ⟨v534, rfl, ho0, hb⟩; refine ⟨_, rfl, ?_⟩; have n0_ := Aside0.mk (Kd.R_elder' (by (with_reducible repeat (first | apply Kd.R_alloc | apply Kd.R_drewN | apply Kd.R_drew)); exact HO531.out) (Kd.R_base ho0) hb); have n1_ := Aside0.mk (Kd.R_lower (Kd.R_new' ho0 (Kd.R_lt (by (with_reducible repeat (first | apply Kd.R_alloc | apply Kd.R_drewN | apply Kd.R_drew)); exact HO531.out))) (below_size (by repeat (first | (with_reducible first | exact HB.out | apply below_alloc | apply pw_below_drewN | apply below_drew1) | exact HB.out)))); have n2_ := Aside0.mk (below_step (by repeat (first | (with_reducible first | exact HB.out | apply below_alloc | apply pw_below_drewN | apply below_drew1) | exact HB.out)) hb); clear HO531; clear HB; have HO531 := n0_; have HO535 := n1_; have HB := n2_; clear n0_ n1_ n2_; (try clear hb); (try clear hb2); (try clear hk); (try clear hi); (try clear ho0)) | ((with_reducible refine gate_callee (f := 52) rfl ?_); refine goesL_ (some 45) rfl rfl Try.func52 (by kernel_rfl) rfl #[.slice A1 l1.length c1] rfl (by (try simp only [List.map_toArray, List.map_cons, List.map_nil]); first | done | rfl | (simp only [List.length_drop, List.length_take]; rfl)) ?_; (with_reducible refine (delta_Get.calls kj4 _ _ l1 t536 t537 t538 _ ?side1 ?side2 A12.out).mono ?_); (case side1 => repeat (first | exact (Kd.C_below HR1.out HB.out) | (with_reducible refine Kd.C_alloc ?_ _) | (with_reducible refine Kd.C_drewN ?_ _) | (with_reducible refine Kd.C_drew ?_))); (case side2 => exact HC1.out); rintro e w45 ⟨v539, rfl, ho0, hb⟩; refine ⟨_, rfl, ?_⟩; have n0_ := Aside0.mk (Kd.R_below (by (with_reducible repeat (first | apply Kd.R_alloc | apply Kd.R_drewN | apply Kd.R_drew)); exact HO531.out) hb); have n1_ := Aside0.mk (Kd.R_below (by (with_reducible repeat (first | apply Kd.R_alloc | apply Kd.R_drewN | apply Kd.R_drew)); exact HO535.out) hb); have n2_ := Aside0.mk (Kd.R_lower ho0 (below_size (by repeat (first | (with_reducible first | exact HB.out | apply below_alloc | apply pw_below_drewN | apply below_drew1) | exact HB.out)))); have n3_ := Aside0.mk (below_step (by repeat (first | (with_reducible first | exact HB.out | apply below_alloc | apply pw_below_drewN | apply below_drew1) | exact HB.out)) hb); clear HO531; clear HO535; clear HB; have HO531 := n0_; have HO535 := n1_; have HO540 := n2_; have HB := n3_; clear n0_ n1_ n2_ n3_; (try clear hb); (try clear hb2); (try clear hk); (try clear hi); (try clear ho0)) | ((with_reducible refine gate_callee (f := 53) rfl ?_); refine goesL_ (some 51) rfl rfl Try.func53 (by kernel_rfl) rfl #[.slice A1 l1.length c1] rfl (by (try simp only [List.map_toArray, List.map_cons, List.map_nil]); first | done | rfl | (simp only [List.length_drop, List.length_take]; rfl)) ?_; (with_reducible refine (rolodexref11_Get.calls kj4 _ _ l1 t541 t542 t543 _ ?side1 ?side2 A13.out).mono ?_); (case side1 => repeat (first | exact (Kd.C_below HR1.out HB.out) | (with_reducible refine Kd.C_alloc ?_ _) | (with_reducible refine Kd.C_drewN ?_ _) | (with_reducible refine Kd.C_drew ?_))); (case side2 => exact HC1.out); rintro e w46 ⟨v544, rfl, ho0, hb⟩; refine ⟨_, rfl, ?_⟩; have n0_ := Aside0.mk (Kd.R_below (by (with_reducible repeat (first | apply Kd.R_alloc | apply Kd.R_drewN | apply Kd.R_drew)); exact HO531.out) hb); have n1_ := Aside0.mk (Kd.R_below (by (with_reducible repeat (first | apply Kd.R_alloc | apply Kd.R_drewN | apply Kd.R_drew)); exact HO535.out) hb); have n2_ := Aside0.mk (Kd.R_elder' (by (with_reducible repeat (first | apply Kd.R_alloc | apply Kd.R_drewN | apply Kd.R_drew)); exact HO540.out) (Kd.R_base ho0) hb); have n3_ := Aside0.mk (Kd.R_lower (Kd.R_new' ho0 (Kd.R_lt (by (with_reducible repeat (first | apply Kd.R_alloc | apply Kd.R_drewN | apply Kd.R_drew)); exact HO540.out))) (below_size (by repeat (first | (with_reducible first | exact HB.out | apply below_alloc | apply pw_below_drewN | apply below_drew1) | exact HB.out)))); have n4_ := Aside0.mk (below_step (by repeat (first | (with_reducible first | exact HB.out | apply below_alloc | apply pw_below_drewN | apply below_drew1) | exact HB.out)) hb); clear HO531; clear HO535; clear HO540; clear HB; have HO531 := n0_; have HO535 := n1_; have HO540 := n2_; have HO545 := n3_; have HB := n4_; clear n0_ n1_ n2_ n3_ n4_; (try clear hb); (try clear hb2); (try clear hk); (try clear hi); (try clear ho0); obtain ⟨Ao47, co47, eo47⟩ := Kd.R_slice HO540.out; subst eo47; obtain ⟨Ao48, co48, eo48⟩ := Kd.R_slice HO545.out; subst eo48) | ((with_reducible refine gate_callee (f := 54) rfl ?_); refine goesL_ (some 57) rfl rfl Try.func54 (by kernel_rfl) rfl #[.slice Ao47 t536.length co47, .slice Ao48 t541.length co48] rfl (by (try simp only [List.map_toArray, List.map_cons, List.map_nil]); first | done | rfl | (simp only [List.length_drop, List.length_take]; rfl)) ?_; (with_reducible refine (rolodexref11_Same.calls kj4 _ _ t536 _ _ t541 t546 _ ?side1 ?side2 ?side3 ?side4 A14.out).mono ?_); (case side1 => repeat (first | exact (Kd.R_reads' HO540.out).2.2 | (with_reducible refine Kd.C_alloc ?_ _) | (with_reducible refine Kd.C_drewN ?_ _) | (with_reducible refine Kd.C_drew ?_))); (case side2 => exact (Kd.R_reads' HO540.out).2.1); (case side3 => repeat (first | exact (Kd.R_reads' HO545.out).2.2 | (with_reducible refine Kd.C_alloc ?_ _) | (with_reducible refine Kd.C_drewN ?_ _) | (with_reducible refine Kd.C_drew ?_))); (case side4 => exact (Kd.R_reads' HO545.out).2.1); rintro e w' ⟨rfl, ⟨nd, rfl⟩⟩; refine ⟨_, rfl, ?_⟩; have hcv49 := own_string (P := Try.prog) Try.underlying40 Try.underlying5 Try.underlying9 (Kd.own_of_R HO531.out); have hcvq49 := fun n_ => own_string (P := Try.prog) Try.underlying40 Try.underlying5 Try.underlying9 (Kd.own_of_R (Kd.R_drewN HO531.out n_)); have hcv50 := own_string (P := Try.prog) Try.underlying40 Try.underlying5 Try.underlying9 (Kd.own_of_R HO535.out); have hcvq50 := fun n_ => own_string (P := Try.prog) Try.underlying40 Try.underlying5 Try.underlying9 (Kd.own_of_R (Kd.R_drewN HO535.out n_))))
            go_ret
            exact ⟨by first | rfl | (simp [errW_none, errW_some] <;> rfl) | (simp [*, errW_none, errW_some] <;> rfl), by repeat (first | (with_reducible first | exact HB.out | apply below_alloc | apply pw_below_drewN | apply below_drew1) | exact HB.out)⟩
        · rw [if_neg c15] at H
          have c15b0 : ((strOfNums t528).toList == (strOfNums t532).toList) = false := beq_eq_false_iff_ne.mpr c15
          have c15b1 : ((strOfNums t528).toList != (strOfNums t532).toList) = true := bne_iff_ne.mpr c15
          obtain rfl := Option.some.inj H
          go_wp2_with (first | ((with_reducible refine gate_callee (f := 50) rfl ?_); refine goesL_ (some 35) rfl rfl Try.func50 (by kernel_rfl) rfl #[.slice A0 l0.length c0] rfl (by (try simp only [List.map_toArray, List.map_cons, List.map_nil]); first | done | rfl | (simp only [List.length_drop, List.length_take]; rfl)) ?_; (with_reducible refine (delta_Put.calls kj4 _ _ l0 t528 t529 _ ?side1 ?side2 A10.out).mono ?_); (case side1 => repeat (first | exact (Kd.C_below HR0.out HB.out) | (with_reducible refine Kd.C_alloc ?_ _) | (with_reducible refine Kd.C_drewN ?_ _) | (with_reducible refine Kd.C_drew ?_))); (case side2 => exact HC0.out); rintro e w51 ⟨v530, rfl, ho0, hb⟩; refine ⟨_, rfl, ?_⟩; have n0_ := Aside0.mk (Kd.R_lower ho0 (below_size (by repeat (first | (with_reducible first | exact HB.out | apply below_alloc | apply pw_below_drewN | apply below_drew1) | exact HB.out)))); have n1_ := Aside0.mk (below_step (by repeat (first | (with_reducible first | exact HB.out | apply below_alloc | apply pw_below_drewN | apply below_drew1) | exact HB.out)) hb); clear HB; have HO531 := n0_; have HB := n1_; clear n0_ n1_; (try clear hb); (try clear hb2); (try clear hk); (try clear hi); (try clear ho0)) | ((with_reducible refine gate_callee (f := 51) rfl ?_); refine goesL_ (some 40) rfl rfl Try.func51 (by kernel_rfl) rfl #[.slice A0 l0.length c0] rfl (by (try simp only [List.map_toArray, List.map_cons, List.map_nil]); first | done | rfl | (simp only [List.length_drop, List.length_take]; rfl)) ?_; (with_reducible refine (rolodexref11_Put.calls kj4 _ _ l0 t532 t533 _ ?side1 ?side2 A11.out).mono ?_); (case side1 => repeat (first | exact (Kd.C_below HR0.out HB.out) | (with_reducible refine Kd.C_alloc ?_ _) | (with_reducible refine Kd.C_drewN ?_ _) | (with_reducible refine Kd.C_drew ?_))); (case side2 => exact HC0.out); rintro e w52 ⟨v534, rfl, ho0, hb⟩; refine ⟨_, rfl, ?_⟩; have n0_ := Aside0.mk (Kd.R_elder' (by (with_reducible repeat (first | apply Kd.R_alloc | apply Kd.R_drewN | apply Kd.R_drew)); exact HO531.out) (Kd.R_base ho0) hb); have n1_ := Aside0.mk (Kd.R_lower (Kd.R_new' ho0 (Kd.R_lt (by (with_reducible repeat (first | apply Kd.R_alloc | apply Kd.R_drewN | apply Kd.R_drew)); exact HO531.out))) (below_size (by repeat (first | (with_reducible first | exact HB.out | apply below_alloc | apply pw_below_drewN | apply below_drew1) | exact HB.out)))); have n2_ := Aside0.mk (below_step (by repeat (first | (with_reducible first | exact HB.out | apply below_alloc | apply pw_below_drewN | apply below_drew1) | exact HB.out)) hb); clear HO531; clear HB; have HO531 := n0_; have HO535 := n1_; have HB := n2_; clear n0_ n1_ n2_; (try clear hb); (try clear hb2); (try clear hk); (try clear hi); (try clear ho0)) | ((with_reducible refine gate_callee (f := 52) rfl ?_); refine goesL_ (some 45) rfl rfl Try.func52 (by kernel_rfl) rfl #[.slice A1 l1.length c1] rfl (by (try simp only [List.map_toArray, List.map_cons, List.map_nil]); first | done | rfl | (simp only [List.length_drop, List.length_take]; rfl)) ?_; (with_reducible refine (delta_Get.calls kj4 _ _ l1 t536 t537 t538 _ ?side1 ?side2 A12.out).mono ?_); (case side1 => repeat (first | exact (Kd.C_below HR1.out HB.out) | (with_reducible refine Kd.C_alloc ?_ _) | (with_reducible refine Kd.C_drewN ?_ _) | (with_reducible refine Kd.C_drew ?_))); (case side2 => exact HC1.out); rintro e w53 ⟨v539, rfl, ho0, hb⟩; refine ⟨_, rfl, ?_⟩; have n0_ := Aside0.mk (Kd.R_below (by (with_reducible repeat (first | apply Kd.R_alloc | apply Kd.R_drewN | apply Kd.R_drew)); exact HO531.out) hb); have n1_ := Aside0.mk (Kd.R_below (by (with_reducible repeat (first | apply Kd.R_alloc | apply Kd.R_drewN | apply Kd.R_drew)); exact HO535.out) hb); have n2_ := Aside0.mk (Kd.R_lower ho0 (below_size (by repeat (first | (with_reducible first | exact HB.out | apply below_alloc | apply pw_below_drewN | apply below_drew1) | exact HB.out)))); have n3_ := Aside0.mk (below_step (by repeat (first | (with_reducible first | exact HB.out | apply below_alloc | apply pw_below_drewN | apply below_drew1) | exact HB.out)) hb); clear HO531; clear HO535; clear HB; have HO531 := n0_; have HO535 := n1_; have HO540 := n2_; have HB := n3_; clear n0_ n1_ n2_ n3_; (try clear hb); (try clear hb2); (try clear hk); (try clear hi); (try clear ho0)) | ((with_reducible refine gate_callee (f := 53) rfl ?_); refine goesL_ (some 51) rfl rfl Try.func53 (by kernel_rfl) rfl #[.slice A1 l1.length c1] rfl (by (try simp only [List.map_toArray, List.map_cons, List.map_nil]); first | done | rfl | (simp only [List.length_drop, List.length_take]; rfl)) ?_; (with_reducible refine (rolodexref11_Get.calls kj4 _ _ l1 t541 t542 t543 _ ?side1 ?side2 A13.out).mono ?_); (case side1 => repeat (first | exact (Kd.C_below HR1.out HB.out) | (with_reducible refine Kd.C_alloc ?_ _) | (with_reducible refine Kd.C_drewN ?_ _) | (with_reducible refine Kd.C_drew ?_))); (case side2 => exact HC1.out); rintro e w54 ⟨v544, rfl, ho0, hb⟩; refine ⟨_, rfl, ?_⟩; have n0_ := Aside0.mk (Kd.R_below (by (with_reducible repeat (first | apply Kd.R_alloc | apply Kd.R_drewN | apply Kd.R_drew)); exact HO531.out) hb); have n1_ := Aside0.mk (Kd.R_below (by (with_reducible repeat (first | apply Kd.R_alloc | apply Kd.R_drewN | apply Kd.R_drew)); exact HO535.out) hb); have n2_ := Aside0.mk (Kd.R_elder' (by (with_reducible repeat (first | apply Kd.R_alloc | apply Kd.R_drewN | apply Kd.R_drew)); exact HO540.out) (Kd.R_base ho0) hb); have n3_ := Aside0.mk (Kd.R_lower (Kd.R_new' ho0 (Kd.R_lt (by (with_reducible repeat (first | apply Kd.R_alloc | apply Kd.R_drewN | apply Kd.R_drew)); exact HO540.out))) (below_size (by repeat (first | (with_reducible first | exact HB.out | apply below_alloc | apply pw_below_drewN | apply below_drew1) | exact HB.out)))); have n4_ := Aside0.mk (below_step (by repeat (first | (with_reducible first | exact HB.out | apply below_alloc | apply pw_below_drewN | apply below_drew1) | exact HB.out)) hb); clear HO531; clear HO535; clear HO540; clear HB; have HO531 := n0_; have HO535 := n1_; have HO540 := n2_; have HO545 := n3_; have HB := n4_; clear n0_ n1_ n2_ n3_ n4_; (try clear hb); (try clear hb2); (try clear hk); (try clear hi); (try clear ho0); obtain ⟨Ao55, co55, eo55⟩ := Kd.R_slice HO540.out; subst eo55; obtain ⟨Ao56, co56, eo56⟩ := Kd.R_slice HO545.out; subst eo56) | ((with_reducible refine gate_callee (f := 54) rfl ?_); refine goesL_ (some 57) rfl rfl Try.func54 (by kernel_rfl) rfl #[.slice Ao55 t536.length co55, .slice Ao56 t541.length co56] rfl (by (try simp only [List.map_toArray, List.map_cons, List.map_nil]); first | done | rfl | (simp only [List.length_drop, List.length_take]; rfl)) ?_; (with_reducible refine (rolodexref11_Same.calls kj4 _ _ t536 _ _ t541 t546 _ ?side1 ?side2 ?side3 ?side4 A14.out).mono ?_); (case side1 => repeat (first | exact (Kd.R_reads' HO540.out).2.2 | (with_reducible refine Kd.C_alloc ?_ _) | (with_reducible refine Kd.C_drewN ?_ _) | (with_reducible refine Kd.C_drew ?_))); (case side2 => exact (Kd.R_reads' HO540.out).2.1); (case side3 => repeat (first | exact (Kd.R_reads' HO545.out).2.2 | (with_reducible refine Kd.C_alloc ?_ _) | (with_reducible refine Kd.C_drewN ?_ _) | (with_reducible refine Kd.C_drew ?_))); (case side4 => exact (Kd.R_reads' HO545.out).2.1); rintro e w' ⟨rfl, ⟨nd, rfl⟩⟩; refine ⟨_, rfl, ?_⟩; have hcv57 := own_string (P := Try.prog) Try.underlying40 Try.underlying5 Try.underlying9 (Kd.own_of_R HO531.out); have hcvq57 := fun n_ => own_string (P := Try.prog) Try.underlying40 Try.underlying5 Try.underlying9 (Kd.own_of_R (Kd.R_drewN HO531.out n_)); have hcv58 := own_string (P := Try.prog) Try.underlying40 Try.underlying5 Try.underlying9 (Kd.own_of_R HO535.out); have hcvq58 := fun n_ => own_string (P := Try.prog) Try.underlying40 Try.underlying5 Try.underlying9 (Kd.own_of_R (Kd.R_drewN HO535.out n_))))
          go_ret
          exact ⟨by first | rfl | (simp [errW_none, errW_some] <;> rfl) | (simp [*, errW_none, errW_some] <;> rfl), by repeat (first | (with_reducible first | exact HB.out | apply below_alloc | apply pw_below_drewN | apply below_drew1) | exact HB.out)⟩

end Go.Proofs.Ytchaegfdcdlfaaa.X

namespace Go.Proofs.Ytchaegfdcdlfaaa.X
open Go.RowKit Go.Proofs.YtchaegfdcdlfaaaW.PrintWords Go.Proofs.YtchaegfdcdlfaaaW.PrintLast Go.Proofs.YtchaegfdcdlfaaaW.PrintMore
attribute [local go_sem] max2_int min2_int max_two min_two max_three min_three max_four min_four   -- for this text's walks alone
set_option linter.unusedVariables false
set_option linter.unusedSimpArgs false

/-! ### rolodexref11_Apply: function 58 -/
def rolodexref11_Apply.l0 : Nat → ByteArray → List (S67) → ByteArray → Int → Option (ByteArray × Bool)
  | 0, _, _, _, _ => none
  | k + 1, x0, x1, x7, x8 => if x8 < (x1.length : Int) then (if 0 ≤ x8 then (if (rd_T67 x1 x8).f0 = true then (if (wrap64 (((rd_T67 x1 x8).f1) + ((rd_T67 x1 x8).f2))) > (x0.size : Int) then (some ((⟨#[]⟩ : ByteArray), false)) else (if 0 ≤ ((rd_T67 x1 x8).f1) then (if ((rd_T67 x1 x8).f1) ≤ (wrap64 (((rd_T67 x1 x8).f1) + ((rd_T67 x1 x8).f2))) then (if (wrap64 (((rd_T67 x1 x8).f1) + ((rd_T67 x1 x8).f2))) ≤ (x0.size : Int) then (if x7.size + (x0.extract (((rd_T67 x1 x8).f1) : Int).toNat ((wrap64 (((rd_T67 x1 x8).f1) + ((rd_T67 x1 x8).f2))) : Int).toNat).size ≤ 9223372036854775807 then (rolodexref11_Apply.l0 k x0 x1 (x7 ++ (x0.extract (((rd_T67 x1 x8).f1) : Int).toNat ((wrap64 (((rd_T67 x1 x8).f1) + ((rd_T67 x1 x8).f2))) : Int).toNat)) (wrap64 (x8 + 1))) else (none)) else (none)) else (none)) else (none))) else (if x7.size + ((rd_T67 x1 x8).f3).size ≤ 9223372036854775807 then (rolodexref11_Apply.l0 k x0 x1 (x7 ++ ((rd_T67 x1 x8).f3)) (wrap64 (x8 + 1))) else (none))) else (none)) else (some (x7, true))
def rolodexref11_Apply.f (k : Nat) (a0 : ByteArray) (l1 : List (S67)) : Option (ByteArray × Bool) := (rolodexref11_May.f k l1).bind fun t575 => (if t575 = true then (rolodexref11_Apply.l0 k a0 l1 (⟨#[]⟩ : ByteArray) 0) else (some ((⟨#[]⟩ : ByteArray), false)))
theorem rolodexref11_Apply.mono_l : ∀ k, (∀ y0 y1 y2 y3, LeO (rolodexref11_Apply.l0 k y0 y1 y2 y3) (rolodexref11_Apply.l0 (k + 1) y0 y1 y2 y3))
  | 0 => fun _ _ _ _ r h => by simp [rolodexref11_Apply.l0] at h
  | k + 1 => by
    have ih0 := rolodexref11_Apply.mono_l k
    · intro y0 y1 y2 y3
      unfold rolodexref11_Apply.l0
      repeat' first
      | (with_reducible exact ih0 _ _ _ _)
      | (with_reducible exact rolodexref11_May.mono _ _)
      | (with_reducible exact LeO.refl _)
      | (with_reducible exact LeO.none _)
      | (with_reducible refine LeO.ite ?_ ?_)
      | (with_reducible refine LeO.bind ?_ (fun _ => ?_))
      | exact ih0 _ _ _ _
      | exact rolodexref11_May.mono _ _
      | exact LeO.none _
      | refine LeO.ite ?_ ?_
      | refine LeO.bind ?_ (fun _ => ?_)
theorem rolodexref11_Apply.mono : ∀ a0 a1 k, LeO (rolodexref11_Apply.f k a0 a1) (rolodexref11_Apply.f (k + 1) a0 a1) := by
  intro a0 a1 k
  have ih0 := rolodexref11_Apply.mono_l k
  unfold rolodexref11_Apply.f
  repeat' first
      | (with_reducible exact ih0 _ _ _ _)
      | (with_reducible exact rolodexref11_May.mono _ _)
      | (with_reducible exact LeO.refl _)
      | (with_reducible exact LeO.none _)
      | (with_reducible refine LeO.ite ?_ ?_)
      | (with_reducible refine LeO.bind ?_ (fun _ => ?_))
      | exact ih0 _ _ _ _
      | exact rolodexref11_May.mono _ _
      | exact LeO.none _
      | refine LeO.ite ?_ ?_
      | refine LeO.bind ?_ (fun _ => ?_)
set_option maxHeartbeats 8000000 in
set_option maxRecDepth 100000 in
theorem rolodexref11_Apply.calls (k : Nat) (a0 : ByteArray) (A1 : Option Addr) (c1 : Nat) (l1 : List (S67)) (r1 : ByteArray) (r2 : Bool) (w : World) (hr1 : Kd.C k67 w A1 l1.length l1) (hc1 : l1.length ≤ c1) (h : rolodexref11_Apply.f k a0 l1 = some (r1, r2)) :
    Calls Try.prog 58 #[.string a0, .slice A1 l1.length c1] w fun e w' => e = .returned (.tuple #[.string r1, .bool r2]) ∧ Below w.heap.size w w' := by
  have hu67 := Try.underlying67
  have HR1 := Aside0.mk hr1
  have HC1 := Aside0.mk hc1
  clear hr1 hc1
  have HB := Aside0.mk (Below.refl w.heap.size w)
  have H : ((rolodexref11_May.f k l1).bind fun t575 => (if t575 = true then (rolodexref11_Apply.l0 k a0 l1 (⟨#[]⟩ : ByteArray) 0) else (some ((⟨#[]⟩ : ByteArray), false)))) = some (r1, r2) := h
  clear h
  replace H := Option.bind_eq_some_iff.mp H
  obtain ⟨t575, A30, H⟩ := H
  replace H : (if t575 = true then (rolodexref11_Apply.l0 k a0 l1 (⟨#[]⟩ : ByteArray) 0) else (some ((⟨#[]⟩ : ByteArray), false))) = some (r1, r2) := H
  have A3 := Aside0.mk A30
  clear A30
  by_cases c4 : t575 = true
  · subst c4
    have H1 : (rolodexref11_Apply.l0 k a0 l1 (⟨#[]⟩ : ByteArray) 0) = some (r1, r2) := by rw [if_pos rfl] at H; exact H
    clear H
    have H := H1
    clear H1
    have H' := Aside0.mk H
    clear H
    go_enter Try.func58, Try.ntmps58
    go_wp2_with (first | ((with_reducible refine gate_callee (f := 60) rfl ?_); refine goesL_ (some 11) rfl rfl Try.func60 (by kernel_rfl) rfl #[.slice A1 l1.length c1] rfl (by (try simp only [List.map_toArray, List.map_cons, List.map_nil]); first | done | rfl | (simp only [List.length_drop, List.length_take]; rfl)) ?_; (with_reducible refine (rolodexref11_May.calls k _ _ l1 true _ ?side1 ?side2 A3.out).mono ?_); (case side1 => repeat (first | exact HR1.out | (with_reducible refine Kd.C_alloc ?_ _) | (with_reducible refine Kd.C_drewN ?_ _) | (with_reducible refine Kd.C_drew ?_))); (case side2 => exact HC1.out); rintro e w5 ⟨rfl, hb⟩; refine ⟨_, rfl, ?_⟩; have n0_ := Aside0.mk (below_step (by repeat (first | (with_reducible first | exact HB.out | apply below_alloc | apply pw_below_drewN | apply below_drew1) | exact HB.out)) hb); clear HB; have HB := n0_; clear n0_; (try clear hb); (try clear hb2); (try clear hk); (try clear hi)))
    go_loopg [7, 8] k (fun kq v7 v8 w' => ∃ (x7_1 : ByteArray) (x8_1 : Int), v7 = .string x7_1 ∧ v8 = .int .i64 x8_1 ∧ Aside0 (rolodexref11_Apply.l0 kq a0 l1 x7_1 x8_1 = some (r1, r2)) ∧ Aside0 (kq ≤ k) ∧ Aside0 (Below w.heap.size w w'))
    case atStart => exact ⟨((⟨#[]⟩ : ByteArray)), (0), (by first | rfl | (simp; done) | (simp [*]; done)), (by first | rfl | (simp; done) | (simp [*]; done)), H', ⟨Nat.le_refl _⟩, ⟨by repeat (first | (with_reducible first | exact HB.out | apply below_alloc | apply pw_below_drewN | apply below_drew1) | exact HB.out)⟩⟩
    case round =>
      clear H'
      try clear c1
      try clear p2
      try clear c4
      try clear c5
      obtain ⟨x7_1, x8_1, rfl, rfl, HA, HK1, HB⟩ := hrel
      cases gk with
      | zero => exact absurd HA.out (by simp [rolodexref11_Apply.l0])
      | succ k1 =>
        have H := HA.out
        clear HA
        simp only [rolodexref11_Apply.l0] at H
        by_cases c6 : x8_1 < (l1.length : Int)
        · rw [if_pos c6] at H
          have c6b0 : decide (x8_1 < (l1.length : Int)) = true := decide_eq_true c6
          clear c6
          by_cases c7 : 0 ≤ x8_1
          · rw [if_pos c7] at H
            have c7b0 : decide (0 ≤ x8_1) = true := decide_eq_true c7
            clear c7
            obtain ⟨bq8, hbq8⟩ : ∃ b_ : Bool, b_ = ((rd_T67 l1 x8_1).f0) := ⟨_, rfl⟩
            replace H : (if bq8 = true then (if (wrap64 (((rd_T67 l1 x8_1).f1) + ((rd_T67 l1 x8_1).f2))) > (a0.size : Int) then (some ((⟨#[]⟩ : ByteArray), false)) else (if 0 ≤ ((rd_T67 l1 x8_1).f1) then (if ((rd_T67 l1 x8_1).f1) ≤ (wrap64 (((rd_T67 l1 x8_1).f1) + ((rd_T67 l1 x8_1).f2))) then (if (wrap64 (((rd_T67 l1 x8_1).f1) + ((rd_T67 l1 x8_1).f2))) ≤ (a0.size : Int) then (if x7_1.size + (a0.extract (((rd_T67 l1 x8_1).f1) : Int).toNat ((wrap64 (((rd_T67 l1 x8_1).f1) + ((rd_T67 l1 x8_1).f2))) : Int).toNat).size ≤ 9223372036854775807 then (rolodexref11_Apply.l0 k1 a0 l1 (x7_1 ++ (a0.extract (((rd_T67 l1 x8_1).f1) : Int).toNat ((wrap64 (((rd_T67 l1 x8_1).f1) + ((rd_T67 l1 x8_1).f2))) : Int).toNat)) (wrap64 (x8_1 + 1))) else (none)) else (none)) else (none)) else (none))) else (if x7_1.size + ((rd_T67 l1 x8_1).f3).size ≤ 9223372036854775807 then (rolodexref11_Apply.l0 k1 a0 l1 (x7_1 ++ ((rd_T67 l1 x8_1).f3)) (wrap64 (x8_1 + 1))) else (none))) = some (r1, r2) := by rw [← hbq8] at H; exact H
            have Nbq8 := Aside0.mk hbq8
            clear hbq8
            by_cases c9 : bq8 = true
            · subst c9
              have H1 : (if (wrap64 (((rd_T67 l1 x8_1).f1) + ((rd_T67 l1 x8_1).f2))) > (a0.size : Int) then (some ((⟨#[]⟩ : ByteArray), false)) else (if 0 ≤ ((rd_T67 l1 x8_1).f1) then (if ((rd_T67 l1 x8_1).f1) ≤ (wrap64 (((rd_T67 l1 x8_1).f1) + ((rd_T67 l1 x8_1).f2))) then (if (wrap64 (((rd_T67 l1 x8_1).f1) + ((rd_T67 l1 x8_1).f2))) ≤ (a0.size : Int) then (if x7_1.size + (a0.extract (((rd_T67 l1 x8_1).f1) : Int).toNat ((wrap64 (((rd_T67 l1 x8_1).f1) + ((rd_T67 l1 x8_1).f2))) : Int).toNat).size ≤ 9223372036854775807 then (rolodexref11_Apply.l0 k1 a0 l1 (x7_1 ++ (a0.extract (((rd_T67 l1 x8_1).f1) : Int).toNat ((wrap64 (((rd_T67 l1 x8_1).f1) + ((rd_T67 l1 x8_1).f2))) : Int).toNat)) (wrap64 (x8_1 + 1))) else (none)) else (none)) else (none)) else (none))) = some (r1, r2) := by rw [if_pos rfl] at H; exact H
              clear H
              have H := H1
              clear H1
              by_cases c10 : (wrap64 (((rd_T67 l1 x8_1).f1) + ((rd_T67 l1 x8_1).f2))) > (a0.size : Int)
              · rw [if_pos c10] at H
                have c10b0 : decide ((a0.size : Int) < (wrap64 (((rd_T67 l1 x8_1).f1) + ((rd_T67 l1 x8_1).f2)))) = true := decide_eq_true c10
                clear c10
                simp only [Option.some.injEq, Prod.mk.injEq] at H
                obtain ⟨rfl, rfl⟩ := H
                have p576 : 0 ≤ (x8_1 : Int) := of_decide_eq_true (by first | (with_reducible assumption) | assumption)
                have q576 : x8_1 < (l1.length : Int) := of_decide_eq_true (by first | (with_reducible assumption) | assumption)
                obtain ⟨ad576, e576, hx576_0, hx576_1, hx576_2, hx576_3⟩ := at_T67 HR1.out x8_1 p576 q576
                (try rw [← Nbq8.out] at hx576_0)
                cases e576
                replace hx576_0 := (HB.out.cell (World.block_lt_of_cell? w _ hx576_0)).trans hx576_0
                replace hx576_1 := (HB.out.cell (World.block_lt_of_cell? w _ hx576_1)).trans hx576_1
                replace hx576_2 := (HB.out.cell (World.block_lt_of_cell? w _ hx576_2)).trans hx576_2
                replace hx576_3 := (HB.out.cell (World.block_lt_of_cell? w _ hx576_3)).trans hx576_3
                replace p576 := eq_true p576
                replace q576 := eq_true q576
                go_wp2_with (first | ((with_reducible refine gate_dst (N := 9) rfl ?_); refine box_event ?hg (N := 9) ?hd (cs := #[.bool false, .int .i64 0, .int .i64 0, .string (⟨#[]⟩ : ByteArray)]) (t := 67) ?hr ?_; (case hd => rfl); (case hg => rfl); (case hr => first | (go_simp; done) | (go_simp; rfl)); intro gb577 hg w11 hbox hb; have n0_ := Aside0.mk (below_step (by repeat (first | (with_reducible first | exact HB.out | apply below_alloc | apply pw_below_drewN | apply below_drew1) | exact HB.out)) hb); have n1_ := Aside0.mk (hbox); have n2_ := Aside0.mk ((by rw [hg]; exact (below_size (by repeat (first | (with_reducible first | exact HB.out | apply below_alloc | apply pw_below_drewN | apply below_drew1) | exact HB.out))) : w.heap.size ≤ gb577)); have n3_ := Aside0.mk ((by rw [hg]; exact (below_size (by repeat (first | (with_reducible first | exact HB.out | apply below_alloc | apply pw_below_drewN | apply below_drew1) | exact HB.out))) : w.heap.size ≤ gb577)); clear HB; have HB := n0_; have BK577 := n1_; have GW577 := n2_; have GE577 := n3_; clear n0_ n1_ n2_ n3_; clear hb hbox hg; have hcz12_0 : w11.cell? ⟨gb577, 0, none⟩ = some (.bool false) := (blk_cell BK577.out 0).trans rfl; have hcz12_1 : w11.cell? ⟨gb577, 1, none⟩ = some (.int .i64 0) := (blk_cell BK577.out 1).trans rfl; have hcz12_2 : w11.cell? ⟨gb577, 2, none⟩ = some (.int .i64 0) := (blk_cell BK577.out 2).trans rfl; have hcz12_3 : w11.cell? ⟨gb577, 3, none⟩ = some (.string (⟨#[]⟩ : ByteArray)) := (blk_cell BK577.out 3).trans rfl; have hfz12_0 := blk_frozen BK577.out 0; have hfz12_1 := blk_frozen BK577.out 1; have hfz12_2 := blk_frozen BK577.out 2; have hfz12_3 := blk_frozen BK577.out 3))
                go_ret2
                exact ⟨by first | rfl | (simp [errW_none, errW_some] <;> rfl) | (simp [*, errW_none, errW_some] <;> rfl), by repeat (first | (with_reducible first | exact HB.out | apply below_alloc | apply pw_below_drewN | apply below_drew1 | refine below_set ?_ GE577.out) | exact HB.out)⟩
              · rw [if_neg c10] at H
                have c10b0 : decide ((a0.size : Int) < (wrap64 (((rd_T67 l1 x8_1).f1) + ((rd_T67 l1 x8_1).f2)))) = false := decide_eq_false c10
                clear c10
                by_cases c13 : 0 ≤ ((rd_T67 l1 x8_1).f1)
                · rw [if_pos c13] at H
                  have c13b0 := eq_true c13
                  have c13b1 : decide (0 ≤ ((rd_T67 l1 x8_1).f1)) = true := decide_eq_true c13
                  clear c13
                  by_cases c14 : ((rd_T67 l1 x8_1).f1) ≤ (wrap64 (((rd_T67 l1 x8_1).f1) + ((rd_T67 l1 x8_1).f2)))
                  · rw [if_pos c14] at H
                    have c14b0 := eq_true c14
                    have c14b1 : decide (((rd_T67 l1 x8_1).f1) ≤ (wrap64 (((rd_T67 l1 x8_1).f1) + ((rd_T67 l1 x8_1).f2)))) = true := decide_eq_true c14
                    by_cases c15 : (wrap64 (((rd_T67 l1 x8_1).f1) + ((rd_T67 l1 x8_1).f2))) ≤ (a0.size : Int)
                    · rw [if_pos c15] at H
                      have c15b0 := eq_true c15
                      have c15b1 : decide ((wrap64 (((rd_T67 l1 x8_1).f1) + ((rd_T67 l1 x8_1).f2))) ≤ (a0.size : Int)) = true := decide_eq_true c15
                      by_cases c16 : x7_1.size + (a0.extract (((rd_T67 l1 x8_1).f1) : Int).toNat ((wrap64 (((rd_T67 l1 x8_1).f1) + ((rd_T67 l1 x8_1).f2))) : Int).toNat).size ≤ 9223372036854775807
                      · rw [if_pos c16] at H
                        have c16b0 := eq_true c16
                        have c16b1 : decide (x7_1.size + (a0.extract (((rd_T67 l1 x8_1).f1) : Int).toNat ((wrap64 (((rd_T67 l1 x8_1).f1) + ((rd_T67 l1 x8_1).f2))) : Int).toNat).size ≤ 9223372036854775807) = true := decide_eq_true c16
                        try have c16b2 : (9223372036854775807 < x7_1.size + (a0.extract (((rd_T67 l1 x8_1).f1) : Int).toNat ((wrap64 (((rd_T67 l1 x8_1).f1) + ((rd_T67 l1 x8_1).f2))) : Int).toNat).size) = False := eq_false (Nat.not_lt.2 c16)
                        have H' := Aside0.mk H
                        clear H
                        have p576 : 0 ≤ (x8_1 : Int) := of_decide_eq_true (by first | (with_reducible assumption) | assumption)
                        have q576 : x8_1 < (l1.length : Int) := of_decide_eq_true (by first | (with_reducible assumption) | assumption)
                        obtain ⟨ad576, e576, hx576_0, hx576_1, hx576_2, hx576_3⟩ := at_T67 HR1.out x8_1 p576 q576
                        (try rw [← Nbq8.out] at hx576_0)
                        cases e576
                        replace hx576_0 := (HB.out.cell (World.block_lt_of_cell? w _ hx576_0)).trans hx576_0
                        replace hx576_1 := (HB.out.cell (World.block_lt_of_cell? w _ hx576_1)).trans hx576_1
                        replace hx576_2 := (HB.out.cell (World.block_lt_of_cell? w _ hx576_2)).trans hx576_2
                        replace hx576_3 := (HB.out.cell (World.block_lt_of_cell? w _ hx576_3)).trans hx576_3
                        replace p576 := eq_true p576
                        replace q576 := eq_true q576
                        go_wp2_with (first | ((with_reducible refine gate_dst (N := 9) rfl ?_); refine box_event ?hg (N := 9) ?hd (cs := #[.bool false, .int .i64 0, .int .i64 0, .string (⟨#[]⟩ : ByteArray)]) (t := 67) ?hr ?_; (case hd => rfl); (case hg => rfl); (case hr => first | (go_simp; done) | (go_simp; rfl)); intro gb577 hg w17 hbox hb; have n0_ := Aside0.mk (below_step (by repeat (first | (with_reducible first | exact HB.out | apply below_alloc | apply pw_below_drewN | apply below_drew1) | exact HB.out)) hb); have n1_ := Aside0.mk (hbox); have n2_ := Aside0.mk ((by rw [hg]; exact (below_size (by repeat (first | (with_reducible first | exact HB.out | apply below_alloc | apply pw_below_drewN | apply below_drew1) | exact HB.out))) : w.heap.size ≤ gb577)); have n3_ := Aside0.mk ((by rw [hg]; exact (below_size (by repeat (first | (with_reducible first | exact HB.out | apply below_alloc | apply pw_below_drewN | apply below_drew1) | exact HB.out))) : w.heap.size ≤ gb577)); clear HB; have HB := n0_; have BK577 := n1_; have GW577 := n2_; have GE577 := n3_; clear n0_ n1_ n2_ n3_; clear hb hbox hg; have hcz18_0 : w17.cell? ⟨gb577, 0, none⟩ = some (.bool false) := (blk_cell BK577.out 0).trans rfl; have hcz18_1 : w17.cell? ⟨gb577, 1, none⟩ = some (.int .i64 0) := (blk_cell BK577.out 1).trans rfl; have hcz18_2 : w17.cell? ⟨gb577, 2, none⟩ = some (.int .i64 0) := (blk_cell BK577.out 2).trans rfl; have hcz18_3 : w17.cell? ⟨gb577, 3, none⟩ = some (.string (⟨#[]⟩ : ByteArray)) := (blk_cell BK577.out 3).trans rfl; have hfz18_0 := blk_frozen BK577.out 0; have hfz18_1 := blk_frozen BK577.out 1; have hfz18_2 := blk_frozen BK577.out 2; have hfz18_3 := blk_frozen BK577.out 3))
                        go_roundg k1
                        case measure => have := HK1.out; omega
                        case rel => exact ⟨(x7_1 ++ (a0.extract (((rd_T67 l1 x8_1).f1) : Int).toNat ((wrap64 (((rd_T67 l1 x8_1).f1) + ((rd_T67 l1 x8_1).f2))) : Int).toNat)), (wrap64 (x8_1 + 1)), (by first | rfl | (simp; done) | (simp [*]; done)), (by first | rfl | (simp; done) | (simp [*]; done)), H', ⟨by have := HK1.out; omega⟩, ⟨by repeat (first | (with_reducible first | exact HB.out | apply below_alloc | apply pw_below_drewN | apply below_drew1 | refine below_set ?_ GE577.out) | exact HB.out)⟩⟩
                      · rw [if_neg c16] at H
                        exact absurd H (by simp)
                    · rw [if_neg c15] at H
                      exact absurd H (by simp)
                  · rw [if_neg c14] at H
                    exact absurd H (by simp)
                · rw [if_neg c13] at H
                  exact absurd H (by simp)
            · replace c9 := Bool.eq_false_iff.mpr c9
              subst c9
              have H1 : (if x7_1.size + ((rd_T67 l1 x8_1).f3).size ≤ 9223372036854775807 then (rolodexref11_Apply.l0 k1 a0 l1 (x7_1 ++ ((rd_T67 l1 x8_1).f3)) (wrap64 (x8_1 + 1))) else (none)) = some (r1, r2) := by rw [if_neg (show ¬ (false = true) by decide)] at H; exact H
              clear H
              have H := H1
              clear H1
              by_cases c19 : x7_1.size + ((rd_T67 l1 x8_1).f3).size ≤ 9223372036854775807
              · rw [if_pos c19] at H
                have c19b0 := eq_true c19
                have c19b1 : decide (x7_1.size + ((rd_T67 l1 x8_1).f3).size ≤ 9223372036854775807) = true := decide_eq_true c19
                try have c19b2 : (9223372036854775807 < x7_1.size + ((rd_T67 l1 x8_1).f3).size) = False := eq_false (Nat.not_lt.2 c19)
                have H' := Aside0.mk H
                clear H
                have p576 : 0 ≤ (x8_1 : Int) := of_decide_eq_true (by first | (with_reducible assumption) | assumption)
                have q576 : x8_1 < (l1.length : Int) := of_decide_eq_true (by first | (with_reducible assumption) | assumption)
                obtain ⟨ad576, e576, hx576_0, hx576_1, hx576_2, hx576_3⟩ := at_T67 HR1.out x8_1 p576 q576
                (try rw [← Nbq8.out] at hx576_0)
                cases e576
                replace hx576_0 := (HB.out.cell (World.block_lt_of_cell? w _ hx576_0)).trans hx576_0
                replace hx576_1 := (HB.out.cell (World.block_lt_of_cell? w _ hx576_1)).trans hx576_1
                replace hx576_2 := (HB.out.cell (World.block_lt_of_cell? w _ hx576_2)).trans hx576_2
                replace hx576_3 := (HB.out.cell (World.block_lt_of_cell? w _ hx576_3)).trans hx576_3
                replace p576 := eq_true p576
                replace q576 := eq_true q576
                go_wp2_with (first | ((with_reducible refine gate_dst (N := 9) rfl ?_); refine box_event ?hg (N := 9) ?hd (cs := #[.bool false, .int .i64 0, .int .i64 0, .string (⟨#[]⟩ : ByteArray)]) (t := 67) ?hr ?_; (case hd => rfl); (case hg => rfl); (case hr => first | (go_simp; done) | (go_simp; rfl)); intro gb577 hg w20 hbox hb; have n0_ := Aside0.mk (below_step (by repeat (first | (with_reducible first | exact HB.out | apply below_alloc | apply pw_below_drewN | apply below_drew1) | exact HB.out)) hb); have n1_ := Aside0.mk (hbox); have n2_ := Aside0.mk ((by rw [hg]; exact (below_size (by repeat (first | (with_reducible first | exact HB.out | apply below_alloc | apply pw_below_drewN | apply below_drew1) | exact HB.out))) : w.heap.size ≤ gb577)); have n3_ := Aside0.mk ((by rw [hg]; exact (below_size (by repeat (first | (with_reducible first | exact HB.out | apply below_alloc | apply pw_below_drewN | apply below_drew1) | exact HB.out))) : w.heap.size ≤ gb577)); clear HB; have HB := n0_; have BK577 := n1_; have GW577 := n2_; have GE577 := n3_; clear n0_ n1_ n2_ n3_; clear hb hbox hg; have hcz21_0 : w20.cell? ⟨gb577, 0, none⟩ = some (.bool false) := (blk_cell BK577.out 0).trans rfl; have hcz21_1 : w20.cell? ⟨gb577, 1, none⟩ = some (.int .i64 0) := (blk_cell BK577.out 1).trans rfl; have hcz21_2 : w20.cell? ⟨gb577, 2, none⟩ = some (.int .i64 0) := (blk_cell BK577.out 2).trans rfl; have hcz21_3 : w20.cell? ⟨gb577, 3, none⟩ = some (.string (⟨#[]⟩ : ByteArray)) := (blk_cell BK577.out 3).trans rfl; have hfz21_0 := blk_frozen BK577.out 0; have hfz21_1 := blk_frozen BK577.out 1; have hfz21_2 := blk_frozen BK577.out 2; have hfz21_3 := blk_frozen BK577.out 3))
                go_roundg k1
                case measure => have := HK1.out; omega
                case rel => exact ⟨(x7_1 ++ ((rd_T67 l1 x8_1).f3)), (wrap64 (x8_1 + 1)), (by first | rfl | (simp; done) | (simp [*]; done)), (by first | rfl | (simp; done) | (simp [*]; done)), H', ⟨by have := HK1.out; omega⟩, ⟨by repeat (first | (with_reducible first | exact HB.out | apply below_alloc | apply pw_below_drewN | apply below_drew1 | refine below_set ?_ GE577.out) | exact HB.out)⟩⟩
              · rw [if_neg c19] at H
                exact absurd H (by simp)
          · rw [if_neg c7] at H
            exact absurd H (by simp)
        · rw [if_neg c6] at H
          have c6b0 : decide (x8_1 < (l1.length : Int)) = false := decide_eq_false c6
          clear c6
          simp only [Option.some.injEq, Prod.mk.injEq] at H
          obtain ⟨rfl, rfl⟩ := H
          go_wp2
          go_ret2
          exact ⟨by first | rfl | (simp [errW_none, errW_some] <;> rfl) | (simp [*, errW_none, errW_some] <;> rfl), by repeat (first | (with_reducible first | exact HB.out | apply below_alloc | apply pw_below_drewN | apply below_drew1) | exact HB.out)⟩
  · replace c4 := Bool.eq_false_iff.mpr c4
    subst c4
    have H1 : (some ((⟨#[]⟩ : ByteArray), false)) = some (r1, r2) := by rw [if_neg (show ¬ (false = true) by decide)] at H; exact H
    clear H
    have H := H1
    clear H1
    simp only [Option.some.injEq, Prod.mk.injEq] at H
    obtain ⟨rfl, rfl⟩ := H
    go_enter Try.func58, Try.ntmps58
    go_wp2_with (first | ((with_reducible refine gate_callee (f := 60) rfl ?_); refine goesL_ (some 11) rfl rfl Try.func60 (by kernel_rfl) rfl #[.slice A1 l1.length c1] rfl (by (try simp only [List.map_toArray, List.map_cons, List.map_nil]); first | done | rfl | (simp only [List.length_drop, List.length_take]; rfl)) ?_; (with_reducible refine (rolodexref11_May.calls k _ _ l1 false _ ?side1 ?side2 A3.out).mono ?_); (case side1 => repeat (first | exact HR1.out | (with_reducible refine Kd.C_alloc ?_ _) | (with_reducible refine Kd.C_drewN ?_ _) | (with_reducible refine Kd.C_drew ?_))); (case side2 => exact HC1.out); rintro e w22 ⟨rfl, hb⟩; refine ⟨_, rfl, ?_⟩; have n0_ := Aside0.mk (below_step (by repeat (first | (with_reducible first | exact HB.out | apply below_alloc | apply pw_below_drewN | apply below_drew1) | exact HB.out)) hb); clear HB; have HB := n0_; clear n0_; (try clear hb); (try clear hb2); (try clear hk); (try clear hi)))
    go_ret2
    exact ⟨by first | rfl | (simp [errW_none, errW_some] <;> rfl) | (simp [*, errW_none, errW_some] <;> rfl), by repeat (first | (with_reducible first | exact HB.out | apply below_alloc | apply pw_below_drewN | apply below_drew1) | exact HB.out)⟩

end Go.Proofs.Ytchaegfdcdlfaaa.X

/- What the document's functions of layer 11 come to: in words of lists. -/
namespace Go.Proofs.Ytchaegfdcdlfaaa.X
set_option linter.unusedVariables false
set_option linter.unusedSimpArgs false
open Go.Proofs.Ytchaegfdcdlfaaa.Y (IsGet Bytes put put_range put_length put_length_pos readR Put_eq RPut_eq Text_eq RText_eq Get_eq RGet_eq Read_of wraps_u64 bytesOf_bytes)
open Go.RowKit Go.Maps Go.Proofs.YtchaegfdcdlfaaaW.PrintWords Go.Proofs.YtchaegfdcdlfaaaW.PrintLast Go.Proofs.YtchaegfdcdlfaaaW.PrintMore

theorem rput_l0p (l : List S67) (hl : l.length ≤ 60) (hs : ∀ p ∈ l, Shape p) : ∀ (d i k : Nat) (o : List Int), l.length = i + d → d + 20 < k → o.length ≤ 100 + 300 * i →
    rolodexref11_Put.l0 k l o (i : Int) = some (o ++ piecesB (l.drop i), true) := by
  intro d
  induction d with
  | zero =>
    intro i k o hi hk ho
    obtain ⟨k, rfl⟩ : ∃ k', k = k' + 1 := ⟨k - 1, by omega⟩
    rw [rolodexref11_Put.l0, if_neg (by omega), List.drop_eq_nil_of_le (by omega)]
    show _ = some (o ++ [], true)
    rw [List.append_nil]
  | succ d ih =>
    intro i k o hi hk ho
    obtain ⟨k, rfl⟩ : ∃ k', k = k' + 1 := ⟨k - 1, by omega⟩
    have hil : i < l.length := by omega
    have hp := hs _ (rd_mem hil)
    have hd := rd_next hil
    obtain ⟨p, hpe⟩ : ∃ p, rd_T67 l (i : Int) = p := ⟨_, rfl⟩
    rw [hpe] at hp hd
    have hpl := pieceB_length hp
    rw [rolodexref11_Put.l0, if_pos (by omega), if_pos (by omega), hpe, hd, wrap_next i (by omega)]
    have hfin : ∀ o2, o2 = o ++ pieceB p → rolodexref11_Put.l0 k l o2 ((i + 1 : Nat) : Int) = some (o ++ piecesB (p :: l.drop (i + 1)), true) := by
      rintro o2 rfl
      rw [ih (i + 1) k _ (by omega) (by omega) (by rw [List.length_append]; omega), List.append_assoc]
      rfl
    cases h0 : p.f0
    · obtain ⟨h1, h2, h3⟩ := hp.2 h0
      have hB : pieceB p = 0 :: (put p.f3.size ++ bytesOf p.f3) := by unfold pieceB; rw [if_neg (by simp [h0])]
      have hBl : (put p.f3.size ++ bytesOf p.f3).length ≤ 300 := by rw [hB, List.length_cons] at hpl; omega
      rw [if_neg (by simp), if_pos (by omega), Option.bind_some, RText_eq p.f3 (by omega) k (by omega), Option.bind_some, if_pos (by simp only [List.length_append, List.length_cons, List.length_nil] at hBl ⊢; omega)]
      exact hfin _ (by rw [hB]; simp)
    · obtain ⟨h1, h2, h3, h4, h5⟩ := hp.1 h0
      have hB : pieceB p = 1 :: (put p.f1.toNat ++ put p.f2.toNat) := by unfold pieceB; rw [if_pos h0]
      have hBl : (put p.f1.toNat).length + (put p.f2.toNat).length ≤ 300 := by rw [hB, List.length_cons, List.length_append] at hpl; omega
      rw [if_pos rfl, if_pos (by omega), Option.bind_some]
      rw [show p.f1 = ((p.f1.toNat : Nat) : Int) by omega, show p.f2 = ((p.f2.toNat : Nat) : Int) by omega, wrapu _ (by omega), wrapu _ (by omega), RPut_eq _ (by omega) k (by omega), Option.bind_some, if_pos (by simp only [List.length_append, List.length_cons, List.length_nil]; omega), Option.bind_some, RPut_eq _ (by omega) k (by omega), Option.bind_some, if_pos (by simp only [List.length_append, List.length_cons, List.length_nil]; omega)]
      exact hfin _ (by rw [hB]; simp)
theorem RMay_eq (l : List S67) (hl : l.length ≤ 1000000000) (k : Nat) : rolodexref11_May.f k l = some (mayL l) := by
  unfold rolodexref11_May.f
  rw [if_pos hl]
theorem DRPut_eq {l : List S67} (hm : mayL l = true) (k : Nat) (hk : 100 < k) : rolodexref11_Put.f k l = some (putL l, true) := by
  have hi := (mayL_iff l).1 hm
  have h10 := put_length l.length (by omega)
  unfold rolodexref11_Put.f
  rw [RMay_eq l (by omega) k, hm, Option.bind_some, if_pos rfl, wrapu _ (by omega), RPut_eq _ (by omega) k (by omega), Option.bind_some]
  rw [show (0 : Int) = ((0 : Nat) : Int) from rfl, rput_l0p l hi.2.1 (may_shape hm) l.length 0 k _ (by omega) (by omega) (by omega), List.drop_zero]
  rfl
theorem DRPut_no {l : List S67} (hm : mayL l = false) (k : Nat) (hl : l.length ≤ 1000000000) : rolodexref11_Put.f k l = some ([], false) := by
  unfold rolodexref11_Put.f
  rw [RMay_eq l (by omega) k, hm, Option.bind_some, if_neg (by simp)]
theorem rsame_l0 (l m : List S67) (hl : l.length ≤ 1000000) (hm : l.length = m.length) : ∀ (d i k : Nat), l.length = i + d → d < k → rolodexref11_Same.l0 k l m (i : Int) = some (sameL (l.drop i) (m.drop i)) := by
  intro d
  induction d with
  | zero =>
    intro i k hi hk
    obtain ⟨k, rfl⟩ : ∃ k', k = k' + 1 := ⟨k - 1, by omega⟩
    rw [rolodexref11_Same.l0, if_neg (by omega), List.drop_eq_nil_of_le (by omega), List.drop_eq_nil_of_le (by omega)]
    rfl
  | succ d ih =>
    intro i k hi hk
    obtain ⟨k, rfl⟩ : ∃ k', k = k' + 1 := ⟨k - 1, by omega⟩
    have hil : i < l.length := by omega
    have him : i < m.length := by omega
    rw [rolodexref11_Same.l0, if_pos (by omega), if_pos (by omega), if_pos (by omega), sameP_not, rd_next hil, rd_next him]
    show _ = some (sameP (rd_T67 l (i : Int)) (rd_T67 m (i : Int)) && sameL (l.drop (i + 1)) (m.drop (i + 1)))
    cases sameP (rd_T67 l (i : Int)) (rd_T67 m (i : Int))
    · rfl
    · rw [if_neg (by simp), wrap_next i (by omega), ih (i + 1) k (by omega) (by omega), Bool.true_and]
theorem RSame_eq (l m : List S67) (hl : l.length ≤ 1000000) (k : Nat) (hk : l.length < k) : rolodexref11_Same.f k l m = some (sameL l m) := by
  unfold rolodexref11_Same.f
  by_cases h : l.length = m.length
  · rw [if_pos (by omega), show (0 : Int) = ((0 : Nat) : Int) from rfl, rsame_l0 l m hl h l.length 0 k (by omega) (by omega), List.drop_zero, List.drop_zero]
  · rw [if_neg (by omega), sameL_len h]
end Go.Proofs.Ytchaegfdcdlfaaa.X

/- Pieces have the bytes, and bytes begin by the pieces, that the document says: the law in plain lists, and the walk. -/
namespace Go.Proofs.Ytchaegfdcdlfaaa.X
set_option linter.unusedVariables false
set_option linter.unusedSimpArgs false
open Go.Proofs.Ytchaegfdcdlfaaa.Y (IsGet Bytes put put_range put_length put_length_pos)
open Go.RowKit Go.Maps Go.Proofs.YtchaegfdcdlfaaaW.PrintWords Go.Proofs.YtchaegfdcdlfaaaW.PrintLast Go.Proofs.YtchaegfdcdlfaaaW.PrintMore

theorem byte_litB {n : Int} (h : (Lit.int .u8 n).wf = true) : 0 ≤ n ∧ n ≤ 255 := by
  have := (Go.Proofs.Ytchaegfdcdlfaaa.Y.bytes_of_wf (l := [n]) (fun x hx => by rw [List.mem_singleton.1 hx]; exact h)) n (by simp)
  exact this
theorem getP_few (b : List Int) (hb : Bytes b) (hl : b.length ≤ 400) : (getP b).1.length ≤ 1000 := by
  rcases getP_is b hb (by omega) with h | ⟨l, rest, _, hm, h⟩
  · rw [h]; simp
  · rw [h]
    have := ((mayL_iff l).1 hm).2.1
    show l.length ≤ 1000
    omega
theorem bytes_pure (l : List S67) (b : List Int) (hb : Bytes b) : ∃ k, rolodexlaw11_DeltaBytes.f k l b = some true := by
  refine ⟨100000, ?_⟩
  unfold rolodexlaw11_DeltaBytes.f rolodexlaw11_awake.f
  rw [Option.bind_some, Few_eq l 100000 (by omega), Option.bind_some, if_pos rfl]
  have off : rolodexlaw11_DeltaBytes.j0 100000 l b true true = some true := by rw [rolodexlaw11_DeltaBytes.j0, if_pos rfl]
  cases hf : fewL l
  · rw [if_neg (by simp), off]
  · rw [if_pos rfl]
    by_cases g1 : (b.length : Int) > 400
    · rw [decide_eq_true g1, off]
    · have k1 := fewL_le hf
      have k2 := getP_few b hb (by omega)
      have hend : ((delta_Get.f 99999 b).bind fun bt536 => ((rolodexref11_Get.f 99999 b).bind fun bt541 => ((rolodexref11_Same.f 99999 bt536.1 bt541.1).bind fun t546 => (if t546 = true then (if bt536.2.1 = bt541.2.1 then (some (bt536.2.2 == bt541.2.2)) else (some false)) else (some false))))) = some true := by
        rw [DGet_eq b hb (by omega) 99999 (by omega), Option.bind_some, DRGet_eq b hb (by omega) 99999, Option.bind_some, RSame_eq _ _ (by omega) 99999 (by omega), Option.bind_some, sameL_refl, if_pos rfl, if_pos rfl]
        simp
      rw [decide_eq_false g1, rolodexlaw11_DeltaBytes.j0, if_neg (by simp)]
      rw [DGet_eq b hb (by omega) 99999 (by omega), Option.bind_some, DRGet_eq b hb (by omega) 99999, Option.bind_some, RSame_eq _ _ (by omega) 99999 (by omega), Option.bind_some, sameL_refl, if_pos rfl, if_pos rfl] at hend
      cases hm : mayL l
      · rw [DPut_no hm 99999 (by omega) (by omega), Option.bind_some, DRPut_no hm 99999 (by omega), Option.bind_some, DGet_eq b hb (by omega) 99999 (by omega), Option.bind_some, DRGet_eq b hb (by omega) 99999, Option.bind_some, RSame_eq _ _ (by omega) 99999 (by omega), Option.bind_some, sameL_refl, if_pos rfl, if_pos (by rfl), if_pos rfl, if_pos rfl]
        exact hend
      · rw [DPut_eq hm 99999 (by omega), Option.bind_some, DRPut_eq hm 99999 (by omega), Option.bind_some, DGet_eq b hb (by omega) 99999 (by omega), Option.bind_some, DRGet_eq b hb (by omega) 99999, Option.bind_some, RSame_eq _ _ (by omega) 99999 (by omega), Option.bind_some, sameL_refl, if_pos rfl, if_pos (by rfl), if_pos rfl, if_pos rfl]
        exact hend
theorem rolodexlaw11_DeltaBytes.walk (a0 : Option Addr) (len0 cap0 : Nat) (l0 : List S67) (a1 : Option Addr) (len1 cap1 : Nat) (z1 : List Int) (w : World)
    (n0 : l0.length = len0) (c0 : len0 ≤ cap0) (b0 : Kd.C k67 w a0 len0 l0) (o0 : ∀ s ∈ l0, PcOk s)
    (w1 : (a1 = none ∧ len1 = 0 ∧ cap1 = 0 ∧ z1 = []) ∨ ∃ x, a1 = some x ∧ len1 ≤ cap1 ∧ cap1 ≤ maxLen ∧ z1.length = cap1 ∧ (∀ i, i < z1.length → w.cell? (x.add i) = some (.int .u8 (z1.getD i 0))) ∧ ∀ n ∈ z1, (Lit.int .u8 n).wf = true) (y1 : len1 * 1 ≤ 140737488351232) :
    Calls Try.prog 15 #[.slice a0 len0 cap0, .slice a1 len1 cap1] w fun e w' => e = .returned (.bool true) ∧ Below w.heap.size w w' := by
  subst n0
  obtain ⟨l1, hl1, hr1, hm1, hw1, hc1⟩ := ReadsInt.ofRowC w1
  obtain ⟨k, h⟩ := bytes_pure l0 l1 (fun x hx => byte_litB (hw1 x hx))
  have hr := Kd.C_of_reads (d := (0 : Int)) (h1 := fun _ => rfl) hr1
  subst hl1
  exact rolodexlaw11_DeltaBytes.calls k a0 cap0 l0 a1 cap1 l1 true w b0 c0 hr hc1 h
end Go.Proofs.Ytchaegfdcdlfaaa.X

/- The row of DeltaBytes, over the walk that is proved by hand. -/
namespace Go.Proofs.Ytchaegfdcdlfaaa.deltaBytes
open Go.ChangeShapes Go.WideShapes Go.ChangeAt Go.RowKit
open Go.ChangeMaps (open_string shut_string)
set_option linter.unusedVariables false
theorem own : ownKnob Try.prog.godebug = none := by kernel_rfl
theorem laidOut : laidOutB Try.prog = true := by kernel_rfl
def IsRow (k : IntKind) (w : World) (a : Option Addr) (len cap : Nat) (zs : List Int) : Prop :=
  (a = none ∧ len = 0 ∧ cap = 0 ∧ zs = []) ∨
  ∃ x, a = some x ∧ len ≤ cap ∧ cap ≤ maxLen ∧ zs.length = cap ∧ (∀ i, i < zs.length → w.cell? (x.add i) = some (.int k (zs.getD i 0))) ∧ ∀ n ∈ zs, (Lit.int k n).wf = true
set_option maxRecDepth 100000 in
theorem lifted (os : Os) (started : os.Started) (H : Type) (enc : TypeId × Value → H) :
    ReturnsInHanded {} Try.checked os 15 .any (Rows.deltaBytesSpec.pre6 enc Try.prog Try.f15 Rows.deltaBytesRow.domain false) (Rows.deltaBytesSpec.post enc Try.prog Try.f15 false true false false) := by
  refine returnsInHanded_of_change_sized (C := Try.checked) own started (by kernel_rfl) Try.func15
    (ChangeSpec.witness6 (enc := enc) (C := Try.checked) false ⟨#[], #[.slice none 0 0, .slice none 0 0], []⟩ 8 (by kernel_rfl) (by kernel_rfl) (by kernel_rfl) (by kernel_rfl)) ?_
  intro W base args ds gs before hval0 hW hcnd hsz0 _
  have hsz : (DataW.weightsEach Try.prog (Try.f15.params.toList ++ Rows.deltaBytesSpec.plain.varTypes Try.prog) (ds ++ gs)).all (· ≤ reachBytes) = true := hsz0
  have hval : ∀ (j : Nat) t v, Try.f15.params[j]? = some t → args[j]? = some v → Value.okWide Try.prog W .any base t v := hval0
  have hW' := hW
  obtain ⟨p, q, hA0, hV, rfl, hfz, hnd⟩ := hW
  have hA : DataW.TrodAll enc Try.prog W 0 (fun _ => true) true Try.f15.params.toList args.toList ds p := hA0
  rw [Try.params15] at hA hval hsz
  obtain ⟨v0, vs0, d0, ds0, p0, q0, hargs, rfl, rfl, h0, r0⟩ := trodAll_cons hA
  obtain ⟨v1, vs1, d1, ds1, p1, q1, rfl, rfl, rfl, h1, r1⟩ := trodAll_cons r0
  obtain ⟨rfl, rfl, rfl⟩ := trodAll_nil r1
  obtain rfl : args = #[v0, v1] := by cases args; simp_all
  obtain ⟨rfl, rfl⟩ := trodVars_none hV
  obtain ⟨a0, len0, cap0, rfl⟩ := okWide_slice Try.underlying55 (hval 0 55 v0 rfl rfl)
  have k0 := h0
  have lt0 : ∀ x ∈ p0, x.block < W.heap.size := by obtain ⟨m, hm⟩ := k0; exact DataW.trod_lt m _ _ _ hm
  obtain ⟨l0, n0, c0, b0, o0⟩ := X.open_pieces h0
  obtain ⟨a1, len1, cap1, rfl⟩ := okWide_slice Try.underlying40 (hval 1 40 v1 rfl rfl)
  have k1 := h1
  have lt1 : ∀ x ∈ p1, x.block < W.heap.size := by obtain ⟨m, hm⟩ := k1; exact DataW.trod_lt m _ _ _ hm
  obtain ⟨z1, w1⟩ : ∃ zs, IsRow .u8 W a1 len1 cap1 zs := by
    obtain ⟨fuel, hf⟩ := h1
    rcases open_ints Try.underlying40 Try.underlying5 (by kernel_rfl) hf with ⟨hcs, _⟩ | ⟨x, l, c, zs, hcs, _, hl, hm, hz, _, hcell, hwz⟩
    · simp [Value.cells] at hcs
      obtain ⟨rfl, rfl, rfl⟩ := hcs
      exact ⟨[], .inl ⟨rfl, rfl, rfl, rfl⟩⟩
    · simp [Value.cells] at hcs
      obtain ⟨rfl, rfl, rfl⟩ := hcs
      exact ⟨zs, .inr ⟨_, rfl, hl, hm, by simpa using hz, hcell, hwz⟩⟩
  have y1 : len1 * 1 ≤ 140737488351232 := Go.Proofs.YtchaegfdcdlfaaaW.PrintWords.sized_ints hsz (j := 1) (t := 40) rfl rfl Try.underlying40 Try.underlying5 (by kernel_rfl) (by kernel_rfl) h1
  clear hA0 hval0 hsz0 hsz
  refine (X.rolodexlaw11_DeltaBytes.walk a0 len0 cap0 l0 a1 len1 cap1 z1 W n0 c0 b0 o0 w1 y1).mono fun e W' ⟨he, bel⟩ => ?_
  subst he
  exact ⟨_, rfl, _, _, _, [], _, [], hW', trodAll_mk1 (shut_bool Try.underlying4 _), (trodAll_cons_mk (Below.trod laidOut (by kernel_rfl) (of_decide_eq_true (by kernel_rfl)) k0 bel lt0) (trodAll_cons_mk (Below.trod laidOut (by kernel_rfl) (of_decide_eq_true (by kernel_rfl)) k1 bel lt1) trodAll_mk0)), rfl, bel.frame _, fun h => by cases h⟩
theorem clos0 : (J.closT Try.prog 185 [15] []).isSome = true := by kernel_rfl
theorem clos1 : Try.prog.closure 15 = (J.closT Try.prog 185 [15] []).getD [] := J.clos_eq (of_decide_eq_true (by kernel_rfl)) clos0
theorem fact1 : Try.prog.inPlace 15 = ["internal/abi.NoEscape"] := by unfold Program.inPlace; rw [clos1]; kernel_rfl
theorem fact2 : Try.prog.unfollowed 15 = true := by unfold Program.unfollowed; rw [clos1]; kernel_rfl
theorem fact3 : Try.prog.recurses 15 = true := by unfold Program.recurses; rw [fact2]; rfl
theorem fact4 : Try.prog.varsNamed 15 = [] := by unfold Program.varsNamed; rw [clos1]; kernel_rfl
set_option maxRecDepth 100000 in
theorem facts : joinedFacts Try.prog 15 Try.f15 Rows.deltaBytesSpec Rows.deltaBytesRow = true := by
  unfold joinedFacts
  simp only [Bool.and_eq_true]
  repeat' apply And.intro
  all_goals first | (with_reducible exact J.mayEnter) | (rw [J.liftsFinal]; kernel_rfl) | (rw [J.make]; kernel_rfl) | (rw [fact1]; kernel_rfl) | (rw [fact2]; kernel_rfl) | (rw [fact3]; kernel_rfl) | (rw [fact4]; kernel_rfl) | kernel_rfl
theorem over : Rows.deltaBytesRow.holds Try.pinned (OpenSpec.ofChange Rows.deltaBytesSpec) :=
  OpenClaim.holds_of_wide 15 Try.f15 rfl rfl rfl rfl rfl rfl rfl ⟨rfl, rfl, rfl, rfl, rfl⟩ rfl rfl rfl rfl rfl (by kernel_rfl) Try.func15 facts
    (of_decide_eq_true (by kernel_rfl)) (by unfold Func.isWrapper; first | (rw [if_pos (by decide +kernel)]; kernel_rfl) | (rw [if_neg (by decide +kernel)]; exact ⟨rfl, rfl⟩))
    (fun os started H enc _ => lifted os started H enc)
theorem proved : Rows.DeltaBytesSaid := over
#print axioms proved
end Go.Proofs.Ytchaegfdcdlfaaa.deltaBytes
namespace Go.Proofs.Ytchaegfdcdlfaaa
/-- The row, under a short name, for the claim. -/
theorem deltaBytes_holds : Rows.DeltaBytesSaid := deltaBytes.proved
end Go.Proofs.Ytchaegfdcdlfaaa
