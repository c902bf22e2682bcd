/- The document's digest: the walk. -/
import Derived.Test.YtenkaaigalcgcaaRMsg
import Derived.Test.YtenkaaigalcgcaaRWords
import Derived.Test.YtenkaaigalcgcaaXx18
import Derived.Test.YtenkaaigalcgcaaRMath
import Derived.Test.YtenkaaigalcgcaaSLess
namespace Go.Proofs.Ytenkaaigalcgcaa.X
set_option linter.unusedVariables false
set_option linter.unusedSimpArgs false
open Go.RowKit Go.Proofs.YtenkaaigalcgcaaW.PrintWords Go.Proofs.YtenkaaigalcgcaaW.PrintLast Go.Proofs.YtenkaaigalcgcaaW.PrintMore

/-- A slice of words that reads as a list. -/
abbrev RdW (w : World) (A : Option Addr) (n : Nat) (l : List Int) : Prop := Kd.C (Kd.int .u32) w A n l
theorem rdw_at {w : World} {ad : Addr} {n : Nat} {l : List Int} (h : RdW w (some ad) n l) {j : Nat} (hj : j < n) : w.cell? (ad.add j) = some (.int .u32 (l.getD j 0)) := by
  obtain ⟨ad2, e, hc⟩ := Kd.at_int h (j : Int) (by omega) (by omega)
  obtain rfl : ad = ad2 := by injection e
  rw [Int.toNat_natCast] at hc
  rw [hc]
  simp [rd]
theorem rdw_atn {w : World} {ad : Addr} {n : Nat} {l : List Int} (h : RdW w (some ad) n l) {j : Nat} (hj : j < n) (h0 : 0 < j) : w.cell? ⟨ad.block, ad.off + j, none⟩ = some (.int .u32 (l.getD j 0)) := by
  have := rdw_at h hj
  unfold Addr.add at this
  rw [if_neg (Nat.ne_of_gt h0)] at this
  exact this
theorem rdw_at0 {w : World} {ad : Addr} {n : Nat} {l : List Int} (h : RdW w (some ad) n l) (hn : 0 < n) : w.cell? ad = some (.int .u32 (l.getD 0 0)) := by
  have := rdw_at h hn
  unfold Addr.add at this
  rw [if_pos rfl] at this
  exact this
theorem rdw_below {w w' : World} {A : Option Addr} {n : Nat} {l : List Int} (h : RdW w A n l) (hb : Below w.heap.size w w') : RdW w' A n l := Kd.C_below h hb
theorem rdw_some {w : World} {A : Option Addr} {n : Nat} {l : List Int} (h : RdW w A n l) (hn : 0 < n) : ∃ ad, A = some ad := by
  obtain ⟨ad, e, _⟩ := Kd.at_int h 0 (by omega) (by omega)
  exact ⟨ad, e⟩
theorem Blk.readw {w : World} {g : Nat} {t : TypeId} {xs : List Int} (h : Blk w g t xs) (hm : xs.length ≤ 1000000000) : RdW w (some ⟨g, 0, none⟩) xs.length xs :=
  Kd.C_of_reads (d := (0 : Int)) (h1 := fun _ => rfl) ⟨rfl, by omega, fun _ => ⟨_, rfl, fun j hj => by rw [add_plain]; exact h.cell hj⟩⟩
/-- What has become of the world: new blocks, and one row of the call's own. -/
structure Fr (w w4 : World) (g : Nat) (w' : World) : Prop where
  below : Below w.heap.size w w'
  keep : KeepBut w4 w' g none
theorem Fr.step {w w4 w1 w2 : World} {g : Nat} (h : Fr w w4 g w1) (b : Below w1.heap.size w1 w2) : Fr w w4 g w2 :=
  ⟨below_step h.below b, h.keep.trans (KeepBut.of_below b g none) (.inl rfl)⟩
theorem Fr.set {w w4 w1 : World} {g : Nat} (h : Fr w w4 g w1) (hg : w.heap.size ≤ g) (i : Nat) (v : Value) : Fr w w4 g (w1.setCell ⟨g, i, none⟩ v) :=
  ⟨below_set h.below hg, h.keep.set_ i v⟩
theorem Fr.drewN {w w4 w1 : World} {g : Nat} (h : Fr w w4 g w1) (n : Nat) : Fr w w4 g (w1.drewN n) := h.step (pw_below_drewN (Below.refl _ _) n)
theorem Fr.drew {w w4 w1 : World} {g : Nat} (h : Fr w w4 g w1) : Fr w w4 g w1.drew := h.step (below_drew (Below.refl _ _))
theorem Fr.rdb {w w4 w1 : World} {g : Nat} {A : Option Addr} {n : Nat} {l : List Int} (h : Fr w w4 g w1) (hr : RdB w4 A n l) (hf : ∀ ad, A = some ad → 0 < n → ad.block ≠ g) : RdB w1 A n l :=
  Kd.C_of_reads (d := (0 : Int)) (h1 := fun _ => rfl) ((Kd.reads_of_C (d := (0 : Int)) hr : ReadsInt _ _ _ _ _).keep h.keep hf)
theorem Fr.rdw {w w4 w1 : World} {g : Nat} {A : Option Addr} {n : Nat} {l : List Int} (h : Fr w w4 g w1) (hr : RdW w4 A n l) (hf : ∀ ad, A = some ad → 0 < n → ad.block ≠ g) : RdW w1 A n l :=
  Kd.C_of_reads (d := (0 : Int)) (h1 := fun _ => rfl) ((Kd.reads_of_C (d := (0 : Int)) hr : ReadsInt _ _ _ _ _).keep h.keep hf)
theorem wpAnyH_str {P : Program} {md : Region.Mode} {ops : Array Oper} {Q : Exit → Act → World → Prop} {S S2 : World → Prop} (h : ∀ W, S2 W → S W) :
    ∀ (fuel : Nat) (listed : Array Bool) (a : Act) (w : World), wpAnyH P md ops Q S2 fuel listed a w → wpAnyH P md ops Q S fuel listed a w
  | 0, _, _, _, hh => hh
  | fuel + 1, _, _, _, hh => ⟨hh.1, fun i hi => wpOp_mono (fun a' w' h' => ⟨h w' h'.1, wpAnyH_str h fuel _ a' w' h'.2⟩) (hh.2 i hi)⟩
theorem adr_add (a : Addr) (i j : Nat) : (a.add i).add j = a.add (i + j) := by
  unfold Addr.add
  by_cases hi : i = 0
  · subst hi; simp
  · by_cases hj : j = 0
    · subst hj; simp
    · simp [hi, hj]; omega
theorem rdb_mid {w : World} {A : Option Addr} {l : List Int} (h : RdB w A l.length l) (q : Nat) (hq : q + 64 ≤ l.length) : RdB w (A.map fun x => x.add q) 64 ((l.drop q).take 64) := by
  have h1 := Kd.reads_of_C (d := (0 : Int)) h
  obtain ⟨ad, rfl, hc⟩ := h1.2.2 (by omega)
  refine Kd.C_of_reads (d := (0 : Int)) (h1 := fun _ => rfl) ⟨by simp; omega, by omega, fun _ => ⟨ad.add q, rfl, fun j hj => ?_⟩⟩
  rw [show (ad.add q).add j = ad.add (q + j) from adr_add ad q j, hc (q + j) (by omega)]
  simp [List.getElem?_take, hj, List.getElem?_drop]
theorem words_call (A : Option Addr) (c : Nat) (l : List Int) (w : World) (hr : RdB w A 64 l) (hc : 64 ≤ c) (hl : l.length = 64) (hb : Bytes8 l) :
    Calls Try.prog 20 #[.slice A 64 c] w fun e w' => ∃ ad c6, e = .returned (.slice (some ad) 64 c6) ∧ Aside0 (RdW w' (some ad) 64 (schedAt l 64)) ∧ Below w.heap.size w w' := by
  have h := rolodexref03_words.calls 100 A c l (schedAt l 64) w (by rw [hl]; exact hr) (by omega) (words_eq l hl hb)
  rw [hl] at h
  refine h.mono ?_
  rintro e w' ⟨v, rfl, hk, hb⟩
  obtain ⟨A6, c6, rfl, hc6, hr6⟩ := Kd.R_reads hk
  rw [schedAt_length] at hr6
  obtain ⟨ad, rfl⟩ := rdw_some hr6 (by decide)
  exact ⟨ad, c6, by rw [schedAt_length], ⟨hr6⟩, hb⟩
theorem k_call (w : World) : Calls Try.prog 22 #[] w fun e w' => ∃ ad c6, e = .returned (.slice (some ad) 64 c6) ∧ RdW w' (some ad) 64 rootsL ∧ Below w.heap.size w w' := by
  refine (rolodexref03_k.calls rootsL w rfl).mono ?_
  rintro e w' ⟨v, rfl, hk, hb⟩
  obtain ⟨A6, c6, rfl, hc6, hr6⟩ := Kd.R_reads hk
  rw [show rootsL.length = 64 from rfl] at hr6
  obtain ⟨ad, rfl⟩ := rdw_some hr6 (by decide)
  exact ⟨ad, c6, rfl, hr6, hb⟩
theorem turned_call (x : Int) (n : Nat) (h0 : 0 < n) (h1 : n < 32) (w : World) : Calls Try.prog 21 #[.int .u32 x, .int .u32 n] w fun e w' => e = .returned (.int .u32 (rotr x n)) ∧ Drawn0 w w' :=
  rolodexref03_turned.calls x n _ w (turned_eq x n h0 h1)
/-- 'append(v, ys...)' of rows of words. -/
theorem app_words {w0 W : World} {ops : Array Oper} {rest : List Oper} {o : Oper} {a : Act} {Q : Exit → Act → World → Prop} (base : Nat) (hgd : o.guard = none) (s x : Operand)
    (ho : o.op = .call { callee := .builtin .append, args := #[s, x], argTypes := #[46, 46] }) (v : Value) (xs ys : List Int) (A : Option Addr) (m c : Nat) (hs : a.eval s = v) (hx : a.eval x = .slice A m c)
    (HO : W.ownsRow base 38 1 v xs.length (nums .u32 xs)) (HR : RdW W A m ys) (HB : Below base w0 W) (hbase : base ≤ W.heap.size) (hl : xs.length + m ≤ 1000000000)
    (h : ∀ v1 w1, Aside0 (w1.ownsRow base 38 1 v1 (xs ++ ys).length (nums .u32 (xs ++ ys))) → Aside0 (Below base w0 w1) → wpList Try.prog ops Q rest (a.put o.dst v1) w1) :
    wpList Try.prog ops Q (o :: rest) a W :=
  print_append_row (w0 := w0) base hgd s x 46 38 .u32 4 ho Try.underlying46 info38 (by decide) v xs ys A m c hs hx HO (Kd.reads_of_C HR) HB hbase (by omega)
    fun v1 w1 h1 h2 _ _ => h v1 w1 ⟨h1⟩ ⟨h2⟩
theorem own_words {w : World} {base n : Nat} {v : Value} {l : List Int} (h : w.ownsRow base 38 1 v n (nums .u32 l)) (hn : 0 < n) : ∃ ad c, v = .slice (some ad) n c ∧ n ≤ c ∧ RdW w (some ad) n l ∧ base ≤ ad.block := by
  have hn2 : n = l.length := by have := h.1; simp [nums] at this; omega
  subst hn2
  obtain ⟨A, c, rfl, hc, hr⟩ := Kd.R_reads (Kd.R_of_own (enc := Value.int .u32) (h1 := fun _ => rfl) (ok := fun _ => True) h (fun _ _ => trivial))
  obtain ⟨ad, rfl⟩ := rdw_some hr hn
  exact ⟨ad, c, rfl, hc, hr, own_base h ad.block rfl⟩
theorem msg2_bytes (l : List Int) (h : Bytes8 l) : Bytes8 (msg2 l 8) := by
  intro x hx
  unfold msg2 msg1 at hx
  simp only [List.mem_append, List.mem_replicate, List.mem_map, List.mem_range, List.mem_singleton] at hx
  rcases hx with ((hx | hx) | hx) | ⟨i, _, rfl⟩
  · exact h x hx
  · omega
  · omega
  · unfold lenByte; omega
theorem rdw_set {w : World} {ad : Addr} {n : Nat} {l : List Int} (h : RdW w (some ad) n l) (g i : Nat) (v : Value) (hne : ad.block ≠ g) : RdW (w.setCell ⟨g, i, none⟩ v) (some ad) n l :=
  Kd.C_of_reads (d := (0 : Int)) (h1 := fun _ => rfl) ((Kd.reads_of_C (d := (0 : Int)) h : ReadsInt _ _ _ _ _).keep ((KeepBut.refl w g none).set_ i v) (fun a e _ => by injection e with e; subst e; exact hne))
theorem build24 (W : World) : (Instr.build 24 #[]).run Try.prog W = .ok (.agg (cells8 (List.replicate 32 0))) W := by kernel_rfl
theorem state_words (m : List Int) : ∀ j, Words (stateAt m j)
  | 0 => by intro x hx; simp only [stateAt, begunL, List.mem_cons, List.not_mem_nil, or_false] at hx; omega
  | j + 1 => addUp_words (state_words m j) _ _

set_option maxHeartbeats 8000000 in
set_option maxRecDepth 100000 in
theorem refsum_call (A : Option Addr) (c : Nat) (l : List Int) (w : World) (hr : RdB w A l.length l) (hc : l.length ≤ c) (hl : l.length ≤ 1000) (hb : Bytes8 l) :
    Calls Try.prog 11 #[.slice A l.length c] w fun e w' => e = .returned (.agg (cells8 (shaOf l))) ∧ Below w.heap.size w w' := by
  have HR := Aside0.mk hr
  have HB0 := Aside0.mk hb
  clear hr hb
  go_enter Try.func11, Try.ntmps11
  go_wp2_with fail
  refine (message_call A c l _ (rdb_below HR.out (below_alloc (below_alloc (Below.refl _ _) _) _)) hc (by omega)).mono ?_
  rintro e w4 ⟨v, rfl, HO, HB⟩
  have HBw : Aside0 (Below w.heap.size w w4) := ⟨below_step (below_alloc (below_alloc (Below.refl _ _) _) _) HB.out⟩
  have HZ : Aside0 (Blk8 w4 w.heap.size 24 (List.replicate 32 0)) := ⟨Blk8.below (heap_alloc2_old w _ _) HB.out (by simp; omega)⟩
  have HG : Aside0 (Blk w4 (w.heap.size + 1) 38 begunL) := ⟨Blk.below (heap_alloc2_new w _ _) HB.out (by simp)⟩
  obtain ⟨A4, c4, rfl, hc4, hr4⟩ := own_row HO.out
  have HFAR : Aside0 (∀ ad, A4 = some ad → ad.block ≠ w.heap.size + 1) := ⟨fun ad had => by
    have := own_base HO.out ad.block (by rw [had]; rfl)
    simp at this
    omega⟩
  have HR4 := Aside0.mk hr4
  obtain ⟨msg, hmsg⟩ : ∃ msg, msg = msg2 l 8 := ⟨_, rfl⟩
  obtain ⟨p, hp⟩ : ∃ p, p = msg.length := ⟨_, rfl⟩
  rw [← hmsg, ← hp] at HR4 hc4 ⊢
  have HP : Aside0 (msg.length = p) := ⟨hp.symm⟩
  have HMSG : Aside0 (msg2 l 8 = msg) := ⟨hmsg.symm⟩
  have HN : Aside0 (p % 64 = 0) := ⟨by rw [hp, hmsg, msg2_length]; have := padN_at l.length; omega⟩
  have hpl : p ≤ 2000 := by rw [hp, hmsg, msg2_length]; have := padN_lt l.length; omega
  have HMB : Aside0 (Bytes8 msg) := ⟨by rw [hmsg]; exact msg2_bytes l HB0.out⟩
  clear HO hr4 hmsg hp
  have HF : Aside0 (Fr w w4 (w.heap.size + 1) w4) := ⟨⟨HBw.out, KeepBut.refl _ _ _⟩⟩
  clear HB
  go_wp2_with fail
  go_loopg [5] (p / 64) (fun k v5 w' => ∃ (j : Nat), v5 = .int .i64 ((64 * j : Nat) : Int) ∧ Aside0 (k = p / 64 - j ∧ j ≤ p / 64) ∧ Aside0 (Blk w' (w.heap.size + 1) 38 (stateAt msg j)) ∧ Aside0 (Fr w w4 (w.heap.size + 1) w'))
  case atStart => exact ⟨0, rfl, ⟨by omega, by omega⟩, HG, HF⟩
  case round =>
    clear HG HF
    obtain ⟨j, rfl, HJ, HG, HF⟩ := hrel
    by_cases hj : j < p / 64
    · have d1 : decide (64 * j < p) = true := decide_eq_true (by omega)
      have d2 : decide (((64 * j : Nat) : Int) < (p : Int)) = true := decide_eq_true (by omega)
      obtain ⟨q, hq⟩ : ∃ q, q = 64 * j := ⟨_, rfl⟩
      rw [← hq] at d1 d2 ⊢
      have HQ := Aside0.mk hq
      have hqp : q + 64 ≤ p := by omega
      have HWF : Aside0 (RdB w4 A4 msg.length msg) := ⟨by rw [HP.out]; exact HR4.out⟩
      clear hq
      have HCH : Aside0 (RdB wr (A4.map fun x => x.add q) 64 ((msg.drop q).take 64)) := ⟨rdb_mid (by rw [HP.out]; exact HF.out.rdb HR4.out (fun ad had _ => HFAR.out ad had)) q (by rw [HP.out]; exact hqp)⟩
      have HCL : Aside0 (((msg.drop q).take 64).length = 64) := ⟨by simp; have := HP.out; omega⟩
      have HCB : Aside0 (Bytes8 ((msg.drop q).take 64)) := ⟨fun x hx => HMB.out x (List.mem_of_mem_drop (List.mem_of_mem_take hx))⟩
      clear HWF
      go_wp2_with fail
      refine (words_call _ _ ((msg.drop q).take 64) _ HCH.out (by omega) HCL.out HCB.out).mono ?_
      rintro e w5 ⟨a6, c6, rfl, HW5, hb5⟩
      have HB5 := Aside0.mk hb5
      clear hb5
      obtain ⟨ws, hws⟩ : ∃ ws, ws = schedAt ((msg.drop q).take 64) 64 := ⟨_, rfl⟩
      rw [← hws] at HW5
      have HWS := Aside0.mk hws
      have HSL : Aside0 ((stateAt msg j).length = 8) := ⟨stateAt_length _ _⟩
      obtain ⟨ss, hss⟩ : ∃ ss, ss = stateAt msg j := ⟨_, rfl⟩
      rw [← hss] at HG HSL
      have HSS := Aside0.mk hss
      clear hws hss
      have HG5 : Aside0 (Blk w5 (w.heap.size + 1) 38 ss) := ⟨Blk.below HG.out HB5.out (Blk.lt HG.out)⟩
      have HR5 : Aside0 (RdW w5 (some ⟨w.heap.size + 1, 0, none⟩) 8 ss) := ⟨by have := HG5.out.readw (by rw [HSL.out]; decide); rw [HSL.out] at this; exact this⟩
      go_wp2_with (first
        | ((with_reducible refine gate_builtin (b := .append) (xs := #[.const (.slice none 0 0), .tmp 33]) rfl ?_); at_builtin; refine app_words (w0 := w5) w5.heap.size rfl _ _ rfl (.slice none 0 0) [] ss (some ⟨w.heap.size + 1, 0, none⟩) 8 8 rfl rfl (own_nil _ _ _ _) HR5.out (Below.refl _ _) (Nat.le_refl _) (by decide) ?_; intro v6 w6 HO6 HB6; have HO7 : w6.ownsRow w5.heap.size 38 1 v6 8 (nums .u32 ss) := (by have h_ := HO6.out; rw [List.nil_append, HSL.out] at h_; exact h_); obtain ⟨ad, c7, rfl, hc7, hr7, hbl7⟩ := own_words HO7 (by decide))
        | fail)
      have HX6 : Aside0 (RdW w6 (some ad) 8 ss) := ⟨hr7⟩
      have HW6 : Aside0 (RdW w6 (some a6) 64 ws) := ⟨rdw_below HW5.out HB6.out⟩
      have HAD : Aside0 (w.heap.size + 1 < ad.block) := ⟨Nat.lt_of_lt_of_le (Blk.lt HG5.out) hbl7⟩
      have HWD : Aside0 (Words ss) := ⟨by rw [HSS.out]; exact state_words _ _⟩
      clear hr7 hbl7 HO6 HO7 hc7
      obtain ⟨wo, rfl⟩ : ∃ wo : World, wo = wr := ⟨_, rfl⟩
      go_loopg [7, 8] 64 (fun k v7 v8 w' => ∃ (i : Nat) (xs : List Int) (ad : Addr) (c7 : Nat), v7 = .slice (some ad) 8 c7 ∧ v8 = .int .i64 (i : Int) ∧ Aside0 (k = 64 - i ∧ i ≤ 64) ∧ Aside0 (xs = shaRounds ss ws rootsL i) ∧ Aside0 (xs.length = 8) ∧ Aside0 (w.heap.size + 1 < ad.block) ∧ Aside0 (RdW w' (some ad) 8 xs) ∧ Aside0 (RdW w' (some a6) 64 ws) ∧ Aside0 (Below w6.heap.size w6 w'))
      case atStart => exact ⟨0, ss, ad, c7, rfl, rfl, ⟨by omega, by omega⟩, ⟨rfl⟩, HSL, HAD, HX6, HW6, ⟨Below.refl _ _⟩⟩
      case round =>
        clear HX6 HAD
        obtain ⟨i, xs, ad, c7, rfl, rfl, HI, HXE, HXL, HAD, HX, HW, HL⟩ := hrel
        by_cases hi : i < 64
        · have e1 : decide (i < 64) = true := decide_eq_true hi
          have e2 : decide ((i : Int) < 64) = true := decide_eq_true (by omega)
          have pi : (0 ≤ (i : Int)) = True := eq_true (by omega)
          have qi : ((i : Int) < 64) = True := eq_true (by omega)
          have hwr : IntKind.i64.wrap ((i : Int) + 1) = ((i + 1 : Nat) : Int) := by rw [i64_w]; unfold wrap64; omega
          have x4 := rdw_atn HX.out (j := 4) (by decide) (by decide)
          have x0 := rdw_at0 HX.out (by decide)
          go_wp2_with fail
          refine wp_region_held_drew (S := (fun W => RdW W (some ad) 8 xs ∧ RdW W (some a6) 64 ws)) (by kernel_rfl) ((And.intro HX.out HW.out)) (fun hHeld => ?_)
          refine wpAnyH_take (i := 0) (v := ?_) (by simp only [List.getElem?_toArray, List.getElem?_cons_succ, List.getElem?_cons_zero]; rfl) (by kernel_rfl) (by kernel_rfl) (by kernel_rfl) (by intro _ _ _ h; exact h) (Or.inl ⟨by rfl, ?hy⟩) (by assumption) ?_
          case hy => (intro W_ hW_; go_simp; first | done | with_reducible rfl)
          try simp only [Act.put, List.setIfInBounds_toArray, List.set_cons_zero, List.set_cons_succ]
          refine wpAnyH_take (i := 1) (v := ?_) (by simp only [List.getElem?_toArray, List.getElem?_cons_succ, List.getElem?_cons_zero]; rfl) (by kernel_rfl) (by kernel_rfl) (by kernel_rfl) (by intro _ _ _ h; exact h) (Or.inl ⟨by rfl, ?hy⟩) (by assumption) ?_
          case hy => (intro W_ hW_; go_simp; first | done | with_reducible rfl)
          try simp only [Act.put, List.setIfInBounds_toArray, List.set_cons_zero, List.set_cons_succ]
          refine wpAnyH_take (i := 2) (v := ?_) (by simp only [List.getElem?_toArray, List.getElem?_cons_succ, List.getElem?_cons_zero]; rfl) (by kernel_rfl) (by kernel_rfl) (by kernel_rfl) (by intro _ _ _ h; exact h) (Or.inl ⟨by rfl, ?hy⟩) (by assumption) ?_
          case hy => (intro W_ hW_; have f_ := rdw_atn hW_.1 (j := 7) (by decide) (by decide); go_simp; first | done | with_reducible rfl)
          try simp only [Act.put, List.setIfInBounds_toArray, List.set_cons_zero, List.set_cons_succ]
          refine wpAnyH_take (i := 3) (v := ?_) (by simp only [List.getElem?_toArray, List.getElem?_cons_succ, List.getElem?_cons_zero]; rfl) (by kernel_rfl) (by kernel_rfl) (by kernel_rfl) (by intro _ _ _ h; exact h) (Or.inl ⟨by rfl, ?hy⟩) (by assumption) ?_
          case hy => (intro W_ hW_; go_simp; first | done | with_reducible rfl)
          try simp only [Act.put, List.setIfInBounds_toArray, List.set_cons_zero, List.set_cons_succ]
          refine wpAnyH_take (i := 5) (v := ?_) (by simp only [List.getElem?_toArray, List.getElem?_cons_succ, List.getElem?_cons_zero]; rfl) (by kernel_rfl) (by kernel_rfl) (by kernel_rfl) (by intro _ _ _ h; exact h) (Or.inl ⟨by rfl, ?hy⟩) (by assumption) ?_
          case hy => (intro W_ hW_; go_simp; first | done | with_reducible rfl)
          try simp only [Act.put, List.setIfInBounds_toArray, List.set_cons_zero, List.set_cons_succ]
          refine wpAnyH_take (i := 8) (v := ?_) (by simp only [List.getElem?_toArray, List.getElem?_cons_succ, List.getElem?_cons_zero]; rfl) (by kernel_rfl) (by kernel_rfl) (by kernel_rfl) (by intro _ _ _ h; exact h) (Or.inl ⟨by rfl, ?hy⟩) (by assumption) ?_
          case hy => (intro W_ hW_; go_simp; first | done | with_reducible rfl)
          try simp only [Act.put, List.setIfInBounds_toArray, List.set_cons_zero, List.set_cons_succ]
          refine wpAnyH_take (i := 12) (v := ?_) (by simp only [List.getElem?_toArray, List.getElem?_cons_succ, List.getElem?_cons_zero]; rfl) (by kernel_rfl) (by kernel_rfl) (by kernel_rfl) (by intro _ _ _ h; exact h) (Or.inl ⟨by rfl, ?hy⟩) (by assumption) ?_
          case hy => (intro W_ hW_; go_simp; first | done | with_reducible rfl)
          try simp only [Act.put, List.setIfInBounds_toArray, List.set_cons_zero, List.set_cons_succ]
          refine wpAnyH_take (i := 13) (v := ?_) (by simp only [List.getElem?_toArray, List.getElem?_cons_succ, List.getElem?_cons_zero]; rfl) (by kernel_rfl) (by kernel_rfl) (by kernel_rfl) (by intro _ _ _ h; exact h) (Or.inl ⟨by rfl, ?hy⟩) (by assumption) ?_
          case hy => (intro W_ hW_; go_simp; first | done | with_reducible rfl)
          try simp only [Act.put, List.setIfInBounds_toArray, List.set_cons_zero, List.set_cons_succ]
          refine wpAnyH_take (i := 14) (v := ?_) (by simp only [List.getElem?_toArray, List.getElem?_cons_succ, List.getElem?_cons_zero]; rfl) (by kernel_rfl) (by kernel_rfl) (by kernel_rfl) (by intro _ _ _ h; exact h) (Or.inl ⟨by rfl, ?hy⟩) (by assumption) ?_
          case hy => (intro W_ hW_; go_simp; first | done | with_reducible rfl)
          try simp only [Act.put, List.setIfInBounds_toArray, List.set_cons_zero, List.set_cons_succ]
          refine wpAnyH_take (i := 15) (v := ?_) (by simp only [List.getElem?_toArray, List.getElem?_cons_succ, List.getElem?_cons_zero]; rfl) (by kernel_rfl) (by kernel_rfl) (by kernel_rfl) (by intro _ _ _ h; exact h) (Or.inl ⟨by rfl, ?hy⟩) (by assumption) ?_
          case hy => (intro W_ hW_; have f_ := rdw_atn hW_.1 (j := 5) (by decide) (by decide); go_simp; first | done | with_reducible rfl)
          try simp only [Act.put, List.setIfInBounds_toArray, List.set_cons_zero, List.set_cons_succ]
          refine wpAnyH_take (i := 16) (v := ?_) (by simp only [List.getElem?_toArray, List.getElem?_cons_succ, List.getElem?_cons_zero]; rfl) (by kernel_rfl) (by kernel_rfl) (by kernel_rfl) (by intro _ _ _ h; exact h) (Or.inl ⟨by rfl, ?hy⟩) (by assumption) ?_
          case hy => (intro W_ hW_; go_simp; first | done | with_reducible rfl)
          try simp only [Act.put, List.setIfInBounds_toArray, List.set_cons_zero, List.set_cons_succ]
          refine wpAnyH_take (i := 17) (v := ?_) (by simp only [List.getElem?_toArray, List.getElem?_cons_succ, List.getElem?_cons_zero]; rfl) (by kernel_rfl) (by kernel_rfl) (by kernel_rfl) (by intro _ _ _ h; exact h) (Or.inl ⟨by rfl, ?hy⟩) (by assumption) ?_
          case hy => (intro W_ hW_; go_simp; first | done | with_reducible rfl)
          try simp only [Act.put, List.setIfInBounds_toArray, List.set_cons_zero, List.set_cons_succ]
          refine wpAnyH_take (i := 18) (v := ?_) (by simp only [List.getElem?_toArray, List.getElem?_cons_succ, List.getElem?_cons_zero]; rfl) (by kernel_rfl) (by kernel_rfl) (by kernel_rfl) (by intro _ _ _ h; exact h) (Or.inl ⟨by rfl, ?hy⟩) (by assumption) ?_
          case hy => (intro W_ hW_; go_simp; first | done | with_reducible rfl)
          try simp only [Act.put, List.setIfInBounds_toArray, List.set_cons_zero, List.set_cons_succ]
          refine wpAnyH_take (i := 19) (v := ?_) (by simp only [List.getElem?_toArray, List.getElem?_cons_succ, List.getElem?_cons_zero]; rfl) (by kernel_rfl) (by kernel_rfl) (by kernel_rfl) (by intro _ _ _ h; exact h) (Or.inl ⟨by rfl, ?hy⟩) (by assumption) ?_
          case hy => (intro W_ hW_; go_simp; first | done | with_reducible rfl)
          try simp only [Act.put, List.setIfInBounds_toArray, List.set_cons_zero, List.set_cons_succ]
          refine wpAnyH_take (i := 20) (v := ?_) (by simp only [List.getElem?_toArray, List.getElem?_cons_succ, List.getElem?_cons_zero]; rfl) (by kernel_rfl) (by kernel_rfl) (by kernel_rfl) (by intro _ _ _ h; exact h) (Or.inl ⟨by rfl, ?hy⟩) (by assumption) ?_
          case hy => (intro W_ hW_; go_simp; first | done | with_reducible rfl)
          try simp only [Act.put, List.setIfInBounds_toArray, List.set_cons_zero, List.set_cons_succ]
          refine wpAnyH_take (i := 21) (v := ?_) (by simp only [List.getElem?_toArray, List.getElem?_cons_succ, List.getElem?_cons_zero]; rfl) (by kernel_rfl) (by kernel_rfl) (by kernel_rfl) (by intro _ _ _ h; exact h) (Or.inl ⟨by rfl, ?hy⟩) (by assumption) ?_
          case hy => (intro W_ hW_; have f_ := rdw_atn hW_.1 (j := 6) (by decide) (by decide); go_simp; first | done | with_reducible rfl)
          try simp only [Act.put, List.setIfInBounds_toArray, List.set_cons_zero, List.set_cons_succ]
          refine wpAnyH_take (i := 22) (v := ?_) (by simp only [List.getElem?_toArray, List.getElem?_cons_succ, List.getElem?_cons_zero]; rfl) (by kernel_rfl) (by kernel_rfl) (by kernel_rfl) (by intro _ _ _ h; exact h) (Or.inl ⟨by rfl, ?hy⟩) (by assumption) ?_
          case hy => (intro W_ hW_; go_simp; first | done | with_reducible rfl)
          try simp only [Act.put, List.setIfInBounds_toArray, List.set_cons_zero, List.set_cons_succ]
          refine wpAnyH_take (i := 23) (v := ?_) (by simp only [List.getElem?_toArray, List.getElem?_cons_succ, List.getElem?_cons_zero]; rfl) (by kernel_rfl) (by kernel_rfl) (by kernel_rfl) (by intro _ _ _ h; exact h) (Or.inl ⟨by rfl, ?hy⟩) (by assumption) ?_
          case hy => (intro W_ hW_; go_simp; first | done | with_reducible rfl)
          try simp only [Act.put, List.setIfInBounds_toArray, List.set_cons_zero, List.set_cons_succ]
          refine wpAnyH_take (i := 26) (v := ?_) (by simp only [List.getElem?_toArray, List.getElem?_cons_succ, List.getElem?_cons_zero]; rfl) (by kernel_rfl) (by kernel_rfl) (by kernel_rfl) (by intro _ _ _ h; exact h) (Or.inl ⟨by rfl, ?hy⟩) (by assumption) ?_
          case hy => (intro W_ hW_; go_simp; first | done | with_reducible rfl)
          try simp only [Act.put, List.setIfInBounds_toArray, List.set_cons_zero, List.set_cons_succ]
          refine wpAnyH_take (i := 30) (v := ?_) (by simp only [List.getElem?_toArray, List.getElem?_cons_succ, List.getElem?_cons_zero]; rfl) (by kernel_rfl) (by kernel_rfl) (by kernel_rfl) (by intro _ _ _ h; exact h) (Or.inl ⟨by rfl, ?hy⟩) (by assumption) ?_
          case hy => (intro W_ hW_; go_simp; first | done | with_reducible rfl)
          try simp only [Act.put, List.setIfInBounds_toArray, List.set_cons_zero, List.set_cons_succ]
          refine wpAnyH_take (i := 31) (v := ?_) (by simp only [List.getElem?_toArray, List.getElem?_cons_succ, List.getElem?_cons_zero]; rfl) (by kernel_rfl) (by kernel_rfl) (by kernel_rfl) (by intro _ _ _ h; exact h) (Or.inl ⟨by rfl, ?hy⟩) (by assumption) ?_
          case hy => (intro W_ hW_; go_simp; first | done | with_reducible rfl)
          try simp only [Act.put, List.setIfInBounds_toArray, List.set_cons_zero, List.set_cons_succ]
          refine wpAnyH_take (i := 32) (v := ?_) (by simp only [List.getElem?_toArray, List.getElem?_cons_succ, List.getElem?_cons_zero]; rfl) (by kernel_rfl) (by kernel_rfl) (by kernel_rfl) (by intro _ _ _ h; exact h) (Or.inl ⟨by rfl, ?hy⟩) (by assumption) ?_
          case hy => (intro W_ hW_; go_simp; first | done | with_reducible rfl)
          try simp only [Act.put, List.setIfInBounds_toArray, List.set_cons_zero, List.set_cons_succ]
          refine wpAnyH_take (i := 33) (v := ?_) (by simp only [List.getElem?_toArray, List.getElem?_cons_succ, List.getElem?_cons_zero]; rfl) (by kernel_rfl) (by kernel_rfl) (by kernel_rfl) (by intro _ _ _ h; exact h) (Or.inl ⟨by rfl, ?hy⟩) (by assumption) ?_
          case hy => (intro W_ hW_; have f_ := rdw_at hW_.2 (j := i) hi; go_simp; first | done | with_reducible rfl)
          try simp only [Act.put, List.setIfInBounds_toArray, List.set_cons_zero, List.set_cons_succ]
          refine wpAnyH_ready (rs := [4]) (by kernel_rfl) (by simp) ?_
          refine AllReadyH.cons (by simp only [List.getElem?_toArray, List.getElem?_cons_succ, List.getElem?_cons_zero]; rfl) (fun K hK => ?_) AllReadyH.nil
          rw [if_pos (by rfl)]
          go_wp2_with fail
          refine (turned_call _ 6 (by decide) (by decide) _).mono ?_
          rintro e w7 ⟨rfl, ⟨q_, rfl⟩⟩
          refine hK.out _ _ (hHeld) (fun hHeld2 => ?_)
          clear hK K hHeld
          have hHeld := hHeld2
          clear hHeld2
          try simp only [Act.put, List.setIfInBounds_toArray, List.set_cons_zero, List.set_cons_succ]
          refine wpAnyH_ready (rs := [6]) (by kernel_rfl) (by simp) ?_
          refine AllReadyH.cons (by simp only [List.getElem?_toArray, List.getElem?_cons_succ, List.getElem?_cons_zero]; rfl) (fun K hK => ?_) AllReadyH.nil
          rw [if_pos (by rfl)]
          go_wp2_with fail
          refine (turned_call _ 11 (by decide) (by decide) _).mono ?_
          rintro e w7 ⟨rfl, ⟨q_, rfl⟩⟩
          refine hK.out _ _ (hHeld) (fun hHeld2 => ?_)
          clear hK K hHeld
          have hHeld := hHeld2
          clear hHeld2
          try simp only [Act.put, List.setIfInBounds_toArray, List.set_cons_zero, List.set_cons_succ]
          refine wpAnyH_take (i := 7) (v := ?_) (by simp only [List.getElem?_toArray, List.getElem?_cons_succ, List.getElem?_cons_zero]; rfl) (by kernel_rfl) (by kernel_rfl) (by kernel_rfl) (by intro _ _ _ h; exact h) (Or.inl ⟨by rfl, ?hy⟩) (by assumption) ?_
          case hy => (intro W_ hW_; go_simp; first | done | with_reducible rfl)
          try simp only [Act.put, List.setIfInBounds_toArray, List.set_cons_zero, List.set_cons_succ]
          refine wpAnyH_ready (rs := [9]) (by kernel_rfl) (by simp) ?_
          refine AllReadyH.cons (by simp only [List.getElem?_toArray, List.getElem?_cons_succ, List.getElem?_cons_zero]; rfl) (fun K hK => ?_) AllReadyH.nil
          rw [if_pos (by rfl)]
          go_wp2_with fail
          refine (turned_call _ 25 (by decide) (by decide) _).mono ?_
          rintro e w7 ⟨rfl, ⟨q_, rfl⟩⟩
          refine hK.out _ _ (hHeld) (fun hHeld2 => ?_)
          clear hK K hHeld
          have hHeld := hHeld2
          clear hHeld2
          try simp only [Act.put, List.setIfInBounds_toArray, List.set_cons_zero, List.set_cons_succ]
          refine wpAnyH_take (i := 10) (v := ?_) (by simp only [List.getElem?_toArray, List.getElem?_cons_succ, List.getElem?_cons_zero]; rfl) (by kernel_rfl) (by kernel_rfl) (by kernel_rfl) (by intro _ _ _ h; exact h) (Or.inl ⟨by rfl, ?hy⟩) (by assumption) ?_
          case hy => (intro W_ hW_; go_simp; first | done | with_reducible rfl)
          try simp only [Act.put, List.setIfInBounds_toArray, List.set_cons_zero, List.set_cons_succ]
          refine wpAnyH_take (i := 11) (v := ?_) (by simp only [List.getElem?_toArray, List.getElem?_cons_succ, List.getElem?_cons_zero]; rfl) (by kernel_rfl) (by kernel_rfl) (by kernel_rfl) (by intro _ _ _ h; exact h) (Or.inl ⟨by rfl, ?hy⟩) (by assumption) ?_
          case hy => (intro W_ hW_; go_simp; first | done | with_reducible rfl)
          try simp only [Act.put, List.setIfInBounds_toArray, List.set_cons_zero, List.set_cons_succ]
          refine wpAnyH_take (i := 24) (v := ?_) (by simp only [List.getElem?_toArray, List.getElem?_cons_succ, List.getElem?_cons_zero]; rfl) (by kernel_rfl) (by kernel_rfl) (by kernel_rfl) (by intro _ _ _ h; exact h) (Or.inl ⟨by rfl, ?hy⟩) (by assumption) ?_
          case hy => (intro W_ hW_; go_simp; first | done | with_reducible rfl)
          try simp only [Act.put, List.setIfInBounds_toArray, List.set_cons_zero, List.set_cons_succ]
          refine wpAnyH_ready (rs := [25]) (by kernel_rfl) (by simp) ?_
          refine AllReadyH.cons (by simp only [List.getElem?_toArray, List.getElem?_cons_succ, List.getElem?_cons_zero]; rfl) (fun K hK => ?_) AllReadyH.nil
          rw [if_pos (by rfl)]
          go_wp2_with fail
          refine (k_call _).mono ?_
          rintro e w8 ⟨ak, ck, rfl, hk8, hb8⟩
          refine hK.out _ _ (And.intro (rdw_below (Kd.C_drewN HX.out _) hb8) (rdw_below (Kd.C_drewN HW.out _) hb8)) (fun hHeld2 => ?_)
          clear hK K hHeld
          try simp only [Act.put, List.setIfInBounds_toArray, List.set_cons_zero, List.set_cons_succ]
          refine wpAnyH_str (S2 := (fun W => (RdW W (some ad) 8 xs ∧ RdW W (some a6) 64 ws) ∧ RdW W (some ak) 64 rootsL)) (fun W h => h.1) _ _ _ _ ?_
          have hHeld := (And.intro hHeld2 hk8)
          clear hHeld2
          refine wpAnyH_take (i := 27) (v := ?_) (by simp only [List.getElem?_toArray, List.getElem?_cons_succ, List.getElem?_cons_zero]; rfl) (by kernel_rfl) (by kernel_rfl) (by kernel_rfl) (by intro _ _ _ h; exact h) (Or.inl ⟨by rfl, ?hy⟩) (by assumption) ?_
          case hy => (intro W_ hW_; go_simp; first | done | with_reducible rfl)
          try simp only [Act.put, List.setIfInBounds_toArray, List.set_cons_zero, List.set_cons_succ]
          refine wpAnyH_take (i := 28) (v := ?_) (by simp only [List.getElem?_toArray, List.getElem?_cons_succ, List.getElem?_cons_zero]; rfl) (by kernel_rfl) (by kernel_rfl) (by kernel_rfl) (by intro _ _ _ h; exact h) (Or.inl ⟨by rfl, ?hy⟩) (by assumption) ?_
          case hy => (intro W_ hW_; have f_ := rdw_at hW_.2 (j := i) hi; go_simp; first | done | with_reducible rfl)
          try simp only [Act.put, List.setIfInBounds_toArray, List.set_cons_zero, List.set_cons_succ]
          refine wpAnyH_take (i := 29) (v := ?_) (by simp only [List.getElem?_toArray, List.getElem?_cons_succ, List.getElem?_cons_zero]; rfl) (by kernel_rfl) (by kernel_rfl) (by kernel_rfl) (by intro _ _ _ h; exact h) (Or.inl ⟨by rfl, ?hy⟩) (by assumption) ?_
          case hy => (intro W_ hW_; go_simp; first | done | with_reducible rfl)
          try simp only [Act.put, List.setIfInBounds_toArray, List.set_cons_zero, List.set_cons_succ]
          refine wpAnyH_take (i := 34) (v := ?_) (by simp only [List.getElem?_toArray, List.getElem?_cons_succ, List.getElem?_cons_zero]; rfl) (by kernel_rfl) (by kernel_rfl) (by kernel_rfl) (by intro _ _ _ h; exact h) (Or.inl ⟨by rfl, ?hy⟩) (by assumption) ?_
          case hy => (intro W_ hW_; go_simp; first | done | with_reducible rfl)
          try simp only [Act.put, List.setIfInBounds_toArray, List.set_cons_zero, List.set_cons_succ]
          refine wpAnyH_take (i := 35) (v := ?_) (by simp only [List.getElem?_toArray, List.getElem?_cons_succ, List.getElem?_cons_zero]; rfl) (by kernel_rfl) (by kernel_rfl) (by kernel_rfl) (by intro _ _ _ h; exact h) (Or.inl ⟨by rfl, ?hy⟩) (by assumption) ?_
          case hy => (intro W_ hW_; go_simp; first | done | with_reducible rfl)
          try simp only [Act.put, List.setIfInBounds_toArray, List.set_cons_zero, List.set_cons_succ]
          refine wpAnyH_done (by kernel_rfl) ?_ _
          have HX8 : Aside0 (RdW w8 (some ad) 8 xs) := ⟨hHeld.1.1⟩
          have HW8 : Aside0 (RdW w8 (some a6) 64 ws) := ⟨hHeld.1.2⟩
          have HB8 : Aside0 (Below w6.heap.size w6 w8) := ⟨below_step (pw_below_drewN HL.out _) hb8⟩
          clear hHeld hk8 hb8 x4 x0
          go_wp2_with fail
          refine wp_region_held_drew (S := (fun W => RdW W (some ad) 8 xs)) (by kernel_rfl) ((Kd.C_drew HX8.out)) (fun hHeld => ?_)
          refine wpAnyH_take (i := 0) (v := ?_) (by simp only [List.getElem?_toArray, List.getElem?_cons_succ, List.getElem?_cons_zero]; rfl) (by kernel_rfl) (by kernel_rfl) (by kernel_rfl) (by intro _ _ _ h; exact h) (Or.inl ⟨by rfl, ?hy⟩) (by assumption) ?_
          case hy => (intro W_ hW_; go_simp; first | done | with_reducible rfl)
          try simp only [Act.put, List.setIfInBounds_toArray, List.set_cons_zero, List.set_cons_succ]
          refine wpAnyH_take (i := 2) (v := ?_) (by simp only [List.getElem?_toArray, List.getElem?_cons_succ, List.getElem?_cons_zero]; rfl) (by kernel_rfl) (by kernel_rfl) (by kernel_rfl) (by intro _ _ _ h; exact h) (Or.inl ⟨by rfl, ?hy⟩) (by assumption) ?_
          case hy => (intro W_ hW_; go_simp; first | done | with_reducible rfl)
          try simp only [Act.put, List.setIfInBounds_toArray, List.set_cons_zero, List.set_cons_succ]
          refine wpAnyH_take (i := 5) (v := ?_) (by simp only [List.getElem?_toArray, List.getElem?_cons_succ, List.getElem?_cons_zero]; rfl) (by kernel_rfl) (by kernel_rfl) (by kernel_rfl) (by intro _ _ _ h; exact h) (Or.inl ⟨by rfl, ?hy⟩) (by assumption) ?_
          case hy => (intro W_ hW_; go_simp; first | done | with_reducible rfl)
          try simp only [Act.put, List.setIfInBounds_toArray, List.set_cons_zero, List.set_cons_succ]
          refine wpAnyH_take (i := 8) (v := ?_) (by simp only [List.getElem?_toArray, List.getElem?_cons_succ, List.getElem?_cons_zero]; rfl) (by kernel_rfl) (by kernel_rfl) (by kernel_rfl) (by intro _ _ _ h; exact h) (Or.inl ⟨by rfl, ?hy⟩) (by assumption) ?_
          case hy => (intro W_ hW_; go_simp; first | done | with_reducible rfl)
          try simp only [Act.put, List.setIfInBounds_toArray, List.set_cons_zero, List.set_cons_succ]
          refine wpAnyH_take (i := 9) (v := ?_) (by simp only [List.getElem?_toArray, List.getElem?_cons_succ, List.getElem?_cons_zero]; rfl) (by kernel_rfl) (by kernel_rfl) (by kernel_rfl) (by intro _ _ _ h; exact h) (Or.inl ⟨by rfl, ?hy⟩) (by assumption) ?_
          case hy => (intro W_ hW_; go_simp; first | done | with_reducible rfl)
          try simp only [Act.put, List.setIfInBounds_toArray, List.set_cons_zero, List.set_cons_succ]
          refine wpAnyH_take (i := 10) (v := ?_) (by simp only [List.getElem?_toArray, List.getElem?_cons_succ, List.getElem?_cons_zero]; rfl) (by kernel_rfl) (by kernel_rfl) (by kernel_rfl) (by intro _ _ _ h; exact h) (Or.inl ⟨by rfl, ?hy⟩) (by assumption) ?_
          case hy => (intro W_ hW_; go_simp; first | done | with_reducible rfl)
          try simp only [Act.put, List.setIfInBounds_toArray, List.set_cons_zero, List.set_cons_succ]
          refine wpAnyH_take (i := 11) (v := ?_) (by simp only [List.getElem?_toArray, List.getElem?_cons_succ, List.getElem?_cons_zero]; rfl) (by kernel_rfl) (by kernel_rfl) (by kernel_rfl) (by intro _ _ _ h; exact h) (Or.inl ⟨by rfl, ?hy⟩) (by assumption) ?_
          case hy => (intro W_ hW_; have f_ := rdw_atn hW_ (j := 1) (by decide) (by decide); go_simp; first | done | with_reducible rfl)
          try simp only [Act.put, List.setIfInBounds_toArray, List.set_cons_zero, List.set_cons_succ]
          refine wpAnyH_take (i := 12) (v := ?_) (by simp only [List.getElem?_toArray, List.getElem?_cons_succ, List.getElem?_cons_zero]; rfl) (by kernel_rfl) (by kernel_rfl) (by kernel_rfl) (by intro _ _ _ h; exact h) (Or.inl ⟨by rfl, ?hy⟩) (by assumption) ?_
          case hy => (intro W_ hW_; go_simp; first | done | with_reducible rfl)
          try simp only [Act.put, List.setIfInBounds_toArray, List.set_cons_zero, List.set_cons_succ]
          refine wpAnyH_take (i := 13) (v := ?_) (by simp only [List.getElem?_toArray, List.getElem?_cons_succ, List.getElem?_cons_zero]; rfl) (by kernel_rfl) (by kernel_rfl) (by kernel_rfl) (by intro _ _ _ h; exact h) (Or.inl ⟨by rfl, ?hy⟩) (by assumption) ?_
          case hy => (intro W_ hW_; go_simp; first | done | with_reducible rfl)
          try simp only [Act.put, List.setIfInBounds_toArray, List.set_cons_zero, List.set_cons_succ]
          refine wpAnyH_take (i := 14) (v := ?_) (by simp only [List.getElem?_toArray, List.getElem?_cons_succ, List.getElem?_cons_zero]; rfl) (by kernel_rfl) (by kernel_rfl) (by kernel_rfl) (by intro _ _ _ h; exact h) (Or.inl ⟨by rfl, ?hy⟩) (by assumption) ?_
          case hy => (intro W_ hW_; go_simp; first | done | with_reducible rfl)
          try simp only [Act.put, List.setIfInBounds_toArray, List.set_cons_zero, List.set_cons_succ]
          refine wpAnyH_take (i := 15) (v := ?_) (by simp only [List.getElem?_toArray, List.getElem?_cons_succ, List.getElem?_cons_zero]; rfl) (by kernel_rfl) (by kernel_rfl) (by kernel_rfl) (by intro _ _ _ h; exact h) (Or.inl ⟨by rfl, ?hy⟩) (by assumption) ?_
          case hy => (intro W_ hW_; go_simp; first | done | with_reducible rfl)
          try simp only [Act.put, List.setIfInBounds_toArray, List.set_cons_zero, List.set_cons_succ]
          refine wpAnyH_take (i := 16) (v := ?_) (by simp only [List.getElem?_toArray, List.getElem?_cons_succ, List.getElem?_cons_zero]; rfl) (by kernel_rfl) (by kernel_rfl) (by kernel_rfl) (by intro _ _ _ h; exact h) (Or.inl ⟨by rfl, ?hy⟩) (by assumption) ?_
          case hy => (intro W_ hW_; have f_ := rdw_atn hW_ (j := 2) (by decide) (by decide); go_simp; first | done | with_reducible rfl)
          try simp only [Act.put, List.setIfInBounds_toArray, List.set_cons_zero, List.set_cons_succ]
          refine wpAnyH_take (i := 17) (v := ?_) (by simp only [List.getElem?_toArray, List.getElem?_cons_succ, List.getElem?_cons_zero]; rfl) (by kernel_rfl) (by kernel_rfl) (by kernel_rfl) (by intro _ _ _ h; exact h) (Or.inl ⟨by rfl, ?hy⟩) (by assumption) ?_
          case hy => (intro W_ hW_; go_simp; first | done | with_reducible rfl)
          try simp only [Act.put, List.setIfInBounds_toArray, List.set_cons_zero, List.set_cons_succ]
          refine wpAnyH_take (i := 18) (v := ?_) (by simp only [List.getElem?_toArray, List.getElem?_cons_succ, List.getElem?_cons_zero]; rfl) (by kernel_rfl) (by kernel_rfl) (by kernel_rfl) (by intro _ _ _ h; exact h) (Or.inl ⟨by rfl, ?hy⟩) (by assumption) ?_
          case hy => (intro W_ hW_; go_simp; first | done | with_reducible rfl)
          try simp only [Act.put, List.setIfInBounds_toArray, List.set_cons_zero, List.set_cons_succ]
          refine wpAnyH_take (i := 19) (v := ?_) (by simp only [List.getElem?_toArray, List.getElem?_cons_succ, List.getElem?_cons_zero]; rfl) (by kernel_rfl) (by kernel_rfl) (by kernel_rfl) (by intro _ _ _ h; exact h) (Or.inl ⟨by rfl, ?hy⟩) (by assumption) ?_
          case hy => (intro W_ hW_; go_simp; first | done | with_reducible rfl)
          try simp only [Act.put, List.setIfInBounds_toArray, List.set_cons_zero, List.set_cons_succ]
          refine wpAnyH_take (i := 20) (v := ?_) (by simp only [List.getElem?_toArray, List.getElem?_cons_succ, List.getElem?_cons_zero]; rfl) (by kernel_rfl) (by kernel_rfl) (by kernel_rfl) (by intro _ _ _ h; exact h) (Or.inl ⟨by rfl, ?hy⟩) (by assumption) ?_
          case hy => (intro W_ hW_; go_simp; first | done | with_reducible rfl)
          try simp only [Act.put, List.setIfInBounds_toArray, List.set_cons_zero, List.set_cons_succ]
          refine wpAnyH_take (i := 21) (v := ?_) (by simp only [List.getElem?_toArray, List.getElem?_cons_succ, List.getElem?_cons_zero]; rfl) (by kernel_rfl) (by kernel_rfl) (by kernel_rfl) (by intro _ _ _ h; exact h) (Or.inl ⟨by rfl, ?hy⟩) (by assumption) ?_
          case hy => (intro W_ hW_; have f_ := rdw_atn hW_ (j := 1) (by decide) (by decide); go_simp; first | done | with_reducible rfl)
          try simp only [Act.put, List.setIfInBounds_toArray, List.set_cons_zero, List.set_cons_succ]
          refine wpAnyH_take (i := 22) (v := ?_) (by simp only [List.getElem?_toArray, List.getElem?_cons_succ, List.getElem?_cons_zero]; rfl) (by kernel_rfl) (by kernel_rfl) (by kernel_rfl) (by intro _ _ _ h; exact h) (Or.inl ⟨by rfl, ?hy⟩) (by assumption) ?_
          case hy => (intro W_ hW_; go_simp; first | done | with_reducible rfl)
          try simp only [Act.put, List.setIfInBounds_toArray, List.set_cons_zero, List.set_cons_succ]
          refine wpAnyH_take (i := 23) (v := ?_) (by simp only [List.getElem?_toArray, List.getElem?_cons_succ, List.getElem?_cons_zero]; rfl) (by kernel_rfl) (by kernel_rfl) (by kernel_rfl) (by intro _ _ _ h; exact h) (Or.inl ⟨by rfl, ?hy⟩) (by assumption) ?_
          case hy => (intro W_ hW_; go_simp; first | done | with_reducible rfl)
          try simp only [Act.put, List.setIfInBounds_toArray, List.set_cons_zero, List.set_cons_succ]
          refine wpAnyH_take (i := 24) (v := ?_) (by simp only [List.getElem?_toArray, List.getElem?_cons_succ, List.getElem?_cons_zero]; rfl) (by kernel_rfl) (by kernel_rfl) (by kernel_rfl) (by intro _ _ _ h; exact h) (Or.inl ⟨by rfl, ?hy⟩) (by assumption) ?_
          case hy => (intro W_ hW_; have f_ := rdw_atn hW_ (j := 2) (by decide) (by decide); go_simp; first | done | with_reducible rfl)
          try simp only [Act.put, List.setIfInBounds_toArray, List.set_cons_zero, List.set_cons_succ]
          refine wpAnyH_take (i := 25) (v := ?_) (by simp only [List.getElem?_toArray, List.getElem?_cons_succ, List.getElem?_cons_zero]; rfl) (by kernel_rfl) (by kernel_rfl) (by kernel_rfl) (by intro _ _ _ h; exact h) (Or.inl ⟨by rfl, ?hy⟩) (by assumption) ?_
          case hy => (intro W_ hW_; go_simp; first | done | with_reducible rfl)
          try simp only [Act.put, List.setIfInBounds_toArray, List.set_cons_zero, List.set_cons_succ]
          refine wpAnyH_take (i := 26) (v := ?_) (by simp only [List.getElem?_toArray, List.getElem?_cons_succ, List.getElem?_cons_zero]; rfl) (by kernel_rfl) (by kernel_rfl) (by kernel_rfl) (by intro _ _ _ h; exact h) (Or.inl ⟨by rfl, ?hy⟩) (by assumption) ?_
          case hy => (intro W_ hW_; go_simp; first | done | with_reducible rfl)
          try simp only [Act.put, List.setIfInBounds_toArray, List.set_cons_zero, List.set_cons_succ]
          refine wpAnyH_ready (rs := [1]) (by kernel_rfl) (by simp) ?_
          refine AllReadyH.cons (by simp only [List.getElem?_toArray, List.getElem?_cons_succ, List.getElem?_cons_zero]; rfl) (fun K hK => ?_) AllReadyH.nil
          rw [if_pos (by rfl)]
          go_wp2_with fail
          refine (turned_call _ 2 (by decide) (by decide) _).mono ?_
          rintro e w9 ⟨rfl, ⟨q_, rfl⟩⟩
          refine hK.out _ _ (hHeld) (fun hHeld2 => ?_)
          clear hK K hHeld
          have hHeld := hHeld2
          clear hHeld2
          try simp only [Act.put, List.setIfInBounds_toArray, List.set_cons_zero, List.set_cons_succ]
          refine wpAnyH_ready (rs := [3]) (by kernel_rfl) (by simp) ?_
          refine AllReadyH.cons (by simp only [List.getElem?_toArray, List.getElem?_cons_succ, List.getElem?_cons_zero]; rfl) (fun K hK => ?_) AllReadyH.nil
          rw [if_pos (by rfl)]
          go_wp2_with fail
          refine (turned_call _ 13 (by decide) (by decide) _).mono ?_
          rintro e w9 ⟨rfl, ⟨q_, rfl⟩⟩
          refine hK.out _ _ (hHeld) (fun hHeld2 => ?_)
          clear hK K hHeld
          have hHeld := hHeld2
          clear hHeld2
          try simp only [Act.put, List.setIfInBounds_toArray, List.set_cons_zero, List.set_cons_succ]
          refine wpAnyH_take (i := 4) (v := ?_) (by simp only [List.getElem?_toArray, List.getElem?_cons_succ, List.getElem?_cons_zero]; rfl) (by kernel_rfl) (by kernel_rfl) (by kernel_rfl) (by intro _ _ _ h; exact h) (Or.inl ⟨by rfl, ?hy⟩) (by assumption) ?_
          case hy => (intro W_ hW_; go_simp; first | done | with_reducible rfl)
          try simp only [Act.put, List.setIfInBounds_toArray, List.set_cons_zero, List.set_cons_succ]
          refine wpAnyH_ready (rs := [6]) (by kernel_rfl) (by simp) ?_
          refine AllReadyH.cons (by simp only [List.getElem?_toArray, List.getElem?_cons_succ, List.getElem?_cons_zero]; rfl) (fun K hK => ?_) AllReadyH.nil
          rw [if_pos (by rfl)]
          go_wp2_with fail
          refine (turned_call _ 22 (by decide) (by decide) _).mono ?_
          rintro e w9 ⟨rfl, ⟨q_, rfl⟩⟩
          refine hK.out _ _ (hHeld) (fun hHeld2 => ?_)
          clear hK K hHeld
          have hHeld := hHeld2
          clear hHeld2
          try simp only [Act.put, List.setIfInBounds_toArray, List.set_cons_zero, List.set_cons_succ]
          refine wpAnyH_take (i := 7) (v := ?_) (by simp only [List.getElem?_toArray, List.getElem?_cons_succ, List.getElem?_cons_zero]; rfl) (by kernel_rfl) (by kernel_rfl) (by kernel_rfl) (by intro _ _ _ h; exact h) (Or.inl ⟨by rfl, ?hy⟩) (by assumption) ?_
          case hy => (intro W_ hW_; go_simp; first | done | with_reducible rfl)
          try simp only [Act.put, List.setIfInBounds_toArray, List.set_cons_zero, List.set_cons_succ]
          refine wpAnyH_take (i := 27) (v := ?_) (by simp only [List.getElem?_toArray, List.getElem?_cons_succ, List.getElem?_cons_zero]; rfl) (by kernel_rfl) (by kernel_rfl) (by kernel_rfl) (by intro _ _ _ h; exact h) (Or.inl ⟨by rfl, ?hy⟩) (by assumption) ?_
          case hy => (intro W_ hW_; go_simp; first | done | with_reducible rfl)
          try simp only [Act.put, List.setIfInBounds_toArray, List.set_cons_zero, List.set_cons_succ]
          refine wpAnyH_take (i := 28) (v := ?_) (by simp only [List.getElem?_toArray, List.getElem?_cons_succ, List.getElem?_cons_zero]; rfl) (by kernel_rfl) (by kernel_rfl) (by kernel_rfl) (by intro _ _ _ h; exact h) (Or.inl ⟨by rfl, ?hy⟩) (by assumption) ?_
          case hy => (intro W_ hW_; go_simp; first | done | with_reducible rfl)
          try simp only [Act.put, List.setIfInBounds_toArray, List.set_cons_zero, List.set_cons_succ]
          refine wpAnyH_done (by kernel_rfl) ?_ _
          clear hHeld
          go_wp2_with fail
          refine wp_region_held_drew (S := (fun W => RdW W (some ad) 8 xs)) (by kernel_rfl) ((Kd.C_drew (Kd.C_drewN (Kd.C_drewN HX8.out _) _))) (fun hHeld => ?_)
          refine wpAnyH_take (i := 0) (v := ?_) (by simp only [List.getElem?_toArray, List.getElem?_cons_succ, List.getElem?_cons_zero]; rfl) (by kernel_rfl) (by kernel_rfl) (by kernel_rfl) (by intro _ _ _ h; exact h) (Or.inl ⟨by rfl, ?hy⟩) (by assumption) ?_
          case hy => (intro W_ hW_; go_simp; first | done | with_reducible rfl)
          try simp only [Act.put, List.setIfInBounds_toArray, List.set_cons_zero, List.set_cons_succ]
          refine wpAnyH_take (i := 1) (v := ?_) (by simp only [List.getElem?_toArray, List.getElem?_cons_succ, List.getElem?_cons_zero]; rfl) (by kernel_rfl) (by kernel_rfl) (by kernel_rfl) (by intro _ _ _ h; exact h) (Or.inl ⟨by rfl, ?hy⟩) (by assumption) ?_
          case hy => (intro W_ hW_; go_simp; first | done | with_reducible rfl)
          try simp only [Act.put, List.setIfInBounds_toArray, List.set_cons_zero, List.set_cons_succ]
          refine wpAnyH_take (i := 2) (v := ?_) (by simp only [List.getElem?_toArray, List.getElem?_cons_succ, List.getElem?_cons_zero]; rfl) (by kernel_rfl) (by kernel_rfl) (by kernel_rfl) (by intro _ _ _ h; exact h) (Or.inl ⟨by rfl, ?hy⟩) (by assumption) ?_
          case hy => (intro W_ hW_; go_simp; first | done | with_reducible rfl)
          try simp only [Act.put, List.setIfInBounds_toArray, List.set_cons_zero, List.set_cons_succ]
          refine wpAnyH_take (i := 3) (v := ?_) (by simp only [List.getElem?_toArray, List.getElem?_cons_succ, List.getElem?_cons_zero]; rfl) (by kernel_rfl) (by kernel_rfl) (by kernel_rfl) (by intro _ _ _ h; exact h) (Or.inl ⟨by rfl, ?hy⟩) (by assumption) ?_
          case hy => (intro W_ hW_; go_simp; first | done | with_reducible rfl)
          try simp only [Act.put, List.setIfInBounds_toArray, List.set_cons_zero, List.set_cons_succ]
          refine wpAnyH_take (i := 4) (v := ?_) (by simp only [List.getElem?_toArray, List.getElem?_cons_succ, List.getElem?_cons_zero]; rfl) (by kernel_rfl) (by kernel_rfl) (by kernel_rfl) (by intro _ _ _ h; exact h) (Or.inl ⟨by rfl, ?hy⟩) (by assumption) ?_
          case hy => (intro W_ hW_; go_simp; first | done | with_reducible rfl)
          try simp only [Act.put, List.setIfInBounds_toArray, List.set_cons_zero, List.set_cons_succ]
          refine wpAnyH_take (i := 5) (v := ?_) (by simp only [List.getElem?_toArray, List.getElem?_cons_succ, List.getElem?_cons_zero]; rfl) (by kernel_rfl) (by kernel_rfl) (by kernel_rfl) (by intro _ _ _ h; exact h) (Or.inl ⟨by rfl, ?hy⟩) (by assumption) ?_
          case hy => (intro W_ hW_; go_simp; first | done | with_reducible rfl)
          try simp only [Act.put, List.setIfInBounds_toArray, List.set_cons_zero, List.set_cons_succ]
          refine wpAnyH_take (i := 6) (v := ?_) (by simp only [List.getElem?_toArray, List.getElem?_cons_succ, List.getElem?_cons_zero]; rfl) (by kernel_rfl) (by kernel_rfl) (by kernel_rfl) (by intro _ _ _ h; exact h) (Or.inl ⟨by rfl, ?hy⟩) (by assumption) ?_
          case hy => (intro W_ hW_; have f_ := rdw_atn hW_ (j := 1) (by decide) (by decide); go_simp; first | done | with_reducible rfl)
          try simp only [Act.put, List.setIfInBounds_toArray, List.set_cons_zero, List.set_cons_succ]
          refine wpAnyH_take (i := 7) (v := ?_) (by simp only [List.getElem?_toArray, List.getElem?_cons_succ, List.getElem?_cons_zero]; rfl) (by kernel_rfl) (by kernel_rfl) (by kernel_rfl) (by intro _ _ _ h; exact h) (Or.inl ⟨by rfl, ?hy⟩) (by assumption) ?_
          case hy => (intro W_ hW_; go_simp; first | done | with_reducible rfl)
          try simp only [Act.put, List.setIfInBounds_toArray, List.set_cons_zero, List.set_cons_succ]
          refine wpAnyH_take (i := 8) (v := ?_) (by simp only [List.getElem?_toArray, List.getElem?_cons_succ, List.getElem?_cons_zero]; rfl) (by kernel_rfl) (by kernel_rfl) (by kernel_rfl) (by intro _ _ _ h; exact h) (Or.inl ⟨by rfl, ?hy⟩) (by assumption) ?_
          case hy => (intro W_ hW_; go_simp; first | done | with_reducible rfl)
          try simp only [Act.put, List.setIfInBounds_toArray, List.set_cons_zero, List.set_cons_succ]
          refine wpAnyH_take (i := 9) (v := ?_) (by simp only [List.getElem?_toArray, List.getElem?_cons_succ, List.getElem?_cons_zero]; rfl) (by kernel_rfl) (by kernel_rfl) (by kernel_rfl) (by intro _ _ _ h; exact h) (Or.inl ⟨by rfl, ?hy⟩) (by assumption) ?_
          case hy => (intro W_ hW_; have f_ := rdw_atn hW_ (j := 2) (by decide) (by decide); go_simp; first | done | with_reducible rfl)
          try simp only [Act.put, List.setIfInBounds_toArray, List.set_cons_zero, List.set_cons_succ]
          refine wpAnyH_take (i := 10) (v := ?_) (by simp only [List.getElem?_toArray, List.getElem?_cons_succ, List.getElem?_cons_zero]; rfl) (by kernel_rfl) (by kernel_rfl) (by kernel_rfl) (by intro _ _ _ h; exact h) (Or.inl ⟨by rfl, ?hy⟩) (by assumption) ?_
          case hy => (intro W_ hW_; go_simp; first | done | with_reducible rfl)
          try simp only [Act.put, List.setIfInBounds_toArray, List.set_cons_zero, List.set_cons_succ]
          refine wpAnyH_take (i := 11) (v := ?_) (by simp only [List.getElem?_toArray, List.getElem?_cons_succ, List.getElem?_cons_zero]; rfl) (by kernel_rfl) (by kernel_rfl) (by kernel_rfl) (by intro _ _ _ h; exact h) (Or.inl ⟨by rfl, ?hy⟩) (by assumption) ?_
          case hy => (intro W_ hW_; go_simp; first | done | with_reducible rfl)
          try simp only [Act.put, List.setIfInBounds_toArray, List.set_cons_zero, List.set_cons_succ]
          refine wpAnyH_take (i := 12) (v := ?_) (by simp only [List.getElem?_toArray, List.getElem?_cons_succ, List.getElem?_cons_zero]; rfl) (by kernel_rfl) (by kernel_rfl) (by kernel_rfl) (by intro _ _ _ h; exact h) (Or.inl ⟨by rfl, ?hy⟩) (by assumption) ?_
          case hy => (intro W_ hW_; have f_ := rdw_atn hW_ (j := 3) (by decide) (by decide); go_simp; first | done | with_reducible rfl)
          try simp only [Act.put, List.setIfInBounds_toArray, List.set_cons_zero, List.set_cons_succ]
          refine wpAnyH_take (i := 13) (v := ?_) (by simp only [List.getElem?_toArray, List.getElem?_cons_succ, List.getElem?_cons_zero]; rfl) (by kernel_rfl) (by kernel_rfl) (by kernel_rfl) (by intro _ _ _ h; exact h) (Or.inl ⟨by rfl, ?hy⟩) (by assumption) ?_
          case hy => (intro W_ hW_; go_simp; first | done | with_reducible rfl)
          try simp only [Act.put, List.setIfInBounds_toArray, List.set_cons_zero, List.set_cons_succ]
          refine wpAnyH_take (i := 14) (v := ?_) (by simp only [List.getElem?_toArray, List.getElem?_cons_succ, List.getElem?_cons_zero]; rfl) (by kernel_rfl) (by kernel_rfl) (by kernel_rfl) (by intro _ _ _ h; exact h) (Or.inl ⟨by rfl, ?hy⟩) (by assumption) ?_
          case hy => (intro W_ hW_; go_simp; first | done | with_reducible rfl)
          try simp only [Act.put, List.setIfInBounds_toArray, List.set_cons_zero, List.set_cons_succ]
          refine wpAnyH_take (i := 15) (v := ?_) (by simp only [List.getElem?_toArray, List.getElem?_cons_succ, List.getElem?_cons_zero]; rfl) (by kernel_rfl) (by kernel_rfl) (by kernel_rfl) (by intro _ _ _ h; exact h) (Or.inl ⟨by rfl, ?hy⟩) (by assumption) ?_
          case hy => (intro W_ hW_; go_simp; first | done | with_reducible rfl)
          try simp only [Act.put, List.setIfInBounds_toArray, List.set_cons_zero, List.set_cons_succ]
          refine wpAnyH_take (i := 16) (v := ?_) (by simp only [List.getElem?_toArray, List.getElem?_cons_succ, List.getElem?_cons_zero]; rfl) (by kernel_rfl) (by kernel_rfl) (by kernel_rfl) (by intro _ _ _ h; exact h) (Or.inl ⟨by rfl, ?hy⟩) (by assumption) ?_
          case hy => (intro W_ hW_; go_simp; first | done | with_reducible rfl)
          try simp only [Act.put, List.setIfInBounds_toArray, List.set_cons_zero, List.set_cons_succ]
          refine wpAnyH_take (i := 17) (v := ?_) (by simp only [List.getElem?_toArray, List.getElem?_cons_succ, List.getElem?_cons_zero]; rfl) (by kernel_rfl) (by kernel_rfl) (by kernel_rfl) (by intro _ _ _ h; exact h) (Or.inl ⟨by rfl, ?hy⟩) (by assumption) ?_
          case hy => (intro W_ hW_; go_simp; first | done | with_reducible rfl)
          try simp only [Act.put, List.setIfInBounds_toArray, List.set_cons_zero, List.set_cons_succ]
          refine wpAnyH_take (i := 18) (v := ?_) (by simp only [List.getElem?_toArray, List.getElem?_cons_succ, List.getElem?_cons_zero]; rfl) (by kernel_rfl) (by kernel_rfl) (by kernel_rfl) (by intro _ _ _ h; exact h) (Or.inl ⟨by rfl, ?hy⟩) (by assumption) ?_
          case hy => (intro W_ hW_; have f_ := rdw_atn hW_ (j := 5) (by decide) (by decide); go_simp; first | done | with_reducible rfl)
          try simp only [Act.put, List.setIfInBounds_toArray, List.set_cons_zero, List.set_cons_succ]
          refine wpAnyH_take (i := 19) (v := ?_) (by simp only [List.getElem?_toArray, List.getElem?_cons_succ, List.getElem?_cons_zero]; rfl) (by kernel_rfl) (by kernel_rfl) (by kernel_rfl) (by intro _ _ _ h; exact h) (Or.inl ⟨by rfl, ?hy⟩) (by assumption) ?_
          case hy => (intro W_ hW_; go_simp; first | done | with_reducible rfl)
          try simp only [Act.put, List.setIfInBounds_toArray, List.set_cons_zero, List.set_cons_succ]
          refine wpAnyH_take (i := 20) (v := ?_) (by simp only [List.getElem?_toArray, List.getElem?_cons_succ, List.getElem?_cons_zero]; rfl) (by kernel_rfl) (by kernel_rfl) (by kernel_rfl) (by intro _ _ _ h; exact h) (Or.inl ⟨by rfl, ?hy⟩) (by assumption) ?_
          case hy => (intro W_ hW_; go_simp; first | done | with_reducible rfl)
          try simp only [Act.put, List.setIfInBounds_toArray, List.set_cons_zero, List.set_cons_succ]
          refine wpAnyH_take (i := 21) (v := ?_) (by simp only [List.getElem?_toArray, List.getElem?_cons_succ, List.getElem?_cons_zero]; rfl) (by kernel_rfl) (by kernel_rfl) (by kernel_rfl) (by intro _ _ _ h; exact h) (Or.inl ⟨by rfl, ?hy⟩) (by assumption) ?_
          case hy => (intro W_ hW_; have f_ := rdw_atn hW_ (j := 6) (by decide) (by decide); go_simp; first | done | with_reducible rfl)
          try simp only [Act.put, List.setIfInBounds_toArray, List.set_cons_zero, List.set_cons_succ]
          refine wpAnyH_ready (rs := [22]) (by kernel_rfl) (by simp) ?_
          refine AllReadyH.cons (by simp only [List.getElem?_toArray, List.getElem?_cons_succ, List.getElem?_cons_zero]; rfl) (fun K hK => ?_) AllReadyH.nil
          rw [if_pos (by rfl)]
          skip
          go_wp2_with fail
          refine hK.out _ _ ((by first | exact Kd.C_drewN (rdw_below HX8.out (below_alloc (Below.refl _ _) _)) _ | exact rdw_below (Kd.C_drewN HX8.out _) (below_alloc (Below.refl _ _) _))) (fun hHeld2 => ?_)
          clear hK K hHeld
          have hHeld := hHeld2
          clear hHeld2
          try simp only [Act.put, List.setIfInBounds_toArray, List.set_cons_zero, List.set_cons_succ]
          refine wpAnyH_take (i := 23) (v := ?_) (by simp only [List.getElem?_toArray, List.getElem?_cons_succ, List.getElem?_cons_zero]; rfl) (by kernel_rfl) (by kernel_rfl) (by kernel_rfl) (by intro _ _ _ h; exact h) (Or.inl ⟨by rfl, ?hy⟩) (by assumption) ?_
          case hy => (intro W_ hW_; go_simp; first | done | with_reducible rfl)
          try simp only [Act.put, List.setIfInBounds_toArray, List.set_cons_zero, List.set_cons_succ]
          refine wpAnyH_done (by kernel_rfl) ?_ _
          go_wp2_with fail
          go_roundg (64 - (i + 1))
          case measure => have := HI.out; omega
          case rel =>
            have hlist : refL xs (rootsL.getD i 0) (ws.getD i 0) = shaRound xs (rootsL.getD i 0) (ws.getD i 0) := ref_round HXL.out (by rw [HXE.out]; exact rounds_words HWD.out _ _ _) _ _
            refine ⟨i + 1, shaRound xs (rootsL.getD i 0) (ws.getD i 0), ⟨w8.heap.size, 0, none⟩, 8, rfl, by simp, ⟨rfl, by omega⟩, ⟨by rw [HXE.out]; rfl⟩, ⟨round_length HXL.out _ _⟩, ⟨?_⟩, ⟨?_⟩, ⟨?_⟩, ⟨?_⟩⟩
            · exact Nat.lt_of_lt_of_le (Nat.lt_of_lt_of_le (Nat.lt_of_lt_of_le (Blk.lt HG5.out) HB6.out.size) HB8.out.size) (Nat.le_refl _)
            · rw [← hlist]
              exact Blk.readw (t := 38) (xs := refL xs (rootsL.getD i 0) (ws.getD i 0)) (heap_alloc_new (w8.drewN _) _) (by simp [refL])
            · exact rdw_below (Kd.C_drewN HW8.out _) (below_alloc (Below.refl _ _) _)
            · exact below_alloc (pw_below_drewN HB8.out _) _
        · have e1 : decide (i < 64) = false := decide_eq_false hi
          have e2 : decide ((i : Int) < 64) = false := decide_eq_false (by omega)
          obtain rfl : i = 64 := by have := HI.out; omega
          have HGB : Aside0 (Blk wr (w.heap.size + 1) 38 ss) := ⟨Blk.below (Blk.below HG5.out HB6.out (Blk.lt HG5.out)) HL.out (Nat.lt_of_lt_of_le (Blk.lt HG5.out) HB6.out.size)⟩
          have HFB : Aside0 (Fr w w4 (w.heap.size + 1) wr) := ⟨((HF.out.step HB5.out).step HB6.out).step HL.out⟩
          have HWG : Aside0 (w.heap.size ≤ w.heap.size + 1) := ⟨Nat.le_succ _⟩
          clear HI hi
          go_wp2_with fail
          obtain ⟨wb, rfl⟩ : ∃ wb : World, wb = wr := ⟨_, rfl⟩
          go_loopg [13] 8 (fun k v13 w' => ∃ (n : Nat), v13 = .int .i64 (n : Int) ∧ Aside0 (k = 8 - n ∧ n ≤ 8) ∧ Aside0 (Blk w' (w.heap.size + 1) 38 (addUp ss xs n)) ∧ Aside0 (RdW w' (some ad) 8 xs) ∧ Aside0 (Fr w w4 (w.heap.size + 1) w'))
          case atStart => exact ⟨0, rfl, ⟨by omega, by omega⟩, HGB, HX, HFB⟩
          case round =>
            clear HGB HX HFB
            obtain ⟨n, rfl, HN2, HGB, HX, HFB⟩ := hrel
            by_cases hn : n < 8
            · have g1 : decide (n < 8) = true := decide_eq_true hn
              have g2 : decide ((n : Int) < 8) = true := decide_eq_true (by omega)
              have pn : (0 ≤ (n : Int)) = True := eq_true (by omega)
              have qn : ((n : Int) < 8) = True := eq_true (by omega)
              have hwr : IntKind.i64.wrap ((n : Int) + 1) = ((n + 1 : Nat) : Int) := by rw [i64_w]; unfold wrap64; omega
              have y1 : wr.drew.cell? ⟨w.heap.size + 1, n, none⟩ = _ := HGB.out.cell (i := n) (by rw [addUp_length, HSL.out]; exact hn)
              have y2 : wr.cell? ⟨w.heap.size + 1, n, none⟩ = _ := HGB.out.cell (i := n) (by rw [addUp_length, HSL.out]; exact hn)
              have y3 : wr.drew.frozen? ⟨w.heap.size + 1, n, none⟩ = false := HGB.out.free n
              have y4 : wr.frozen? ⟨w.heap.size + 1, n, none⟩ = false := HGB.out.free n
              have z1 : wr.drew.cell? (ad.add n) = _ := rdw_at (Kd.C_drew HX.out) (j := n) hn
              have z2 : wr.cell? (ad.add n) = _ := rdw_at HX.out (j := n) hn
              have ap : ∀ g : Nat, (⟨g, 0, none⟩ : Addr).add n = ⟨g, n, none⟩ := fun g => add_plain g n
              go_wp2_with fail
              go_still_tail 12, (by kernel_rfl)
              go_wp2_with fail
              go_roundg (8 - (n + 1))
              case measure => have := HN2.out; omega
              case rel =>
                refine ⟨n + 1, by simp, ⟨rfl, by omega⟩, ⟨?_⟩, ⟨?_⟩, ⟨?_⟩⟩
                · exact HGB.out.set n _
                · exact Kd.C_drew (rdw_set HX.out _ _ _ (Nat.ne_of_gt HAD.out))
                · exact (HFB.out.set HWG.out n _).drew
            · have g1 : decide (n < 8) = false := decide_eq_false hn
              have g2 : decide ((n : Int) < 8) = false := decide_eq_false (by omega)
              obtain rfl : n = 8 := by have := HN2.out; omega
              have hq64 : IntKind.i64.wrap ((q : Int) + 64) = ((q + 64 : Nat) : Int) := by rw [i64_w]; unfold wrap64; omega
              go_wp2_with fail
              go_roundg (p / 64 - (j + 1))
              case measure => have := HJ.out; omega
              case rel =>
                refine ⟨j + 1, ?_, ⟨rfl, by omega⟩, ⟨?_⟩, HFB⟩
                · have := HQ.out
                  congr 1
                  omega
                · have h_ := HGB.out
                  rw [HXE.out, HWS.out, HSS.out, HQ.out] at h_
                  exact h_
    · obtain rfl : j = p / 64 := by have := HJ.out; omega
      have hq : 64 * (p / 64) = p := by have := HN.out; omega
      rw [hq]
      have d1 : decide (p < p) = false := decide_eq_false (by omega)
      have d2 : decide ((p : Int) < (p : Int)) = false := decide_eq_false (by omega)
      have HSL : Aside0 ((stateAt msg (p / 64)).length = 8) := ⟨stateAt_length _ _⟩
      have HWD : Aside0 (Words (stateAt msg (p / 64))) := ⟨state_words _ _⟩
      obtain ⟨st, hst⟩ : ∃ st, st = stateAt msg (p / 64) := ⟨_, rfl⟩
      rw [← hst] at HG HSL HWD
      have HST := Aside0.mk hst
      obtain ⟨Z, hZ⟩ : ∃ Z, Z = cells8 (List.replicate 32 0) := ⟨_, rfl⟩
      have hzs : Z.size = 32 := by rw [hZ]; rfl
      have hz := store_new wr #[.int .u8 0, .int .u8 0, .int .u8 0, .int .u8 0, .int .u8 0, .int .u8 0, .int .u8 0, .int .u8 0, .int .u8 0, .int .u8 0, .int .u8 0, .int .u8 0, .int .u8 0, .int .u8 0, .int .u8 0, .int .u8 0, .int .u8 0, .int .u8 0, .int .u8 0, .int .u8 0, .int .u8 0, .int .u8 0, .int .u8 0, .int .u8 0, .int .u8 0, .int .u8 0, .int .u8 0, .int .u8 0, .int .u8 0, .int .u8 0, .int .u8 0, .int .u8 0] Z 24 (by rw [hzs]; rfl) (by rw [hZ]; exact cells8_all _)
      have HZZ : Aside0 (Z = cells8 (List.replicate 32 0)) := ⟨hZ⟩
      clear hZ
      have HB8 : Aside0 (Below w.heap.size w wr) := ⟨HF.out.below⟩
      have HZ8 : Aside0 (Blk8 wr w.heap.size 24 (List.replicate 32 0)) := ⟨HF.out.keep.blk HZ.out (by omega) (by simp)⟩
      clear hst hj hq
      go_wp2_with (first
        | ((with_reducible refine gate_dst (N := 147) rfl ?_); refine wpList_build rfl 24 _ rfl (by kernel_rfl) ?_; generalize hX : (Program.built _ _ _).getD #[] = X; obtain rfl : Z = X := (hX.symm.trans (by rw [HZZ.out]; kernel_rfl)).symm; clear hX)
        | fail)
      clear hz
      obtain ⟨wo, rfl⟩ : ∃ wo : World, wo = wr := ⟨_, rfl⟩
      have HG0 : Aside0 (Blk (wo.alloc (.cells Z 24 (0, 0))) (w.heap.size + 1) 38 st) := ⟨Blk.below HG.out (below_alloc (Below.refl _ _) _) (Blk.lt HG.out)⟩
      go_loopg [15] 32 (fun k v15 w' => ∃ (i : Nat), v15 = .int .i64 (i : Int) ∧ Aside0 (k = 32 - i ∧ i ≤ 32) ∧ Aside0 (Blk8 w' wo.heap.size 24 (outAt st i)) ∧ Aside0 (Below wo.heap.size wo w'))
      case atStart => exact ⟨0, rfl, ⟨by omega, by omega⟩, ⟨by have := heap_alloc_new wo (.cells Z 24 (0, 0)); rw [HZZ.out] at this ⊢; exact this⟩, ⟨below_alloc (Below.refl _ _) _⟩⟩
      case round =>
        clear HG0 d1 d2
        obtain ⟨i, rfl, HI, HO, HL⟩ := hrel
        have HGR : Aside0 (Blk wr (w.heap.size + 1) 38 st) := ⟨Blk.below HG.out HL.out (Blk.lt HG.out)⟩
        by_cases hi : i < 32
        · have e1 : decide (i < 32) = true := decide_eq_true hi
          have e2 : decide ((i : Int) < 32) = true := decide_eq_true (by omega)
          have hwr : IntKind.i64.wrap ((i : Int) + 1) = ((i + 1 : Nat) : Int) := by rw [i64_w]; unfold wrap64; omega
          have b0 : 0 ≤ (i : Int) := by omega
          have b1 : (i : Int) < 32 := by omega
          have pi : (0 ≤ (i : Int)) = True := eq_true (by omega)
          have qi : ((i : Int) < 32) = True := eq_true (by omega)
          have y2 : wr.cell? ⟨w.heap.size + 1, i / 4, none⟩ = _ := HGR.out.cell (i := i / 4) (by rw [HSL.out]; omega)
          have ap : (⟨w.heap.size + 1, 0, none⟩ : Addr).add (i / 4) = ⟨w.heap.size + 1, i / 4, none⟩ := add_plain _ _
          obtain ⟨x, hx⟩ : ∃ x, x = st.getD (i / 4) 0 := ⟨_, rfl⟩
          have HXB : Aside0 (0 ≤ x ∧ x < 4294967296) := ⟨by rw [hx]; exact words_get HWD.out _⟩
          rw [← hx] at y2
          have HX := Aside0.mk hx
          clear hx
          go_wp2_with fail
          have rfour : i % 4 < 4 := Nat.mod_lt _ (by decide)
          go_loopg [16, 17] (3 - i % 4) (fun k v16 v17 w' => ∃ (n : Nat) (y : Int), v16 = .int .u32 y ∧ v17 = .int .i64 (n : Int) ∧ Aside0 (k = 3 - n ∧ n ≤ 3 ∧ i % 4 ≤ n) ∧ Aside0 (y = x / 256 ^ (n - i % 4)) ∧ Aside0 (0 ≤ y ∧ y < 4294967296) ∧ wr = w')
          case atStart => exact ⟨i % 4, x, rfl, by simp, ⟨by omega, by omega, by omega⟩, ⟨by simp⟩, HXB, rfl⟩
          case round =>
            obtain ⟨n, y, rfl, rfl, HN3, HYE, HYB, rfl⟩ := hrel
            have yb0 := HYB.out.1
            have yb1 := HYB.out.2
            by_cases hn : n < 3
            · have f1 : decide (n < 3) = true := decide_eq_true hn
              have f2 : decide ((n : Int) < 3) = true := decide_eq_true (by omega)
              have hwn : IntKind.i64.wrap ((n : Int) + 1) = ((n + 1 : Nat) : Int) := by rw [i64_w]; unfold wrap64; omega
              go_wp2_with fail
              go_roundg (3 - (n + 1))
              case measure => have := HN3.out; omega
              case rel =>
                refine ⟨n + 1, y / 256, by simp, by simp, ⟨rfl, by omega, by have := HN3.out; omega⟩, ⟨?_⟩, ⟨by have := HYB.out; omega⟩, rfl⟩
                rw [HYE.out, div_step]
                congr 2
                have := HN3.out
                omega
            · have f1 : decide (n < 3) = false := decide_eq_false hn
              have f2 : decide ((n : Int) < 3) = false := decide_eq_false (by omega)
              obtain rfl : n = 3 := by have := HN3.out; omega
              have HV : Aside0 (outByte st i = y % 256) := ⟨by
                unfold outByte
                rw [← HX.out, div_back x (i % 4) (by omega), HYE.out]⟩
              have w3 : wr.cell? ⟨wo.heap.size, i, none⟩ = _ := HO.out.cell (i := i) (by rw [outAt_length]; exact hi)
              have w4 : wr.frozen? ⟨wo.heap.size, i, none⟩ = false := HO.out.free i
              go_wp2_with fail
              go_roundg (32 - (i + 1))
              case measure => have := HI.out; omega
              case rel =>
                refine ⟨i + 1, by simp, ⟨rfl, by omega⟩, ⟨?_⟩, ⟨?_⟩⟩
                · have h_ := HO.out.set i (outByte st i)
                  rw [HV.out] at h_
                  simp only [outAt]
                  rw [HV.out]
                  exact h_
                · exact HL.out.setCell (Nat.le_refl _) _
        · have e1 : decide (i < 32) = false := decide_eq_false hi
          have e2 : decide ((i : Int) < 32) = false := decide_eq_false (by omega)
          obtain rfl : i = 32 := by have := HI.out; omega
          have HZ2 : Aside0 (Blk8 wr w.heap.size 24 (List.replicate 32 0)) := ⟨Blk8.below HZ8.out HL.out (Blk8.lt HZ8.out)⟩
          obtain ⟨d, hd⟩ : ∃ d, d = outAt st 32 := ⟨_, rfl⟩
          have HDL : Aside0 (d.length = 32) := ⟨by rw [hd, outAt_length]⟩
          rw [← hd] at HO
          have HCS : Aside0 (d = shaOf l) := ⟨by rw [hd]; unfold shaOf; rw [HMSG.out, HP.out, ← HST.out]⟩
          clear hd
          have hzd : (cells8 d).size = 32 := by rw [cells8_size, HDL.out]
          have hst := store8 (xs := d) HZ2.out (by rw [HDL.out]; rfl)
          have HBL : Aside0 (Below w.heap.size w (wr.setRow w.heap.size (cells8 d))) := ⟨below_row (below_step HB8.out HL.out) (Nat.le_refl _)⟩
          have HROW := Aside0.mk (setRow_heap wr w.heap.size _ (cells8 d) 24 (0, 0) HZ2.out)
          go_wp2_with (first
            | ((with_reducible refine gate_dst (N := 170) rfl ?_); refine wpList_load_row rfl 24 (.tmp 14) rfl wo.heap.size rfl 24 (cells8 d) (0, 0) _ HO.out rfl (by kernel_rfl) (by rw [hzd]; kernel_rfl) ?_)
            | fail)
          refine bodyPost_ret (v := .agg (cells8 d)) ?_ rfl ⟨by rw [HCS.out], HBL.out⟩
          exact results_cell_row (P := Try.prog) Try.results11 _ _ w.heap.size 24 (cells8 d) (0, 0) _ rfl HROW.out rfl (by kernel_rfl) (by rw [hzd]; kernel_rfl)

end Go.Proofs.Ytenkaaigalcgcaa.X
