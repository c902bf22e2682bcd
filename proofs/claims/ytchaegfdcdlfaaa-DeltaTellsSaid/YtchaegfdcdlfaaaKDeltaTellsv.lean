/- DeltaTells: the walk, the plain law, the row. -/
import Derived.Test.YtchaegfdcdlfaaaU1
import Derived.Test.YtchaegfdcdlfaaaE5v
import Derived.Test.YtchaegfdcdlfaaaT1v
import Derived.WalkLawsBesides
import Derived.Test.YtchaegfdcdlfaaaT3v
import Derived.Test.YtchaegfdcdlfaaaRows
import Derived.WalkKit
import Derived.ProofKit
import Derived.OpenShut
import Derived.ShutString
import Derived.ChangeOld
import Derived.Below
import Derived.SizedLaws
import Derived.Test.YtchaegfdcdlfaaaVSized
import Derived.Test.YtchaegfdcdlfaaaE1v

/- The document's Apply comes to applyL. -/
namespace Go.Proofs.Ytchaegfdcdlfaaa.X
set_option linter.unusedVariables false
set_option linter.unusedSimpArgs false
open Go.RowKit Go.Maps Go.Proofs.YtchaegfdcdlfaaaW.PrintWords Go.Proofs.YtchaegfdcdlfaaaW.PrintLast Go.Proofs.YtchaegfdcdlfaaaW.PrintMore

theorem rapply_l0 (base : ByteArray) (l : List S67) (hm : mayL l = true) (hb : base.size ≤ 1000000) : ∀ (d i k : Nat) (u : ByteArray), l.length = i + d → d < k → u = outL base (l.take i) → (l.take i).all (fits base) = true →
    rolodexref11_Apply.l0 k base l u (i : Int) = some (applyL base l) := by
  intro d
  induction d with
  | zero =>
    intro i k u hi hk hu hf
    obtain ⟨k, rfl⟩ : ∃ k', k = k' + 1 := ⟨k - 1, by omega⟩
    rw [List.take_of_length_le (by omega)] at hu hf
    rw [rolodexref11_Apply.l0, if_neg (by omega), applyL_yes hm hf, hu]
  | succ d ih =>
    intro i k u hi hk hu hf
    obtain ⟨k, rfl⟩ : ∃ k', k = k' + 1 := ⟨k - 1, by omega⟩
    have hl60 := ((mayL_iff l).1 hm).2.1
    have hil : i < l.length := by omega
    have hmp := getD_may hil hm
    have hus := part_size (base := base) hm hf
    rw [← hu] at hus
    have htk := take_snocD l i hil
    have hrd : rd_T67 l (i : Int) = l.getD i z67 := by unfold rd_T67; rw [Int.toNat_natCast]
    have hnot := fun h => applyL_no (fits_not (base := base) hil h)
    obtain ⟨p, hp⟩ : ∃ p, l.getD i z67 = p := ⟨_, rfl⟩
    rw [hp] at hmp htk hrd hnot
    have hw : wrap64 ((i : Int) + 1) = ((i + 1 : Nat) : Int) := by unfold wrap64; omega
    rw [rolodexref11_Apply.l0, if_pos (by omega), if_pos (by omega), hrd, hw]
    cases h0 : p.f0
    · have h4 := (mayP_true hmp).2 h0
      have ho : outP base p = p.f3 := by unfold outP; rw [h0, if_neg (by simp)]
      rw [if_neg (by simp), if_pos (by omega), ih (i + 1) k _ (by omega) (by omega) (by rw [htk, outL_append, outL_one, ho, hu]) (by rw [htk, List.all_append, hf]; simp [fits, h0])]
    · have h4 := (mayP_true hmp).1 h0
      have hww : wrap64 (p.f1 + p.f2) = p.f1 + p.f2 := by unfold wrap64; omega
      rw [if_pos rfl, hww]
      by_cases hg : p.f1 + p.f2 > (base.size : Int)
      · rw [if_pos hg, hnot (by simp [fits, h0]; omega)]
      · have hsz : (base.extract p.f1.toNat (p.f1 + p.f2).toNat).size ≤ 1000000 := by simp only [ByteArray.size_extract]; omega
        have ho : outP base p = base.extract p.f1.toNat (p.f1 + p.f2).toNat := by unfold outP; rw [h0, if_pos rfl, show (p.f1 + p.f2).toNat = p.f1.toNat + p.f2.toNat by omega]
        rw [if_neg hg, if_pos (by omega), if_pos (by omega), if_pos (by omega), if_pos (by omega), ih (i + 1) k _ (by omega) (by omega) (by rw [htk, outL_append, outL_one, ho, hu]) (by rw [htk, List.all_append, hf]; simp [fits, h0]; omega)]
theorem RApply_eq (base : ByteArray) (l : List S67) (hl : l.length ≤ 1000000) (hb : base.size ≤ 1000000) (k : Nat) (hk : 100 < k) : rolodexref11_Apply.f k base l = some (applyL base l) := by
  unfold rolodexref11_Apply.f
  rw [RMay_eq l (by omega) k, Option.bind_some]
  cases hm : mayL l
  · rw [if_neg (by simp), applyL_no (fun h => by rw [hm] at h; simp at h)]
  · have hl60 := ((mayL_iff l).1 hm).2.1
    rw [if_pos rfl, show (0 : Int) = ((0 : Nat) : Int) from rfl, rapply_l0 base l hm hb l.length 0 k ⟨#[]⟩ (by omega) (by omega) rfl rfl]
end Go.Proofs.Ytchaegfdcdlfaaa.X

/- What pieces may be, make, and are, is what the document says: the walk. -/
namespace Go.Proofs.Ytchaegfdcdlfaaa.X
set_option linter.unusedVariables false
set_option linter.unusedSimpArgs false
open Go.RowKit Go.Maps Go.Proofs.YtchaegfdcdlfaaaW.PrintWords Go.Proofs.YtchaegfdcdlfaaaW.PrintLast Go.Proofs.YtchaegfdcdlfaaaW.PrintMore

theorem few_callB {l : List S67} {n : Nat} (hn : l.length = n) (A : Option Addr) (c : Nat) (w : World) (hr : Kd.C k67 w A n l) (hc : n ≤ c) (b : Bool) (hb : fewL l = b) : Calls Try.prog 49 #[.slice A n c] w fun e w' => e = .returned (.bool b) ∧ Below w.heap.size w w' := by
  subst hn
  subst hb
  refine (rolodexlaw11_few.calls 200 A c l (fewL l) w hr hc (Few_eq l 200 (by omega))).mono ?_
  rintro e w' ⟨rfl, m, rfl⟩
  exact ⟨rfl, pw_below_drewN (Below.refl _ _) m⟩
theorem rsame_callB {l m : List S67} {n k : Nat} (hn : l.length = n) (hk : m.length = k) (hl : n ≤ 1000000) (A B : Option Addr) (c d : Nat) (w : World) (ha : Kd.C k67 w A n l) (hc : n ≤ c) (hb : Kd.C k67 w B k m) (hd : k ≤ d) (r : Bool) (hr : sameL l m = r) : Calls Try.prog 54 #[.slice A n c, .slice B k d] w fun e w' => e = .returned (.bool r) ∧ Below w.heap.size w w' := by
  subst hn
  subst hk
  subst hr
  refine (rolodexref11_Same.calls (l.length + 1) A c l B d m (sameL l m) w ha hc hb hd (RSame_eq l m hl _ (by omega))).mono ?_
  rintro e w' ⟨rfl, q, rfl⟩
  exact ⟨rfl, pw_below_drewN (Below.refl _ _) q⟩
theorem dsame_callB {l m : List S67} {n k : Nat} (hn : l.length = n) (hk : m.length = k) (hl : n ≤ 1000000) (A B : Option Addr) (c d : Nat) (w : World) (ha : Kd.C k67 w A n l) (hc : n ≤ c) (hb : Kd.C k67 w B k m) (hd : k ≤ d) (r : Bool) (hr : sameL l m = r) : Calls Try.prog 61 #[.slice A n c, .slice B k d] w fun e w' => e = .returned (.bool r) ∧ Below w.heap.size w w' := by
  subst hn
  subst hk
  subst hr
  refine (delta_Same.calls (l.length + 1) A c l B d m (sameL l m) w ha hc hb hd (DSame_eq l m hl _ (by omega))).mono ?_
  rintro e w' ⟨rfl, q, rfl⟩
  exact ⟨rfl, pw_below_drewN (Below.refl _ _) q⟩
theorem rapply_callB {l : List S67} {n : Nat} (hn : l.length = n) (A : Option Addr) (c : Nat) (base : ByteArray) (w : World) (hr : Kd.C k67 w A n l) (hc : n ≤ c) (hl : n ≤ 1000000) (hbs : base.size ≤ 1000000) (x : ByteArray × Bool) (hx : applyL base l = x) :
    Calls Try.prog 58 #[.string base, .slice A n c] w fun e w' => e = .returned (.tuple #[.string x.1, .bool x.2]) ∧ Below w.heap.size w w' := by
  subst hn
  exact rolodexref11_Apply.calls 200 base A c l x.1 x.2 w hr hc (by rw [RApply_eq base l hl hbs 200 (by omega), hx])
theorem rmake_callB {sig : List Sg} {n : Nat} (hn : sig.length = n) (A : Option Addr) (c : Nat) (s : ByteArray) (w : World) (hr : sgK.C w A n sig) (hok : ∀ x ∈ sig, SgOk x) (hl : n ≤ 1000) (hs : s.size ≤ 1000) (R : List S67) (hR : makeF sig s.size [] s = R) (m : Nat) (hm : R.length = m) :
    Calls Try.prog 59 #[.slice A n c, .string s] w fun e w' => ∃ A' c', e = .returned (.slice A' m c') ∧ m ≤ c' ∧ Kd.C k67 w' A' m R ∧ Below w.heap.size w w' := by
  subst hR
  subst hm
  refine (rmake_call A n c sig s w hn hr hok hl hs).mono ?_
  rintro e w' ⟨v, rfl, ho, hb⟩
  obtain ⟨A', c', rfl, hc', hr'⟩ := Kd.R_reads ho
  exact ⟨A', c', rfl, hc', hr', hb⟩
theorem makeF_lenT (sig : List Sg) (s : ByteArray) : (makeF sig s.size [] s).length ≤ s.size := by
  obtain ⟨t, h0, h1⟩ := makeF_ind sig (fun l t => l.length + t.size ≤ s.size)
    (by
      intro l t i h h8 _
      have := blockL_len l ((i : Int) * 8)
      simp only [ByteArray.size_extract]
      omega)
    (by
      intro l t h h8 _
      have := litL_len l (t.extract 0 1)
      simp only [ByteArray.size_extract]
      omega)
    s.size [] s (Nat.le_refl _) (by simp)
  omega
set_option maxHeartbeats 8000000 in
set_option maxRecDepth 100000 in
theorem dtells_off0 (b : ByteArray) (A1 : Option Addr) (n1 c1 : Nat) (l : List S67) (A2 : Option Addr) (n2 c2 : Nat) (sig : List Sg) (s : ByteArray) (A4 : Option Addr) (n4 c4 : Nat) (m : List S67) (w : World) (h1 : l.length = n1) (k1 : n1 ≤ c1) (r1 : Kd.C k67 w A1 n1 l) (h2 : sig.length = n2) (k2 : n2 ≤ c2) (r2 : sgK.C w A2 n2 sig) (ok2 : ∀ x ∈ sig, SgOk x) (h4 : m.length = n4) (k4 : n4 ≤ c4) (r4 : Kd.C k67 w A4 n4 m) (f1 : fewL l = false) (B2 : Bool) (f2 : fewL m = B2) : Calls Try.prog 21 #[.string b, .slice A1 n1 c1, .slice A2 n2 c2, .string s, .slice A4 n4 c4] w fun e w' => e = .returned (.bool true) ∧ Below w.heap.size w w' := by
  have R1 := Aside0.mk r1
  have R2 := Aside0.mk r2
  have R4 := Aside0.mk r4
  have HF1 := Aside0.mk f1
  have HF2 := Aside0.mk f2
  clear r1 r2 r4 f1 f2
  go_enter Try.func21, Try.ntmps21
  go_wp2_with fail
  refine (awake11_call _).mono ?_
  rintro e w1 ⟨rfl, hb1⟩
  have HB1 := Aside0.mk hb1
  clear hb1
  go_wp2_with fail
  refine (few_callB h1 A1 c1 _ (Kd.C_below R1.out HB1.out) k1 false HF1.out).mono ?_
  rintro e w2 ⟨rfl, hb2⟩
  have HB2 := Aside0.mk (below_step HB1.out hb2)
  clear hb2
  go_wp2_with fail
  refine (few_callB h4 A4 c4 _ (Kd.C_below R4.out HB2.out) k4 B2 HF2.out).mono ?_
  rintro e w3 ⟨rfl, hb3⟩
  have HB3 := Aside0.mk (below_step HB2.out hb3)
  clear hb3
  go_wp2_with fail
  go_ret
  exact ⟨rfl, HB3.out⟩
set_option maxHeartbeats 8000000 in
set_option maxRecDepth 100000 in
theorem dtells_off1 (b : ByteArray) (A1 : Option Addr) (n1 c1 : Nat) (l : List S67) (A2 : Option Addr) (n2 c2 : Nat) (sig : List Sg) (s : ByteArray) (A4 : Option Addr) (n4 c4 : Nat) (m : List S67) (w : World) (h1 : l.length = n1) (k1 : n1 ≤ c1) (r1 : Kd.C k67 w A1 n1 l) (h2 : sig.length = n2) (k2 : n2 ≤ c2) (r2 : sgK.C w A2 n2 sig) (ok2 : ∀ x ∈ sig, SgOk x) (h4 : m.length = n4) (k4 : n4 ≤ c4) (r4 : Kd.C k67 w A4 n4 m) (f1 : fewL l = true) (f2 : fewL m = false) : Calls Try.prog 21 #[.string b, .slice A1 n1 c1, .slice A2 n2 c2, .string s, .slice A4 n4 c4] w fun e w' => e = .returned (.bool true) ∧ Below w.heap.size w w' := by
  have R1 := Aside0.mk r1
  have R2 := Aside0.mk r2
  have R4 := Aside0.mk r4
  have HF1 := Aside0.mk f1
  have HF2 := Aside0.mk f2
  clear r1 r2 r4 f1 f2
  go_enter Try.func21, Try.ntmps21
  go_wp2_with fail
  refine (awake11_call _).mono ?_
  rintro e w1 ⟨rfl, hb1⟩
  have HB1 := Aside0.mk hb1
  clear hb1
  go_wp2_with fail
  refine (few_callB h1 A1 c1 _ (Kd.C_below R1.out HB1.out) k1 true HF1.out).mono ?_
  rintro e w2 ⟨rfl, hb2⟩
  have HB2 := Aside0.mk (below_step HB1.out hb2)
  clear hb2
  go_wp2_with fail
  refine (few_callB h4 A4 c4 _ (Kd.C_below R4.out HB2.out) k4 false HF2.out).mono ?_
  rintro e w3 ⟨rfl, hb3⟩
  have HB3 := Aside0.mk (below_step HB2.out hb3)
  clear hb3
  go_wp2_with fail
  go_ret
  exact ⟨rfl, HB3.out⟩
set_option maxHeartbeats 8000000 in
set_option maxRecDepth 100000 in
theorem dtells_off2 (b : ByteArray) (A1 : Option Addr) (n1 c1 : Nat) (l : List S67) (A2 : Option Addr) (n2 c2 : Nat) (sig : List Sg) (s : ByteArray) (A4 : Option Addr) (n4 c4 : Nat) (m : List S67) (w : World) (h1 : l.length = n1) (k1 : n1 ≤ c1) (r1 : Kd.C k67 w A1 n1 l) (h2 : sig.length = n2) (k2 : n2 ≤ c2) (r2 : sgK.C w A2 n2 sig) (ok2 : ∀ x ∈ sig, SgOk x) (h4 : m.length = n4) (k4 : n4 ≤ c4) (r4 : Kd.C k67 w A4 n4 m) (f1 : fewL l = true) (f2 : fewL m = true) (g : 300 < b.size) : Calls Try.prog 21 #[.string b, .slice A1 n1 c1, .slice A2 n2 c2, .string s, .slice A4 n4 c4] w fun e w' => e = .returned (.bool true) ∧ Below w.heap.size w w' := by
  have d0 : decide ((b.size : Int) > 300) = true := decide_eq_true (by omega)
  have d0n : decide (300 < b.size) = true := decide_eq_true (by omega)
  have R1 := Aside0.mk r1
  have R2 := Aside0.mk r2
  have R4 := Aside0.mk r4
  have HF1 := Aside0.mk f1
  have HF2 := Aside0.mk f2
  clear r1 r2 r4 f1 f2
  go_enter Try.func21, Try.ntmps21
  go_wp2_with fail
  refine (awake11_call _).mono ?_
  rintro e w1 ⟨rfl, hb1⟩
  have HB1 := Aside0.mk hb1
  clear hb1
  go_wp2_with fail
  refine (few_callB h1 A1 c1 _ (Kd.C_below R1.out HB1.out) k1 true HF1.out).mono ?_
  rintro e w2 ⟨rfl, hb2⟩
  have HB2 := Aside0.mk (below_step HB1.out hb2)
  clear hb2
  go_wp2_with fail
  refine (few_callB h4 A4 c4 _ (Kd.C_below R4.out HB2.out) k4 true HF2.out).mono ?_
  rintro e w3 ⟨rfl, hb3⟩
  have HB3 := Aside0.mk (below_step HB2.out hb3)
  clear hb3
  go_wp2_with fail
  go_ret
  exact ⟨rfl, HB3.out⟩
set_option maxHeartbeats 8000000 in
set_option maxRecDepth 100000 in
theorem dtells_off3 (b : ByteArray) (A1 : Option Addr) (n1 c1 : Nat) (l : List S67) (A2 : Option Addr) (n2 c2 : Nat) (sig : List Sg) (s : ByteArray) (A4 : Option Addr) (n4 c4 : Nat) (m : List S67) (w : World) (h1 : l.length = n1) (k1 : n1 ≤ c1) (r1 : Kd.C k67 w A1 n1 l) (h2 : sig.length = n2) (k2 : n2 ≤ c2) (r2 : sgK.C w A2 n2 sig) (ok2 : ∀ x ∈ sig, SgOk x) (h4 : m.length = n4) (k4 : n4 ≤ c4) (r4 : Kd.C k67 w A4 n4 m) (f1 : fewL l = true) (f2 : fewL m = true) (g : ¬ 300 < b.size) (g2 : 60 < n2) : Calls Try.prog 21 #[.string b, .slice A1 n1 c1, .slice A2 n2 c2, .string s, .slice A4 n4 c4] w fun e w' => e = .returned (.bool true) ∧ Below w.heap.size w w' := by
  have d0 : decide ((b.size : Int) > 300) = false := decide_eq_false (by omega)
  have d0n : decide (300 < b.size) = false := decide_eq_false (by omega)
  have d1 : decide ((n2 : Int) > 60) = true := decide_eq_true (by omega)
  have d1n : decide (60 < n2) = true := decide_eq_true (by omega)
  have R1 := Aside0.mk r1
  have R2 := Aside0.mk r2
  have R4 := Aside0.mk r4
  have HF1 := Aside0.mk f1
  have HF2 := Aside0.mk f2
  clear r1 r2 r4 f1 f2
  go_enter Try.func21, Try.ntmps21
  go_wp2_with fail
  refine (awake11_call _).mono ?_
  rintro e w1 ⟨rfl, hb1⟩
  have HB1 := Aside0.mk hb1
  clear hb1
  go_wp2_with fail
  refine (few_callB h1 A1 c1 _ (Kd.C_below R1.out HB1.out) k1 true HF1.out).mono ?_
  rintro e w2 ⟨rfl, hb2⟩
  have HB2 := Aside0.mk (below_step HB1.out hb2)
  clear hb2
  go_wp2_with fail
  refine (few_callB h4 A4 c4 _ (Kd.C_below R4.out HB2.out) k4 true HF2.out).mono ?_
  rintro e w3 ⟨rfl, hb3⟩
  have HB3 := Aside0.mk (below_step HB2.out hb3)
  clear hb3
  go_wp2_with fail
  go_ret
  exact ⟨rfl, HB3.out⟩
set_option maxHeartbeats 8000000 in
set_option maxRecDepth 100000 in
theorem dtells_off4 (b : ByteArray) (A1 : Option Addr) (n1 c1 : Nat) (l : List S67) (A2 : Option Addr) (n2 c2 : Nat) (sig : List Sg) (s : ByteArray) (A4 : Option Addr) (n4 c4 : Nat) (m : List S67) (w : World) (h1 : l.length = n1) (k1 : n1 ≤ c1) (r1 : Kd.C k67 w A1 n1 l) (h2 : sig.length = n2) (k2 : n2 ≤ c2) (r2 : sgK.C w A2 n2 sig) (ok2 : ∀ x ∈ sig, SgOk x) (h4 : m.length = n4) (k4 : n4 ≤ c4) (r4 : Kd.C k67 w A4 n4 m) (f1 : fewL l = true) (f2 : fewL m = true) (g : ¬ 300 < b.size) (g2 : ¬ 60 < n2) (g3 : 300 < s.size) : Calls Try.prog 21 #[.string b, .slice A1 n1 c1, .slice A2 n2 c2, .string s, .slice A4 n4 c4] w fun e w' => e = .returned (.bool true) ∧ Below w.heap.size w w' := by
  have d0 : decide ((b.size : Int) > 300) = false := decide_eq_false (by omega)
  have d0n : decide (300 < b.size) = false := decide_eq_false (by omega)
  have d1 : decide ((n2 : Int) > 60) = false := decide_eq_false (by omega)
  have d1n : decide (60 < n2) = false := decide_eq_false (by omega)
  have d2 : decide ((s.size : Int) > 300) = true := decide_eq_true (by omega)
  have d2n : decide (300 < s.size) = true := decide_eq_true (by omega)
  have R1 := Aside0.mk r1
  have R2 := Aside0.mk r2
  have R4 := Aside0.mk r4
  have HF1 := Aside0.mk f1
  have HF2 := Aside0.mk f2
  clear r1 r2 r4 f1 f2
  go_enter Try.func21, Try.ntmps21
  go_wp2_with fail
  refine (awake11_call _).mono ?_
  rintro e w1 ⟨rfl, hb1⟩
  have HB1 := Aside0.mk hb1
  clear hb1
  go_wp2_with fail
  refine (few_callB h1 A1 c1 _ (Kd.C_below R1.out HB1.out) k1 true HF1.out).mono ?_
  rintro e w2 ⟨rfl, hb2⟩
  have HB2 := Aside0.mk (below_step HB1.out hb2)
  clear hb2
  go_wp2_with fail
  refine (few_callB h4 A4 c4 _ (Kd.C_below R4.out HB2.out) k4 true HF2.out).mono ?_
  rintro e w3 ⟨rfl, hb3⟩
  have HB3 := Aside0.mk (below_step HB2.out hb3)
  clear hb3
  go_wp2_with fail
  go_ret
  exact ⟨rfl, HB3.out⟩
set_option maxHeartbeats 8000000 in
set_option maxRecDepth 100000 in
theorem dtells_main (b : ByteArray) (A1 : Option Addr) (n1 c1 : Nat) (l : List S67) (A2 : Option Addr) (n2 c2 : Nat) (sig : List Sg) (s : ByteArray) (A4 : Option Addr) (n4 c4 : Nat) (m : List S67) (w : World) (h1 : l.length = n1) (k1 : n1 ≤ c1) (r1 : Kd.C k67 w A1 n1 l) (h2 : sig.length = n2) (k2 : n2 ≤ c2) (r2 : sgK.C w A2 n2 sig) (ok2 : ∀ x ∈ sig, SgOk x) (h4 : m.length = n4) (k4 : n4 ≤ c4) (r4 : Kd.C k67 w A4 n4 m) (f1 : fewL l = true) (f2 : fewL m = true) (g : ¬ 300 < b.size) (g2 : ¬ 60 < n2) (g3 : ¬ 300 < s.size) : Calls Try.prog 21 #[.string b, .slice A1 n1 c1, .slice A2 n2 c2, .string s, .slice A4 n4 c4] w fun e w' => e = .returned (.bool true) ∧ Below w.heap.size w w' := by
  have d0 : decide ((b.size : Int) > 300) = false := decide_eq_false (by omega)
  have d0n : decide (300 < b.size) = false := decide_eq_false (by omega)
  have d1 : decide ((n2 : Int) > 60) = false := decide_eq_false (by omega)
  have d1n : decide (60 < n2) = false := decide_eq_false (by omega)
  have d2 : decide ((s.size : Int) > 300) = false := decide_eq_false (by omega)
  have d2n : decide (300 < s.size) = false := decide_eq_false (by omega)
  have HN1 : Aside0 (n1 ≤ 80) := ⟨by rw [← h1]; exact fewL_le f1⟩
  have HN2 : Aside0 (n2 ≤ 60) := ⟨by omega⟩
  have HSB : Aside0 (b.size ≤ 300) := ⟨by omega⟩
  have HSS : Aside0 (s.size ≤ 300) := ⟨by omega⟩
  obtain ⟨t, bt, hx⟩ : ∃ t bt, applyL b l = (t, bt) := ⟨_, _, rfl⟩
  have HX := Aside0.mk hx
  obtain ⟨R, hR⟩ : ∃ R, makeF sig s.size [] s = R := ⟨_, rfl⟩
  obtain ⟨q, hq⟩ : ∃ q, R.length = q := ⟨_, rfl⟩
  have HRR := Aside0.mk hR
  have HQ := Aside0.mk hq
  have HQL : Aside0 (q ≤ 1000000) := ⟨by rw [← hq, ← hR]; have := makeF_lenT sig s; omega⟩
  obtain ⟨bm, hbm⟩ : ∃ bm, mayL l = bm := ⟨_, rfl⟩
  have HBM := Aside0.mk hbm
  obtain ⟨bs, hbs⟩ : ∃ bs, sameL l m = bs := ⟨_, rfl⟩
  have HBS := Aside0.mk hbs
  have HOK := Aside0.mk ok2
  clear hx hR hq hbm hbs ok2 g g2 g3
  have te : (t.toList == t.toList) = true := by simp
  have be1 : (bt == bt) = true := by simp
  have be2 : (bm == bm) = true := by simp
  have be3 : (bs == bs) = true := by simp
  have R1 := Aside0.mk r1
  have R2 := Aside0.mk r2
  have R4 := Aside0.mk r4
  have HF1 := Aside0.mk f1
  have HF2 := Aside0.mk f2
  clear r1 r2 r4 f1 f2
  go_enter Try.func21, Try.ntmps21
  go_wp2_with fail
  refine (awake11_call _).mono ?_
  rintro e w1 ⟨rfl, hb1⟩
  have HB1 := Aside0.mk hb1
  clear hb1
  go_wp2_with fail
  refine (few_callB h1 A1 c1 _ (Kd.C_below R1.out HB1.out) k1 true HF1.out).mono ?_
  rintro e w2 ⟨rfl, hb2⟩
  have HB2 := Aside0.mk (below_step HB1.out hb2)
  clear hb2
  go_wp2_with fail
  refine (few_callB h4 A4 c4 _ (Kd.C_below R4.out HB2.out) k4 true HF2.out).mono ?_
  rintro e w3 ⟨rfl, hb3⟩
  have HB3 := Aside0.mk (below_step HB2.out hb3)
  clear hb3
  go_wp2_with fail
  refine (apply_callB h1 A1 c1 b _ (Kd.C_below R1.out HB3.out) k1 (by have := HN1.out; omega) (by have := HSB.out; omega) (t, bt) HX.out).mono ?_
  rintro e w4 ⟨rfl, hb4⟩
  have HB4 := Aside0.mk (below_step HB3.out hb4)
  clear hb4
  go_wp2_with fail
  refine (rapply_callB h1 A1 c1 b _ (Kd.C_below R1.out HB4.out) k1 (by have := HN1.out; omega) (by have := HSB.out; omega) (t, bt) HX.out).mono ?_
  rintro e w5 ⟨rfl, hb5⟩
  have HB5 := Aside0.mk (below_step HB4.out hb5)
  clear hb5
  go_wp2_with fail
  refine (make_callB h2 A2 c2 s _ (Kd.C_below R2.out HB5.out) HOK.out (by have := HN2.out; omega) (by have := HSS.out; omega) R HRR.out q HQ.out).mono ?_
  rintro e w6 ⟨A6, c6, rfl, hc6, hr6, hb6⟩
  have HB6 := Aside0.mk (below_step HB5.out hb6)
  have R6 := Aside0.mk hr6
  have HC6 := Aside0.mk hc6
  clear hb6 hr6 hc6
  go_wp2_with fail
  refine (rmake_callB h2 A2 c2 s _ (Kd.C_below R2.out HB6.out) HOK.out (by have := HN2.out; omega) (by have := HSS.out; omega) R HRR.out q HQ.out).mono ?_
  rintro e w7 ⟨A7, c7, rfl, hc7, hr7, hb7⟩
  have HB7 := Aside0.mk (below_step HB6.out hb7)
  have R7 := Aside0.mk hr7
  have HC7 := Aside0.mk hc7
  have R6b := Aside0.mk (Kd.C_below R6.out hb7)
  clear hb7 hr7 hc7 R6
  go_wp2_with fail
  refine (rsame_callB HQ.out HQ.out HQL.out A6 A7 c6 c7 _ R6b.out HC6.out R7.out HC7.out true (sameL_refl R)).mono ?_
  rintro e w8 ⟨rfl, hb8⟩
  have HB8 := Aside0.mk (below_step HB7.out hb8)
  clear hb8 R6b R7
  go_wp2_with fail
  refine (rmay_call h1 A1 c1 _ (Kd.C_below R1.out HB8.out) (by have := HN1.out; omega) bm HBM.out).mono ?_
  rintro e w9 ⟨rfl, hb9⟩
  have HB9 := Aside0.mk (below_step HB8.out hb9)
  clear hb9
  go_wp2_with fail
  refine (rsame_callB h1 h4 (by have := HN1.out; omega) A1 A4 c1 c4 _ (Kd.C_below R1.out HB9.out) k1 (Kd.C_below R4.out HB9.out) k4 bs HBS.out).mono ?_
  rintro e w10 ⟨rfl, hb10⟩
  have HB10 := Aside0.mk (below_step HB9.out hb10)
  clear hb10
  go_wp2_with fail
  refine (may_callB h1 A1 c1 _ (Kd.C_below R1.out HB10.out) k1 (by have := HN1.out; omega) bm HBM.out).mono ?_
  rintro e w11 ⟨rfl, hb11⟩
  have HB11 := Aside0.mk (below_step HB10.out hb11)
  clear hb11
  go_wp2_with fail
  refine (dsame_callB h1 h4 (by have := HN1.out; omega) A1 A4 c1 c4 _ (Kd.C_below R1.out HB11.out) k1 (Kd.C_below R4.out HB11.out) k4 bs HBS.out).mono ?_
  rintro e w12 ⟨rfl, hb12⟩
  have HB12 := Aside0.mk (below_step HB11.out hb12)
  clear hb12
  go_wp2_with fail
  go_ret
  exact ⟨rfl, HB12.out⟩
theorem rolodexlaw11_DeltaTells.walk (a0 : ByteArray) (a1 : Option Addr) (len1 cap1 : Nat) (l1 : List S67) (a2 : Option Addr) (len2 cap2 : Nat) (l2 : List Sg) (a3 : ByteArray) (a4 : Option Addr) (len4 cap4 : Nat) (l4 : List S67) (w : World) (w0 : a0.size ≤ 140737488351232)
    (n1 : l1.length = len1) (c1 : len1 ≤ cap1) (b1 : Kd.C k67 w a1 len1 l1) (o1 : ∀ s ∈ l1, PcOk s) (n2 : l2.length = len2) (c2 : len2 ≤ cap2) (b2 : sgK.C w a2 len2 l2) (o2 : ∀ s ∈ l2, SgOk s) (w3 : a3.size ≤ 140737488351232) (n4 : l4.length = len4) (c4 : len4 ≤ cap4) (b4 : Kd.C k67 w a4 len4 l4) (o4 : ∀ s ∈ l4, PcOk s) :
    Calls Try.prog 21 #[.string a0, .slice a1 len1 cap1, .slice a2 len2 cap2, .string a3, .slice a4 len4 cap4] w fun e w' => e = .returned (.bool true) ∧ Below w.heap.size w w' := by
  cases f1 : fewL l1
  · exact dtells_off0 a0 a1 len1 cap1 l1 a2 len2 cap2 l2 a3 a4 len4 cap4 l4 w n1 c1 b1 n2 c2 b2 o2 n4 c4 b4 f1 _ rfl
  · cases f2 : fewL l4
    · exact dtells_off1 a0 a1 len1 cap1 l1 a2 len2 cap2 l2 a3 a4 len4 cap4 l4 w n1 c1 b1 n2 c2 b2 o2 n4 c4 b4 f1 f2
    · by_cases g : 300 < a0.size
      · exact dtells_off2 a0 a1 len1 cap1 l1 a2 len2 cap2 l2 a3 a4 len4 cap4 l4 w n1 c1 b1 n2 c2 b2 o2 n4 c4 b4 f1 f2 g
      · by_cases g2 : 60 < len2
        · exact dtells_off3 a0 a1 len1 cap1 l1 a2 len2 cap2 l2 a3 a4 len4 cap4 l4 w n1 c1 b1 n2 c2 b2 o2 n4 c4 b4 f1 f2 g g2
        · by_cases g3 : 300 < a3.size
          · exact dtells_off4 a0 a1 len1 cap1 l1 a2 len2 cap2 l2 a3 a4 len4 cap4 l4 w n1 c1 b1 n2 c2 b2 o2 n4 c4 b4 f1 f2 g g2 g3
          · exact dtells_main a0 a1 len1 cap1 l1 a2 len2 cap2 l2 a3 a4 len4 cap4 l4 w n1 c1 b1 n2 c2 b2 o2 n4 c4 b4 f1 f2 g g2 g3
end Go.Proofs.Ytchaegfdcdlfaaa.X

/- The row of DeltaTells, over the walk that is proved by hand. -/
namespace Go.Proofs.Ytchaegfdcdlfaaa.deltaTells
open Go.ChangeShapes Go.WideShapes Go.ChangeAt Go.RowKit
open Go.ChangeMaps (open_string shut_string)
set_option linter.unusedVariables false
theorem own : ownKnob Try.prog.godebug = none := by kernel_rfl
theorem laidOut : laidOutB Try.prog = true := by kernel_rfl
def IsRow (k : IntKind) (w : World) (a : Option Addr) (len cap : Nat) (zs : List Int) : Prop :=
  (a = none ∧ len = 0 ∧ cap = 0 ∧ zs = []) ∨
  ∃ x, a = some x ∧ len ≤ cap ∧ cap ≤ maxLen ∧ zs.length = cap ∧ (∀ i, i < zs.length → w.cell? (x.add i) = some (.int k (zs.getD i 0))) ∧ ∀ n ∈ zs, (Lit.int k n).wf = true
set_option maxRecDepth 100000 in
theorem lifted (os : Os) (started : os.Started) (H : Type) (enc : TypeId × Value → H) :
    ReturnsInHanded {} Try.checked os 21 .any (Rows.deltaTellsSpec.pre6 enc Try.prog Try.f21 Rows.deltaTellsRow.domain false) (Rows.deltaTellsSpec.post enc Try.prog Try.f21 false true false false) := by
  refine returnsInHanded_of_change_sized (C := Try.checked) own started (by kernel_rfl) Try.func21
    (ChangeSpec.witness6 (enc := enc) (C := Try.checked) false ⟨#[], #[.string ByteArray.empty, .slice none 0 0, .slice none 0 0, .string ByteArray.empty, .slice none 0 0], []⟩ 8 (by kernel_rfl) (by kernel_rfl) (by kernel_rfl) (by kernel_rfl)) ?_
  intro W base args ds gs before hval0 hW hcnd hsz0 _
  have hsz : (DataW.weightsEach Try.prog (Try.f21.params.toList ++ Rows.deltaTellsSpec.plain.varTypes Try.prog) (ds ++ gs)).all (· ≤ reachBytes) = true := hsz0
  have hval : ∀ (j : Nat) t v, Try.f21.params[j]? = some t → args[j]? = some v → Value.okWide Try.prog W .any base t v := hval0
  have hW' := hW
  obtain ⟨p, q, hA0, hV, rfl, hfz, hnd⟩ := hW
  have hA : DataW.TrodAll enc Try.prog W 0 (fun _ => true) true Try.f21.params.toList args.toList ds p := hA0
  rw [Try.params21] at hA hval hsz
  obtain ⟨v0, vs0, d0, ds0, p0, q0, hargs, rfl, rfl, h0, r0⟩ := trodAll_cons hA
  obtain ⟨v1, vs1, d1, ds1, p1, q1, rfl, rfl, rfl, h1, r1⟩ := trodAll_cons r0
  obtain ⟨v2, vs2, d2, ds2, p2, q2, rfl, rfl, rfl, h2, r2⟩ := trodAll_cons r1
  obtain ⟨v3, vs3, d3, ds3, p3, q3, rfl, rfl, rfl, h3, r3⟩ := trodAll_cons r2
  obtain ⟨v4, vs4, d4, ds4, p4, q4, rfl, rfl, rfl, h4, r4⟩ := trodAll_cons r3
  obtain ⟨rfl, rfl, rfl⟩ := trodAll_nil r4
  obtain rfl : args = #[v0, v1, v2, v3, v4] := by cases args; simp_all
  obtain ⟨rfl, rfl⟩ := trodVars_none hV
  obtain ⟨a0, rfl, rfl, rfl, y0⟩ := open_string Try.underlying9 (hval 0 9 v0 rfl rfl) h0
  have w0 : a0.size ≤ 140737488351232 := by
    have z := sized_string hsz (j := 0) (t := 9) rfl rfl
    rw [Array.length_toList] at z
    exact z
  obtain ⟨a1, len1, cap1, rfl⟩ := okWide_slice Try.underlying55 (hval 1 55 v1 rfl rfl)
  have k1 := h1
  have lt1 : ∀ x ∈ p1, x.block < W.heap.size := by obtain ⟨m, hm⟩ := k1; exact DataW.trod_lt m _ _ _ hm
  obtain ⟨l1, n1, c1, b1, o1⟩ := X.open_pieces h1
  obtain ⟨a2, len2, cap2, rfl⟩ := okWide_slice Try.underlying22 (hval 2 22 v2 rfl rfl)
  have k2 := h2
  have lt2 : ∀ x ∈ p2, x.block < W.heap.size := by obtain ⟨m, hm⟩ := k2; exact DataW.trod_lt m _ _ _ hm
  obtain ⟨l2, n2, c2, b2, o2⟩ := X.open_sigs h2
  obtain ⟨a3, rfl, rfl, rfl, y3⟩ := open_string Try.underlying9 (hval 3 9 v3 rfl rfl) h3
  have w3 : a3.size ≤ 140737488351232 := by
    have z := sized_string hsz (j := 3) (t := 9) rfl rfl
    rw [Array.length_toList] at z
    exact z
  obtain ⟨a4, len4, cap4, rfl⟩ := okWide_slice Try.underlying55 (hval 4 55 v4 rfl rfl)
  have k4 := h4
  have lt4 : ∀ x ∈ p4, x.block < W.heap.size := by obtain ⟨m, hm⟩ := k4; exact DataW.trod_lt m _ _ _ hm
  obtain ⟨l4, n4, c4, b4, o4⟩ := X.open_pieces h4
  clear hA0 hval0 hsz0 hsz
  refine (X.rolodexlaw11_DeltaTells.walk a0 a1 len1 cap1 l1 a2 len2 cap2 l2 a3 a4 len4 cap4 l4 W w0 n1 c1 b1 o1 n2 c2 b2 o2 w3 n4 c4 b4 o4).mono fun e W' ⟨he, bel⟩ => ?_
  subst he
  exact ⟨_, rfl, _, _, _, [], _, [], hW', trodAll_mk1 (shut_bool Try.underlying4 _), (trodAll_cons_mk (shut_string Try.underlying9 y0) (trodAll_cons_mk (Below.trod laidOut (by kernel_rfl) (of_decide_eq_true (by kernel_rfl)) k1 bel lt1) (trodAll_cons_mk (Below.trod laidOut (by kernel_rfl) (of_decide_eq_true (by kernel_rfl)) k2 bel lt2) (trodAll_cons_mk (shut_string Try.underlying9 y3) (trodAll_cons_mk (Below.trod laidOut (by kernel_rfl) (of_decide_eq_true (by kernel_rfl)) k4 bel lt4) trodAll_mk0))))), rfl, bel.frame _, fun h => by cases h⟩
theorem clos0 : (J.closT Try.prog 185 [21] []).isSome = true := by kernel_rfl
theorem clos1 : Try.prog.closure 21 = (J.closT Try.prog 185 [21] []).getD [] := J.clos_eq (of_decide_eq_true (by kernel_rfl)) clos0
theorem fact1 : Try.prog.inPlace 21 = ["internal/abi.NoEscape"] := by unfold Program.inPlace; rw [clos1]; kernel_rfl
theorem fact2 : Try.prog.unfollowed 21 = true := by unfold Program.unfollowed; rw [clos1]; kernel_rfl
theorem fact3 : Try.prog.recurses 21 = true := by unfold Program.recurses; rw [fact2]; rfl
theorem fact4 : Try.prog.varsNamed 21 = [] := by unfold Program.varsNamed; rw [clos1]; kernel_rfl
set_option maxRecDepth 100000 in
theorem facts : joinedFacts Try.prog 21 Try.f21 Rows.deltaTellsSpec Rows.deltaTellsRow = true := by
  unfold joinedFacts
  simp only [Bool.and_eq_true]
  repeat' apply And.intro
  all_goals first | (with_reducible exact J.mayEnter) | (rw [J.liftsFinal]; kernel_rfl) | (rw [J.make]; kernel_rfl) | (rw [fact1]; kernel_rfl) | (rw [fact2]; kernel_rfl) | (rw [fact3]; kernel_rfl) | (rw [fact4]; kernel_rfl) | kernel_rfl
theorem over : Rows.deltaTellsRow.holds Try.pinned (OpenSpec.ofChange Rows.deltaTellsSpec) :=
  OpenClaim.holds_of_wide 21 Try.f21 rfl rfl rfl rfl rfl rfl rfl ⟨rfl, rfl, rfl, rfl, rfl⟩ rfl rfl rfl rfl rfl (by kernel_rfl) Try.func21 facts
    (of_decide_eq_true (by kernel_rfl)) (by unfold Func.isWrapper; first | (rw [if_pos (by decide +kernel)]; kernel_rfl) | (rw [if_neg (by decide +kernel)]; exact ⟨rfl, rfl⟩))
    (fun os started H enc _ => lifted os started H enc)
theorem proved : Rows.DeltaTellsSaid := over
#print axioms proved
end Go.Proofs.Ytchaegfdcdlfaaa.deltaTells
namespace Go.Proofs.Ytchaegfdcdlfaaa
/-- The row, under a short name, for the claim. -/
theorem deltaTells_holds : Rows.DeltaTellsSaid := deltaTells.proved
end Go.Proofs.Ytchaegfdcdlfaaa
