/- The document's answer of the wire: its Read walked by hand; its contracts in words of lists. -/
import Derived.Test.YtghafocfbamcdaaWRefM
namespace Go.Proofs.Ytghafocfbamcdaa.X
set_option linter.unusedVariables false
set_option linter.unusedSimpArgs false
open Go.RowKit Go.Proofs.YtghafocfbamcdaaW.PrintWords Go.Proofs.YtghafocfbamcdaaW.PrintLast Go.Proofs.YtghafocfbamcdaaW.PrintMore

theorem rget_call {l : List Int} {n u : Int} {is : Bool} (h : IsGet l (n, u, is)) (hb : Bytes l) (hl : l.length ≤ 4611686018427387904) (A : Option Addr) (c : Nat) (w : World) (hr : RdB w A l.length l) (hc : l.length ≤ c) :
    Calls Try.prog 17 #[.slice A l.length c] w fun e w' => e = .returned (.tuple #[.int .u64 n, .int .i64 u, .bool is]) ∧ Below w.heap.size w w' :=
  rolodexref01_Get.calls (2 * l.length + 31) A c l n u is w hr hc (RGet_eq h hb hl _ (by omega))
theorem rput_call (n : Nat) (hn : n < 18446744073709551616) (w : World) : Calls Try.prog 21 #[.int .u64 n] w fun e w' => ∃ A c, e = .returned (.slice A (put n).length c) ∧ (put n).length ≤ c ∧ RdB w' A (put n).length (put n) ∧ Below w.heap.size w w' := by
  refine (rolodexref01_Put.calls 20 n _ w (RPut_eq n hn 20 (by omega))).mono ?_
  rintro e w' ⟨v, rfl, ho, hb⟩
  obtain ⟨A, c, rfl, hc, hr⟩ := row_slice ho
  exact ⟨A, c, rfl, hc, hr, hb⟩
theorem rtext_call (s : ByteArray) (hs : s.size ≤ 300) (L : List Int) (hL : L = put s.size ++ bytesOf s) (w : World) : Calls Try.prog 22 #[.string s] w fun e w' => ∃ A c, e = .returned (.slice A L.length c) ∧ L.length ≤ c ∧ RdB w' A L.length L ∧ Below w.heap.size w w' := by
  subst hL
  refine (rolodexref01_Text.calls 20 s _ w (RText_eq s hs 20 (by omega))).mono ?_
  rintro e w' ⟨v, rfl, ho, hb⟩
  obtain ⟨A, c, rfl, hc, hr⟩ := row_slice ho
  exact ⟨A, c, rfl, hc, hr, hb⟩
theorem rword_call (n : Nat) (hn : n < 4294967296) (w : World) : Calls Try.prog 24 #[.int .u32 n] w fun e w' => ∃ A c, e = .returned (.slice A 4 c) ∧ 4 ≤ c ∧ RdB w' A 4 (word n) ∧ Below w.heap.size w w' := by
  refine (rolodexref01_Word.calls n _ w (RWord_eq n hn)).mono ?_
  rintro e w' ⟨v, rfl, ho, hb⟩
  obtain ⟨A, c, rfl, hc, hr⟩ := row_slice ho
  exact ⟨A, c, rfl, hc, hr, hb⟩
/-- What four bytes, and no others, are read as. -/
def fourR (l : List Int) : Int × Bool := if l.length = 4 then ((four l : Int), true) else (0, false)
theorem rfour_call (l : List Int) (hb : Bytes l) (A : Option Addr) (c : Nat) (w : World) (hr : RdB w A l.length l) (hc : l.length ≤ c) (x : Int × Bool) (hx : fourR l = x) :
    Calls Try.prog 20 #[.slice A l.length c] w fun e w' => e = .returned (.tuple #[.int .u32 x.1, .bool x.2]) ∧ Drawn0 w w' := by
  subst hx
  refine rolodexref01_Four.calls A c l _ _ w hr hc ?_
  unfold fourR
  split
  · exact RFour_yes l (by assumption) hb
  · exact RFour_no l (by assumption)
theorem pfour_call (l : List Int) (hb : Bytes l) (A : Option Addr) (c : Nat) (w : World) (hr : RdB w A l.length l) (hc : l.length ≤ c) (x : Int × Bool) (hx : fourR l = x) :
    Calls Try.prog 19 #[.slice A l.length c] w fun e w' => e = .returned (.tuple #[.int .u32 x.1, .bool x.2]) ∧ ∃ q, w' = w.drewN q := by
  subst hx
  by_cases h4 : l.length = 4
  · have := four_call l h4 hb A c w (by rw [h4] at hr; exact hr) (by omega)
    rw [← h4] at this
    unfold fourR
    rw [if_pos h4]
    exact this
  · unfold fourR
    rw [if_neg h4]
    exact four_none l h4 A c w hr hc

set_option maxHeartbeats 4000000 in
set_option maxRecDepth 100000 in
theorem rread_no (A0 : Option Addr) (c0 : Nat) (l0 : List Int) (a1 : Int) (n u : Nat) (w : World) (hr0 : RdB w A0 l0.length l0) (hc0 : l0.length ≤ c0) (hb : Bytes l0)
    (h : IsGet l0 ((n : Int), (u : Int), false)) (hu : u ≤ l0.length) (hl : l0.length ≤ 4611686018427387904) :
    Calls Try.prog 18 #[.slice A0 l0.length c0, .int .i64 a1] w fun e w' => e = .returned (.tuple #[.string ⟨#[]⟩, .int .i64 0, .bool false]) ∧ Below w.heap.size w w' := by
  have HG := Aside0.mk h
  have HR := Aside0.mk hr0
  clear h hr0
  go_enter Try.func18, Try.ntmps18
  go_wp2_with fail
  refine (rget_call HG.out hb hl _ _ _ HR.out hc0).mono ?_
  rintro e w1 ⟨rfl, hb1⟩
  go_wp2_with fail
  go_ret3
  exact ⟨rfl, hb1⟩

set_option maxHeartbeats 4000000 in
set_option maxRecDepth 100000 in
theorem rread_neg (A0 : Option Addr) (c0 : Nat) (l0 : List Int) (a1 : Int) (n u : Nat) (w : World) (hr0 : RdB w A0 l0.length l0) (hc0 : l0.length ≤ c0) (hb : Bytes l0)
    (h : IsGet l0 ((n : Int), (u : Int), true)) (hu : u ≤ l0.length) (hl : l0.length ≤ 4611686018427387904) (ha : a1 < 0) :
    Calls Try.prog 18 #[.slice A0 l0.length c0, .int .i64 a1] w fun e w' => e = .returned (.tuple #[.string ⟨#[]⟩, .int .i64 0, .bool false]) ∧ Below w.heap.size w w' := by
  have HG := Aside0.mk h
  have HR := Aside0.mk hr0
  have c1 : decide (a1 < 0) = true := decide_eq_true ha
  clear h hr0 ha
  go_enter Try.func18, Try.ntmps18
  go_wp2_with fail
  refine (rget_call HG.out hb hl _ _ _ HR.out hc0).mono ?_
  rintro e w1 ⟨rfl, hb1⟩
  go_wp2_with fail
  go_ret3
  exact ⟨rfl, hb1⟩

set_option maxHeartbeats 4000000 in
set_option maxRecDepth 100000 in
theorem rread_far1 (A0 : Option Addr) (c0 : Nat) (l0 : List Int) (m n u : Nat) (w : World) (hr0 : RdB w A0 l0.length l0) (hc0 : l0.length ≤ c0) (hb : Bytes l0)
    (h : IsGet l0 ((n : Int), (u : Int), true)) (hu : u ≤ l0.length) (hl : l0.length ≤ 4611686018427387904) (hm : m < n) (hm2 : m < 9223372036854775808) :
    Calls Try.prog 18 #[.slice A0 l0.length c0, .int .i64 m] w fun e w' => e = .returned (.tuple #[.string ⟨#[]⟩, .int .i64 0, .bool false]) ∧ Below w.heap.size w w' := by
  have HG := Aside0.mk h
  have HR := Aside0.mk hr0
  have c1 : decide ((m : Int) < 0) = false := decide_eq_false (by omega)
  have c2 : decide (m < n) = true := decide_eq_true (by omega)
  have c3 : decide ((m : Int) < (n : Int)) = true := decide_eq_true (by omega)
  have w2 : IntKind.u64.wrap (m : Int) = (m : Int) := wraps_u64 _ (by omega) (by omega)
  clear h hr0
  go_enter Try.func18, Try.ntmps18
  go_wp2_with fail
  refine (rget_call HG.out hb hl _ _ _ HR.out hc0).mono ?_
  rintro e w1 ⟨rfl, hb1⟩
  go_wp2_with fail
  go_ret3
  exact ⟨rfl, hb1⟩

set_option maxHeartbeats 4000000 in
set_option maxRecDepth 100000 in
theorem rread_far2 (A0 : Option Addr) (c0 : Nat) (l0 : List Int) (m n u : Nat) (w : World) (hr0 : RdB w A0 l0.length l0) (hc0 : l0.length ≤ c0) (hb : Bytes l0)
    (h : IsGet l0 ((n : Int), (u : Int), true)) (hu : u ≤ l0.length) (hl : l0.length ≤ 4611686018427387904) (hm : n ≤ m) (hm2 : m < 9223372036854775808) (hf : l0.length - u < n) :
    Calls Try.prog 18 #[.slice A0 l0.length c0, .int .i64 m] w fun e w' => e = .returned (.tuple #[.string ⟨#[]⟩, .int .i64 0, .bool false]) ∧ Below w.heap.size w w' := by
  have HG := Aside0.mk h
  have HR := Aside0.mk hr0
  have c1 : decide ((m : Int) < 0) = false := decide_eq_false (by omega)
  have c2 : decide (m < n) = false := decide_eq_false (by omega)
  have c3 : decide ((m : Int) < (n : Int)) = false := decide_eq_false (by omega)
  have w2 : IntKind.u64.wrap (m : Int) = (m : Int) := wraps_u64 _ (by omega) (by omega)
  obtain ⟨z, hz⟩ : ∃ z, l0.length - u = z := ⟨_, rfl⟩
  have w5 : IntKind.i64.wrap ((l0.length : Int) - (u : Int)) = (z : Int) := by rw [i64_w, wrap64_small _ (by omega) (by omega)]; omega
  have w6 : IntKind.u64.wrap (z : Int) = (z : Int) := wraps_u64 _ (by omega) (by omega)
  have c4 : decide (z < n) = true := decide_eq_true (by omega)
  have c5 : decide ((z : Int) < (n : Int)) = true := decide_eq_true (by omega)
  have w7 : wrap64 ((l0.length : Int) - (u : Int)) = (z : Int) := by rw [wrap64_small _ (by omega) (by omega)]; omega
  clear h hr0 hz
  go_enter Try.func18, Try.ntmps18
  go_wp2_with fail
  refine (rget_call HG.out hb hl _ _ _ HR.out hc0).mono ?_
  rintro e w1 ⟨rfl, hb1⟩
  go_wp2_with fail
  go_ret3
  exact ⟨rfl, hb1⟩

set_option maxHeartbeats 4000000 in
set_option maxRecDepth 100000 in
theorem rread_yes (A0 : Option Addr) (c0 : Nat) (l0 : List Int) (m n u : Nat) (w : World) (hr0 : RdB w A0 l0.length l0) (hc0 : l0.length ≤ c0) (hb : Bytes l0)
    (h : IsGet l0 ((n : Int), (u : Int), true)) (hu : u ≤ l0.length) (hl : l0.length ≤ 4611686018427387904) (hm : n ≤ m) (hm2 : m < 9223372036854775808) (hn : n ≤ l0.length - u) :
    Calls Try.prog 18 #[.slice A0 l0.length c0, .int .i64 m] w fun e w' => e = .returned (.tuple #[.string (strOfNums ((l0.drop u).take n)), .int .i64 (u + n), .bool true]) ∧ Below w.heap.size w w' := by
  obtain ⟨i0, hi0, _, hsz0, _⟩ := info_parts info5
  obtain ⟨y, hy⟩ : ∃ y : Nat, u + n = y := ⟨_, rfl⟩
  have hyi : ((u : Int) + (n : Int)) = (y : Int) := by omega
  have hyl : y ≤ l0.length := by omega
  have HWS : Aside0 (wrap64 (y : Int) = (y : Int)) := ⟨wrap64_small _ (by omega) (by omega)⟩
  have HWN : Aside0 (wrap64 (n : Int) = (n : Int)) := ⟨wrap64_small _ (by omega) (by omega)⟩
  obtain ⟨A', hcut, hA, hC⟩ := print_mid_of (P := Try.prog) (Value.int .u8) 0 23 5 .i64 .i64 Try.underlying23 hi0 hsz0 A0 c0 l0 (u : Int) (y : Int) (by omega) (by omega) (by omega) hc0
  have hmid : (l0.take y).drop u = (l0.drop u).take n := by rw [List.drop_take, show y - u = n by omega]
  have hln : ((l0.drop u).take n).length = n := by rw [List.length_take, List.length_drop]; omega
  simp only [Int.toNat_natCast] at hcut hA hC
  rw [hmid] at hcut hA
  rw [hln] at hcut hA
  have HA := Aside0.mk hA
  clear hA hC hmid
  rw [hyi]
  generalize (l0.drop u).take n = tx at HA hln ⊢
  have HG := Aside0.mk h
  have HR := Aside0.mk hr0
  have c1 : decide ((m : Int) < 0) = false := decide_eq_false (by omega)
  have c2 : decide (m < n) = false := decide_eq_false (by omega)
  have c3 : decide ((m : Int) < (n : Int)) = false := decide_eq_false (by omega)
  have w2 : IntKind.u64.wrap (m : Int) = (m : Int) := wraps_u64 _ (by omega) (by omega)
  obtain ⟨z, hz⟩ : ∃ z, l0.length - u = z := ⟨_, rfl⟩
  have w5 : IntKind.i64.wrap ((l0.length : Int) - (u : Int)) = (z : Int) := by rw [i64_w, wrap64_small _ (by omega) (by omega)]; omega
  have w6 : IntKind.u64.wrap (z : Int) = (z : Int) := wraps_u64 _ (by omega) (by omega)
  have c4 : decide (z < n) = false := decide_eq_false (by omega)
  have c5 : decide ((z : Int) < (n : Int)) = false := decide_eq_false (by omega)
  have w7 : wrap64 ((l0.length : Int) - (u : Int)) = (z : Int) := by rw [wrap64_small _ (by omega) (by omega)]; omega
  have w8 : IntKind.i64.wrap (n : Int) = (n : Int) := by rw [i64_w]; exact HWN.out
  have hwn := HWN.out
  have w10 : IntKind.i64.wrap ((u : Int) + (n : Int)) = (y : Int) := by
    rw [hyi, i64_w]
    exact HWS.out
  have w11 : wrap64 ((u : Int) + (n : Int)) = (y : Int) := by
    rw [hyi]
    exact HWS.out
  clear h hr0 hz hi0 hsz0 hy hyi hln hn hm hyl
  go_enter Try.func18, Try.ntmps18
  go_wp2_with fail
  refine (rget_call HG.out hb hl _ _ _ HR.out hc0).mono ?_
  rintro e w1 ⟨rfl, hb1⟩
  have hT : RdB w1 A' n tx := rdb_below (Kd.C_of_reads (h1 := fun _ => rfl) (HA.out w (Kd.reads_of_C HR.out))) hb1
  have hcv : ∀ q, (convert 23 9 (.slice A' n (c0 - u))).run Try.prog (w1.drewN q) = .ok (.string (strOfNums tx)) (w1.drewN q) := fun q => conv hT _ q
  have hcv0 := conv0 hT (c0 - u)
  go_wp2_with fail
  go_ret3
  exact ⟨rfl, hb1⟩

/-- What is read of a list. -/
theorem rread_call {l : List Int} {r : Int × Int × Bool} (h : IsGet l r) (hb : Bytes l) (hl : l.length ≤ 4611686018427387904) (a1 : Int) (ha : a1 < 9223372036854775808) (A : Option Addr) (c : Nat) (w : World) (hr : RdB w A l.length l) (hc : l.length ≤ c) (x : ByteArray × Int × Bool) (hx : readR l r a1 = x) :
    Calls Try.prog 18 #[.slice A l.length c, .int .i64 a1] w fun e w' => e = .returned (.tuple #[.string x.1, .int .i64 x.2.1, .bool x.2.2]) ∧ Below w.heap.size w w' := by
  subst hx
  have hu := h.used
  obtain ⟨n, u, is⟩ := r
  obtain ⟨h1, h2, h3, h4⟩ := hu
  simp only at h1 h2 h3 h4
  obtain ⟨n, rfl⟩ := Int.eq_ofNat_of_zero_le h3
  obtain ⟨u, rfl⟩ := Int.eq_ofNat_of_zero_le h1
  unfold readR
  cases is with
  | false =>
    rw [if_neg (by simp)]
    exact rread_no A c l a1 n u w hr hc hb h (by omega) hl
  | true =>
    by_cases ha0 : a1 < 0
    · rw [if_neg (by simp only; omega)]
      exact rread_neg A c l a1 n u w hr hc hb h (by omega) hl ha0
    · obtain ⟨m, rfl⟩ := Int.eq_ofNat_of_zero_le (show 0 ≤ a1 by omega)
      by_cases hm : n ≤ m
      · by_cases hn : n ≤ l.length - u
        · rw [if_pos ⟨rfl, by omega, by simp only; omega, by simp only; omega⟩]
          simp only [Int.toNat_natCast]
          exact rread_yes A c l m n u w hr hc hb h (by omega) hl hm (by omega) hn
        · rw [if_neg (by simp only; omega)]
          exact rread_far2 A c l m n u w hr hc hb h (by omega) hl hm (by omega) (by omega)
      · rw [if_neg (by simp only; omega)]
        exact rread_far1 A c l m n u w hr hc hb h (by omega) hl (by omega) (by omega)

end Go.Proofs.Ytghafocfbamcdaa.X
