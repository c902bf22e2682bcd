/- What wire.Read does, out of what wire.Get does: a contract in the printed form, by hand. -/
import Derived.Test.YtghafocfbamcdaaXa
namespace Go.Proofs.Ytghafocfbamcdaa.X
set_option linter.unusedVariables false
set_option linter.unusedSimpArgs false
open Go.RowKit Go.Proofs.YtghafocfbamcdaaW.PrintWords Go.Proofs.YtghafocfbamcdaaW.PrintLast Go.Proofs.YtghafocfbamcdaaW.PrintMore
attribute [local go_sem] max2_int min2_int max_two min_two max_three min_three max_four min_four

def wire_Read.f (k : Nat) (l0 : List Int) (a1 : Int) : Option (ByteArray × Int × Bool) :=
  (wire_Get.f k l0).bind fun r => if 0 ≤ r.2.1 ∧ r.2.1 ≤ l0.length ∧ 0 ≤ r.1 ∧ l0.length ≤ 4611686018427387904 then
    (if r.2.2 = true ∧ 0 ≤ a1 ∧ r.1 ≤ a1 ∧ r.1 ≤ (l0.length : Int) - r.2.1 then some (strOfNums ((l0.drop r.2.1.toNat).take r.1.toNat), r.2.1 + r.1, true) else some (⟨#[]⟩, 0, false)) else none
theorem wire_Read.mono : ∀ a0 a1 k, LeO (wire_Read.f k a0 a1) (wire_Read.f (k + 1) a0 a1) := by
  intro a0 a1 k
  unfold wire_Read.f
  exact LeO.bind (wire_Get.mono _ _) fun _ => LeO.refl _

set_option maxHeartbeats 4000000 in
set_option maxRecDepth 100000 in
theorem read_no (k : Nat) (A0 : Option Addr) (c0 : Nat) (l0 : List Int) (a1 : Int) (n u : Nat) (w : World) (hr0 : Kd.C (Kd.int .u8) w A0 l0.length l0) (hc0 : l0.length ≤ c0)
    (h : wire_Get.f k l0 = some ((n : Int), (u : Int), false)) (hu : u ≤ l0.length) (hl : l0.length ≤ 4611686018427387904) :
    Calls Try.prog 16 #[.slice A0 l0.length c0, .int .i64 a1] w fun e w' => e = .returned (.tuple #[.string ⟨#[]⟩, .int .i64 0, .bool false]) ∧ Below w.heap.size w w' := by
  obtain ⟨i0, hi0, _, hsz0, _⟩ := info_parts info5
  obtain ⟨A', hcut, hA, hC⟩ := print_drop_of (P := Try.prog) (Value.int .u8) 0 23 5 .i64 Try.underlying23 hi0 hsz0 A0 c0 l0 (u : Int) (by omega) (by omega) hc0
  simp only [Int.toNat_natCast, List.length_drop] at hcut
  clear hA hC hi0 hsz0
  have HG := Aside0.mk h
  have HR := Aside0.mk hr0
  clear h hr0
  go_enter Try.func16, Try.ntmps16
  go_wp2_with (go_at_call 14; refine (wire_Get.calls k _ _ l0 n u false _ HR.out hc0 HG.out).mono ?_; rintro e w' ⟨rfl, ⟨nd, rfl⟩⟩)
  go_ret3
  exact ⟨rfl, pw_below_drewN (Below.refl _ _) _⟩

set_option maxHeartbeats 4000000 in
set_option maxRecDepth 100000 in
theorem read_neg (k : Nat) (A0 : Option Addr) (c0 : Nat) (l0 : List Int) (a1 : Int) (n u : Nat) (w : World) (hr0 : Kd.C (Kd.int .u8) w A0 l0.length l0) (hc0 : l0.length ≤ c0)
    (h : wire_Get.f k l0 = some ((n : Int), (u : Int), true)) (hu : u ≤ l0.length) (hl : l0.length ≤ 4611686018427387904) (ha : a1 < 0) :
    Calls Try.prog 16 #[.slice A0 l0.length c0, .int .i64 a1] w fun e w' => e = .returned (.tuple #[.string ⟨#[]⟩, .int .i64 0, .bool false]) ∧ Below w.heap.size w w' := by
  obtain ⟨i0, hi0, _, hsz0, _⟩ := info_parts info5
  obtain ⟨A', hcut, hA, hC⟩ := print_drop_of (P := Try.prog) (Value.int .u8) 0 23 5 .i64 Try.underlying23 hi0 hsz0 A0 c0 l0 (u : Int) (by omega) (by omega) hc0
  simp only [Int.toNat_natCast, List.length_drop] at hcut
  clear hA hC hi0 hsz0
  have HG := Aside0.mk h
  have HR := Aside0.mk hr0
  clear h hr0
  have c1 : decide (0 ≤ a1) = false := decide_eq_false (by omega)
  go_enter Try.func16, Try.ntmps16
  go_wp2_with (go_at_call 14; refine (wire_Get.calls k _ _ l0 n u true _ HR.out hc0 HG.out).mono ?_; rintro e w' ⟨rfl, ⟨nd, rfl⟩⟩)
  go_ret3
  exact ⟨rfl, pw_below_drewN (Below.refl _ _) _⟩

set_option maxHeartbeats 4000000 in
set_option maxRecDepth 100000 in
theorem read_far (k : Nat) (A0 : Option Addr) (c0 : Nat) (l0 : List Int) (m : Nat) (n u : Nat) (w : World) (hr0 : Kd.C (Kd.int .u8) w A0 l0.length l0) (hc0 : l0.length ≤ c0)
    (h : wire_Get.f k l0 = some ((n : Int), (u : Int), true)) (hu : u ≤ l0.length) (hl : l0.length ≤ 4611686018427387904) (hm : m < n ∨ l0.length - u < n) :
    Calls Try.prog 16 #[.slice A0 l0.length c0, .int .i64 m] w fun e w' => e = .returned (.tuple #[.string ⟨#[]⟩, .int .i64 0, .bool false]) ∧ Below w.heap.size w w' := by
  obtain ⟨i0, hi0, _, hsz0, _⟩ := info_parts info5
  obtain ⟨A', hcut, hA, hC⟩ := print_drop_of (P := Try.prog) (Value.int .u8) 0 23 5 .i64 Try.underlying23 hi0 hsz0 A0 c0 l0 (u : Int) (by omega) (by omega) hc0
  simp only [Int.toNat_natCast, List.length_drop] at hcut
  clear hA hC hi0 hsz0
  have HG := Aside0.mk h
  have HR := Aside0.mk hr0
  clear h hr0
  obtain ⟨z, hz⟩ : ∃ z, l0.length - u = z := ⟨_, rfl⟩
  have hzl : z ≤ 4611686018427387904 := by omega
  rw [hz] at hcut hm
  have w1 : IntKind.u64.wrap (z : Int) = (z : Int) := by simp [IntKind.wrap, IntKind.bits, IntKind.signed]; omega
  by_cases hc : z < m
  · have c1 : decide (z < m) = true := decide_eq_true hc
    have c2 : decide (n ≤ z) = false := decide_eq_false (by omega)
    clear hz hm
    go_enter Try.func16, Try.ntmps16
    go_wp2_with (go_at_call 14; refine (wire_Get.calls k _ _ l0 n u true _ HR.out hc0 HG.out).mono ?_; rintro e w' ⟨rfl, ⟨nd, rfl⟩⟩)
    go_ret3
    exact ⟨rfl, pw_below_drewN (Below.refl _ _) _⟩
  · have c1 : decide (z < m) = false := decide_eq_false hc
    have c2 : decide (n ≤ m) = false := decide_eq_false (by omega)
    have w2 : IntKind.u64.wrap (m : Int) = (m : Int) := by simp [IntKind.wrap, IntKind.bits, IntKind.signed]; omega
    clear hz hm
    go_enter Try.func16, Try.ntmps16
    go_wp2_with (go_at_call 14; refine (wire_Get.calls k _ _ l0 n u true _ HR.out hc0 HG.out).mono ?_; rintro e w' ⟨rfl, ⟨nd, rfl⟩⟩)
    go_ret3
    exact ⟨rfl, pw_below_drewN (Below.refl _ _) _⟩

set_option maxHeartbeats 4000000 in
set_option maxRecDepth 100000 in
theorem read_yes (k : Nat) (A0 : Option Addr) (c0 : Nat) (l0 : List Int) (m : Nat) (n u : Nat) (w : World) (hr0 : Kd.C (Kd.int .u8) w A0 l0.length l0) (hc0 : l0.length ≤ c0)
    (h : wire_Get.f k l0 = some ((n : Int), (u : Int), true)) (hu : u ≤ l0.length) (hl : l0.length ≤ 4611686018427387904) (hm : n ≤ m) (hn : n ≤ l0.length - u) :
    Calls Try.prog 16 #[.slice A0 l0.length c0, .int .i64 m] w fun e w' => e = .returned (.tuple #[.string (strOfNums ((l0.drop u).take n)), .int .i64 (u + n), .bool true]) ∧ Below w.heap.size w w' := by
  obtain ⟨i0, hi0, _, hsz0, _⟩ := info_parts info5
  obtain ⟨A', hcut, hA, hC⟩ := print_drop_of (P := Try.prog) (Value.int .u8) 0 23 5 .i64 Try.underlying23 hi0 hsz0 A0 c0 l0 (u : Int) (by omega) (by omega) hc0
  simp only [Int.toNat_natCast] at hcut hA hC
  have hr1 := hA w (Kd.reads_of_C hr0)
  obtain ⟨hcut2, hA2, hC2⟩ := print_take_of (P := Try.prog) (Value.int .u8) 0 23 5 .i64 Try.underlying23 hi0 hsz0 A' (c0 - u) (l0.drop u) (n : Int) (by omega) (by rw [List.length_drop]; omega) hC
  have hr2 := hA2 w hr1
  simp only [Int.toNat_natCast] at hcut2 hr2 hC2
  have hln : ((l0.drop u).take n).length = n := by rw [List.length_take, List.length_drop]; omega
  rw [hln] at hcut2 hr2
  simp only [List.length_drop] at hcut hcut2
  have hcv : ∀ q, (convert 23 9 (.slice A' n (c0 - u))).run Try.prog (w.drewN q) = .ok (.string (strOfNums ((l0.drop u).take n))) (w.drewN q) := fun q =>
    Kd.C_string (P := Try.prog) Try.underlying23 Try.underlying5 Try.underlying9 (Kd.C_drewN (Kd.C_of_reads (h1 := fun _ => rfl) hr2) q)
  clear hA hC hi0 hsz0 hA2 hC2 hr1 hr2 hln
  have HG := Aside0.mk h
  have HR := Aside0.mk hr0
  clear h hr0
  obtain ⟨z, hz⟩ : ∃ z, l0.length - u = z := ⟨_, rfl⟩
  have hzl : z ≤ 4611686018427387904 := by omega
  have hzu : (u : Int) + n ≤ 4611686018427387904 := by omega
  rw [hz] at hcut hcut2 hn
  have w1 : IntKind.u64.wrap (z : Int) = (z : Int) := by simp [IntKind.wrap, IntKind.bits, IntKind.signed]; omega
  have w3 : IntKind.i64.wrap (n : Int) = (n : Int) := IntWalk.i64_in _ (by omega)
  have w4 : wrap64 (n : Int) = (n : Int) := by unfold wrap64; omega
  by_cases hc : z < m
  · have c1 : decide (z < m) = true := decide_eq_true hc
    have c2 : decide (n ≤ z) = true := decide_eq_true (by omega)
    clear hz
    go_enter Try.func16, Try.ntmps16
    go_wp2_with (go_at_call 14; refine (wire_Get.calls k _ _ l0 n u true _ HR.out hc0 HG.out).mono ?_; rintro e w' ⟨rfl, ⟨nd, rfl⟩⟩)
    go_ret3
    exact ⟨rfl, pw_below_drewN (Below.refl _ _) _⟩
  · have c1 : decide (z < m) = false := decide_eq_false hc
    have c2 : decide (n ≤ m) = true := decide_eq_true (by omega)
    have w2 : IntKind.u64.wrap (m : Int) = (m : Int) := by simp [IntKind.wrap, IntKind.bits, IntKind.signed]; omega
    clear hz
    go_enter Try.func16, Try.ntmps16
    go_wp2_with (go_at_call 14; refine (wire_Get.calls k _ _ l0 n u true _ HR.out hc0 HG.out).mono ?_; rintro e w' ⟨rfl, ⟨nd, rfl⟩⟩)
    go_ret3
    exact ⟨rfl, pw_below_drewN (Below.refl _ _) _⟩

theorem wire_Read.calls (k : Nat) (A0 : Option Addr) (c0 : Nat) (l0 : List Int) (a1 : Int) (r1 : ByteArray) (r2 : Int) (r3 : Bool) (w : World) (hr0 : Kd.C (Kd.int .u8) w A0 l0.length l0) (hc0 : l0.length ≤ c0) (h : wire_Read.f k l0 a1 = some (r1, r2, r3)) :
    Calls Try.prog 16 #[.slice A0 l0.length c0, .int .i64 a1] w fun e w' => e = .returned (.tuple #[.string r1, .int .i64 r2, .bool r3]) ∧ Below w.heap.size w w' := by
  unfold wire_Read.f at h
  obtain ⟨⟨n, u, is⟩, hg, h⟩ := Option.bind_eq_some_iff.mp h
  by_cases hc : 0 ≤ u ∧ u ≤ l0.length ∧ 0 ≤ n ∧ l0.length ≤ 4611686018427387904
  · rw [if_pos hc] at h
    obtain ⟨h1, h2, h3, h4⟩ := hc
    obtain ⟨n, rfl⟩ := Int.eq_ofNat_of_zero_le h3
    obtain ⟨u, rfl⟩ := Int.eq_ofNat_of_zero_le h1
    simp only at h hg
    cases is with
    | false =>
      rw [if_neg (by simp)] at h
      cases h
      exact read_no k A0 c0 l0 a1 n u w hr0 hc0 hg (by omega) h4
    | true =>
      by_cases ha : a1 < 0
      · rw [if_neg (by omega)] at h
        cases h
        exact read_neg k A0 c0 l0 a1 n u w hr0 hc0 hg (by omega) h4 ha
      · obtain ⟨m, rfl⟩ := Int.eq_ofNat_of_zero_le (show 0 ≤ a1 by omega)
        by_cases hn : n ≤ m ∧ n ≤ l0.length - u
        · rw [if_pos ⟨rfl, by omega, by omega, by omega⟩] at h
          cases h
          exact read_yes k A0 c0 l0 m n u w hr0 hc0 hg (by omega) h4 hn.1 hn.2
        · rw [if_neg (by omega)] at h
          cases h
          exact read_far k A0 c0 l0 m n u w hr0 hc0 hg (by omega) h4 (by omega)
  · rw [if_neg hc] at h
    cases h

end Go.Proofs.Ytghafocfbamcdaa.X
