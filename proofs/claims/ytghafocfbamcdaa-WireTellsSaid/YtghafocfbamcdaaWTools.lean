/- The contracts of wire's functions in words of lists, for walks by hand. -/
import Derived.Deep.RegionHeld
import Derived.Test.YtghafocfbamcdaaWLaws
namespace Go.Proofs.Ytghafocfbamcdaa.X
set_option linter.unusedVariables false
set_option linter.unusedSimpArgs false
open Go.RowKit Go.Proofs.YtghafocfbamcdaaW.PrintWords Go.Proofs.YtghafocfbamcdaaW.PrintLast Go.Proofs.YtghafocfbamcdaaW.PrintMore

theorem awake_call (w : World) : Calls Try.prog 12 #[] w fun e w' => e = .returned (.bool true) ∧ Below w.heap.size w w' :=
  rolodexlaw01_awake.calls 60 true w (awake_eq 60 (by omega))

/-- A slice that reads as a list, whoever owns it. -/
abbrev RdB (w : World) (A : Option Addr) (n : Nat) (l : List Int) : Prop := Kd.C (Kd.int .u8) w A n l

theorem row_slice {w : World} {base : Nat} {ok : Nat → Prop} {v : Value} {l : List Int} (h : Kd.R (Kd.int .u8) 5 w base ok v l) : ∃ A c, v = .slice A l.length c ∧ l.length ≤ c ∧ RdB w A l.length l := Kd.R_reads h

theorem put_call (n : Nat) (hn : n < 18446744073709551616) (w : World) : Calls Try.prog 13 #[.int .u64 n] w fun e w' => ∃ A c, e = .returned (.slice A (put n).length c) ∧ (put n).length ≤ c ∧ RdB w' A (put n).length (put n) ∧ Below w.heap.size w w' := by
  refine (wire_Put.calls 20 n _ w (Put_eq n hn 20 (by omega))).mono ?_
  rintro e w' ⟨v, rfl, ho, hb⟩
  obtain ⟨A, c, rfl, hc, hr⟩ := row_slice ho
  exact ⟨A, c, rfl, hc, hr, hb⟩
theorem text_call (s : ByteArray) (hs : s.size ≤ 140737488351232) (w : World) : Calls Try.prog 15 #[.string s] w fun e w' => ∃ A c, e = .returned (.slice A (put s.size ++ bytesOf s).length c) ∧ (put s.size ++ bytesOf s).length ≤ c ∧ RdB w' A (put s.size ++ bytesOf s).length (put s.size ++ bytesOf s) ∧ Below w.heap.size w w' := by
  refine (wire_Text.calls 20 s _ w (Text_eq s hs 20 (by omega))).mono ?_
  rintro e w' ⟨v, rfl, ho, hb⟩
  obtain ⟨A, c, rfl, hc, hr⟩ := row_slice ho
  exact ⟨A, c, rfl, hc, hr, hb⟩
theorem get_call {l : List Int} {n u : Int} {is : Bool} (h : IsGet l (n, u, is)) (hb : Bytes l) (hl : l.length ≤ 4611686018427387904) (A : Option Addr) (c : Nat) (w : World) (hr : RdB w A l.length l) (hc : l.length ≤ c) :
    Calls Try.prog 14 #[.slice A l.length c] w fun e w' => e = .returned (.tuple #[.int .u64 n, .int .i64 u, .bool is]) ∧ ∃ q, w' = w.drewN q := by
  refine (wire_Get.calls (2 * l.length + 3) A c l n u is w hr hc (Get_eq h hb hl _ (by omega))).mono ?_
  rintro e w' ⟨rfl, ⟨q, rfl⟩⟩
  exact ⟨rfl, q, rfl⟩
theorem read_call {l : List Int} {r : Int × Int × Bool} (h : IsGet l r) (hb : Bytes l) (hl : l.length ≤ 4611686018427387904) (a1 : Int) (A : Option Addr) (c : Nat) (w : World) (hr : RdB w A l.length l) (hc : l.length ≤ c) :
    Calls Try.prog 16 #[.slice A l.length c, .int .i64 a1] w fun e w' => e = .returned (.tuple #[.string (readR l r a1).1, .int .i64 (readR l r a1).2.1, .bool (readR l r a1).2.2]) ∧ Below w.heap.size w w' :=
  wire_Read.calls (2 * l.length + 3) A c l a1 _ _ _ w hr hc (Read_of h hb hl a1 _ (by omega))

/-- Its text, in whatever later draw. -/
theorem conv {w : World} {A : Option Addr} {n : Nat} {l : List Int} (h : RdB w A n l) (c q : Nat) : (convert 23 9 (.slice A n c)).run Try.prog (w.drewN q) = .ok (.string (strOfNums l)) (w.drewN q) :=
  Kd.C_string (P := Try.prog) Try.underlying23 Try.underlying5 Try.underlying9 (Kd.C_drewN h q)
theorem conv0 {w : World} {A : Option Addr} {n : Nat} {l : List Int} (h : RdB w A n l) (c : Nat) : (convert 23 9 (.slice A n c)).run Try.prog w = .ok (.string (strOfNums l)) w :=
  Kd.C_string (P := Try.prog) Try.underlying23 Try.underlying5 Try.underlying9 h
theorem rdb_take {w : World} {A : Option Addr} {l : List Int} (h : RdB w A l.length l) (m : Nat) (hm : m ≤ l.length) : RdB w A m (l.take m) := by
  obtain ⟨i0, hi0, _, hsz0, _⟩ := info_parts info5
  obtain ⟨_, hA, _⟩ := print_take_of (P := Try.prog) (Value.int .u8) 0 23 5 .i64 Try.underlying23 hi0 hsz0 A l.length l (m : Int) (by omega) (by omega) (Nat.le_refl _)
  have := hA w (Kd.reads_of_C h)
  simp only [Int.toNat_natCast] at this
  rw [List.length_take, Nat.min_eq_left hm] at this
  exact Kd.C_of_reads (h1 := fun _ => rfl) this
theorem rdb_drop (A : Option Addr) (c : Nat) (l : List Int) (m : Nat) (hm : m ≤ l.length) (hc : l.length ≤ c) :
    ∃ A' : Option Addr, (∀ W : World, (Instr.slice 23 (.slice A l.length c) (some (.int .i64 (m : Int))) none none).run Try.prog W = .ok (.slice A' (l.length - m) (c - m)) W) ∧ (∀ w : World, RdB w A l.length l → RdB w A' (l.length - m) (l.drop m)) ∧ l.length - m ≤ c - m := by
  obtain ⟨i0, hi0, _, hsz0, _⟩ := info_parts info5
  obtain ⟨A', hcut, hA, hC⟩ := print_drop_of (P := Try.prog) (Value.int .u8) 0 23 5 .i64 Try.underlying23 hi0 hsz0 A c l (m : Int) (by omega) (by omega) hc
  simp only [Int.toNat_natCast, List.length_drop] at hcut hA hC
  exact ⟨A', hcut, fun w h => Kd.C_of_reads (h1 := fun _ => rfl) (hA w (Kd.reads_of_C h)), hC⟩
theorem rdb_below {w w' : World} {A : Option Addr} {n : Nat} {l : List Int} (h : RdB w A n l) (hb : Below w.heap.size w w') : RdB w' A n l := Kd.C_below h hb
theorem rdb_drewN {w : World} {A : Option Addr} {n : Nat} {l : List Int} (h : RdB w A n l) (q : Nat) : RdB (w.drewN q) A n l := Kd.C_drewN h q

theorem rdb_cut (A : Option Addr) (c : Nat) (l : List Int) (m : Nat) (hm : m ≤ l.length) (hc : l.length ≤ c) :
    ∀ W : World, (Instr.slice 23 (.slice A l.length c) none (some (.int .i64 (m : Int))) none).run Try.prog W = .ok (.slice A m c) W := by
  obtain ⟨i0, hi0, _, hsz0, _⟩ := info_parts info5
  obtain ⟨h, _, _⟩ := print_take_of (P := Try.prog) (Value.int .u8) 0 23 5 .i64 Try.underlying23 hi0 hsz0 A c l (m : Int) (by omega) (by omega) hc
  simp only [Int.toNat_natCast, List.length_take, Nat.min_eq_left hm] at h
  exact h

/-- What is held of the world may be made more behind an operation. -/
theorem wpAnyH_str {P : Program} {md : Region.Mode} {ops : Array Oper} {Q : Exit → Act → World → Prop} {S S2 : World → Prop} (h : ∀ W, S2 W → S W) :
    ∀ (fuel : Nat) (listed : Array Bool) (a : Act) (w : World), wpAnyH P md ops Q S2 fuel listed a w → wpAnyH P md ops Q S fuel listed a w
  | 0, _, _, _, hh => hh
  | fuel + 1, _, _, _, hh => ⟨hh.1, fun i hi => wpOp_mono (fun a' w' h' => ⟨h w' h'.1, wpAnyH_str h fuel _ a' w' h'.2⟩) (hh.2 i hi)⟩

theorem below_of_grown0 {w w1 : World} (h : w.grownBy w1 none) : Below w.heap.size w w1 := ⟨h.os, h.tape, h.output, h.size, fun i hi => h.block i hi (by simp)⟩
theorem own_row {w : World} {base n : Nat} {v : Value} {l : List Int} (h : w.ownsRow base 5 1 v n (nums .u8 l)) : ∃ A c, v = .slice A n c ∧ n ≤ c ∧ RdB w A n l := by
  have hn : n = l.length := by have := h.1; simp [nums] at this; omega
  subst hn
  exact row_slice (Kd.R_of_own (ok := fun _ => True) h (fun _ _ => trivial))
theorem get_call' {l : List Int} {n u : Int} {is : Bool} (h : IsGet l (n, u, is)) (hb : Bytes l) (hl : l.length ≤ 4611686018427387904) (m : Nat) (hm : m = l.length) (A : Option Addr) (c : Nat) (w : World) (hr : RdB w A m l) (hc : m ≤ c) :
    Calls Try.prog 14 #[.slice A m c] w fun e w' => e = .returned (.tuple #[.int .u64 n, .int .i64 u, .bool is]) ∧ ∃ q, w' = w.drewN q := by
  subst hm
  exact get_call h hb hl A c w hr hc
theorem read_call' {l : List Int} {r : Int × Int × Bool} (h : IsGet l r) (hb : Bytes l) (hl : l.length ≤ 4611686018427387904) (a1 : Int) (m : Nat) (hm : m = l.length) (A : Option Addr) (c : Nat) (w : World) (hr : RdB w A m l) (hc : m ≤ c) (x : ByteArray × Int × Bool) (hx : readR l r a1 = x) :
    Calls Try.prog 16 #[.slice A m c, .int .i64 a1] w fun e w' => e = .returned (.tuple #[.string x.1, .int .i64 x.2.1, .bool x.2.2]) ∧ Below w.heap.size w w' := by
  subst hm hx
  exact read_call h hb hl a1 A c w hr hc
theorem bytes_app {l m : List Int} (h : Bytes l) (h2 : Bytes m) : Bytes (l ++ m) := fun x hx => (List.mem_append.1 hx).elim (h x) (h2 x)
theorem bytes_take' {l : List Int} (h : Bytes l) (i : Nat) : Bytes (l.take i) := fun x hx => h x (List.mem_of_mem_take hx)
theorem bytes_drop' {l : List Int} (h : Bytes l) (i : Nat) : Bytes (l.drop i) := fun x hx => h x (List.mem_of_mem_drop hx)
theorem bytes_of_wf {l : List Int} (h : ∀ x ∈ l, (Lit.int .u8 x).wf = true) : Bytes l := fun x hx => by
  have := h x hx
  simp only [Lit.wf, IntKind.min, IntKind.max, IntKind.bits, IntKind.signed, Bool.and_eq_true, decide_eq_true_eq] at this
  simp at this
  exact this

end Go.Proofs.Ytghafocfbamcdaa.X
