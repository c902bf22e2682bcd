/- SectionParts: the walk, the plain law, the row. -/
import Derived.ProofKit
import Derived.OpenShut
import Derived.Deep.Slices
import Derived.Deep.Matrix
import Derived.Test.YtchaegfdcdlfaaaB2
import Derived.WalkLawsBesides
import Derived.Test.YtchaegfdcdlfaaaRows
import Derived.WalkKit
import Derived.ShutString
import Derived.ChangeOld
import Derived.Below
import Derived.SizedLaws
import Derived.Test.YtchaegfdcdlfaaaWSized

/- Lists that came in, opened: numbers, and lists of bytes. -/
namespace Go.Proofs.Ytchaegfdcdlfaaa.X
set_option linter.unusedVariables false
open Go.ChangeShapes Go.WideShapes Go.ChangeAt Go.RowKit Go.Deep Go.Proofs.YtchaegfdcdlfaaaW.PrintWords Go.Proofs.YtchaegfdcdlfaaaW.PrintLast Go.Proofs.YtchaegfdcdlfaaaW.PrintMore

section
variable {H : Type} {enc : TypeId × Value → H} {w : World} {base : Nat} {held : Bool}
theorem c_of_cells {k : IntKind} {W : World} {A : Option Addr} {L C : Nat} {Z : List Int} (hL : L ≤ C) (hC : C ≤ maxLen) (hZ : Z.length = C) (hn : A = none → C = 0) (hc : ∀ a', A = some a' → ∀ c, c < C → W.cell? (a'.add c) = some (.int k (Z.getD c 0))) :
    (Z.take L).length = L ∧ Kd.C (Kd.int k) W A L (Z.take L) := by
  have hl : (Z.take L).length = L := by rw [List.length_take]; omega
  refine ⟨hl, hl, by unfold maxLen at hC; omega, fun h0 => ?_⟩
  cases A with
  | none => have := hn rfl; omega
  | some a =>
    refine ⟨a, rfl, fun j p hj => ⟨[.int k p], rfl, rfl, fun i u hi => ?_⟩⟩
    have hi0 : i = 0 := by
      have := (List.getElem?_eq_some_iff.1 hi).1
      simpa using this
    subst hi0
    have hjl : j < L := by
      have := (List.getElem?_eq_some_iff.1 hj).1
      omega
    have h1 := hc a rfl j (by omega)
    have hu : u = .int k p := by simpa using hi.symm
    rw [hu]
    have hp : Z.getD j 0 = p := by
      rw [List.getElem?_take, if_pos hjl] at hj
      rw [List.getD_eq_getElem?_getD, hj]
      rfl
    rw [hp] at h1
    have e1 : j * (Kd.int k).sz + 0 = j := by
      show j * 1 + 0 = j
      omega
    rw [e1]
    exact h1
set_option maxRecDepth 100000 in
theorem open_nums {A : Option Addr} {len cap : Nat} {d : DataW H} {p : List MemPlace} (h : DataW.Trod enc Try.prog w base (fun _ => true) held 52 (.slice A len cap) d p) :
    ∃ ks : List Int, ks.length = len ∧ len ≤ cap ∧ Kd.C (Kd.int .i64) w A len ks := by
  obtain ⟨fuel, hf⟩ := h
  rcases open_ints Try.underlying52 Try.underlying3 (by kernel_rfl) hf with ⟨hcs, _⟩ | ⟨x, l, c, zs, hcs, _, hl, hm, hz, _, hcell, hwz⟩
  · simp [Value.cells] at hcs
    obtain ⟨rfl, rfl, rfl⟩ := hcs
    exact ⟨[], rfl, Nat.le_refl _, rfl, by omega, fun h => absurd h (by omega)⟩
  · simp [Value.cells] at hcs
    obtain ⟨rfl, rfl, rfl⟩ := hcs
    have hz2 : zs.length = cap := by simpa using hz
    obtain ⟨h1, h2⟩ := c_of_cells (k := .i64) (A := some x) hl hm hz2 (fun h => by cases h) (fun a' ha c hc => by injection ha with ha; subst ha; exact hcell c (by omega))
    exact ⟨zs.take len, h1, hl, h2⟩
set_option maxRecDepth 100000 in
theorem open_parts {A : Option Addr} {len cap : Nat} {d : DataW H} {p : List MemPlace} (h : DataW.Trod enc Try.prog w base (fun _ => true) held 53 (.slice A len cap) d p) :
    ∃ ls : List (List Int), ls.length = len ∧ len ≤ cap ∧ Kd.C (Kd.slice 5 (Kd.int .u8)) w A len ls ∧ ∀ l ∈ ls, ∀ x ∈ l, (Lit.int .u8 x).wf = true := by
  obtain ⟨fuel, hf⟩ := h
  rcases open_int_rows Try.underlying53 Try.underlying40 Try.underlying5 (by kernel_rfl) (by kernel_rfl) hf with ⟨hcs, _⟩ | ⟨a, l, c, B, L, C, Z, hcs, _, hl, hm, _, hro⟩
  · simp [Value.cells] at hcs
    obtain ⟨rfl, rfl, rfl⟩ := hcs
    exact ⟨[], rfl, Nat.le_refl _, ⟨rfl, by omega, fun h => absurd h (by omega)⟩, fun l hl => absurd hl (by simp)⟩
  · simp [Value.cells] at hcs
    obtain ⟨rfl, rfl, rfl⟩ := hcs
    refine ⟨(List.range len).map fun r => (Z r).take (L r), by simp, hl, ⟨by simp, by unfold maxLen at hm; omega, fun _ => ⟨a, rfl, fun j q hj => ?_⟩⟩, fun q hq x hx => ?_⟩
    · have hjl : j < len := by
        have := (List.getElem?_eq_some_iff.1 hj).1
        simpa using this
      have hq : (Z j).take (L j) = q := by simpa [hjl] using hj
      obtain ⟨h1, h2, h3, h4, h5, h6, h7⟩ := hro j (by omega)
      obtain ⟨k1, k2⟩ := c_of_cells (k := .u8) h2 h3 h4 h6 (fun a' ha => (h7 a' ha).2)
      rw [hq] at k1 k2
      refine ⟨[.slice (B j) (L j) (C j)], rfl, ⟨B j, C j, by rw [k1], by omega, by rw [k1]; exact k2⟩, fun i u hi => ?_⟩
      have hi0 : i = 0 := by
        have := (List.getElem?_eq_some_iff.1 hi).1
        simpa using this
      subst hi0
      have hu : u = .slice (B j) (L j) (C j) := by simpa using hi.symm
      rw [hu]
      have e1 : j * (Kd.slice 5 (Kd.int .u8)).sz + 0 = j := by
        show j * 1 + 0 = j
        omega
      rw [e1]
      exact h1
    · obtain ⟨j, hj, rfl⟩ := List.mem_map.1 hq
      have hj2 := List.mem_range.1 hj
      exact (hro j (by omega)).2.2.2.2.1 x (List.mem_of_mem_take hx)
end
end Go.Proofs.Ytchaegfdcdlfaaa.X

/- Sections that stand one behind the other are opened one by one: the walk. -/
namespace Go.Proofs.Ytchaegfdcdlfaaa.X
set_option linter.unusedVariables false
set_option linter.unusedSimpArgs false
open Go.RowKit Go.Maps Go.Proofs.Ytchaegfdcdlfaaa.Y Go.Proofs.YtchaegfdcdlfaaaW.PrintWords Go.Proofs.YtchaegfdcdlfaaaW.PrintLast Go.Proofs.YtchaegfdcdlfaaaW.PrintMore

theorem pack_callN (kind : Int) (A : Option Addr) (c : Nat) (l : List Int) (n : Nat) (hn : l.length = n) (w : World) (hr : RdB w A n l) (hc : n ≤ c) (h : kind < 0 ∨ 9 < kind ∨ 100000 < n) :
    Calls Try.prog 42 #[.int .i64 kind, .slice A n c] w fun e w' => ∃ A' c', e = .returned (.tuple #[.slice A' 0 c', .bool false]) ∧ Below w.heap.size w w' := by
  subst hn
  refine (section_Pack.calls 40 kind (fun _ => True) A c l _ _ w (V_of_C hr hc) (Pack_none h 40 (by omega))).mono ?_
  rintro e w' ⟨v, rfl, ho, hb2⟩
  obtain ⟨A', c', rfl, hc', hr'⟩ := Kd.R_reads ho
  exact ⟨A', c', rfl, hb2⟩
theorem part_at {W : World} {B : Option Addr} {n : Nat} {ls : List (List Int)} (h : Kd.C (Kd.slice 5 (Kd.int .u8)) W B n ls) {i : Nat} (hi : i < n) (l : List Int) (hl : ls.getD i [] = l) :
    ∃ ad A' c', B = some ad ∧ W.cell? (ad.add i) = some (.slice A' l.length c') ∧ l.length ≤ c' ∧ RdB W A' l.length l := by
  obtain ⟨ad, c, rfl, hc, hk, hcell⟩ := Kd.C_get h [] (i : Int) (by omega) (by omega)
  rw [Int.toNat_natCast, hl] at hk
  obtain ⟨A', c', rfl, hlc, hr⟩ := hk
  refine ⟨ad, A', c', rfl, ?_, hlc, hr⟩
  have := hcell 0 (.slice A' l.length c') rfl
  rw [Int.toNat_natCast] at this
  have e1 : i * (Kd.slice 5 (Kd.int .u8)).sz + 0 = i := by
    show i * 1 + 0 = i
    omega
  rwa [e1] at this
theorem flat_length {g : Nat → List Int} : ∀ {L : List Nat}, (∀ j ∈ L, (g j).length ≤ 115) → (L.flatMap g).length ≤ 115 * L.length
  | [], _ => by simp
  | x :: L, h => by
    have h1 := flat_length (g := g) (L := L) (fun j hj => h j (by simp [hj]))
    have h2 := h x (by simp)
    simp only [List.flatMap_cons, List.length_append, List.length_cons]
    omega
theorem flat_bytes {g : Nat → List Int} {L : List Nat} (h : ∀ j ∈ L, Bytes (g j)) : Bytes (L.flatMap g) := fun x hx => by
  obtain ⟨j, hj, hx⟩ := List.mem_flatMap.1 hx
  exact h j hj x hx
theorem flat_snoc (g : Nat → List Int) (i : Nat) : (List.range (i + 1)).flatMap g = (List.range i).flatMap g ++ g i := by
  rw [List.range_succ, List.flatMap_append]
  simp
theorem flat_drop (g : Nat → List Int) {i n : Nat} (h : i < n) : ((List.range n).drop i).flatMap g = g i ++ ((List.range n).drop (i + 1)).flatMap g := by
  rw [List.drop_eq_getElem_cons (by simpa using h), List.flatMap_cons]
  simp
theorem flat_end (g : Nat → List Int) (n : Nat) : ((List.range n).drop n).flatMap g = [] := by
  rw [List.drop_eq_nil_of_le (by simp)]
  rfl
/-- A part that is packed. -/
def OkAt (ks : List Int) (ls : List (List Int)) (j : Nat) : Prop := 0 ≤ ks.getD j 0 ∧ ks.getD j 0 ≤ 9 ∧ (ls.getD j []).length ≤ 100
def gP (ks : List Int) (ls : List (List Int)) (j : Nat) : List Int := packL (ks.getD j 0) (ls.getD j [])
theorem gP_length {ks : List Int} {ls : List (List Int)} {j : Nat} (h : OkAt ks ls j) : (gP ks ls j).length ≤ 115 := by
  unfold gP
  rw [packL_length]
  have := Go.Proofs.Ytchaegfdcdlfaaa.Y.put_length (ls.getD j []).length (by have := h.2.2; omega)
  have := h.2.2
  omega
theorem getD_bytes {ls : List (List Int)} (h : ∀ l ∈ ls, Bytes l) (j : Nat) : Bytes (ls.getD j []) := fun x hx => by
  rw [List.getD_eq_getElem?_getD] at hx
  cases hq : ls[j]? with
  | none => rw [hq] at hx; simp at hx
  | some l => rw [hq] at hx; exact h l (List.mem_of_getElem? hq) x hx
theorem gP_bytes {ks : List Int} {ls : List (List Int)} {j : Nat} (hb : ∀ l ∈ ls, Bytes l) (h : OkAt ks ls j) : Bytes (gP ks ls j) := packL_byt h.1 h.2.1 (getD_bytes hb j)
set_option maxHeartbeats 4000000 in
set_option maxRecDepth 100000 in
theorem parts_off0 (A B : Option Addr) (n ca m cb : Nat) (w : World) (h : 10 < m) : Calls Try.prog 13 #[.slice A n ca, .slice B m cb] w fun e w' => e = .returned (.bool true) ∧ Below w.heap.size w w' := by
  have e0 : decide ((m : Int) > 10) = true := decide_eq_true (by omega)
  have e0b : decide (10 < m) = true := decide_eq_true h
  go_enter Try.func13, Try.ntmps13
  go_wp2_with fail
  refine (awake2_call _).mono ?_
  rintro e w1 ⟨rfl, hb1⟩
  go_wp2_with fail
  go_ret
  exact ⟨rfl, hb1⟩
set_option maxHeartbeats 4000000 in
set_option maxRecDepth 100000 in
theorem parts_off1 (A B : Option Addr) (n ca m cb : Nat) (w : World) (h0 : ¬ 10 < m) (h : n ≠ m) : Calls Try.prog 13 #[.slice A n ca, .slice B m cb] w fun e w' => e = .returned (.bool true) ∧ Below w.heap.size w w' := by
  have e0 : decide ((m : Int) > 10) = false := decide_eq_false (by omega)
  have e0b : decide (10 < m) = false := decide_eq_false h0
  have e1 : ((n : Int) != (m : Int)) = true := by simp; omega
  have e1b : ((n : Int) = (m : Int)) = False := by simp; omega
  have e1n : (n = m) = False := by simp; omega
  go_enter Try.func13, Try.ntmps13
  go_wp2_with fail
  refine (awake2_call _).mono ?_
  rintro e w1 ⟨rfl, hb1⟩
  go_wp2_with fail
  go_ret
  exact ⟨rfl, hb1⟩
set_option maxHeartbeats 4000000 in
set_option maxRecDepth 100000 in
theorem parts_on (A B : Option Addr) (n ca cb : Nat) (ks : List Int) (ls : List (List Int)) (w : World) (hks : ks.length = n) (hls : ls.length = n) (hra : Kd.C (Kd.int .i64) w A n ks) (hrb : Kd.C (Kd.slice 5 (Kd.int .u8)) w B n ls) (hbb : ∀ l ∈ ls, Bytes l) (h0 : ¬ 10 < n) : Calls Try.prog 13 #[.slice A n ca, .slice B n cb] w fun e w' => e = .returned (.bool true) ∧ Below w.heap.size w w' := by
  have d0 : decide ((n : Int) > 10) = false := decide_eq_false (by omega)
  have d0b : decide (10 < n) = false := decide_eq_false h0
  have d1 : ((n : Int) != (n : Int)) = false := by simp
  have HRA := Aside0.mk hra
  have HRB := Aside0.mk hrb
  have HBB := Aside0.mk hbb
  have HN : Aside0 (n ≤ 10) := ⟨by omega⟩
  clear hra hrb hbb h0 hks hls
  go_enter Try.func13, Try.ntmps13
  go_wp2_with fail
  refine (awake2_call _).mono ?_
  rintro e w1 ⟨rfl, hb1⟩
  have HB1 := Aside0.mk hb1
  clear hb1
  go_wp2_with fail
  go_loopg [6, 7] n (fun k v6 v7 w' => ∃ (V : Value) (i : Nat) (fl : List Int), V = v6 ∧ v7 = .int .i64 i ∧ Aside0 (k = n - i ∧ i ≤ n) ∧ Aside0 (fl = (List.range i).flatMap (gP ks ls) ∧ ∀ j, j < i → OkAt ks ls j) ∧ Aside0 (Kd.R (Kd.int .u8) 5 w' w.heap.size (fun _ => True) v6 fl) ∧ Aside0 (Below w.heap.size w w'))
  case atStart => exact ⟨_, 0, [], rfl, rfl, ⟨by omega, by omega⟩, ⟨rfl, fun j hj => absurd hj (by omega)⟩, ⟨Kd.R_nil _ _ _ _ _⟩, HB1⟩
  case round =>
    clear HB1
    obtain ⟨v6, i, fl, rfl, rfl, HJ, HF, HR, HB⟩ := hrel
    by_cases hi : i < n
    · skip
      obtain ⟨li, hli⟩ : ∃ l, ls.getD i [] = l := ⟨_, rfl⟩
      obtain ⟨ki, hki⟩ : ∃ k, ks.getD i 0 = k := ⟨_, rfl⟩
      obtain ⟨ni, hni⟩ : ∃ n, li.length = n := ⟨_, rfl⟩
      obtain ⟨adL, Ai, ci, eL, xL, hci, hrl⟩ := part_at HRB.out hi li hli
      rw [hni] at xL hci hrl
      obtain ⟨adK, eK, xK⟩ := Kd.at_int HRA.out (i : Int) (by omega) (by omega)
      have hrk : rd ks (i : Int) = ki := by unfold rd; rw [Int.toNat_natCast]; exact hki
      rw [hrk, Int.toNat_natCast] at xK
      have HKC : Aside0 (∀ W, Below w.heap.size w W → W.cell? (adK.add i) = some (.int .i64 ki)) := ⟨fun W hW => (hW.cell (World.block_lt_of_cell? _ _ xK)).trans xK⟩
      have HLC : Aside0 (∀ W, Below w.heap.size w W → W.cell? (adL.add i) = some (.slice Ai ni ci)) := ⟨fun W hW => (hW.cell (World.block_lt_of_cell? _ _ xL)).trans xL⟩
      have HLR := Aside0.mk hrl
      have HNI := Aside0.mk hni
      have HCI := Aside0.mk hci
      have HBI : Aside0 (Bytes li) := ⟨by rw [← hli]; exact getD_bytes HBB.out i⟩
      have HLI := Aside0.mk hli
      have HKI := Aside0.mk hki
      have HI := Aside0.mk hi
      subst eL
      subst eK
      have e1 : decide ((i : Int) < (n : Int)) = true := by simpa using hi
      have e2 : ((i : Int) < (n : Int)) = True := by simpa using hi
      have e3 : (0 ≤ (i : Int)) = True := by simp
      have e4 : IntKind.i64.wrap ((i : Int) + 1) = ((i + 1 : Nat) : Int) := by have := HN.out; simp [IntKind.wrap, IntKind.bits, IntKind.signed]; omega
      clear hli hki hni xL xK hci hrl hrk
      by_cases hok : 0 ≤ ki ∧ ki ≤ 9 ∧ ni ≤ 100000
      · have HK0 := Aside0.mk hok.1
        have HK9 := Aside0.mk hok.2.1
        have HN1 := Aside0.mk hok.2.2
        obtain ⟨pk, hpk⟩ : ∃ p, packL ki li = p := ⟨_, rfl⟩
        obtain ⟨pm, hpm⟩ : ∃ m, pk.length = m := ⟨_, rfl⟩
        have HPK := Aside0.mk hpk
        have HPM := Aside0.mk hpm
        clear hok hpk hpm hi
        go_wp2_with fail
        refine wp_region_held_drew (S := (fun W => Kd.R (Kd.int .u8) 5 W w.heap.size (fun _ => True) v6 fl ∧ Below w.heap.size w W)) (by kernel_rfl) ((And.intro HR.out (below_drew HB.out))) (fun hHeld => ?_)
        refine wpAnyH_take (i := 0) (v := ?_) (by simp only [List.getElem?_toArray, List.getElem?_cons_succ, List.getElem?_cons_zero]; rfl) (by kernel_rfl) (by kernel_rfl) (by kernel_rfl) (by intro _ _ _ h; exact h) (Or.inl ⟨by rfl, ?hy⟩) (by assumption) ?_
        case hy => (intro W_ hW_; go_simp; first | done | with_reducible rfl)
        try simp only [Act.put, List.setIfInBounds_toArray, List.set_cons_zero, List.set_cons_succ]
        refine wpAnyH_take (i := 1) (v := ?_) (by simp only [List.getElem?_toArray, List.getElem?_cons_succ, List.getElem?_cons_zero]; rfl) (by kernel_rfl) (by kernel_rfl) (by kernel_rfl) (by intro _ _ _ h; exact h) (Or.inl ⟨by rfl, ?hy⟩) (by assumption) ?_
        case hy => (intro W_ hW_; go_simp; first | done | with_reducible rfl)
        try simp only [Act.put, List.setIfInBounds_toArray, List.set_cons_zero, List.set_cons_succ]
        refine wpAnyH_take (i := 2) (v := ?_) (by simp only [List.getElem?_toArray, List.getElem?_cons_succ, List.getElem?_cons_zero]; rfl) (by kernel_rfl) (by kernel_rfl) (by kernel_rfl) (by intro _ _ _ h; exact h) (Or.inl ⟨by rfl, ?hy⟩) (by assumption) ?_
        case hy => (intro W_ hW_; go_simp; first | done | with_reducible rfl)
        try simp only [Act.put, List.setIfInBounds_toArray, List.set_cons_zero, List.set_cons_succ]
        refine wpAnyH_take (i := 3) (v := ?_) (by simp only [List.getElem?_toArray, List.getElem?_cons_succ, List.getElem?_cons_zero]; rfl) (by kernel_rfl) (by kernel_rfl) (by kernel_rfl) (by intro _ _ _ h; exact h) (Or.inl ⟨by rfl, ?hy⟩) (by assumption) ?_
        case hy => (intro W_ hW_; have f_ := HKC.out W_ hW_.2; go_simp; first | done | with_reducible rfl)
        try simp only [Act.put, List.setIfInBounds_toArray, List.set_cons_zero, List.set_cons_succ]
        refine wpAnyH_take (i := 4) (v := ?_) (by simp only [List.getElem?_toArray, List.getElem?_cons_succ, List.getElem?_cons_zero]; rfl) (by kernel_rfl) (by kernel_rfl) (by kernel_rfl) (by intro _ _ _ h; exact h) (Or.inl ⟨by rfl, ?hy⟩) (by assumption) ?_
        case hy => (intro W_ hW_; go_simp; first | done | with_reducible rfl)
        try simp only [Act.put, List.setIfInBounds_toArray, List.set_cons_zero, List.set_cons_succ]
        refine wpAnyH_take (i := 5) (v := ?_) (by simp only [List.getElem?_toArray, List.getElem?_cons_succ, List.getElem?_cons_zero]; rfl) (by kernel_rfl) (by kernel_rfl) (by kernel_rfl) (by intro _ _ _ h; exact h) (Or.inl ⟨by rfl, ?hy⟩) (by assumption) ?_
        case hy => (intro W_ hW_; go_simp; first | done | with_reducible rfl)
        try simp only [Act.put, List.setIfInBounds_toArray, List.set_cons_zero, List.set_cons_succ]
        refine wpAnyH_take (i := 6) (v := ?_) (by simp only [List.getElem?_toArray, List.getElem?_cons_succ, List.getElem?_cons_zero]; rfl) (by kernel_rfl) (by kernel_rfl) (by kernel_rfl) (by intro _ _ _ h; exact h) (Or.inl ⟨by rfl, ?hy⟩) (by assumption) ?_
        case hy => (intro W_ hW_; go_simp; first | done | with_reducible rfl)
        try simp only [Act.put, List.setIfInBounds_toArray, List.set_cons_zero, List.set_cons_succ]
        refine wpAnyH_take (i := 7) (v := ?_) (by simp only [List.getElem?_toArray, List.getElem?_cons_succ, List.getElem?_cons_zero]; rfl) (by kernel_rfl) (by kernel_rfl) (by kernel_rfl) (by intro _ _ _ h; exact h) (Or.inl ⟨by rfl, ?hy⟩) (by assumption) ?_
        case hy => (intro W_ hW_; have f_ := HLC.out W_ hW_.2; go_simp; first | done | with_reducible rfl)
        try simp only [Act.put, List.setIfInBounds_toArray, List.set_cons_zero, List.set_cons_succ]
        refine wpAnyH_ready (rs := [8]) (by kernel_rfl) (by simp) ?_
        refine AllReadyH.cons (by simp only [List.getElem?_toArray, List.getElem?_cons_succ, List.getElem?_cons_zero]; rfl) (fun K hK => ?_) AllReadyH.nil
        rw [if_pos (by rfl)]
        go_wp2_with fail
        refine (pack_call2 ki Ai ci li ni HNI.out _ (Kd.C_below HLR.out hHeld.2) HCI.out HK0.out HK9.out HBI.out (by have := HN1.out; omega) pk HPK.out pm HPM.out).mono ?_
        rintro e w5 ⟨A5, c5, rfl, hc5, hr5, hb5⟩; have HR5 := Aside0.mk hr5; have HC5 := Aside0.mk hc5; clear hr5 hc5
        refine hK.out _ _ (And.intro (Kd.R_below hHeld.1 hb5) (below_step hHeld.2 hb5)) (fun hHeld2 => ?_)
        clear hK K hHeld
        have hHeld := hHeld2
        clear hHeld2
        try simp only [Act.put, List.setIfInBounds_toArray, List.set_cons_zero, List.set_cons_succ]
        refine wpAnyH_take (i := 9) (v := ?_) (by simp only [List.getElem?_toArray, List.getElem?_cons_succ, List.getElem?_cons_zero]; rfl) (by kernel_rfl) (by kernel_rfl) (by kernel_rfl) (by intro _ _ _ h; exact h) (Or.inl ⟨by rfl, ?hy⟩) (by assumption) ?_
        case hy => (intro W_ hW_; go_simp; first | done | with_reducible rfl)
        try simp only [Act.put, List.setIfInBounds_toArray, List.set_cons_zero, List.set_cons_succ]
        refine wpAnyH_take (i := 10) (v := ?_) (by simp only [List.getElem?_toArray, List.getElem?_cons_succ, List.getElem?_cons_zero]; rfl) (by kernel_rfl) (by kernel_rfl) (by kernel_rfl) (by intro _ _ _ h; exact h) (Or.inl ⟨by rfl, ?hy⟩) (by assumption) ?_
        case hy => (intro W_ hW_; go_simp; first | done | with_reducible rfl)
        try simp only [Act.put, List.setIfInBounds_toArray, List.set_cons_zero, List.set_cons_succ]
        refine wpAnyH_take (i := 11) (v := ?_) (by simp only [List.getElem?_toArray, List.getElem?_cons_succ, List.getElem?_cons_zero]; rfl) (by kernel_rfl) (by kernel_rfl) (by kernel_rfl) (by intro _ _ _ h; exact h) (Or.inl ⟨by rfl, ?hy⟩) (by assumption) ?_
        case hy => (intro W_ hW_; go_simp; first | done | with_reducible rfl)
        try simp only [Act.put, List.setIfInBounds_toArray, List.set_cons_zero, List.set_cons_succ]
        refine wpAnyH_take (i := 12) (v := ?_) (by simp only [List.getElem?_toArray, List.getElem?_cons_succ, List.getElem?_cons_zero]; rfl) (by kernel_rfl) (by kernel_rfl) (by kernel_rfl) (by intro _ _ _ h; exact h) (Or.inl ⟨by rfl, ?hy⟩) (by assumption) ?_
        case hy => (intro W_ hW_; go_simp; first | done | with_reducible rfl)
        try simp only [Act.put, List.setIfInBounds_toArray, List.set_cons_zero, List.set_cons_succ]
        refine wpAnyH_take (i := 13) (v := ?_) (by simp only [List.getElem?_toArray, List.getElem?_cons_succ, List.getElem?_cons_zero]; rfl) (by kernel_rfl) (by kernel_rfl) (by kernel_rfl) (by intro _ _ _ h; exact h) (Or.inl ⟨by rfl, ?hy⟩) (by assumption) ?_
        case hy => (intro W_ hW_; go_simp; first | done | with_reducible rfl)
        try simp only [Act.put, List.setIfInBounds_toArray, List.set_cons_zero, List.set_cons_succ]
        refine wpAnyH_done (by kernel_rfl) ?_ _
        have f_ := HLC.out _ hHeld.2
        by_cases h100 : ni ≤ 100
        · have g1 : decide ((ni : Int) > 100) = false := decide_eq_false (by omega)
          have g1b : decide (100 < ni) = false := decide_eq_false (by omega)
          have HOK : Aside0 (OkAt ks ls i) := ⟨by unfold OkAt; rw [HKI.out, HLI.out, HNI.out]; exact ⟨HK0.out, HK9.out, h100⟩⟩
          have HFL : Aside0 (fl.length ≤ 1150) := ⟨by
            have := flat_length (g := gP ks ls) (L := List.range i) (fun j hj => gP_length (HF.out.2 j (List.mem_range.1 hj)))
            rw [HF.out.1]
            rw [List.length_range] at this
            have := HI.out
            have := HN.out
            omega⟩
          have HPL : Aside0 (pm ≤ 115) := ⟨by have := gP_length HOK.out; unfold gP at this; rw [HKI.out, HLI.out, HPK.out, HPM.out] at this; exact this⟩
          clear h100
          go_wp2_with (first
            | ((with_reducible refine gate_builtin (b := .append) (xs := #[.tmp 59, .tmp 60]) rfl ?_); at_builtin; refine Kd.R_append_rows (Kd.int .u8) (w0 := w) w.heap.size rfl _ _ 40 5 (.int .u8 0) 1 rfl Try.underlying40 info5 rfl (by decide) (by omega) v6 fl pk A5 pm c5 (fun _ => True) (fun _ => False) rfl rfl hHeld.1 ?aR (fun _ _ h => h) (fun _ h => h.elim) (fun _ _ => trivial) hHeld.2 (below_size hHeld.2) (by have := HFL.out; have := HPL.out; omega) ?_; (case aR => exact HR5.out); intro v9 w9 hx9 hb9 hg9 hat9; have HR9 := Aside0.mk hx9; have HB9 := Aside0.mk hb9; clear hx9 hb9 hg9 hat9)
            | fail)
          go_roundg (n - (i + 1))
          case measure => have := HJ.out; have := HI.out; omega
          case rel =>
            refine ⟨_, i + 1, fl ++ pk, rfl, by simp [e4], ⟨rfl, by have := HI.out; omega⟩, ⟨?_, fun j hj => ?_⟩, HR9, HB9⟩
            · rw [flat_snoc, ← HF.out.1, ← HPK.out, ← HKI.out, ← HLI.out]
              rfl
            · by_cases hji : j < i
              · exact HF.out.2 j hji
              · obtain rfl : j = i := by omega
                exact HOK.out
        · have g1 : decide ((ni : Int) > 100) = true := decide_eq_true (by omega)
          have g1b : decide (100 < ni) = true := decide_eq_true (by omega)
          clear h100
          go_wp2_with fail
          go_ret
          exact ⟨rfl, hHeld.2⟩
      · have HBAD : Aside0 (ki < 0 ∨ 9 < ki ∨ 100000 < ni) := ⟨by omega⟩
        clear hok hi
        go_wp2_with fail
        refine wp_region_held_drew (S := (fun W => Kd.R (Kd.int .u8) 5 W w.heap.size (fun _ => True) v6 fl ∧ Below w.heap.size w W)) (by kernel_rfl) ((And.intro HR.out (below_drew HB.out))) (fun hHeld => ?_)
        refine wpAnyH_take (i := 0) (v := ?_) (by simp only [List.getElem?_toArray, List.getElem?_cons_succ, List.getElem?_cons_zero]; rfl) (by kernel_rfl) (by kernel_rfl) (by kernel_rfl) (by intro _ _ _ h; exact h) (Or.inl ⟨by rfl, ?hy⟩) (by assumption) ?_
        case hy => (intro W_ hW_; go_simp; first | done | with_reducible rfl)
        try simp only [Act.put, List.setIfInBounds_toArray, List.set_cons_zero, List.set_cons_succ]
        refine wpAnyH_take (i := 1) (v := ?_) (by simp only [List.getElem?_toArray, List.getElem?_cons_succ, List.getElem?_cons_zero]; rfl) (by kernel_rfl) (by kernel_rfl) (by kernel_rfl) (by intro _ _ _ h; exact h) (Or.inl ⟨by rfl, ?hy⟩) (by assumption) ?_
        case hy => (intro W_ hW_; go_simp; first | done | with_reducible rfl)
        try simp only [Act.put, List.setIfInBounds_toArray, List.set_cons_zero, List.set_cons_succ]
        refine wpAnyH_take (i := 2) (v := ?_) (by simp only [List.getElem?_toArray, List.getElem?_cons_succ, List.getElem?_cons_zero]; rfl) (by kernel_rfl) (by kernel_rfl) (by kernel_rfl) (by intro _ _ _ h; exact h) (Or.inl ⟨by rfl, ?hy⟩) (by assumption) ?_
        case hy => (intro W_ hW_; go_simp; first | done | with_reducible rfl)
        try simp only [Act.put, List.setIfInBounds_toArray, List.set_cons_zero, List.set_cons_succ]
        refine wpAnyH_take (i := 3) (v := ?_) (by simp only [List.getElem?_toArray, List.getElem?_cons_succ, List.getElem?_cons_zero]; rfl) (by kernel_rfl) (by kernel_rfl) (by kernel_rfl) (by intro _ _ _ h; exact h) (Or.inl ⟨by rfl, ?hy⟩) (by assumption) ?_
        case hy => (intro W_ hW_; have f_ := HKC.out W_ hW_.2; go_simp; first | done | with_reducible rfl)
        try simp only [Act.put, List.setIfInBounds_toArray, List.set_cons_zero, List.set_cons_succ]
        refine wpAnyH_take (i := 4) (v := ?_) (by simp only [List.getElem?_toArray, List.getElem?_cons_succ, List.getElem?_cons_zero]; rfl) (by kernel_rfl) (by kernel_rfl) (by kernel_rfl) (by intro _ _ _ h; exact h) (Or.inl ⟨by rfl, ?hy⟩) (by assumption) ?_
        case hy => (intro W_ hW_; go_simp; first | done | with_reducible rfl)
        try simp only [Act.put, List.setIfInBounds_toArray, List.set_cons_zero, List.set_cons_succ]
        refine wpAnyH_take (i := 5) (v := ?_) (by simp only [List.getElem?_toArray, List.getElem?_cons_succ, List.getElem?_cons_zero]; rfl) (by kernel_rfl) (by kernel_rfl) (by kernel_rfl) (by intro _ _ _ h; exact h) (Or.inl ⟨by rfl, ?hy⟩) (by assumption) ?_
        case hy => (intro W_ hW_; go_simp; first | done | with_reducible rfl)
        try simp only [Act.put, List.setIfInBounds_toArray, List.set_cons_zero, List.set_cons_succ]
        refine wpAnyH_take (i := 6) (v := ?_) (by simp only [List.getElem?_toArray, List.getElem?_cons_succ, List.getElem?_cons_zero]; rfl) (by kernel_rfl) (by kernel_rfl) (by kernel_rfl) (by intro _ _ _ h; exact h) (Or.inl ⟨by rfl, ?hy⟩) (by assumption) ?_
        case hy => (intro W_ hW_; go_simp; first | done | with_reducible rfl)
        try simp only [Act.put, List.setIfInBounds_toArray, List.set_cons_zero, List.set_cons_succ]
        refine wpAnyH_take (i := 7) (v := ?_) (by simp only [List.getElem?_toArray, List.getElem?_cons_succ, List.getElem?_cons_zero]; rfl) (by kernel_rfl) (by kernel_rfl) (by kernel_rfl) (by intro _ _ _ h; exact h) (Or.inl ⟨by rfl, ?hy⟩) (by assumption) ?_
        case hy => (intro W_ hW_; have f_ := HLC.out W_ hW_.2; go_simp; first | done | with_reducible rfl)
        try simp only [Act.put, List.setIfInBounds_toArray, List.set_cons_zero, List.set_cons_succ]
        refine wpAnyH_ready (rs := [8]) (by kernel_rfl) (by simp) ?_
        refine AllReadyH.cons (by simp only [List.getElem?_toArray, List.getElem?_cons_succ, List.getElem?_cons_zero]; rfl) (fun K hK => ?_) AllReadyH.nil
        rw [if_pos (by rfl)]
        go_wp2_with fail
        refine (pack_callN ki Ai ci li ni HNI.out _ (Kd.C_below HLR.out hHeld.2) HCI.out HBAD.out).mono ?_
        rintro e w5 ⟨A5, c5, rfl, hb5⟩
        refine hK.out _ _ (And.intro (Kd.R_below hHeld.1 hb5) (below_step hHeld.2 hb5)) (fun hHeld2 => ?_)
        clear hK K hHeld
        have hHeld := hHeld2
        clear hHeld2
        try simp only [Act.put, List.setIfInBounds_toArray, List.set_cons_zero, List.set_cons_succ]
        refine wpAnyH_take (i := 9) (v := ?_) (by simp only [List.getElem?_toArray, List.getElem?_cons_succ, List.getElem?_cons_zero]; rfl) (by kernel_rfl) (by kernel_rfl) (by kernel_rfl) (by intro _ _ _ h; exact h) (Or.inl ⟨by rfl, ?hy⟩) (by assumption) ?_
        case hy => (intro W_ hW_; go_simp; first | done | with_reducible rfl)
        try simp only [Act.put, List.setIfInBounds_toArray, List.set_cons_zero, List.set_cons_succ]
        refine wpAnyH_take (i := 10) (v := ?_) (by simp only [List.getElem?_toArray, List.getElem?_cons_succ, List.getElem?_cons_zero]; rfl) (by kernel_rfl) (by kernel_rfl) (by kernel_rfl) (by intro _ _ _ h; exact h) (Or.inl ⟨by rfl, ?hy⟩) (by assumption) ?_
        case hy => (intro W_ hW_; go_simp; first | done | with_reducible rfl)
        try simp only [Act.put, List.setIfInBounds_toArray, List.set_cons_zero, List.set_cons_succ]
        refine wpAnyH_take (i := 11) (v := ?_) (by simp only [List.getElem?_toArray, List.getElem?_cons_succ, List.getElem?_cons_zero]; rfl) (by kernel_rfl) (by kernel_rfl) (by kernel_rfl) (by intro _ _ _ h; exact h) (Or.inl ⟨by rfl, ?hy⟩) (by assumption) ?_
        case hy => (intro W_ hW_; go_simp; first | done | with_reducible rfl)
        try simp only [Act.put, List.setIfInBounds_toArray, List.set_cons_zero, List.set_cons_succ]
        refine wpAnyH_take (i := 12) (v := ?_) (by simp only [List.getElem?_toArray, List.getElem?_cons_succ, List.getElem?_cons_zero]; rfl) (by kernel_rfl) (by kernel_rfl) (by kernel_rfl) (by intro _ _ _ h; exact h) (Or.inl ⟨by rfl, ?hy⟩) (by assumption) ?_
        case hy => (intro W_ hW_; go_simp; first | done | with_reducible rfl)
        try simp only [Act.put, List.setIfInBounds_toArray, List.set_cons_zero, List.set_cons_succ]
        refine wpAnyH_take (i := 13) (v := ?_) (by simp only [List.getElem?_toArray, List.getElem?_cons_succ, List.getElem?_cons_zero]; rfl) (by kernel_rfl) (by kernel_rfl) (by kernel_rfl) (by intro _ _ _ h; exact h) (Or.inl ⟨by rfl, ?hy⟩) (by assumption) ?_
        case hy => (intro W_ hW_; go_simp; first | done | with_reducible rfl)
        try simp only [Act.put, List.setIfInBounds_toArray, List.set_cons_zero, List.set_cons_succ]
        refine wpAnyH_done (by kernel_rfl) ?_ _
        go_wp2_with fail
        go_ret
        exact ⟨rfl, hHeld.2⟩
    · have hin : n = i := by have := HJ.out; omega
      subst hin
      have e1 : decide ((n : Int) < (n : Int)) = false := by simp
      have e1n : decide (n < n) = false := by simp
      have HOKS : Aside0 (∀ j, j < n → OkAt ks ls j) := ⟨HF.out.2⟩
      obtain ⟨A3, c3, rfl, hc3, hr3⟩ := Kd.R_reads HR.out
      have HF0 : Aside0 (fl = ((List.range n).drop 0).flatMap (gP ks ls)) := ⟨by rw [List.drop_zero]; exact HF.out.1⟩
      have HR3 := Aside0.mk hr3
      have HC3 := Aside0.mk hc3
      clear hi hr3 hc3 HF HR HJ
      go_wp2_with fail
      clear e1 e1n
      go_loopg [6, 10] n (fun k v6 v10 w' => ∃ (A6 : Option Addr) (m6 c6 i : Nat) (fl2 : List Int), v6 = .slice A6 m6 c6 ∧ v10 = .int .i64 i ∧ Aside0 (k = n - i ∧ i ≤ n) ∧ Aside0 (fl2 = ((List.range n).drop i).flatMap (gP ks ls) ∧ fl2.length = m6) ∧ Aside0 (m6 ≤ c6) ∧ Aside0 (RdB w' A6 m6 fl2) ∧ Aside0 (Below w.heap.size w w'))
      case atStart => exact ⟨A3, fl.length, c3, 0, fl, rfl, rfl, ⟨by omega, by omega⟩, ⟨HF0.out, rfl⟩, HC3, HR3, HB⟩
      case round =>
        clear HR3 HC3 HF0 HB
        obtain ⟨A6, m6, c6, i, fl2, rfl, rfl, HJ, HF, HC6, HR6, HB⟩ := hrel
        by_cases hi : i < n
        · have hbs : Bytes fl2 := by rw [HF.out.1]; exact flat_bytes (fun j hj => gP_bytes HBB.out (HOKS.out j (List.mem_range.1 (List.mem_of_mem_drop hj))))
          have hfl : fl2.length ≤ 1150 := by
            have := flat_length (g := gP ks ls) (L := (List.range n).drop i) (fun j hj => gP_length (HOKS.out j (List.mem_range.1 (List.mem_of_mem_drop hj))))
            rw [HF.out.1]
            rw [List.length_drop, List.length_range] at this
            have := HN.out
            omega
          have hcut0 := flat_drop (gP ks ls) hi
          rw [← HF.out.1] at hcut0
          obtain ⟨rest, hrest⟩ : ∃ r, ((List.range n).drop (i + 1)).flatMap (gP ks ls) = r := ⟨_, rfl⟩
          rw [hrest] at hcut0
          have HREST := Aside0.mk hrest
          clear hrest
          obtain ⟨li, hli⟩ : ∃ l, ls.getD i [] = l := ⟨_, rfl⟩
          obtain ⟨ki, hki⟩ : ∃ k, ks.getD i 0 = k := ⟨_, rfl⟩
          obtain ⟨ni, hni⟩ : ∃ n, li.length = n := ⟨_, rfl⟩
          obtain ⟨adL, Ai, ci, eL, xL, hci, hrl⟩ := part_at HRB.out hi li hli
          rw [hni] at xL hci hrl
          obtain ⟨adK, eK, xK⟩ := Kd.at_int HRA.out (i : Int) (by omega) (by omega)
          have hrk : rd ks (i : Int) = ki := by unfold rd; rw [Int.toNat_natCast]; exact hki
          rw [hrk, Int.toNat_natCast] at xK
          have HKC : Aside0 (∀ W, Below w.heap.size w W → W.cell? (adK.add i) = some (.int .i64 ki)) := ⟨fun W hW => (hW.cell (World.block_lt_of_cell? _ _ xK)).trans xK⟩
          have HLC : Aside0 (∀ W, Below w.heap.size w W → W.cell? (adL.add i) = some (.slice Ai ni ci)) := ⟨fun W hW => (hW.cell (World.block_lt_of_cell? _ _ xL)).trans xL⟩
          have HLR := Aside0.mk hrl
          have HNI := Aside0.mk hni
          have HCI := Aside0.mk hci
          have HBI : Aside0 (Bytes li) := ⟨by rw [← hli]; exact getD_bytes HBB.out i⟩
          have HLI := Aside0.mk hli
          have HKI := Aside0.mk hki
          have HI := Aside0.mk hi
          subst eL
          subst eK
          have e1 : decide ((i : Int) < (n : Int)) = true := by simpa using hi
          have e2 : ((i : Int) < (n : Int)) = True := by simpa using hi
          have e3 : (0 ≤ (i : Int)) = True := by simp
          have e4 : IntKind.i64.wrap ((i : Int) + 1) = ((i + 1 : Nat) : Int) := by have := HN.out; simp [IntKind.wrap, IntKind.bits, IntKind.signed]; omega
          clear hli hki hni xL xK hci hrl hrk
          have hg : gP ks ls i = packL ki li := by unfold gP; rw [HKI.out, HLI.out]
          obtain ⟨pk, hpk⟩ : ∃ p, packL ki li = p := ⟨_, rfl⟩
          obtain ⟨pm, hpm⟩ : ∃ m, pk.length = m := ⟨_, rfl⟩
          rw [hg, hpk] at hcut0
          have hok := HOKS.out i hi
          unfold OkAt at hok
          rw [HKI.out, HLI.out] at hok
          have hbr : Bytes rest := fun x hx => hbs x (by rw [hcut0]; exact List.mem_append_right _ hx)
          have hm6 : fl2.length = m6 := HF.out.2
          have hle : pm ≤ fl2.length := by rw [hcut0, List.length_append]; omega
          have hrl : rest.length ≤ 1150 := by rw [hcut0, List.length_append] at hfl; omega
          have HO : Aside0 (openL fl2 = (ki, li, (pm : Int), 0)) := ⟨by
            have := open_pack (rest := rest) hok.1 hok.2.1 HBI.out (by have := hok.2.2; omega) hbr (by omega)
            rw [hpk, ← hcut0, hpm] at this
            exact this⟩
          obtain ⟨A9, hcut, hA9, hC9⟩ := rdb_drop A6 c6 fl2 pm hle (by have := HC6.out; omega)
          have hdr : fl2.drop pm = rest := by rw [hcut0, ← hpm, List.drop_left]
          obtain ⟨m9, hm9⟩ : ∃ m, m = m6 - pm := ⟨_, rfl⟩
          obtain ⟨c9, hc9⟩ : ∃ m, m = c6 - pm := ⟨_, rfl⟩
          rw [hm6, ← hm9, ← hc9] at hcut
          rw [hm6, ← hm9, hdr] at hA9
          rw [hm6, ← hm9, ← hc9] at hC9
          have hcut1 : ∀ W : World, (Instr.slice 40 (.slice A6 m6 c6) (some (.int .i64 (pm : Int))) none none).run Try.prog W = .ok (.slice A9 m9 c9) W := hcut
          have HA9 := Aside0.mk hA9
          have HC9 := Aside0.mk hC9
          have HRL : Aside0 (rest.length = m9) := ⟨by rw [← hdr, List.length_drop]; omega⟩
          have HBF := Aside0.mk hbs
          have HM6 : Aside0 (m6 ≤ 1150) := ⟨by omega⟩
          have g2 : decide ((pm : Int) > (m6 : Int)) = false := decide_eq_false (by omega)
          have g2b : ((m6 : Int) < (pm : Int)) = False := by simp; omega
          have g2n : decide (m6 < pm) = false := decide_eq_false (by omega)
          clear hbs hfl hcut0 hg hpk hpm hok hbr hm6 hle hrl hcut hA9 hC9 hdr hm9 hc9 hi
          go_wp2_with fail
          refine (open_call2 A6 c6 fl2 m6 HF.out.2 _ HR6.out HC6.out HBF.out (by have := HM6.out; omega) (ki, li, (pm : Int), 0) HO.out).mono ?_
          rintro e w7 ⟨A7, c7, rfl, hc7, hr7, hb7⟩
          dsimp only at hc7 hr7 ⊢
          rw [HNI.out] at hc7 hr7 ⊢
          have HB7 := Aside0.mk (below_step HB.out hb7)
          have HR67 := Aside0.mk (Kd.C_below HR6.out hb7)
          have HR7 := Aside0.mk hr7
          clear hc7 hr7 hb7
          go_wp2_with fail
          refine wp_region_held_drew (S := (fun W => RdB W A7 ni li ∧ RdB W A6 m6 fl2 ∧ Below w.heap.size w W)) (by kernel_rfl) ((And.intro HR7.out (And.intro HR67.out (below_drew HB7.out)))) (fun hHeld => ?_)
          refine wpAnyH_take (i := 0) (v := ?_) (by simp only [List.getElem?_toArray, List.getElem?_cons_succ, List.getElem?_cons_zero]; rfl) (by kernel_rfl) (by kernel_rfl) (by kernel_rfl) (by intro _ _ _ h; exact h) (Or.inl ⟨by rfl, ?hy⟩) (by assumption) ?_
          case hy => (intro W_ hW_; go_simp; first | done | with_reducible rfl)
          try simp only [Act.put, List.setIfInBounds_toArray, List.set_cons_zero, List.set_cons_succ]
          refine wpAnyH_take (i := 1) (v := ?_) (by simp only [List.getElem?_toArray, List.getElem?_cons_succ, List.getElem?_cons_zero]; rfl) (by kernel_rfl) (by kernel_rfl) (by kernel_rfl) (by intro _ _ _ h; exact h) (Or.inl ⟨by rfl, ?hy⟩) (by assumption) ?_
          case hy => (intro W_ hW_; go_simp; first | done | with_reducible rfl)
          try simp only [Act.put, List.setIfInBounds_toArray, List.set_cons_zero, List.set_cons_succ]
          refine wpAnyH_take (i := 2) (v := ?_) (by simp only [List.getElem?_toArray, List.getElem?_cons_succ, List.getElem?_cons_zero]; rfl) (by kernel_rfl) (by kernel_rfl) (by kernel_rfl) (by intro _ _ _ h; exact h) (Or.inl ⟨by rfl, ?hy⟩) (by assumption) ?_
          case hy => (intro W_ hW_; go_simp; first | done | with_reducible rfl)
          try simp only [Act.put, List.setIfInBounds_toArray, List.set_cons_zero, List.set_cons_succ]
          refine wpAnyH_take (i := 3) (v := ?_) (by simp only [List.getElem?_toArray, List.getElem?_cons_succ, List.getElem?_cons_zero]; rfl) (by kernel_rfl) (by kernel_rfl) (by kernel_rfl) (by intro _ _ _ h; exact h) (Or.inl ⟨by rfl, ?hy⟩) (by assumption) ?_
          case hy => (intro W_ hW_; go_simp; first | done | with_reducible rfl)
          try simp only [Act.put, List.setIfInBounds_toArray, List.set_cons_zero, List.set_cons_succ]
          refine wpAnyH_take (i := 4) (v := ?_) (by simp only [List.getElem?_toArray, List.getElem?_cons_succ, List.getElem?_cons_zero]; rfl) (by kernel_rfl) (by kernel_rfl) (by kernel_rfl) (by intro _ _ _ h; exact h) (Or.inl ⟨by rfl, ?hy⟩) (by assumption) ?_
          case hy => (intro W_ hW_; go_simp; first | done | with_reducible rfl)
          try simp only [Act.put, List.setIfInBounds_toArray, List.set_cons_zero, List.set_cons_succ]
          refine wpAnyH_take (i := 5) (v := ?_) (by simp only [List.getElem?_toArray, List.getElem?_cons_succ, List.getElem?_cons_zero]; rfl) (by kernel_rfl) (by kernel_rfl) (by kernel_rfl) (by intro _ _ _ h; exact h) (Or.inl ⟨by rfl, ?hy⟩) (by assumption) ?_
          case hy => (intro W_ hW_; go_simp; first | done | with_reducible rfl)
          try simp only [Act.put, List.setIfInBounds_toArray, List.set_cons_zero, List.set_cons_succ]
          refine wpAnyH_take (i := 6) (v := ?_) (by simp only [List.getElem?_toArray, List.getElem?_cons_succ, List.getElem?_cons_zero]; rfl) (by kernel_rfl) (by kernel_rfl) (by kernel_rfl) (by intro _ _ _ h; exact h) (Or.inl ⟨by rfl, ?hy⟩) (by assumption) ?_
          case hy => (intro W_ hW_; go_simp; first | done | with_reducible rfl)
          try simp only [Act.put, List.setIfInBounds_toArray, List.set_cons_zero, List.set_cons_succ]
          refine wpAnyH_take (i := 7) (v := ?_) (by simp only [List.getElem?_toArray, List.getElem?_cons_succ, List.getElem?_cons_zero]; rfl) (by kernel_rfl) (by kernel_rfl) (by kernel_rfl) (by intro _ _ _ h; exact h) (Or.inl ⟨by rfl, ?hy⟩) (by assumption) ?_
          case hy => (intro W_ hW_; have f_ := HKC.out W_ hW_.2.2; go_simp; first | done | with_reducible rfl)
          try simp only [Act.put, List.setIfInBounds_toArray, List.set_cons_zero, List.set_cons_succ]
          refine wpAnyH_take (i := 8) (v := ?_) (by simp only [List.getElem?_toArray, List.getElem?_cons_succ, List.getElem?_cons_zero]; rfl) (by kernel_rfl) (by kernel_rfl) (by kernel_rfl) (by intro _ _ _ h; exact h) (Or.inl ⟨by rfl, ?hy⟩) (by assumption) ?_
          case hy => (intro W_ hW_; go_simp; first | done | with_reducible rfl)
          try simp only [Act.put, List.setIfInBounds_toArray, List.set_cons_zero, List.set_cons_succ]
          refine wpAnyH_take (i := 9) (v := ?_) (by simp only [List.getElem?_toArray, List.getElem?_cons_succ, List.getElem?_cons_zero]; rfl) (by kernel_rfl) (by kernel_rfl) (by kernel_rfl) (by intro _ _ _ h; exact h) (Or.inl ⟨by rfl, ?hy⟩) (by assumption) ?_
          case hy => (intro W_ hW_; go_simp; first | done | with_reducible rfl)
          try simp only [Act.put, List.setIfInBounds_toArray, List.set_cons_zero, List.set_cons_succ]
          refine wpAnyH_take (i := 10) (v := ?_) (by simp only [List.getElem?_toArray, List.getElem?_cons_succ, List.getElem?_cons_zero]; rfl) (by kernel_rfl) (by kernel_rfl) (by kernel_rfl) (by intro _ _ _ h; exact h) (Or.inl ⟨by rfl, ?hy⟩) (by assumption) ?_
          case hy => (intro W_ hW_; go_simp; first | done | with_reducible rfl)
          try simp only [Act.put, List.setIfInBounds_toArray, List.set_cons_zero, List.set_cons_succ]
          refine wpAnyH_take (i := 11) (v := ?_) (by simp only [List.getElem?_toArray, List.getElem?_cons_succ, List.getElem?_cons_zero]; rfl) (by kernel_rfl) (by kernel_rfl) (by kernel_rfl) (by intro _ _ _ h; exact h) (Or.inl ⟨by rfl, ?hy⟩) (by assumption) ?_
          case hy => (intro W_ hW_; go_simp; first | done | with_reducible rfl)
          try simp only [Act.put, List.setIfInBounds_toArray, List.set_cons_zero, List.set_cons_succ]
          refine wpAnyH_take (i := 12) (v := ?_) (by simp only [List.getElem?_toArray, List.getElem?_cons_succ, List.getElem?_cons_zero]; rfl) (by kernel_rfl) (by kernel_rfl) (by kernel_rfl) (by intro _ _ _ h; exact h) (Or.inl ⟨by rfl, ?hy⟩) (by assumption) ?_
          case hy => (intro W_ hW_; have f_ := Kd.C_string (P := Try.prog) (A := A7) (c := c7) Try.underlying40 Try.underlying5 Try.underlying9 hW_.1; go_simp; first | done | with_reducible rfl)
          try simp only [Act.put, List.setIfInBounds_toArray, List.set_cons_zero, List.set_cons_succ]
          refine wpAnyH_take (i := 13) (v := ?_) (by simp only [List.getElem?_toArray, List.getElem?_cons_succ, List.getElem?_cons_zero]; rfl) (by kernel_rfl) (by kernel_rfl) (by kernel_rfl) (by intro _ _ _ h; exact h) (Or.inl ⟨by rfl, ?hy⟩) (by assumption) ?_
          case hy => (intro W_ hW_; go_simp; first | done | with_reducible rfl)
          try simp only [Act.put, List.setIfInBounds_toArray, List.set_cons_zero, List.set_cons_succ]
          refine wpAnyH_take (i := 14) (v := ?_) (by simp only [List.getElem?_toArray, List.getElem?_cons_succ, List.getElem?_cons_zero]; rfl) (by kernel_rfl) (by kernel_rfl) (by kernel_rfl) (by intro _ _ _ h; exact h) (Or.inl ⟨by rfl, ?hy⟩) (by assumption) ?_
          case hy => (intro W_ hW_; go_simp; first | done | with_reducible rfl)
          try simp only [Act.put, List.setIfInBounds_toArray, List.set_cons_zero, List.set_cons_succ]
          refine wpAnyH_take (i := 15) (v := ?_) (by simp only [List.getElem?_toArray, List.getElem?_cons_succ, List.getElem?_cons_zero]; rfl) (by kernel_rfl) (by kernel_rfl) (by kernel_rfl) (by intro _ _ _ h; exact h) (Or.inl ⟨by rfl, ?hy⟩) (by assumption) ?_
          case hy => (intro W_ hW_; go_simp; first | done | with_reducible rfl)
          try simp only [Act.put, List.setIfInBounds_toArray, List.set_cons_zero, List.set_cons_succ]
          refine wpAnyH_take (i := 16) (v := ?_) (by simp only [List.getElem?_toArray, List.getElem?_cons_succ, List.getElem?_cons_zero]; rfl) (by kernel_rfl) (by kernel_rfl) (by kernel_rfl) (by intro _ _ _ h; exact h) (Or.inl ⟨by rfl, ?hy⟩) (by assumption) ?_
          case hy => (intro W_ hW_; have f_ := HLC.out W_ hW_.2.2; go_simp; first | done | with_reducible rfl)
          try simp only [Act.put, List.setIfInBounds_toArray, List.set_cons_zero, List.set_cons_succ]
          refine wpAnyH_take (i := 17) (v := ?_) (by simp only [List.getElem?_toArray, List.getElem?_cons_succ, List.getElem?_cons_zero]; rfl) (by kernel_rfl) (by kernel_rfl) (by kernel_rfl) (by intro _ _ _ h; exact h) (Or.inl ⟨by rfl, ?hy⟩) (by assumption) ?_
          case hy => (intro W_ hW_; have f_ := Kd.C_string (P := Try.prog) (A := Ai) (c := ci) Try.underlying40 Try.underlying5 Try.underlying9 (Kd.C_below HLR.out hW_.2.2); go_simp; first | done | with_reducible rfl)
          try simp only [Act.put, List.setIfInBounds_toArray, List.set_cons_zero, List.set_cons_succ]
          refine wpAnyH_take (i := 18) (v := ?_) (by simp only [List.getElem?_toArray, List.getElem?_cons_succ, List.getElem?_cons_zero]; rfl) (by kernel_rfl) (by kernel_rfl) (by kernel_rfl) (by intro _ _ _ h; exact h) (Or.inl ⟨by rfl, ?hy⟩) (by assumption) ?_
          case hy => (intro W_ hW_; go_simp; first | done | with_reducible rfl)
          try simp only [Act.put, List.setIfInBounds_toArray, List.set_cons_zero, List.set_cons_succ]
          refine wpAnyH_take (i := 19) (v := ?_) (by simp only [List.getElem?_toArray, List.getElem?_cons_succ, List.getElem?_cons_zero]; rfl) (by kernel_rfl) (by kernel_rfl) (by kernel_rfl) (by intro _ _ _ h; exact h) (Or.inl ⟨by rfl, ?hy⟩) (by assumption) ?_
          case hy => (intro W_ hW_; go_simp; first | done | with_reducible rfl)
          try simp only [Act.put, List.setIfInBounds_toArray, List.set_cons_zero, List.set_cons_succ]
          refine wpAnyH_take (i := 20) (v := ?_) (by simp only [List.getElem?_toArray, List.getElem?_cons_succ, List.getElem?_cons_zero]; rfl) (by kernel_rfl) (by kernel_rfl) (by kernel_rfl) (by intro _ _ _ h; exact h) (Or.inl ⟨by rfl, ?hy⟩) (by assumption) ?_
          case hy => (intro W_ hW_; go_simp; first | done | with_reducible rfl)
          try simp only [Act.put, List.setIfInBounds_toArray, List.set_cons_zero, List.set_cons_succ]
          refine wpAnyH_take (i := 21) (v := ?_) (by simp only [List.getElem?_toArray, List.getElem?_cons_succ, List.getElem?_cons_zero]; rfl) (by kernel_rfl) (by kernel_rfl) (by kernel_rfl) (by intro _ _ _ h; exact h) (Or.inl ⟨by rfl, ?hy⟩) (by assumption) ?_
          case hy => (intro W_ hW_; go_simp; first | done | with_reducible rfl)
          try simp only [Act.put, List.setIfInBounds_toArray, List.set_cons_zero, List.set_cons_succ]
          refine wpAnyH_take (i := 22) (v := ?_) (by simp only [List.getElem?_toArray, List.getElem?_cons_succ, List.getElem?_cons_zero]; rfl) (by kernel_rfl) (by kernel_rfl) (by kernel_rfl) (by intro _ _ _ h; exact h) (Or.inl ⟨by rfl, ?hy⟩) (by assumption) ?_
          case hy => (intro W_ hW_; go_simp; first | done | with_reducible rfl)
          try simp only [Act.put, List.setIfInBounds_toArray, List.set_cons_zero, List.set_cons_succ]
          refine wpAnyH_take (i := 23) (v := ?_) (by simp only [List.getElem?_toArray, List.getElem?_cons_succ, List.getElem?_cons_zero]; rfl) (by kernel_rfl) (by kernel_rfl) (by kernel_rfl) (by intro _ _ _ h; exact h) (Or.inl ⟨by rfl, ?hy⟩) (by assumption) ?_
          case hy => (intro W_ hW_; go_simp; first | done | with_reducible rfl)
          try simp only [Act.put, List.setIfInBounds_toArray, List.set_cons_zero, List.set_cons_succ]
          refine wpAnyH_take (i := 24) (v := ?_) (by simp only [List.getElem?_toArray, List.getElem?_cons_succ, List.getElem?_cons_zero]; rfl) (by kernel_rfl) (by kernel_rfl) (by kernel_rfl) (by intro _ _ _ h; exact h) (Or.inl ⟨by rfl, ?hy⟩) (by assumption) ?_
          case hy => (intro W_ hW_; go_simp; first | done | with_reducible rfl)
          try simp only [Act.put, List.setIfInBounds_toArray, List.set_cons_zero, List.set_cons_succ]
          refine wpAnyH_take (i := 25) (v := ?_) (by simp only [List.getElem?_toArray, List.getElem?_cons_succ, List.getElem?_cons_zero]; rfl) (by kernel_rfl) (by kernel_rfl) (by kernel_rfl) (by intro _ _ _ h; exact h) (Or.inl ⟨by rfl, ?hy⟩) (by assumption) ?_
          case hy => (intro W_ hW_; go_simp; first | done | with_reducible rfl)
          try simp only [Act.put, List.setIfInBounds_toArray, List.set_cons_zero, List.set_cons_succ]
          refine wpAnyH_done (by kernel_rfl) ?_ _
          go_wp2_with fail
          go_roundg (n - (i + 1))
          case measure => have := HJ.out; have := HI.out; omega
          case rel => exact ⟨A9, m9, c9, i + 1, rest, rfl, by simp [e4], ⟨rfl, by have := HI.out; omega⟩, ⟨HREST.out.symm, HRL.out⟩, HC9, ⟨HA9.out _ hHeld.2.1⟩, ⟨hHeld.2.2⟩⟩
        · have hin : n = i := by have := HJ.out; omega
          subst hin
          have e1 : decide ((n : Int) < (n : Int)) = false := by simp
          have e1n : decide (n < n) = false := by simp
          have hm0 : m6 = 0 := by rw [← HF.out.2, HF.out.1, flat_end]; rfl
          subst hm0
          clear hi
          go_wp2_with fail
          go_ret
          exact ⟨rfl, HB.out⟩
theorem rolodexlaw02_SectionParts.walk (A : Option Addr) (n ca : Nat) (ks : List Int) (B : Option Addr) (m cb : Nat) (ls : List (List Int)) (w : World) (hks : ks.length = n) (hca : n ≤ ca) (hra : Kd.C (Kd.int .i64) w A n ks) (hls : ls.length = m) (hcb : m ≤ cb) (hrb : Kd.C (Kd.slice 5 (Kd.int .u8)) w B m ls) (hbb : ∀ l ∈ ls, ∀ x ∈ l, (Lit.int .u8 x).wf = true) : Calls Try.prog 13 #[.slice A n ca, .slice B m cb] w fun e w' => e = .returned (.bool true) ∧ Below w.heap.size w w' := by
  by_cases h0 : 10 < m
  · exact parts_off0 A B n ca m cb w h0
  · by_cases h1 : n ≠ m
    · exact parts_off1 A B n ca m cb w h0 h1
    · obtain rfl : n = m := by omega
      exact parts_on A B n ca cb ks ls w hks hls hra hrb (fun l hl => bytes_of_lits (hbb l hl)) h0
end Go.Proofs.Ytchaegfdcdlfaaa.X

/- The row of SectionParts, over the walk that is proved by hand. -/
namespace Go.Proofs.Ytchaegfdcdlfaaa.sectionParts
open Go.ChangeShapes Go.WideShapes Go.ChangeAt Go.RowKit
open Go.ChangeMaps (open_string shut_string)
set_option linter.unusedVariables false
theorem own : ownKnob Try.prog.godebug = none := by kernel_rfl
theorem laidOut : laidOutB Try.prog = true := by kernel_rfl
def IsRow (k : IntKind) (w : World) (a : Option Addr) (len cap : Nat) (zs : List Int) : Prop :=
  (a = none ∧ len = 0 ∧ cap = 0 ∧ zs = []) ∨
  ∃ x, a = some x ∧ len ≤ cap ∧ cap ≤ maxLen ∧ zs.length = cap ∧ (∀ i, i < zs.length → w.cell? (x.add i) = some (.int k (zs.getD i 0))) ∧ ∀ n ∈ zs, (Lit.int k n).wf = true
set_option maxRecDepth 100000 in
theorem lifted (os : Os) (started : os.Started) (H : Type) (enc : TypeId × Value → H) :
    ReturnsInHanded {} Try.checked os 13 .any (Rows.sectionPartsSpec.pre6 enc Try.prog Try.f13 Rows.sectionPartsRow.domain false) (Rows.sectionPartsSpec.post enc Try.prog Try.f13 false true false false) := by
  refine returnsInHanded_of_change_sized (C := Try.checked) own started (by kernel_rfl) Try.func13
    (ChangeSpec.witness6 (enc := enc) (C := Try.checked) false ⟨#[], #[.slice none 0 0, .slice none 0 0], []⟩ 8 (by kernel_rfl) (by kernel_rfl) (by kernel_rfl) (by kernel_rfl)) ?_
  intro W base args ds gs before hval0 hW hcnd hsz0 _
  have hsz : (DataW.weightsEach Try.prog (Try.f13.params.toList ++ Rows.sectionPartsSpec.plain.varTypes Try.prog) (ds ++ gs)).all (· ≤ reachBytes) = true := hsz0
  have hval : ∀ (j : Nat) t v, Try.f13.params[j]? = some t → args[j]? = some v → Value.okWide Try.prog W .any base t v := hval0
  have hW' := hW
  obtain ⟨p, q, hA0, hV, rfl, hfz, hnd⟩ := hW
  have hA : DataW.TrodAll enc Try.prog W 0 (fun _ => true) true Try.f13.params.toList args.toList ds p := hA0
  rw [Try.params13] at hA hval hsz
  obtain ⟨v0, vs0, d0, ds0, p0, q0, hargs, rfl, rfl, h0, r0⟩ := trodAll_cons hA
  obtain ⟨v1, vs1, d1, ds1, p1, q1, rfl, rfl, rfl, h1, r1⟩ := trodAll_cons r0
  obtain ⟨rfl, rfl, rfl⟩ := trodAll_nil r1
  obtain rfl : args = #[v0, v1] := by cases args; simp_all
  obtain ⟨rfl, rfl⟩ := trodVars_none hV
  obtain ⟨a0, len0, cap0, rfl⟩ := okWide_slice Try.underlying52 (hval 0 52 v0 rfl rfl)
  have k0 := h0
  have lt0 : ∀ x ∈ p0, x.block < W.heap.size := by obtain ⟨m, hm⟩ := k0; exact DataW.trod_lt m _ _ _ hm
  obtain ⟨l0, n0, c0, b0⟩ := X.open_nums h0
  obtain ⟨a1, len1, cap1, rfl⟩ := okWide_slice Try.underlying53 (hval 1 53 v1 rfl rfl)
  have k1 := h1
  have lt1 : ∀ x ∈ p1, x.block < W.heap.size := by obtain ⟨m, hm⟩ := k1; exact DataW.trod_lt m _ _ _ hm
  obtain ⟨l1, n1, c1, b1, o1⟩ := X.open_parts h1
  clear hA0 hval0 hsz0 hsz
  refine (X.rolodexlaw02_SectionParts.walk a0 len0 cap0 l0 a1 len1 cap1 l1 W n0 c0 b0 n1 c1 b1 o1).mono fun e W' ⟨he, bel⟩ => ?_
  subst he
  exact ⟨_, rfl, _, _, _, [], _, [], hW', trodAll_mk1 (shut_bool Try.underlying4 _), (trodAll_cons_mk (Below.trod laidOut (by kernel_rfl) (of_decide_eq_true (by kernel_rfl)) k0 bel lt0) (trodAll_cons_mk (Below.trod laidOut (by kernel_rfl) (of_decide_eq_true (by kernel_rfl)) k1 bel lt1) trodAll_mk0)), rfl, bel.frame _, fun h => by cases h⟩
theorem clos0 : (J.closT Try.prog 185 [13] []).isSome = true := by kernel_rfl
theorem clos1 : Try.prog.closure 13 = (J.closT Try.prog 185 [13] []).getD [] := J.clos_eq (of_decide_eq_true (by kernel_rfl)) clos0
theorem fact1 : Try.prog.inPlace 13 = [] := by unfold Program.inPlace; rw [clos1]; kernel_rfl
theorem fact2 : Try.prog.unfollowed 13 = true := by unfold Program.unfollowed; rw [clos1]; kernel_rfl
theorem fact3 : Try.prog.recurses 13 = true := by unfold Program.recurses; rw [fact2]; rfl
theorem fact4 : Try.prog.varsNamed 13 = [] := by unfold Program.varsNamed; rw [clos1]; kernel_rfl
set_option maxRecDepth 100000 in
theorem facts : joinedFacts Try.prog 13 Try.f13 Rows.sectionPartsSpec Rows.sectionPartsRow = true := by
  unfold joinedFacts
  simp only [Bool.and_eq_true]
  repeat' apply And.intro
  all_goals first | (with_reducible exact J.mayEnter) | (rw [J.liftsFinal]; kernel_rfl) | (rw [J.make]; kernel_rfl) | (rw [fact1]; kernel_rfl) | (rw [fact2]; kernel_rfl) | (rw [fact3]; kernel_rfl) | (rw [fact4]; kernel_rfl) | kernel_rfl
theorem over : Rows.sectionPartsRow.holds Try.pinned (OpenSpec.ofChange Rows.sectionPartsSpec) :=
  OpenClaim.holds_of_wide 13 Try.f13 rfl rfl rfl rfl rfl rfl rfl ⟨rfl, rfl, rfl, rfl, rfl⟩ rfl rfl rfl rfl rfl (by kernel_rfl) Try.func13 facts
    (of_decide_eq_true (by kernel_rfl)) (by unfold Func.isWrapper; first | (rw [if_pos (by decide +kernel)]; kernel_rfl) | (rw [if_neg (by decide +kernel)]; exact ⟨rfl, rfl⟩))
    (fun os started H enc _ => lifted os started H enc)
theorem proved : Rows.SectionPartsSaid := over
#print axioms proved
end Go.Proofs.Ytchaegfdcdlfaaa.sectionParts
namespace Go.Proofs.Ytchaegfdcdlfaaa
/-- The row, under a short name, for the claim. -/
theorem sectionParts_holds : Rows.SectionPartsSaid := sectionParts.proved
end Go.Proofs.Ytchaegfdcdlfaaa
