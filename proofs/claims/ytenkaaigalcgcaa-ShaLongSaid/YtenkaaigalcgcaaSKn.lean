/- Known digests; the chapter's example. -/
import Derived.Test.YtenkaaigalcgcaaSLess
namespace Go.Proofs.Ytenkaaigalcgcaa.X
set_option linter.unusedVariables false
set_option linter.unusedSimpArgs false
open Go.RowKit Go.Proofs.YtenkaaigalcgcaaW.PrintWords Go.Proofs.YtenkaaigalcgcaaW.PrintLast Go.Proofs.YtenkaaigalcgcaaW.PrintMore

def nilL : List Int := [227, 176, 196, 66, 152, 252, 28, 20, 154, 251, 244, 200, 153, 111, 185, 36, 39, 174, 65, 228, 100, 155, 147, 76, 164, 149, 153, 27, 120, 82, 184, 85]
def abcL : List Int := [186, 120, 22, 191, 143, 1, 207, 234, 65, 65, 64, 222, 93, 174, 34, 35, 176, 3, 97, 163, 150, 23, 122, 156, 180, 16, 255, 97, 242, 0, 21, 173]
def twoL : List Int := [36, 141, 106, 97, 210, 6, 56, 184, 229, 192, 38, 147, 12, 62, 96, 57, 163, 60, 228, 89, 100, 255, 33, 103, 246, 236, 237, 212, 25, 219, 6, 193]
set_option maxRecDepth 1000000
theorem sha_nil : shaOf (bytesOf ⟨#[]⟩) = nilL := by decide +kernel
theorem sha_abc : shaOf (bytesOf ⟨#[97, 98, 99]⟩) = abcL := by decide +kernel
theorem less_abc_nil : lessL abcL nilL = true := by decide +kernel
theorem less_abc_abc : lessL abcL abcL = false := by decide +kernel
theorem of_nil (w : World) : Calls Try.prog 12 #[.string ⟨#[]⟩] w fun e w' => e = .returned (.agg (cells8 nilL)) ∧ Below w.heap.size w w' := by
  have := of_call ⟨#[]⟩ w (by decide)
  rw [sha_nil] at this
  exact this
theorem of_abc (w : World) : Calls Try.prog 12 #[.string ⟨#[97, 98, 99]⟩] w fun e w' => e = .returned (.agg (cells8 abcL)) ∧ Below w.heap.size w w' := by
  have := of_call ⟨#[97, 98, 99]⟩ w (by decide)
  rw [sha_abc] at this
  exact this
theorem less_one (w : World) : Calls Try.prog 14 #[.agg (cells8 abcL), .agg (cells8 nilL)] w fun e w' => e = .returned (.bool true) ∧ Below w.heap.size w w' := by
  have := less_call abcL nilL w rfl rfl
  rw [less_abc_nil] at this
  exact this
theorem less_two (w : World) : Calls Try.prog 14 #[.agg (cells8 abcL), .agg (cells8 abcL)] w fun e w' => e = .returned (.bool false) ∧ Below w.heap.size w w' := by
  have := less_call abcL abcL w rfl rfl
  rw [less_abc_abc] at this
  exact this
set_option maxHeartbeats 1000000 in
theorem awake_call (w : World) : Calls Try.prog 8 #[] w fun e w' => e = .returned (.bool true) ∧ Below w.heap.size w w' := by
  go_enter Try.func8, Try.ntmps8
  go_wp2_with fail
  refine (of_abc _).mono ?_
  rintro e w1 ⟨rfl, hb1⟩
  have HB1 := Aside0.mk hb1
  clear hb1
  have hz : (cells8 abcL).size = 32 := by kernel_rfl
  have hst := store_new w1 #[.int .u8 0, .int .u8 0, .int .u8 0, .int .u8 0, .int .u8 0, .int .u8 0, .int .u8 0, .int .u8 0, .int .u8 0, .int .u8 0, .int .u8 0, .int .u8 0, .int .u8 0, .int .u8 0, .int .u8 0, .int .u8 0, .int .u8 0, .int .u8 0, .int .u8 0, .int .u8 0, .int .u8 0, .int .u8 0, .int .u8 0, .int .u8 0, .int .u8 0, .int .u8 0, .int .u8 0, .int .u8 0, .int .u8 0, .int .u8 0, .int .u8 0, .int .u8 0] (cells8 abcL) 24 (by kernel_rfl) (cells8_all abcL)
  have HX : Aside0 (Blk8 (w1.alloc (.cells (cells8 abcL) 24 (0, 0))) w1.heap.size 24 abcL) := ⟨heap_alloc_new w1 _⟩
  have h0 : (w1.alloc (.cells (cells8 abcL) 24 (0, 0))).cell? ⟨w1.heap.size, 0, none⟩ = some (.int .u8 186) := HX.out.cell (i := 0) (by decide)
  have h1 : (w1.alloc (.cells (cells8 abcL) 24 (0, 0))).cell? ⟨w1.heap.size, 1, none⟩ = some (.int .u8 120) := HX.out.cell (i := 1) (by decide)
  have h2 : (w1.alloc (.cells (cells8 abcL) 24 (0, 0))).cell? ⟨w1.heap.size, 2, none⟩ = some (.int .u8 22) := HX.out.cell (i := 2) (by decide)
  have h3 : (w1.alloc (.cells (cells8 abcL) 24 (0, 0))).cell? ⟨w1.heap.size, 3, none⟩ = some (.int .u8 191) := HX.out.cell (i := 3) (by decide)
  have h4 : (w1.alloc (.cells (cells8 abcL) 24 (0, 0))).cell? ⟨w1.heap.size, 31, none⟩ = some (.int .u8 173) := HX.out.cell (i := 31) (by decide)
  go_wp2_with fail
  clear hst h0 h1 h2 h3 h4
  refine (of_abc _).mono ?_
  rintro e w2 ⟨rfl, hb2⟩
  go_wp2_with fail
  refine (of_nil _).mono ?_
  rintro e w3 ⟨rfl, hb3⟩
  go_wp2_with fail
  refine (less_one _).mono ?_
  rintro e w4 ⟨rfl, hb4⟩
  have hb24 := below_step hb2 (below_step hb3 hb4)
  have HX4 : Aside0 (w4.heap[w1.heap.size]? = some (.cells (cells8 abcL) 24 (0, 0))) := ⟨Blk8.below HX.out hb24 (Blk8.lt HX.out)⟩
  have HB4 : Aside0 (Below w.heap.size w w4) := ⟨below_step (below_alloc HB1.out _) hb24⟩
  clear hb2 hb3 hb4 hb24
  go_wp2_with (first
    | ((with_reducible refine gate_dst (N := 32) rfl ?_); refine wpList_load_row_g (by rfl) 24 (.tmp 1) rfl w1.heap.size (by rfl) 24 (cells8 abcL) (0, 0) _ HX4.out rfl (by kernel_rfl) (by kernel_rfl) ?_)
    | ((with_reducible refine gate_dst (N := 33) rfl ?_); refine wpList_load_row_g (by rfl) 24 (.tmp 1) rfl w1.heap.size (by rfl) 24 (cells8 abcL) (0, 0) _ HX4.out rfl (by kernel_rfl) (by kernel_rfl) ?_)
    | fail)
  refine (less_two _).mono ?_
  rintro e w5 ⟨rfl, hb5⟩
  have HB5 : Aside0 (Below w.heap.size w w5) := ⟨below_step HB4.out hb5⟩
  clear hb5
  go_wp2_with fail
  go_ret
  exact ⟨rfl, HB5.out⟩
end Go.Proofs.Ytenkaaigalcgcaa.X
