/- Turning a word right: what the printed form gives. -/
import Derived.Test.YtenkaaigalcgcaaXx5
namespace Go.Proofs.Ytenkaaigalcgcaa.X
set_option linter.unusedVariables false
set_option linter.unusedSimpArgs false
open Go.RowKit Go.Proofs.YtenkaaigalcgcaaW.PrintWords Go.Proofs.YtenkaaigalcgcaaW.PrintLast Go.Proofs.YtenkaaigalcgcaaW.PrintMore

/-- x turned right by n. -/
def rotr (x n : Int) : Int := Go.bits .or .u32 (shl .u32 x (32 - n)) (shr .u32 x n)
theorem right_2 (x : Int) : sha_right.f x 2 = some (rotr x 2) := by
  unfold sha_right.f bits_RotateLeft32.f rotr
  have h1 : Go.bits .and .u64 (IntKind.u64.wrap (wrap64 (-2))) 31 = 30 := by decide +kernel
  have h2 : IntKind.u64.wrap (32 - 30) = 2 := by decide +kernel
  rw [h1, h2, if_pos (by decide), if_pos (by decide)]
  rfl
theorem right_6 (x : Int) : sha_right.f x 6 = some (rotr x 6) := by
  unfold sha_right.f bits_RotateLeft32.f rotr
  have h1 : Go.bits .and .u64 (IntKind.u64.wrap (wrap64 (-6))) 31 = 26 := by decide +kernel
  have h2 : IntKind.u64.wrap (32 - 26) = 6 := by decide +kernel
  rw [h1, h2, if_pos (by decide), if_pos (by decide)]
  rfl
theorem right_7 (x : Int) : sha_right.f x 7 = some (rotr x 7) := by
  unfold sha_right.f bits_RotateLeft32.f rotr
  have h1 : Go.bits .and .u64 (IntKind.u64.wrap (wrap64 (-7))) 31 = 25 := by decide +kernel
  have h2 : IntKind.u64.wrap (32 - 25) = 7 := by decide +kernel
  rw [h1, h2, if_pos (by decide), if_pos (by decide)]
  rfl
theorem right_11 (x : Int) : sha_right.f x 11 = some (rotr x 11) := by
  unfold sha_right.f bits_RotateLeft32.f rotr
  have h1 : Go.bits .and .u64 (IntKind.u64.wrap (wrap64 (-11))) 31 = 21 := by decide +kernel
  have h2 : IntKind.u64.wrap (32 - 21) = 11 := by decide +kernel
  rw [h1, h2, if_pos (by decide), if_pos (by decide)]
  rfl
theorem right_13 (x : Int) : sha_right.f x 13 = some (rotr x 13) := by
  unfold sha_right.f bits_RotateLeft32.f rotr
  have h1 : Go.bits .and .u64 (IntKind.u64.wrap (wrap64 (-13))) 31 = 19 := by decide +kernel
  have h2 : IntKind.u64.wrap (32 - 19) = 13 := by decide +kernel
  rw [h1, h2, if_pos (by decide), if_pos (by decide)]
  rfl
theorem right_17 (x : Int) : sha_right.f x 17 = some (rotr x 17) := by
  unfold sha_right.f bits_RotateLeft32.f rotr
  have h1 : Go.bits .and .u64 (IntKind.u64.wrap (wrap64 (-17))) 31 = 15 := by decide +kernel
  have h2 : IntKind.u64.wrap (32 - 15) = 17 := by decide +kernel
  rw [h1, h2, if_pos (by decide), if_pos (by decide)]
  rfl
theorem right_18 (x : Int) : sha_right.f x 18 = some (rotr x 18) := by
  unfold sha_right.f bits_RotateLeft32.f rotr
  have h1 : Go.bits .and .u64 (IntKind.u64.wrap (wrap64 (-18))) 31 = 14 := by decide +kernel
  have h2 : IntKind.u64.wrap (32 - 14) = 18 := by decide +kernel
  rw [h1, h2, if_pos (by decide), if_pos (by decide)]
  rfl
theorem right_19 (x : Int) : sha_right.f x 19 = some (rotr x 19) := by
  unfold sha_right.f bits_RotateLeft32.f rotr
  have h1 : Go.bits .and .u64 (IntKind.u64.wrap (wrap64 (-19))) 31 = 13 := by decide +kernel
  have h2 : IntKind.u64.wrap (32 - 13) = 19 := by decide +kernel
  rw [h1, h2, if_pos (by decide), if_pos (by decide)]
  rfl
theorem right_22 (x : Int) : sha_right.f x 22 = some (rotr x 22) := by
  unfold sha_right.f bits_RotateLeft32.f rotr
  have h1 : Go.bits .and .u64 (IntKind.u64.wrap (wrap64 (-22))) 31 = 10 := by decide +kernel
  have h2 : IntKind.u64.wrap (32 - 10) = 22 := by decide +kernel
  rw [h1, h2, if_pos (by decide), if_pos (by decide)]
  rfl
theorem right_25 (x : Int) : sha_right.f x 25 = some (rotr x 25) := by
  unfold sha_right.f bits_RotateLeft32.f rotr
  have h1 : Go.bits .and .u64 (IntKind.u64.wrap (wrap64 (-25))) 31 = 7 := by decide +kernel
  have h2 : IntKind.u64.wrap (32 - 7) = 25 := by decide +kernel
  rw [h1, h2, if_pos (by decide), if_pos (by decide)]
  rfl
end Go.Proofs.Ytenkaaigalcgcaa.X
