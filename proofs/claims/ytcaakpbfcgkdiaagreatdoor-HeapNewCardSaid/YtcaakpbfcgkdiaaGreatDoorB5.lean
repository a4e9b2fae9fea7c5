/- Pieces of Below. Conditions: none beyond what each theorem says. -/
import Derived.Test.YtcaakpbfcgkdiaaGreatDoorB4
import Derived.KernelRfl

/- Pieces of squinchref06.Below, run by the kernel. MADE BY PROGRAM (plays.py). -/
namespace Go.Proofs.Abs
open Go
set_option maxRecDepth 1000000
theorem below_s0 : chunkB T0 noExt 100000 100 (bPiece 0) 105 bp .normal bs0 = true := by kernel_rfl
theorem below_s1 : chunkB T0 noExt 100000 100 (bPiece 1) 105 bs0 .normal bs1 = true := by kernel_rfl
theorem below_s2 : chunkB T0 noExt 100000 100 (bPiece 2) 105 bs1 .normal bs2 = true := by kernel_rfl
theorem below_s3 : chunkB T0 noExt 100000 100 (bPiece 3) 105 bs2 .normal bs3 = true := by kernel_rfl
theorem below_s4 : chunkB T0 noExt 100000 100 (bPiece 4) 105 bs3 .normal bs4 = true := by kernel_rfl
theorem below_q : chunkB T0 noExt 100000 100 bLoop 105 bl12 (.exit 4) bq = true := by kernel_rfl
theorem below_s6 : chunkB T0 noExt 100000 100 (bPiece 6) 105 bq .normal bs6 = true := by kernel_rfl
theorem below_s7 : chunkB T0 noExt 100000 100 (bPiece 7) 105 bs6 .ret bs7 = true := by kernel_rfl
end Go.Proofs.Abs
