/- Pieces of Below. Conditions: none beyond what each theorem says. -/
import Derived.Test.YtcaakpbfcgkdiaaGreatDoorB4
import Derived.KernelRfl

/- Pieces of squinchref06.Below, run by the kernel. MADE BY PROGRAM (plays.py). -/
namespace Go.Proofs.Abs
open Go
set_option maxRecDepth 1000000
theorem below_l6 : chunkB T0 noExt 100000 100 bLoop 105 bl6 .normal bl7 = true := by kernel_rfl
theorem below_l7 : chunkB T0 noExt 100000 100 bLoop 105 bl7 .normal bl8 = true := by kernel_rfl
theorem below_l8 : chunkB T0 noExt 100000 100 bLoop 105 bl8 .normal bl9 = true := by kernel_rfl
end Go.Proofs.Abs
