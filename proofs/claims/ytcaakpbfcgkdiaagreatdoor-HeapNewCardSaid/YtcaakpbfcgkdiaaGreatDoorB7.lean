/- Pieces of Below. Conditions: none beyond what each theorem says. -/
import Derived.Test.YtcaakpbfcgkdiaaGreatDoorB4
import Derived.KernelRfl

/- Pieces of squinchref06.Below, run by the kernel. MADE BY PROGRAM (plays.py). -/
namespace Go.Proofs.Abs
open Go
set_option maxRecDepth 1000000
theorem below_l3 : chunkB T0 noExt 100000 100 bLoop 105 bl3 .normal bl4 = true := by kernel_rfl
theorem below_l4 : chunkB T0 noExt 100000 100 bLoop 105 bl4 .normal bl5 = true := by kernel_rfl
theorem below_l5 : chunkB T0 noExt 100000 100 bLoop 105 bl5 .normal bl6 = true := by kernel_rfl
end Go.Proofs.Abs
