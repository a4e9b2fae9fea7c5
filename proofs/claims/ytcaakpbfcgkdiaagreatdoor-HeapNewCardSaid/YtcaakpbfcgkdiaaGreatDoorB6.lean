/- Pieces of Below. Conditions: none beyond what each theorem says. -/
import Derived.Test.YtcaakpbfcgkdiaaGreatDoorB4
import Derived.KernelRfl

/- Pieces of squinchref06.Below, run by the kernel. MADE BY PROGRAM (plays.py). -/
namespace Go.Proofs.Abs
open Go
set_option maxRecDepth 1000000
theorem below_l0 : chunkB T0 noExt 100000 100 bLoop 105 bs4 .normal bl1 = true := by kernel_rfl
theorem below_l1 : chunkB T0 noExt 100000 100 bLoop 105 bl1 .normal bl2 = true := by kernel_rfl
theorem below_l2 : chunkB T0 noExt 100000 100 bLoop 105 bl2 .normal bl3 = true := by kernel_rfl
end Go.Proofs.Abs
