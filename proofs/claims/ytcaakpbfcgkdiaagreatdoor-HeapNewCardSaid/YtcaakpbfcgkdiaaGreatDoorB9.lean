/- Pieces of Below. Conditions: none beyond what each theorem says. -/
import Derived.Test.YtcaakpbfcgkdiaaGreatDoorB4
import Derived.KernelRfl

/- Pieces of squinchref06.Below, run by the kernel. MADE BY PROGRAM (plays.py). -/
namespace Go.Proofs.Abs
open Go
set_option maxRecDepth 1000000
theorem below_l9 : chunkB T0 noExt 100000 100 bLoop 105 bl9 .normal bl10 = true := by kernel_rfl
theorem below_l10 : chunkB T0 noExt 100000 100 bLoop 105 bl10 .normal bl11 = true := by kernel_rfl
theorem below_l11 : chunkB T0 noExt 100000 100 bLoop 105 bl11 .normal bl12 = true := by kernel_rfl
end Go.Proofs.Abs
