/- The record of awake. Conditions: none beyond what each theorem says. -/
import Derived.Test.YtcaakpbfcgkdiaaGreatDoorC2

/- The record of squinchlaw09.awake(). -/
namespace Go.Proofs.Abs
open Go
set_option maxRecDepth 1000000
noncomputable section
def ext4 : Oracle := orExt (playK 5 playNew) (playK 5 playRef)
def playAwake : Play := { f := 14, args := [], objs := globObjs, next := 5, v := .bool true, ch := [], fin := 5 }
def isTrue : Value → Bool
  | .bool true => true
  | _ => false
end
theorem isTrue_eq (v : Value) (h : isTrue v = true) : v = .bool true := by
  unfold isTrue at h
  split at h
  · rfl
  · cases h
theorem ext4_sound : OSound Tryz.prog T0 ext4 := orExt_sound (playK_sound glob5 playNew_ok) (playK_sound glob5 playRef_ok)
theorem playAwake_run : playB T0 ext4 100000 100 playAwake isTrue = true := by kernel_rfl
theorem playAwake_ok : playAwake.Ok Tryz.prog T0 := playB_ok T0_ok ext4_sound isTrue_eq (Nat.le_refl _) playAwake_run
end Go.Proofs.Abs
