/- The record of hier.New of the classes. Conditions: none beyond what each theorem says. -/
import Derived.Test.YtcaakpbfcgkdiaaGreatDoorB2
import Derived.Test.YtcaakpbfcgkdiaaGreatDoorA5
import Derived.KernelRfl

/- The record of hier.New(squinchlaw07.Classes()). MADE BY PROGRAM (plays.py). -/
namespace Go.Proofs.Abs
open Go
set_option maxRecDepth 1000000
noncomputable section
def isZero : Value → Bool
  | .int .i64 (.ofNat 0) => true
  | _ => false
def extM : Oracle := allOracle T0 (execCallK T0 joinExt 100000 100) 100000 49 (.int .i64 0) isZero
def ext1 : Oracle := orExt extM joinExt
def playNew : Play := { f := 12, args := [clsArg], objs := globObjs ++ clsObjs, next := clsNext, v := newV, ch := newCh, fin := newFin }
def eqNew : Value → Bool
  | .tuple ⟨[.pointer (some ⟨i, 0, none⟩), .int .i64 (.ofNat 0), .int .i64 (.ofNat 0)]⟩ => Nat.beq i 28
  | _ => false
end
theorem isZero_eq (v : Value) (h : isZero v = true) : v = .int .i64 0 := by
  unfold isZero at h
  split at h
  · rfl
  · cases h
theorem ext1_sound : OSound Tryz.prog T0 ext1 :=
  orExt_sound (allOracle_sound T0_ok (execCallK_sound T0_ok joinExt_sound 100000 100) isZero_eq rfl) joinExt_sound
theorem eqNew_eq (v : Value) (h : eqNew v = true) : v = newV := by
  unfold eqNew at h
  split at h
  · rename_i i
    rw [Nat.eq_of_beq_eq_true h]; rfl
  · cases h
theorem playNew_run : playB T0 ext1 100000 100 playNew eqNew = true := by kernel_rfl
theorem playNew_ok : playNew.Ok Tryz.prog T0 := playB_ok T0_ok ext1_sound eqNew_eq (Nat.le_of_ble_eq_true rfl) playNew_run
end Go.Proofs.Abs
