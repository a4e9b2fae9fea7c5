/- The record of squinchref06.New. Conditions: none beyond what each theorem says. -/
import Derived.Test.YtcaakpbfcgkdiaaGreatDoorB3
import Derived.Test.YtcaakpbfcgkdiaaGreatDoorC1

/- The records of squinchref06.New(squinchlaw07.Classes()) and of squinchlaw09.awake(). MADE BY PROGRAM (plays.py). -/
namespace Go.Proofs.Abs
open Go
set_option maxRecDepth 1000000
noncomputable section
def refV : Value := (.tuple ⟨[(.slice (some ⟨35, 0, none⟩) 12 12), (.int .i64 (0)), (.int .i64 (0))]⟩)
def refCh : List (Nat × Option AObj) := [(35, some (.cells [(sb [79, 98, 106, 101, 99, 116]), (sb []), (.slice none 0 0), (.bool false), (.bool false), (.bool false), (.slice none 0 0), (.slice none 0 0), (sb [70, 97, 117, 108, 116]), (sb [79, 98, 106, 101, 99, 116]), (.slice none 0 0), (.bool false), (.bool false), (.bool false), (.slice (some ⟨13, 0, none⟩) 1 1), (.slice none 0 0), (sb [78, 117, 108, 108, 70, 97, 117, 108, 116]), (sb [70, 97, 117, 108, 116]), (.slice none 0 0), (.bool false), (.bool false), (.bool true), (.slice none 0 0), (.slice none 0 0), (sb [73, 110, 100, 101, 120, 70, 97, 117, 108, 116]), (sb [70, 97, 117, 108, 116]), (.slice none 0 0), (.bool false), (.bool false), (.bool true), (.slice none 0 0), (.slice none 0 0), (sb [67, 97, 115, 116, 70, 97, 117, 108, 116]), (sb [70, 97, 117, 108, 116]), (.slice none 0 0), (.bool false), (.bool false), (.bool true), (.slice none 0 0), (.slice none 0 0), (sb [90, 101, 114, 111, 70, 97, 117, 108, 116]), (sb [70, 97, 117, 108, 116]), (.slice none 0 0), (.bool false), (.bool false), (.bool true), (.slice none 0 0), (.slice none 0 0), (sb [82, 111, 111, 109, 70, 97, 117, 108, 116]), (sb [70, 97, 117, 108, 116]), (.slice none 0 0), (.bool false), (.bool false), (.bool true), (.slice none 0 0), (.slice none 0 0), (sb [67, 97, 108, 108, 70, 97, 117, 108, 116]), (sb [70, 97, 117, 108, 116]), (.slice none 0 0), (.bool false), (.bool false), (.bool true), (.slice none 0 0), (.slice none 0 0), (sb [65]), (sb [79, 98, 106, 101, 99, 116]), (.slice none 0 0), (.bool false), (.bool false), (.bool false), (.slice (some ⟨6, 0, none⟩) 2 2), (.slice (some ⟨7, 0, none⟩) 2 2), (sb [66]), (sb [65]), (.slice (some ⟨11, 0, none⟩) 1 1), (.bool false), (.bool false), (.bool false), (.slice (some ⟨12, 0, none⟩) 1 1), (.slice none 0 0), (sb [73]), (sb [79, 98, 106, 101, 99, 116]), (.slice none 0 0), (.bool true), (.bool true), (.bool false), (.slice none 0 0), (.slice none 0 0), (sb [68]), (sb [79, 98, 106, 101, 99, 116]), (.slice none 0 0), (.bool false), (.bool true), (.bool false), (.slice none 0 0), (.slice none 0 0)] 85 false)), (13, some (.cells [(sb [119, 104, 97, 116]), (sb [116, 101, 120, 116]), (.bool false)] 69 false))]
def refFin : Nat := 53950
def ext3 : Oracle := playK 5 playBelow
def playRef : Play := { f := 56, args := [clsArg], objs := clsObjs, next := clsNext, v := refV, ch := refCh, fin := refFin }
def eqRef : Value → Bool
  | .tuple ⟨[.slice (some ⟨i, 0, none⟩) n m, .int .i64 (.ofNat 0), .int .i64 (.ofNat 0)]⟩ => Nat.beq i 35 && Nat.beq n 12 && Nat.beq m 12
  | _ => false
end
theorem glob5 : Tryz.prog.globals.size ≤ 5 := Nat.le_of_ble_eq_true (by kernel_rfl)
theorem ext3_sound : OSound Tryz.prog T0 ext3 := playK_sound glob5 playBelow_ok
theorem eqRef_eq (v : Value) (h : eqRef v = true) : v = refV := by
  unfold eqRef at h
  split at h
  · rename_i i n m
    simp only [Bool.and_eq_true] at h
    rw [Nat.eq_of_beq_eq_true h.1.1, Nat.eq_of_beq_eq_true h.1.2, Nat.eq_of_beq_eq_true h.2]; rfl
  · cases h
theorem playRef_run : playB T0 ext3 100000 100 playRef eqRef = true := by kernel_rfl
theorem playRef_ok : playRef.Ok Tryz.prog T0 := playB_ok T0_ok ext3_sound eqRef_eq (Nat.le_of_ble_eq_true rfl) playRef_run
end Go.Proofs.Abs
