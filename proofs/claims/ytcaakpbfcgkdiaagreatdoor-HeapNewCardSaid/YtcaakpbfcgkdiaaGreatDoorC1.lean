/- The record of Below. Conditions: none beyond what each theorem says. -/
import Derived.Test.YtcaakpbfcgkdiaaGreatDoorB5
import Derived.Test.YtcaakpbfcgkdiaaGreatDoorB6
import Derived.Test.YtcaakpbfcgkdiaaGreatDoorB7
import Derived.Test.YtcaakpbfcgkdiaaGreatDoorB8
import Derived.Test.YtcaakpbfcgkdiaaGreatDoorB9

/- The record of squinchref06.Below of all classes, put together. -/
namespace Go.Proofs.Abs
open Go
set_option maxRecDepth 1000000
noncomputable section
def playBelow : Play := { f := 103, args := [allArg], objs := allObjs, next := allNext, v := belowV, ch := belowCh, fin := belowFin }
end
theorem below_fn : T0.fn 103 = some belowFn := by kernel_rfl
theorem below_body : belowFn.body = some belowBody := by kernel_rfl
theorem below_spine : spine belowBody = [bPiece 0, bPiece 1, bPiece 2, bPiece 3, bPiece 4, bPiece 5, bPiece 6, bPiece 7] := by kernel_rfl
theorem below_loop : bPiece 5 = .block 4 (.loop bLoop) := by kernel_rfl
theorem below_ntmps : belowFn.ntmps = 105 := by kernel_rfl
theorem below_res : resultA T0 bs7.rg bs7.st belowFn.results.toList = some [belowV] := by kernel_rfl
theorem below_start : bp.rg = [allArg] ++ List.replicate 104 undef := by kernel_rfl

theorem memOf_of : ∀ {l : List (Nat × AObj)} {i : Nat} {o : AObj}, (i, o) ∈ l → ∃ o', (memOf l).get i = some o'
  | [], _, _, h => by cases h
  | (k, a) :: l, i, o, h => by
    simp only [memOf, Mem.get_put]
    by_cases e : i = k
    · exact ⟨a, by rw [if_pos e]⟩
    · rw [if_neg e]
      rcases List.mem_cons.1 h with h | h
      · cases h; exact absurd rfl e
      · exact memOf_of h

theorem below_keep : objsB (memOf bs7.objs) allObjs = true := by kernel_rfl
theorem below_new : objsB (memOf bs7.objs) (belowCh.filterMap fun (i, o) => o.map fun o => (i, o)) = true := by kernel_rfl
theorem below_some : belowCh.all (fun x => x.2.isSome) = true := by kernel_rfl

theorem lookCh_mem : ∀ {l : List (Nat × Option AObj)} {i : Nat} {x : Option AObj}, lookCh i l = some x → (i, x) ∈ l
  | [], _, _, h => by simp [lookCh] at h
  | (k, o) :: l, i, x, h => by
    simp only [lookCh] at h
    by_cases e : i = k
    · rw [if_pos e] at h; cases h; subst e; simp
    · rw [if_neg e] at h; exact List.mem_cons_of_mem _ (lookCh_mem h)

theorem playBelow_ok : playBelow.Ok Tryz.prog T0 := by
  refine ⟨by rw [show playBelow.f = 103 from rfl, below_fn]; rfl, Nat.le_of_ble_eq_true rfl, ?_⟩
  have hx := noExt_sound (P := Tryz.prog) (T := T0)
  refine call_body T0_ok below_fn below_body ?_
  rw [below_ntmps]
  have hst : (playBelow.args ++ List.replicate (105 - playBelow.args.length) undef) = bp.rg := below_start.symm
  rw [hst]
  show CodeWP Tryz.prog belowBody bp.rg bp.st _
  refine code_spine ?_
  rw [below_spine, below_loop]
  refine codes_cons (chunk_sound T0_ok hx below_s0) (codes_cons (chunk_sound T0_ok hx below_s1) (codes_cons (chunk_sound T0_ok hx below_s2) (codes_cons (chunk_sound T0_ok hx below_s3) (codes_cons (chunk_sound T0_ok hx below_s4) ?_))))
  have hloop : CodeD Tryz.prog (.block 4 (.loop bLoop)) (bPt 0).rg (bPt 0).st .normal bq.rg bq.st := by
    refine loop_chunks 12 ?_ (chunk_sound T0_ok hx below_q)
    intro k hk
    match k, hk with
    | 0, _ => exact chunk_sound T0_ok hx below_l0
    | 1, _ => exact chunk_sound T0_ok hx below_l1
    | 2, _ => exact chunk_sound T0_ok hx below_l2
    | 3, _ => exact chunk_sound T0_ok hx below_l3
    | 4, _ => exact chunk_sound T0_ok hx below_l4
    | 5, _ => exact chunk_sound T0_ok hx below_l5
    | 6, _ => exact chunk_sound T0_ok hx below_l6
    | 7, _ => exact chunk_sound T0_ok hx below_l7
    | 8, _ => exact chunk_sound T0_ok hx below_l8
    | 9, _ => exact chunk_sound T0_ok hx below_l9
    | 10, _ => exact chunk_sound T0_ok hx below_l10
    | 11, _ => exact chunk_sound T0_ok hx below_l11
    | k + 12, h => omega
  refine codes_cons hloop (codes_cons (chunk_sound T0_ok hx below_s6) ?_)
  have hlast : CodeD Tryz.prog (bPiece 7) bs6.rg bs6.st .ret bs7.rg playBelow.s1 := by
    refine CodeWP.weaken (chunk_sound T0_ok hx below_s7) (fun i o hi => ?_) rfl rfl
    have hi : (applyCh (memOf playBelow.objs) playBelow.ch).get i = some o := hi
    show (memOf bs7.objs).get i = some o
    rw [applyCh_get] at hi
    cases hl : lookCh i playBelow.ch with
    | none =>
      rw [hl] at hi
      exact objsB_spec below_keep i o (memOf_mem hi)
    | some x =>
      rw [hl] at hi
      simp only at hi
      subst hi
      refine objsB_spec below_new i o (List.mem_filterMap.2 ⟨(i, some o), lookCh_mem hl, rfl⟩)
  refine codes_end hlast ⟨.inr rfl, [belowV], ?_, rfl, rfl⟩
  have : resultA T0 bs7.rg playBelow.s1 belowFn.results.toList = some [belowV] := by kernel_rfl
  exact this

end Go.Proofs.Abs
