/- THE LAW HeapNew IS TRUE FOR EVERY INPUT (an empty heap has all its room, and nothing else); its one condition: the listed package variables read as the program's text lays them, which the tied card ties. Conditions: none beyond what each theorem says. -/
import Derived.Test.YtcaakpbfcgkdiaaGreatDoorD2
import Derived.Test.YtcaakpbfcgkdiaaGreatDoorD1

/- THE LAW HeapNew IS TRUE FOR EVERY INPUT: an empty heap has all its room, and nothing else; conditions: the listed package variables read as the program's text lays them (the tied card). -/
namespace Go.Proofs.YtcaakpbfcgkdiaaGreatDoor
open Go Go.ChangeShapes Go.WideShapes Go.ChangeAt Go.RowKit Go.Proofs.Abs
set_option maxRecDepth 1000000

theorem heapNew_calls {W : World} (hL : Laid W) (room ref : Int) : Calls Tryz.prog 3 #[.int .i64 room, .int .i64 ref] W fun e W' => e = .returned (.bool true) ∧ Below W.heap.size W W' :=
  calls_of hL (heapNew_true room ref) (.cons (.int _ _) (.cons (.int _ _) .nil))

/-! ### The row -/

theorem params_read : ((Tryz.f3.params.toList).all fun t => Tryz.prog.readableRec t && Nat.blt t Tryz.prog.types.size) = true := by kernel_rfl

theorem heapNew_lifted (os : Os) (started : os.Started) (H : Type) (enc : TypeId × Value → H) :
    ReturnsInHanded {} Tryz.checked os 3 .any (fun w args => (Rows.heapNewSpec.pre enc Tryz.prog Tryz.f3 Rows.heapNewRow.domain false w args ∧ laidMetH Tryz.prog Rows.heapNewRow.laid w) ∧ sizedMet enc Tryz.prog Tryz.f3 (OpenSpec.ofChange Rows.heapNewSpec) false w args)
      (Rows.heapNewSpec.post enc Tryz.prog Tryz.f3 false true false false) := by
  refine returnsInHanded_of_change_laid (C := Tryz.checked) (X := fun w _ => laidMetH Tryz.prog Rows.heapNewRow.laid w) (fun _ _ _ hh h => h.of_heap hh) own started (by kernel_rfl) Tryz.func3
    (ChangeSpec.witness_shaped (enc := enc) (C := Tryz.checked) (os := os) (X := fun w _ => laidMetH Tryz.prog Rows.heapNewRow.laid w) false (World.laidAll Tryz.prog os Rows.heapNewRow.laid) #[.int .i64 0, .int .i64 0] 8 (World.laidAll_os _ _ _)
      (World.shaped_of_ZipB (by kernel_rfl) (by kernel_rfl)) (by kernel_rfl) (by kernel_rfl) (by kernel_rfl)
      (by rw [MakeChecks.laidMetH_plain _ _ _ (by kernel_rfl)]; exact laidMet_laidAll _ (by kernel_rfl) (by kernel_rfl))) ?_
  intro W base args ds gs before hval0 hW _ _ hL hsh _
  have hval : ∀ (j : Nat) t v, Tryz.f3.params[j]? = some t → args[j]? = some v → Value.okWide Tryz.prog W .any base t v := hval0
  have hW' := hW
  obtain ⟨p, q, hA0, hV, rfl, hfz, hnd⟩ := hW
  have hA : DataW.TrodAll enc Tryz.prog W 0 (fun _ => true) true Tryz.f3.params.toList args.toList ds p := hA0
  rw [Tryz.params3] at hA hval
  obtain ⟨v0, vs0, d0, ds0, p0, q0, hargs, rfl, rfl, h0, r0⟩ := trodAll_cons hA
  obtain ⟨v1, vs1, d1, ds1, p1, q1, rfl, rfl, rfl, h1, r1⟩ := trodAll_cons r0
  obtain ⟨rfl, rfl, rfl⟩ := trodAll_nil r1
  obtain rfl : args = #[v0, v1] := by cases args; simp_all
  obtain ⟨rfl, rfl⟩ := trodVars_none hV
  obtain ⟨a0, rfl, rfl, rfl, w0⟩ := open_int Tryz.underlying3 (hval 0 3 v0 rfl rfl) h0
  obtain ⟨a1, rfl, rfl, rfl, w1⟩ := open_int Tryz.underlying3 (hval 1 3 v1 rfl rfl) h1
  clear hval0
  refine (heapNew_calls (laid_of hL hsh) a0 a1).mono fun e W' ⟨he, hb⟩ => ?_
  subst he
  refine ⟨_, rfl, _, _, _, [], _, [], hW', ?_, below_trodAll laidOut hb params_read hA0 (fun x hx => hW'.lt x (List.mem_append.2 (.inl hx))), rfl, hb.frame _, fun h => by cases h⟩
  exact trodAll_cons_mk (shut_bool Tryz.underlying4 _) trodAll_mk0

theorem heapNew_holds : Rows.HeapNewSaid :=
  OpenClaim.holds_of_wide 3 Tryz.f3 rfl rfl rfl rfl rfl rfl rfl ⟨rfl, rfl, rfl, rfl, rfl⟩ rfl rfl rfl rfl rfl (by kernel_rfl) Tryz.func3 (by kernel_rfl)
    (of_decide_eq_true (by kernel_rfl)) (by unfold Func.isWrapper; first | (rw [if_pos (by decide +kernel)]; kernel_rfl) | (rw [if_neg (by decide +kernel)]; exact ⟨rfl, rfl⟩))
    (fun os started H enc _ => heapNew_lifted os started H enc)

/-- THE TIED CARD of HeapNew. -/
theorem heapNew_card : Rows.HeapNewCardSaid :=
  Claim7.holds_tied_plain_at .later [] [.data, .widerDeep, .data, .pinned] true (true, "219ef1a812d5e03f6bbb4b600613f0d9495bd20144eedb34ca67eb64a30e7d92") false
    heapNew_holds (fun _ h => by cases h) (by kernel_rfl) (fun _ h => by cases h) heapNew_row_tie rfl ⟨rfl, rfl⟩ (by kernel_rfl) rfl
    (fun f fn hf hfn => by
      obtain rfl : f = 3 := Option.some.inj ((show Tryz.prog.funcNamed "squinch/squinchlaw09.HeapNew" = some 3 by kernel_rfl).symm.trans hf) |>.symm
      obtain rfl : fn = Tryz.f3 := (Option.some.inj (Tryz.func3.symm.trans hfn)).symm
      exact ⟨by kernel_rfl, fun j t ht => by
        rw [Tryz.params3] at ht
        have hm : t ∈ [3, 3] := by simpa using Array.mem_of_getElem? ht
        have hall : ([3, 3].all fun u => !Tryz.prog.wantsStandIn u) = true := by kernel_rfl
        exact (show Tryz.prog.wantsStandIn t = false by simpa using List.all_eq_true.1 hall t hm)⟩)
    (by kernel_rfl)
end Go.Proofs.YtcaakpbfcgkdiaaGreatDoor
