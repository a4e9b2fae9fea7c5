/- The abstract machine: code and drawn regions are sound. Conditions: none beyond what each theorem says. -/
import Derived.Test.YtcaakpbfcgkdiaaGreatDoorA2
import Derived.Test.YtcaakpbfcgkdiaaGreatDoorA1
import Derived.Deep.LoopGhost

/- The abstract machine: code, calls. -/
namespace Go.Proofs.Abs
open Go

def AExit.toExit : AExit → Exit
  | .normal => .normal
  | .exit id => .exit id
  | .ret => .ret

def ActRel (r : Rho) (rg : Regs) (a : Act) : Prop := VRels r rg a.tmps.toList ∧ a.defers = []

section
variable (P : Program) (T : Tab)

/-- From these registers and this memory a piece of code comes to an end of which Q holds. -/
def CodeWP (c : Code) (rg : Regs) (s : St) (Q : AExit → Regs → St → Prop) : Prop :=
  ∀ (r : Rho) (w : World) (a : Act), Rel P r s w → ActRel r rg a →
    c.wp P (fun ex a' w' => ∃ e rg' s' r', Q e rg' s' ∧ ex = AExit.toExit e ∧ ActRel r' rg' a' ∧ Step P r s w r' s' w') a w

def CallWP (f : FuncId) (args : List Value) (s : St) (Q : Value → St → Prop) : Prop :=
  ∀ (r : Rho) (w : World) (us : Array Value), Rel P r s w → VRels r args us.toList →
    Calls P f us w fun e w' => ∃ v s' r' u, Q v s' ∧ e = .returned u ∧ VRel r' v u ∧ Step P r s w r' s' w'

def OpsWP (ops : Array Oper) (l : List Nat) (rg : Regs) (s : St) (K : Regs → St → Prop) : Prop :=
  ∀ (r : Rho) (w : World) (a : Act), Rel P r s w → ActRel r rg a →
    wpOps P ops (fun ex a' w' => ∃ rg' s' r', K rg' s' ∧ ex = .normal ∧ ActRel r' rg' a' ∧ Step P r s w r' s' w') l a w

end

section
variable {P : Program} {T : Tab}

theorem CodeWP.mono {c : Code} {rg : Regs} {s : St} {Q Q' : AExit → Regs → St → Prop} (h : CodeWP P c rg s Q) (hq : ∀ e rg s, Q e rg s → Q' e rg s) : CodeWP P c rg s Q' :=
  fun r w a hr ha => wp_mono (h r w a hr ha) fun _ _ _ ⟨e, rg', s', r', h1, h2⟩ => ⟨e, rg', s', r', hq _ _ _ h1, h2⟩

theorem CallWP.mono {f : FuncId} {args : List Value} {s : St} {Q Q' : Value → St → Prop} (h : CallWP P f args s Q) (hq : ∀ v s, Q v s → Q' v s) : CallWP P f args s Q' :=
  fun r w us hr ha => (h r w us hr ha).mono fun _ _ ⟨v, s', r', u, h1, h2⟩ => ⟨v, s', r', u, hq _ _ h1, h2⟩

theorem yielded_eq {r : Rho} {ops : Array Oper} {rg : Regs} {a : Act} (h : ActRel r rg a) (j : Nat) : yielded ops a.tmps j = yieldedA ops rg j := by
  unfold yielded yieldedA
  cases hd : (ops[j]?).bind (·.dst) with
  | none => rfl
  | some d =>
    simp only [Option.bind_some]
    rcases h.1.get d with ⟨h1, h2⟩ | ⟨x, v, h1, h2, h3⟩
    · simp only [Array.getElem?_toList] at h2
      rw [h1, h2]
    · simp only [Array.getElem?_toList] at h2
      rw [h1, h2]
      cases h3 <;> rfl

theorem wanted_eq {r : Rho} {ops : Array Oper} {rg : Regs} {a : Act} (h : ActRel r rg a) (o : Oper) : Region.wanted o (yielded ops a.tmps) = Region.wanted o (yieldedA ops rg) := by
  unfold Region.wanted
  cases o.guard with
  | none => rfl
  | some g => simp only [yielded_eq h]

theorem ActRel.put {r : Rho} {rg : Regs} {a : Act} (h : ActRel r rg a) (d : Option Tmp) {v u : Value} (hv : VRel r v u) : ActRel r (putA rg d v) (a.put d u) := by
  cases d with
  | none => exact h
  | some d =>
    refine ⟨?_, h.2⟩
    show VRels r (rg.set d v) (a.tmps.setIfInBounds d u).toList
    rw [Array.toList_setIfInBounds]
    exact h.1.set d hv

theorem ActRel.mono {r r' : Rho} (hr : r.le r') {rg : Regs} {a : Act} (h : ActRel r rg a) : ActRel r' rg a := ⟨h.1.mono hr, h.2⟩

theorem Step.le_rho {r r' : Rho} {s s' : St} {w w' : World} (h0 : Rel P r s w) (h : Step P r s w r' s' w') : r.le r' := h.rle h0

/-! ### Operations -/

theorem ops_nil {ops : Array Oper} {rg : Regs} {s : St} {K : Regs → St → Prop} (h : K rg s) : OpsWP P ops [] rg s K :=
  fun r _ _ hr ha => ⟨rg, s, r, h, rfl, ha, Step.refl hr⟩

theorem wpOps_mono' {ops : Array Oper} {Q Q' : Exit → Act → World → Prop} (hq : ∀ e a w, Q e a w → Q' e a w) (l : List Nat) : ∀ (a : Act) (w : World), wpOps P ops Q l a w → wpOps P ops Q' l a w := by
  induction l with
  | nil => intro a w h; exact hq _ _ _ h
  | cons i rest ih =>
    intro a w h
    simp only [wpOps] at h ⊢
    split
    · rename_i ho; simp only [ho] at h; exact ih _ _ h
    · rename_i o ho
      simp only [ho] at h
      split
      · rename_i hw
        rw [if_pos hw] at h
        rcases h with h | ⟨h1, a0, w0, h2⟩
        · left
          unfold Oper.wp at h ⊢
          generalize (execOp a.eval o).run P w = res at h ⊢
          cases res with
          | ok n w' =>
            cases n <;> simp only [Oper.upon] at h ⊢ <;> first
              | exact ih _ _ h
              | exact Rows.mono h (fun v w'' he => ih _ _ he)
              | (refine Calls.mono h ?_
                 intro e w'' he
                 cases e
                 · exact ih _ _ he
                 · exact hq _ _ _ he
                 · obtain ⟨a0, w0, h⟩ := he; exact ⟨a0, w0, hq _ _ _ h⟩)
              | exact h
          | halt x w' => cases x <;> simp only [Oper.upon] at h ⊢ <;> first | exact hq _ _ _ h | exact h
        · exact .inr ⟨h1, a0, w0, hq _ _ _ h2⟩
      · rename_i hw
        rw [if_neg hw] at h
        exact ih _ _ h

theorem ops_skip {ops : Array Oper} {i : Nat} {rest : List Nat} {o : Oper} {rg : Regs} {s : St} {K : Regs → St → Prop} (ho : ops[i]? = some o) (hw : Region.wanted o (yieldedA ops rg) = false) (h : OpsWP P ops rest (putA rg o.dst undef) s K) : OpsWP P ops (i :: rest) rg s K := by
  intro r w a hr ha
  simp only [wpOps, ho, wanted_eq ha, hw, Bool.false_eq_true, if_false]
  exact h r w _ hr (ha.put _ (VRel.undef r))

/-- After a step the rest. -/
theorem ops_after {ops : Array Oper} {rest : List Nat} {rg : Regs} {s s1 : St} {K : Regs → St → Prop} {r r1 : Rho} {w w1 : World} {a : Act} (hst : Step P r s w r1 s1 w1) (ha : ActRel r1 rg a) (h : OpsWP P ops rest rg s1 K) :
    wpOps P ops (fun ex a' w' => ∃ rg' s' r', K rg' s' ∧ ex = .normal ∧ ActRel r' rg' a' ∧ Step P r s w r' s' w') rest a w1 :=
  wpOps_mono' (fun _ _ _ ⟨rg', s', r', h1, h2, h3, h4⟩ => ⟨rg', s', r', h1, h2, h3, hst.trans h4⟩) rest _ _ (h r1 w1 a hst.rel ha)

theorem ERel.of (hT : T.Ok P) {r : Rho} {s : St} {w : World} (hr : Rel P r s w) {rg : Regs} {a : Act} (ha : ActRel r rg a) : ERel r (ev T rg) a.eval := fun _ _ h => ev_sound hT hr ha.1 h

theorem ops_op (hT : T.Ok P) {ops : Array Oper} {i : Nat} {rest : List Nat} {o : Oper} {rg : Regs} {s s1 : St} {v : Value} {K : Regs → St → Prop} (ho : ops[i]? = some o) (hw : Region.wanted o (yieldedA ops rg) = true) (hop : opA T (ev T rg) o s = some (v, s1))
    (h : OpsWP P ops rest (putA rg o.dst v) s1 K) : OpsWP P ops (i :: rest) rg s K := by
  intro r w a hr ha
  simp only [wpOps, ho, wanted_eq ha, hw, if_true]
  left
  obtain ⟨nx, u, w', r', h1, h2, h3, h4⟩ := opA_sound hT hr (ERel.of hT hr ha) hop
  have hle := h4.rle hr
  unfold Oper.wp
  rw [h1]
  rcases h2 with rfl | ⟨rfl, rfl⟩
  · exact ops_after h4 ((ha.mono hle).put _ h3) h
  · exact ops_after h4 ((ha.mono hle).put _ h3) h

/-- Which Go function an operation calls. -/
theorem call_run (hT : T.Ok P) {r : Rho} {w : World} {e : Operand → Option Value} {ρ : Operand → Value} (he : ERel r e ρ) {o : Oper} {f : FuncId} {args : List Value} (h : callA e o = some (f, args)) (hf : (T.fn f).isSome = true) :
    ∃ us : Array Value, (execOp ρ o).run P w = .ok (.enter f us) w ∧ VRels r args us.toList := by
  unfold callA at h
  split at h
  · rename_i c ho
    split at h
    · rename_i g hg
      split at h
      · rename_i f' first cap vs hf' hvs
        cases h
        have hv := he _ _ hf'
        have hvs' := evs_sound he hvs
        cases hvx : ρ g <;> rw [hvx] at hv <;> cases hv
        rename_i fi ca hs1 hr1 hs2 hr2
        obtain ⟨x, hx⟩ := Option.isSome_iff_exists.1 hf
        obtain ⟨hp, hb, hn⟩ := hT.fn _ _ hx
        refine ⟨fi ++ c.args.map ρ ++ ca, ?_, ?_⟩
        · unfold execOp
          simp only [ho, resolve, hg, hvx, Deferred.ofValue, Sem.run_bind, Sem.run_pure, Result.andThen_ok, invoke, callFunc, run_program, hp, hn, Bool.false_eq_true, if_false]
          have hb' : x.body.isNone = false := by
            cases hbb : x.body with
            | none => rw [hbb] at hb; cases hb
            | some _ => rfl
          simp only [hb', Bool.false_eq_true, if_false, Sem.run_pure]
        · simp only [Array.toList_append, Array.toList_map]
          exact ((VRels.toArray hs1 hr1).append hvs').append (VRels.toArray hs2 hr2)
      · cases h
    · cases h
  · cases h

theorem ops_call (hT : T.Ok P) {ops : Array Oper} {i : Nat} {rest : List Nat} {o : Oper} {rg : Regs} {s : St} {f : FuncId} {args : List Value} {K : Regs → St → Prop} (ho : ops[i]? = some o) (hw : Region.wanted o (yieldedA ops rg) = true) (hc : callA (ev T rg) o = some (f, args)) (hf : (T.fn f).isSome = true)
    (h : CallWP P f args s fun v s1 => OpsWP P ops rest (putA rg o.dst v) s1 K) : OpsWP P ops (i :: rest) rg s K := by
  intro r w a hr ha
  simp only [wpOps, ho, wanted_eq ha, hw, if_true]
  left
  obtain ⟨us, h1, h2⟩ := call_run hT (ERel.of hT hr ha) hc hf
  unfold Oper.wp
  rw [h1]
  refine (h r w us hr h2).mono ?_
  rintro e w' ⟨v, s', r', u, h3, rfl, h4, h5⟩
  exact ops_after h5 ((ha.mono (h5.rle hr)).put _ h4) h3

/-! ### Code -/

theorem code_region {id : Nat} {ops : Array Oper} {rg : Regs} {s : St} {Q : AExit → Regs → St → Prop} (h : OpsWP P ops (List.range ops.size) rg s (Q .normal)) : CodeWP P (.region id ops false) rg s Q :=
  fun r w a hr ha => wp_region (wpOps_mono' (fun _ _ _ ⟨rg', s', r', h1, h2, h3⟩ => ⟨.normal, rg', s', r', h1, h2, h3⟩) _ _ _ (h r w a hr ha))

theorem code_skip {rg : Regs} {s : St} {Q : AExit → Regs → St → Prop} (h : Q .normal rg s) : CodeWP P .skip rg s Q :=
  fun r _ _ hr ha => wp_skip ⟨.normal, rg, s, r, h, rfl, ha, Step.refl hr⟩

theorem code_ret {rg : Regs} {s : St} {Q : AExit → Regs → St → Prop} (h : Q .ret rg s) : CodeWP P .ret rg s Q :=
  fun r _ _ hr ha => wp_ret ⟨.ret, rg, s, r, h, rfl, ha, Step.refl hr⟩

theorem code_exit {id : Nat} {rg : Regs} {s : St} {Q : AExit → Regs → St → Prop} (h : Q (.exit id) rg s) : CodeWP P (.exit id) rg s Q :=
  fun r _ _ hr ha => wp_exit ⟨.exit id, rg, s, r, h, rfl, ha, Step.refl hr⟩

theorem code_after {c : Code} {rg : Regs} {s s1 : St} {Q : AExit → Regs → St → Prop} {r r1 : Rho} {w w1 : World} {a : Act} (hst : Step P r s w r1 s1 w1) (ha : ActRel r1 rg a) (h : CodeWP P c rg s1 Q) :
    c.wp P (fun ex a' w' => ∃ e rg' s' r', Q e rg' s' ∧ ex = AExit.toExit e ∧ ActRel r' rg' a' ∧ Step P r s w r' s' w') a w1 :=
  wp_mono (h r1 w1 a hst.rel ha) fun _ _ _ ⟨e, rg', s', r', h1, h2, h3, h4⟩ => ⟨e, rg', s', r', h1, h2, h3, hst.trans h4⟩

theorem code_seq {c d : Code} {rg : Regs} {s : St} {Q : AExit → Regs → St → Prop} (h : CodeWP P c rg s fun e rg' s' => match e with
      | .normal => CodeWP P d rg' s' Q
      | e => Q e rg' s') : CodeWP P (.seq c d) rg s Q := by
  intro r w a hr ha
  refine wp_seq (wp_mono (h r w a hr ha) ?_)
  rintro ex a' w' ⟨e, rg', s', r', h1, rfl, h3, h4⟩
  cases e with
  | normal => exact code_after h4 h3 h1
  | exit id => exact ⟨.exit id, rg', s', r', h1, rfl, h3, h4⟩
  | ret => exact ⟨.ret, rg', s', r', h1, rfl, h3, h4⟩

theorem code_cond (hT : T.Ok P) {x : Operand} {c d : Code} {b : Bool} {rg : Regs} {s : St} {Q : AExit → Regs → St → Prop} (hx : ev T rg x = some (.bool b)) (h : CodeWP P (if b then c else d) rg s Q) : CodeWP P (.cond x c d) rg s Q := by
  intro r w a hr ha
  exact wp_cond ((ERel.of hT hr ha) _ _ hx).bool_inv (h r w a hr ha)

theorem code_block {id : Nat} {c : Code} {rg : Regs} {s : St} {Q : AExit → Regs → St → Prop} (h : CodeWP P c rg s fun e rg' s' => match e with
      | .exit id' => if id' = id then Q .normal rg' s' else Q (.exit id') rg' s'
      | e => Q e rg' s') : CodeWP P (.block id c) rg s Q := by
  intro r w a hr ha
  refine wp_block (wp_mono (h r w a hr ha) ?_)
  rintro ex a' w' ⟨e, rg', s', r', h1, rfl, h3, h4⟩
  cases e with
  | normal => exact ⟨.normal, rg', s', r', h1, rfl, h3, h4⟩
  | exit id' =>
    show (if id' = id then _ else _)
    by_cases g : id' = id
    · rw [if_pos g]
      simp only [if_pos g] at h1
      exact ⟨.normal, rg', s', r', h1, rfl, h3, h4⟩
    · rw [if_neg g]
      simp only [if_neg g] at h1
      exact ⟨.exit id', rg', s', r', h1, rfl, h3, h4⟩
  | ret => exact ⟨.ret, rg', s', r', h1, rfl, h3, h4⟩

theorem code_loop {c : Code} {rg : Regs} {s : St} {Q : AExit → Regs → St → Prop} (I : Nat → Regs → St → Prop) (n : Nat) (h0 : I n rg s) (h : ∀ n rg s, I n rg s → CodeWP P c rg s fun e rg' s' => match e with
      | .normal => ∃ m, m < n ∧ I m rg' s'
      | e => Q e rg' s') : CodeWP P (.loop c) rg s Q := by
  intro r w a hr ha
  refine wp_loop_ghost (fun n a' w' => ∃ rg' s' r', I n rg' s' ∧ ActRel r' rg' a' ∧ Step P r s w r' s' w') n ⟨rg, s, r, h0, ha, Step.refl hr⟩ ?_
  rintro n a' w' ⟨rg', s', r', h1, h2, h3⟩
  refine wp_mono (h n rg' s' h1 r' w' a' h3.rel h2) ?_
  rintro ex a2 w2 ⟨e, rg2, s2, r2, g1, rfl, g3, g4⟩
  cases e with
  | normal =>
    obtain ⟨m, hm, hI⟩ := g1
    exact ⟨m, hm, rg2, s2, r2, hI, g3, h3.trans g4⟩
  | exit id => exact ⟨.exit id, rg2, s2, r2, g1, rfl, g3, h3.trans g4⟩
  | ret => exact ⟨.ret, rg2, s2, r2, g1, rfl, g3, h3.trans g4⟩

/-! ### Functions -/

theorem getD_rel {r : Rho} {rg : Regs} {a : Act} (h : ActRel r rg a) (t : Nat) : VRel r (rg.getD t undef) (a.tmps.getD t undef) := by
  simp only [List.getD_eq_getElem?_getD, Array.getD_eq_getD_getElem?]
  rcases h.1.get t with ⟨h1, h2⟩ | ⟨a', v', h1, h2, h3⟩
  · rw [h1]; simp only [Array.getElem?_toList] at h2; rw [h2]; exact VRel.undef r
  · rw [h1]; simp only [Array.getElem?_toList] at h2; rw [h2]; exact h3

def resOf (tmps : Array Value) : ResultVar → Sem Value
  | .tmp t => pure (tmps.getD t undef)
  | .cell x t => do loadVar t (← asAddr (tmps.getD x undef))

theorem results_eq (fn : Func) (tmps : Array Value) : results fn tmps = (do
    let vs ← fn.results.mapM (resOf tmps)
    pure (if h : vs.size = 1 then vs[0] else .tuple vs)) := by
  unfold results
  rfl

theorem results_sound (hT : T.Ok P) {r : Rho} {s : St} {w : World} (hr : Rel P r s w) {rg : Regs} {a : Act} (ha : ActRel r rg a) : ∀ {rs : List ResultVar} {vs : List Value}, resultA T rg s rs = some vs →
    ∃ us : List Value, (rs.mapM (resOf a.tmps)).run P w = .ok us w ∧ VRels r vs us
  | [], vs, h => by simp [resultA] at h; subst h; exact ⟨[], rfl, .nil⟩
  | .tmp t :: rs, vs, h => by
    simp only [resultA] at h
    obtain ⟨vs', h1, rfl⟩ := Option.map_eq_some_iff.1 h
    obtain ⟨us, h2, h3⟩ := results_sound hT hr ha h1
    refine ⟨a.tmps.getD t undef :: us, ?_, .cons (getD_rel ha t) h3⟩
    rw [List.mapM_cons]
    simp only [resOf, Sem.run_bind, Sem.run_pure, Result.andThen_ok, h2]
  | .cell x t :: rs, vs, h => by
    simp only [resultA] at h
    split at h
    · rename_i v vs' hv hvs
      cases h
      obtain ⟨us, h2, h3⟩ := results_sound hT hr ha hvs
      have hx := getD_rel ha x
      obtain ⟨u, hu, hvu⟩ := run_loadA (P := P) (w := w) hT hr hv hx
      have hld : (do loadVar t (← asAddr (a.tmps.getD x undef)) : Sem Value).run P w = .ok u w := by
        unfold loadA at hv
        split at hv
        · rename_i i o hp
          rw [hp] at hx
          cases hxx : a.tmps.getD x undef <;> rw [hxx] at hx hu <;> cases hx
          simpa [Instr.loadAt, Instr.sureAddr, asAddr] using hu
        · cases hv
      refine ⟨u :: us, ?_, .cons hvu h3⟩
      rw [List.mapM_cons]
      simp only [resOf, Sem.run_bind]
      simp only [Sem.run_bind] at hld
      rw [hld]
      simp only [Result.andThen_ok, h2, Sem.run_pure]
    · cases h

theorem call_body (hT : T.Ok P) {f : FuncId} {fn : Func} {c : Code} {args : List Value} {s : St} {Q : Value → St → Prop} (hf : T.fn f = some fn) (hb : fn.body = some c)
    (h : CodeWP P c (args ++ List.replicate (fn.ntmps - args.length) undef) s fun e rg s' => (e = .normal ∨ e = .ret) ∧ ∃ vs, resultA T rg s' fn.results.toList = some vs ∧ Q (tupleA vs) s') : CallWP P f args s Q := by
  intro r w us hr ha
  obtain ⟨hp, _, _⟩ := hT.fn _ _ hf
  have hl := ha.length
  simp only [Array.length_toList] at hl
  refine calls_of_wp hp hb (wp_mono (h r w ⟨us ++ Array.replicate (fn.ntmps - us.size) undef, []⟩ hr ⟨?_, rfl⟩) ?_)
  · simp only [Array.toList_append, Array.toList_replicate, ← hl]
    exact ha.append (VRels.replicate (VRel.undef r) _)
  · rintro ex a' w' ⟨e, rg', s', r', ⟨he, vs, hvs, hq⟩, rfl, h3, h4⟩
    obtain ⟨vs', h5, h6⟩ := results_sound hT h4.rel h3 hvs
    have hres : ∃ v, (results fn a'.tmps).run P w' = .ok v w' ∧ VRel r' (tupleA vs) v := by
      rw [results_eq]
      simp only [Sem.run_bind]
      rw [← Array.toArray_toList (xs := fn.results), List.mapM_toArray]
      simp only [Sem.run_map, h5, Result.andThen_ok, Sem.run_pure]
      refine ⟨_, rfl, ?_⟩
      · cases h6 with
        | nil => exact VRel.tuple_iff.2 .nil
        | cons g1 g2 =>
          cases g2 with
          | nil => simpa [tupleA] using g1
          | cons g2 g3 =>
            simp only [tupleA]
            rw [dif_neg (by simp)]
            exact VRel.tuple_iff.2 (.cons g1 (.cons g2 g3))
    obtain ⟨v, hv1, hv2⟩ := hres
    rcases he with rfl | rfl
    · exact ⟨h3.2, v, hv1, _, s', r', v, hq, rfl, hv2, h4⟩
    · exact ⟨h3.2, v, hv1, _, s', r', v, hq, rfl, hv2, h4⟩

end
end Go.Proofs.Abs

/- The abstract machine: regions whose order is open. -/
namespace Go.Proofs.Abs
open Go

theorem evs_congr {e e' : Operand → Option Value} : ∀ {xs : List Operand}, (∀ x ∈ xs, e x = e' x) → evs e xs = evs e' xs
  | [], _ => rfl
  | x :: xs, h => by
    simp only [evs, h x (by simp), evs_congr (xs := xs) fun y hy => h y (by simp [hy])]

theorem evParts_congr {e e' : Operand → Option Value} : ∀ {xs : List (Nat × Operand)}, (∀ x ∈ xs.map (·.2), e x = e' x) → evParts e xs = evParts e' xs
  | [], _ => rfl
  | (i, x) :: xs, h => by
    simp only [evParts, h x (by simp), evParts_congr (xs := xs) fun y hy => h y (by simp only [List.map_cons, List.mem_cons]; exact .inr hy)]

theorem opA_congr {T : Tab} {e e' : Operand → Option Value} {o : Oper} {s : St} (h : ∀ x ∈ o.op.operands, e x = e' x) : opA T e o s = opA T e' o s := by
  unfold opA
  cases hop : o.op <;> simp only [hop] at h ⊢
  case move x => rw [h x (by simp [Op.operands])]
  case assign x => rw [h x (by simp [Op.operands])]
  case pick c a b => rw [h c (by simp [Op.operands]), h a (by simp [Op.operands]), h b (by simp [Op.operands])]
  case box t x => rw [h x (by simp [Op.operands])]
  case build t ps => rw [evParts_congr (e := e) (e' := e') fun x hx => h x (by simpa [Op.operands] using hx)]
  case buildSlice t n ps => rw [evParts_congr (e := e) (e' := e') fun x hx => h x (by simpa [Op.operands] using hx)]
  case insert t m k x => rw [h m (by simp [Op.operands]), h k (by simp [Op.operands]), h x (by simp [Op.operands])]
  case load t x => rw [h x (by simp [Op.operands])]
  case store t a x => rw [h a (by simp [Op.operands]), h x (by simp [Op.operands])]
  case nilCheck x => rw [h x (by simp [Op.operands])]
  case binOp op t x y yt => rw [h x (by simp [Op.operands]), h y (by simp [Op.operands])]
  case unOp op t x => rw [h x (by simp [Op.operands])]
  case convert a b x => rw [h x (by simp [Op.operands])]
  case makeFunc fn first cap =>
    rw [evs_congr (e := e) (e' := e') (xs := first.toList) fun x hx => h x (by simp [Op.operands]; exact .inl (by simpa using hx)),
      evs_congr (e := e) (e' := e') (xs := cap.toList) fun x hx => h x (by simp [Op.operands]; exact .inr (by simpa using hx))]
  case makeMap t r => cases r <;> rfl
  case makeSlice t l c => rw [h l (by simp [Op.operands]), h c (by simp [Op.operands])]
  case slice t x lo hi mx =>
    rw [h x (by simp [Op.operands]),
      evs_congr (e := e) (e' := e') (xs := lo.toList) fun y hy => h y (by simp [Op.operands]; exact .inr (.inl (by simpa using hy))),
      evs_congr (e := e) (e' := e') (xs := hi.toList) fun y hy => h y (by simp [Op.operands]; exact .inr (.inr (.inl (by simpa using hy)))),
      evs_congr (e := e) (e' := e') (xs := mx.toList) fun y hy => h y (by simp [Op.operands]; exact .inr (.inr (.inr (by simpa using hy))))]
  case fieldAddr t x k => rw [h x (by simp [Op.operands])]
  case field t x k => rw [h x (by simp [Op.operands])]
  case indexAddr t x ix => rw [h x (by simp [Op.operands]), h ix (by simp [Op.operands])]
  case index t x ix => rw [h x (by simp [Op.operands]), h ix (by simp [Op.operands])]
  case lookup t x k ok => rw [h x (by simp [Op.operands]), h k (by simp [Op.operands])]
  case mapUpdate t m k x => rw [h m (by simp [Op.operands]), h k (by simp [Op.operands]), h x (by simp [Op.operands])]
  case mapEntry t m k => rw [h m (by simp [Op.operands]), h k (by simp [Op.operands])]
  case entryStore t m st x => rw [h m (by simp [Op.operands]), h st (by simp [Op.operands]), h x (by simp [Op.operands])]
  case range t x => rw [h x (by simp [Op.operands])]
  case next it b => cases b <;> simp only <;> rw [h it (by simp [Op.operands])]
  case extract x k => rw [h x (by simp [Op.operands])]
  case call c =>
    cases hc : c.callee <;> simp only
    rw [evs_congr (e := e) (e' := e') (xs := c.args.toList) fun x hx => h x (by simp [Op.operands, Call.operands, hc]; simpa using hx)]

theorem callA_congr {e e' : Operand → Option Value} {o : Oper} (h : ∀ x ∈ o.op.operands, e x = e' x) : callA e o = callA e' o := by
  unfold callA
  cases hop : o.op <;> simp only [hop] at h ⊢
  rename_i c
  cases hc : c.callee <;> simp only
  rename_i f
  rw [h f (by simp [Op.operands, Call.operands, hc]), evs_congr (e := e) (e' := e') (xs := c.args.toList) fun x hx => h x (by simp [Op.operands, Call.operands, hc]; exact .inr (by simpa using hx))]

/-! ### What comes before what -/

def binding (o : Oper) : List Edge := o.after.toList.filter (Region.binds .any)

/-- Whatever is listed, what it waits for is listed. -/
def Closed (ops : Array Oper) (S : Nat → Bool) : Prop := ∀ (i : Nat) (o : Oper), ops[i]? = some o → S i = true → ∀ e ∈ binding o, S e.on = true

theorem predsOf_length (ops : Array Oper) : ∀ n, (predsOf ops n).length = n
  | 0 => rfl
  | n + 1 => by simp [predsOf, predsOf_length ops n]

theorem predsOf_get (ops : Array Oper) : ∀ (n i : Nat), i < n → (predsOf ops n).getD i 0 = (predsOf ops (i + 1)).getD i 0
  | 0, _, h => by omega
  | n + 1, i, h => by
    rcases Nat.lt_or_ge i n with g | g
    · rw [← predsOf_get ops n i g]
      simp only [predsOf, List.getD_eq_getElem?_getD]
      rw [List.getElem?_append_left (by rw [predsOf_length]; exact g)]
    · have : i = n := by omega
      subst this; rfl

def bit (m j : Nat) : Bool := !Nat.beq (Nat.land (Nat.shiftRight m j) 1) 0

theorem bit_eq (m j : Nat) : bit m j = m.testBit j := by
  have h : Nat.beq (Nat.land (Nat.shiftRight m j) 1) 0 = decide ((m >>> j) &&& 1 = 0) := by
    cases hb : Nat.beq (Nat.land (Nat.shiftRight m j) 1) 0 with
    | true => have := Nat.eq_of_beq_eq_true hb; simpa using this
    | false => have := Nat.ne_of_beq_eq_false hb; simpa using this
  unfold bit
  rw [h, Nat.testBit, Nat.and_comm]
  cases hd : decide ((m >>> j) &&& 1 = 0) <;> simp_all

theorem predMask_spec (ps : List Nat) (n j : Nat) : ∀ es : List Edge, (predMask ps n es).testBit j = true → ∃ e ∈ es, Region.binds .any e = true ∧ e.on < n ∧ (j = e.on ∨ (ps.getD e.on 0).testBit j = true)
  | [], h => by simp [predMask] at h
  | e :: es, h => by
    unfold predMask at h
    split at h
    · rename_i hb
      simp only [Bool.and_eq_true, decide_eq_true_eq] at hb
      have h' : ((1 <<< e.on ||| ps.getD e.on 0) ||| predMask ps n es).testBit j = true := h
      rw [Nat.testBit_or, Nat.testBit_or, Bool.or_eq_true, Bool.or_eq_true] at h'
      rcases h' with (h' | h') | h'
      · rw [Nat.one_shiftLeft, Nat.testBit_two_pow] at h'
        exact ⟨e, by simp, hb.1, hb.2, .inl (by simpa using (of_decide_eq_true h').symm)⟩
      · exact ⟨e, by simp, hb.1, hb.2, .inr h'⟩
      · obtain ⟨e', h1, h2⟩ := predMask_spec ps n j es h'
        exact ⟨e', by simp [h1], h2⟩
    · obtain ⟨e', h1, h2⟩ := predMask_spec ps n j es h
      exact ⟨e', by simp [h1], h2⟩

theorem preds_spec (ops : Array Oper) : ∀ (i j : Nat), ((predsOf ops (i + 1)).getD i 0).testBit j = true → j < i ∧ ∀ S, Closed ops S → (∀ o, ops[i]? = some o → ∀ e ∈ binding o, S e.on = true) → S j = true := by
  intro i
  induction i using Nat.strongRecOn with
  | _ i ih =>
    intro j hj
    have hlast : (predsOf ops (i + 1)).getD i 0 = (match ops[i]? with
      | none => 0
      | some o => predMask (predsOf ops i) i o.after.toList) := by
      simp only [predsOf, List.getD_eq_getElem?_getD]
      rw [List.getElem?_append_right (by rw [predsOf_length]; exact Nat.le_refl _), predsOf_length]
      simp
      rfl
    rw [hlast] at hj
    cases ho : ops[i]? with
    | none => rw [ho] at hj; simp at hj
    | some o =>
      rw [ho] at hj
      obtain ⟨e, he, hb, hlt, hor⟩ := predMask_spec _ _ _ _ hj
      have hmem : e ∈ binding o := by simp [binding, hb]; simpa using he
      rcases hor with rfl | hj
      · exact ⟨hlt, fun S _ hS => hS o rfl e hmem⟩
      · rw [predsOf_get ops i e.on hlt] at hj
        obtain ⟨h1, h2⟩ := ih e.on hlt j hj
        exact ⟨by omega, fun S hc hS => h2 S hc fun o' ho' => hc e.on o' ho' (hS o rfl e hmem)⟩

theorem before_spec {ops : Array Oper} {i j : Nat} (hi : i < ops.size) (h : before (predsOf ops ops.size) j i = true) : j < i ∧ ∀ S, Closed ops S → (∀ o, ops[i]? = some o → ∀ e ∈ binding o, S e.on = true) → S j = true := by
  have h' : bit ((predsOf ops ops.size).getD i 0) j = true := h
  rw [bit_eq, predsOf_get ops ops.size i hi] at h'
  exact preds_spec ops i j h'

theorem uniqDst_spec : ∀ (l : List Oper) (m : Nat), uniqDst l m = true → (∀ (a : Nat) (o : Oper) (d : Nat), l[a]? = some o → o.dst = some d → m.testBit d = false) ∧ ∀ (a b : Nat) (oa ob : Oper) (d : Nat), l[a]? = some oa → l[b]? = some ob → oa.dst = some d → ob.dst = some d → a = b
  | [], m, _ => ⟨fun a o d h => by simp at h, fun a b oa ob d h => by simp at h⟩
  | o :: os, m, h => by
    unfold uniqDst at h
    cases hd : o.dst with
    | none =>
      rw [hd] at h
      obtain ⟨h1, h2⟩ := uniqDst_spec os m h
      refine ⟨fun a o' d ha hd' => ?_, fun a b oa ob d ha hb hda hdb => ?_⟩
      · cases a with
        | zero => simp at ha; subst ha; rw [hd] at hd'; cases hd'
        | succ a => exact h1 a o' d (by simpa using ha) hd'
      · cases a with
        | zero => simp at ha; subst ha; rw [hd] at hda; cases hda
        | succ a =>
          cases b with
          | zero => simp at hb; subst hb; rw [hd] at hdb; cases hdb
          | succ b => exact congrArg (· + 1) (h2 a b oa ob d (by simpa using ha) (by simpa using hb) hda hdb)
    | some d0 =>
      rw [hd] at h
      simp only [Bool.and_eq_true] at h
      obtain ⟨hbit, h⟩ := h
      have hbit : m.testBit d0 = false := by
        have := bit_eq m d0
        unfold bit at this
        rw [hbit] at this
        simpa using this.symm
      obtain ⟨h1, h2⟩ := uniqDst_spec os _ h
      have h1' : ∀ (a : Nat) (o' : Oper) (d : Nat), os[a]? = some o' → o'.dst = some d → m.testBit d = false ∧ d ≠ d0 := by
        intro a o' d ha hd'
        have := h1 a o' d ha hd'
        have e : (m ||| 1 <<< d0).testBit d = false := this
        rw [Nat.testBit_or, Bool.or_eq_false_iff] at e
        refine ⟨e.1, fun hh => ?_⟩
        subst hh
        have := e.2
        rw [Nat.one_shiftLeft, Nat.testBit_two_pow] at this
        simp at this
      refine ⟨fun a o' d ha hd' => ?_, fun a b oa ob d ha hb hda hdb => ?_⟩
      · cases a with
        | zero => simp at ha; subst ha; rw [hd] at hd'; cases hd'; exact hbit
        | succ a => exact (h1' a o' d (by simpa using ha) hd').1
      · cases a with
        | zero =>
          simp at ha; subst ha; rw [hd] at hda; cases hda
          cases b with
          | zero => rfl
          | succ b => exact absurd rfl (h1' b ob d0 (by simpa using hb) hdb).2
        | succ a =>
          cases b with
          | zero =>
            simp at hb; subst hb; rw [hd] at hdb; cases hdb
            exact absurd rfl (h1' a oa d0 (by simpa using ha) hda).2
          | succ b => exact congrArg (· + 1) (h2 a b oa ob d (by simpa using ha) (by simpa using hb) hda hdb)

theorem findDst_spec {t : Nat} : ∀ (l : List Oper) (i j : Nat) (o : Oper), l[j]? = some o → o.dst = some t → ∃ a oa, findDst t l i = some (i + a) ∧ l[a]? = some oa ∧ oa.dst = some t
  | [], i, j, o, h, _ => by simp at h
  | x :: xs, i, j, o, h, hd => by
    unfold findDst
    cases hx : x.dst with
    | none =>
      cases j with
      | zero => simp at h; subst h; rw [hx] at hd; cases hd
      | succ j =>
        obtain ⟨a, oa, h1, h2, h3⟩ := findDst_spec xs (i + 1) j o (by simpa using h) hd
        exact ⟨a + 1, oa, by simp only [h1]; congr 1; omega, by simpa using h2, h3⟩
    | some d =>
      simp only
      cases hb : Nat.beq d t with
      | true =>
        have : d = t := Nat.eq_of_beq_eq_true hb
        subst this
        exact ⟨0, x, by simp, by simp, hx⟩
      | false =>
        have hne : d ≠ t := Nat.ne_of_beq_eq_false hb
        cases j with
        | zero => simp at h; subst h; rw [hx] at hd; cases hd; exact absurd rfl hne
        | succ j =>
          obtain ⟨a, oa, h1, h2, h3⟩ := findDst_spec xs (i + 1) j o (by simpa using h) hd
          exact ⟨a + 1, oa, by simp only [h1]; simp; omega, by simpa using h2, h3⟩

theorem readsOk_spec {ops : Array Oper} {ps : List Nat} : ∀ (l : List Oper) (i : Nat), readsOk ops ps l i = true → ∀ (a : Nat) (o : Oper), l[a]? = some o → ∀ t ∈ o.looksAt ops, ∀ j, findDst t ops.toList 0 = some j → i + a = j ∨ before ps j (i + a) = true ∨ before ps (i + a) j = true
  | [], i, _, a, o, h => by simp at h
  | x :: xs, i, h, a, o, ha => by
    unfold readsOk at h
    simp only [Bool.and_eq_true, List.all_eq_true] at h
    cases a with
    | zero =>
      simp at ha; subst ha
      intro t ht j hj
      have := h.1 t ht
      rw [hj] at this
      simp only [Bool.or_eq_true] at this
      rcases this with (this | this) | this
      · exact .inl (by simpa using Nat.eq_of_beq_eq_true this)
      · exact .inr (.inl (by simpa using this))
      · exact .inr (.inr (by simpa using this))
    | succ a =>
      intro t ht j hj
      have := readsOk_spec xs (i + 1) h.2 a o (by simpa using ha) t ht j hj
      rwa [show i + 1 + a = i + (a + 1) by omega] at this

/-! ### The state behind a part of the operations -/

structure DRec where
  v : Value
  log : List Nat
  m : Mem
  m' : Mem
  nx : Nat

def dstOf (ops : Array Oper) (i : Nat) : Option Tmp := (ops[i]?).bind (·.dst)

section
variable (ops : Array Oper) (rg0 : Regs) (s0 : St) (rc : Nat → DRec)

def dNext (i : Nat) : Nat := s0.next + s0.step * i
def dStep : Nat := s0.step * ops.size

def regAt (S : Nat → Bool) : Nat → Regs
  | 0 => rg0
  | n + 1 => if S n then putA (regAt S n) (dstOf ops n) (rc n).v else regAt S n

noncomputable def memAt (S : Nat → Bool) : Nat → Nat → Option AObj
  | 0, id => s0.mem.get id
  | n + 1, id => if S n && (rc n).log.contains id then (rc n).m'.get id else memAt S n id

theorem regAt_succ (S : Nat → Bool) (n : Nat) : regAt ops rg0 rc S (n + 1) = if S n then putA (regAt ops rg0 rc S n) (dstOf ops n) (rc n).v else regAt ops rg0 rc S n := rfl
theorem memAt_succ (S : Nat → Bool) (n id : Nat) : memAt s0 rc S (n + 1) id = if S n && (rc n).log.contains id then (rc n).m'.get id else memAt s0 rc S n id := rfl

def allS : Nat → Bool := fun _ => true
def ltS (i : Nat) : Nat → Bool := fun j => decide (j < i)

theorem regAt_length (S : Nat → Bool) : ∀ n, (regAt ops rg0 rc S n).length = rg0.length
  | 0 => rfl
  | n + 1 => by
    rw [regAt_succ]
    split
    · unfold putA
      split
      · simp [regAt_length S n]
      · exact regAt_length S n
    · exact regAt_length S n

theorem putA_get (rg : Regs) (d : Option Tmp) (v : Value) (t : Nat) : (putA rg d v)[t]? = if d = some t ∧ t < rg.length then some v else rg[t]? := by
  cases d with
  | none => simp [putA]
  | some d =>
    simp only [putA, Option.some.injEq]
    rw [List.getElem?_set]
    by_cases e : d = t
    · subst e
      by_cases g : d < rg.length
      · simp [g]
      · simp [g]
    · simp [e]

theorem regAt_congr {S S' : Nat → Bool} {t : Nat} : ∀ n, (∀ j, j < n → dstOf ops j = some t → S j = S' j) → (regAt ops rg0 rc S n)[t]? = (regAt ops rg0 rc S' n)[t]?
  | 0, _ => rfl
  | n + 1, h => by
    have ih := regAt_congr n fun j hj => h j (by omega)
    have key : ∀ S : Nat → Bool, (regAt ops rg0 rc S (n + 1))[t]? = if S n = true ∧ dstOf ops n = some t ∧ t < rg0.length then some (rc n).v else (regAt ops rg0 rc S n)[t]? := by
      intro S
      rw [regAt_succ]
      cases hS : S n
      · simp
      · simp only [if_true, putA_get, regAt_length]
        simp
    rw [key S, key S', ih]
    by_cases hd : dstOf ops n = some t
    · rw [h n (by omega) hd]
    · simp [hd]

theorem regAt_lt (S : Nat → Bool) (i : Nat) : ∀ n, i ≤ n → (∀ j, i ≤ j → j < n → S j = false) → regAt ops rg0 rc S n = regAt ops rg0 rc S i
  | 0, h, _ => by have : i = 0 := by omega
                  subst this; rfl
  | n + 1, h, hS => by
    rcases Nat.lt_or_ge i (n + 1) with g | g
    · have hn : S n = false := hS n (by omega) (by omega)
      rw [regAt_succ]
      rw [hn]
      simp only [Bool.false_eq_true, if_false]
      have := regAt_lt S i n (by omega) fun j h1 h2 => hS j h1 (by omega)
      rw [this]
    · have : i = n + 1 := by omega
      subst this; rfl

theorem regAt_same {S S' : Nat → Bool} : ∀ n, (∀ j, j < n → S j = S' j) → regAt ops rg0 rc S n = regAt ops rg0 rc S' n
  | 0, _ => rfl
  | n + 1, h => by
    rw [regAt_succ, regAt_succ, h n (by omega), regAt_same n fun j hj => h j (by omega)]

theorem memAt_congr {S S' : Nat → Bool} {id : Nat} : ∀ n, (∀ j, j < n → id ∈ (rc j).log → S j = S' j) → memAt s0 rc S n id = memAt s0 rc S' n id
  | 0, _ => rfl
  | n + 1, h => by
    have ih := memAt_congr n fun j hj => h j (by omega)
    rw [memAt_succ, memAt_succ]
    by_cases hd : id ∈ (rc n).log
    · rw [h n (by omega) hd, ih]
    · have : (rc n).log.contains id = false := by simpa using hd
      simp only [this, Bool.and_false, Bool.false_eq_true, if_false, ih]

theorem memAt_lt {i id : Nat} : ∀ n, i ≤ n → memAt s0 rc (ltS i) n id = memAt s0 rc (ltS i) i id
  | 0, h => by have : i = 0 := by omega
               subst this; rfl
  | n + 1, h => by
    rcases Nat.lt_or_ge i (n + 1) with g | g
    · rw [← memAt_lt n (by omega)]
      rw [memAt_succ]
      have : ltS i n = false := by simp [ltS]; omega
      simp [this]
    · have : i = n + 1 := by omega
      subst this; rfl

/-- The last that writes an object. -/
theorem memAt_last {S : Nat → Bool} {i id : Nat} (hS : S i = true) (hl : id ∈ (rc i).log) : ∀ n, i < n → (∀ j, i < j → j < n → id ∈ (rc j).log → S j = false) → memAt s0 rc S n id = (rc i).m'.get id
  | 0, h, _ => by omega
  | n + 1, h, hj => by
    rw [memAt_succ]
    by_cases e : i = n
    · subst e
      have : (rc i).log.contains id = true := by simpa using hl
      rw [hS, this]; rfl
    · have ih := memAt_last hS hl n (by omega) fun j h1 h2 => hj j h1 (by omega)
      by_cases hd : id ∈ (rc n).log
      · rw [hj n (by omega) (by omega) hd]
        simpa using ih
      · have : (rc n).log.contains id = false := by simpa using hd
        rw [this]
        simpa using ih

theorem memAt_skip {S S' : Nat → Bool} {i id : Nat} (hS : ∀ j, j ≠ i → S' j = S j) (hl : id ∉ (rc i).log) : ∀ n, memAt s0 rc S' n id = memAt s0 rc S n id :=
  fun n => memAt_congr s0 rc n fun j _ hj => hS j fun e => hl (e ▸ hj)

end


/-! ### The region -/

section
variable {P : Program} {T : Tab}

/-- A call with one outcome. -/
def CallD (P : Program) (f : FuncId) (args : List Value) (s : St) (v : Value) (s' : St) : Prop := CallWP P f args s fun v1 s1 => v1 = v ∧ s1 = s'

variable (P T) in
structure DrawOk (ops : Array Oper) (rg0 : Regs) (s0 : St) (rc : Nat → DRec) : Prop where
  regs : drawRegs ops (predsOf ops ops.size) = true
  edges : ∀ i o, ops[i]? = some o → ∀ e ∈ binding o, e.on < i
  ni : ∀ i j, i < ops.size → j < ops.size → i ≠ j → before (predsOf ops ops.size) j i = false → before (predsOf ops ops.size) i j = false → ∀ id ∈ (rc j).log, (rc i).m.get id = none
  sub : ∀ i, i < ops.size → ∀ id o, (rc i).m.get id = some o → memAt s0 rc (ltS i) i id = some o
  log : ∀ i, i < ops.size → ∀ id, id ∉ (rc i).log → (rc i).m'.get id = (rc i).m.get id
  skip : ∀ i o, ops[i]? = some o → Region.wanted o (yieldedA ops (regAt ops rg0 rc allS i)) = false → (rc i).v = undef ∧ (rc i).m' = (rc i).m ∧ (rc i).nx = dNext s0 i
  run : ∀ i o, ops[i]? = some o → Region.wanted o (yieldedA ops (regAt ops rg0 rc allS i)) = true →
    opA T (ev T (regAt ops rg0 rc allS i)) o ⟨(rc i).m, dNext s0 i, dStep ops s0⟩ = some ((rc i).v, ⟨(rc i).m', (rc i).nx, dStep ops s0⟩) ∨
    ∃ f args, callA (ev T (regAt ops rg0 rc allS i)) o = some (f, args) ∧ (T.fn f).isSome = true ∧ CallD P f args ⟨(rc i).m, dNext s0 i, dStep ops s0⟩ (rc i).v ⟨(rc i).m', (rc i).nx, dStep ops s0⟩

/-- What holds when the operations of S are done. -/
structure DInv (P : Program) (ops : Array Oper) (rg0 : Regs) (s0 : St) (rc : Nat → DRec) (r0 : Rho) (w0 : World) (S : Nat → Bool) (r : Rho) (a : Act) (w : World) : Prop where
  closed : Closed ops S
  act : ActRel r (regAt ops rg0 rc S ops.size) a
  objs : ∀ id o, memAt s0 rc S ops.size id = some o → ORel P r w id o
  sep : ∀ i j oi oj Li Lj, i ≠ j → memAt s0 rc S ops.size i = some oi → memAt s0 rc S ops.size j = some oj → (oi.ro = false ∨ oj.ro = false) → r i = some Li → r j = some Lj → Li.block ≠ Lj.block
  done : ∀ i, i < ops.size → S i = true → ∀ q, r ((rc i).nx + dStep ops s0 * q) = none
  todo : ∀ i, i < ops.size → S i = false → ∀ q, r (dNext s0 i + dStep ops s0 * q) = none
  prog : ∀ i, i < ops.size → S i = true → ∃ q, (rc i).nx = dNext s0 i + dStep ops s0 * q
  glob : ∀ g, g < P.globals.size → ∃ L, r g = some L ∧ L.block = g ∧ L.base = 0
  zero : ops.size = 0 → ∀ i, Ns s0 i → r i = none
  ext : ∀ id, ¬ Ns s0 id → r id = r0 id
  size : w0.heap.size ≤ w.heap.size
  keep : ∀ b, b < w0.heap.size → ¬ Owned r0 s0 b → w.heap[b]? = w0.heap[b]?
  own : ∀ b, b < w0.heap.size → (∃ id o L, memAt s0 rc S ops.size id = some o ∧ o.ro = false ∧ r id = some L ∧ L.block = b) → Owned r0 s0 b
  ros : ∀ id o, memAt s0 rc S ops.size id = some o → o.ro = true → s0.mem.get id = some o
  os : w.os = w0.os
  tape : w.tape = w0.tape
  output : w.output = w0.output

variable {ops : Array Oper} {rg0 : Regs} {s0 : St} {rc : Nat → DRec} {r0 r : Rho} {w0 w : World} {S : Nat → Bool} {a : Act}

/-- An operation that is ready: what it depends on is done, what depends on it isn't. -/
theorem ready_split {i j : Nat} {o : Oper} (hi : ops[i]? = some o) (hj : j < ops.size) (hc : Closed ops S) (hSi : S i = false) (hr : ∀ e ∈ binding o, S e.on = true)
    (hb : before (predsOf ops ops.size) j i = true ∨ before (predsOf ops ops.size) i j = true) : S j = ltS i j := by
  have hil : i < ops.size := (Array.getElem?_eq_some_iff.1 hi).1
  rcases hb with hb | hb
  · obtain ⟨h1, h2⟩ := before_spec hil hb
    have := h2 S hc fun o' ho' => by rw [hi] at ho'; cases ho'; exact hr
    rw [this]; simp [ltS, h1]
  · obtain ⟨h1, h2⟩ := before_spec hj hb
    have : S j = false := by
      cases hSj : S j with
      | false => rfl
      | true =>
        have := h2 S hc fun o' ho' e he => hc j o' ho' hSj e he
        rw [hSi] at this; cases this
    rw [this]; simp [ltS]; omega

theorem drawRegs_spec {ps : List Nat} (h : drawRegs ops ps = true) {i j : Nat} {oi oj : Oper} (hi : ops[i]? = some oi) (hj : ops[j]? = some oj) (hne : i ≠ j) {d : Tmp} (hd : oj.dst = some d) (hl : d ∈ oi.looksAt ops ∨ oi.dst = some d) :
    before ps j i = true ∨ before ps i j = true := by
  unfold drawRegs at h
  simp only [Bool.and_eq_true] at h
  have hu := (uniqDst_spec _ _ h.1).2
  have hi' : ops.toList[i]? = some oi := by simpa using hi
  have hj' : ops.toList[j]? = some oj := by simpa using hj
  rcases hl with hl | hl
  · obtain ⟨a, oa, h1, h2, h3⟩ := findDst_spec ops.toList 0 j oj hj' hd
    have e : a = j := hu a j oa oj d h2 hj' h3 hd
    subst e
    rcases readsOk_spec _ 0 h.2 i oi hi' d hl _ h1 with g | g | g
    · exact absurd (by omega) hne
    · exact .inl (by simpa using g)
    · exact .inr (by simpa using g)
  · exact absurd (hu i j oi oj d hi' hj' hl hd) hne

theorem regs_agree (hD : DrawOk P T ops rg0 s0 rc) {i : Nat} {o : Oper} (hi : ops[i]? = some o) (hc : Closed ops S) (hSi : S i = false) (hr : ∀ e ∈ binding o, S e.on = true) {t : Tmp} (ht : t ∈ o.looksAt ops ∨ o.dst = some t) :
    (regAt ops rg0 rc S ops.size)[t]? = (regAt ops rg0 rc allS i)[t]? := by
  have hil : i < ops.size := (Array.getElem?_eq_some_iff.1 hi).1
  have h1 : (regAt ops rg0 rc S ops.size)[t]? = (regAt ops rg0 rc (ltS i) ops.size)[t]? := by
    refine regAt_congr ops rg0 rc _ fun j hj hd => ?_
    by_cases e : j = i
    · subst e; rw [hSi]; simp [ltS]
    · obtain ⟨oj, hoj⟩ : ∃ oj, ops[j]? = some oj := ⟨_, Array.getElem?_eq_getElem hj⟩
      have hd' : oj.dst = some t := by simpa [dstOf, hoj] using hd
      exact ready_split hi hj hc hSi hr (drawRegs_spec hD.regs hi hoj (fun h => e h.symm) hd' ht)
  rw [h1, regAt_lt ops rg0 rc (ltS i) i ops.size (by omega) (fun j h1 _ => by simp [ltS]; omega)]
  rw [regAt_same ops rg0 rc (S := ltS i) (S' := allS) i fun j hj => by simp [ltS, allS, hj]]

theorem ev_agree {rg rg' : Regs} {x : Operand} (h : ∀ t, x = .tmp t → rg[t]? = rg'[t]?) : ev T rg x = ev T rg' x := by
  cases x with
  | tmp t => simp only [ev, List.getD_eq_getElem?_getD, h t rfl]
  | _ => rfl

theorem looks_of_operand {o : Oper} {t : Tmp} (h : (Operand.tmp t) ∈ o.op.operands) : t ∈ o.looksAt ops := by
  unfold Oper.looksAt
  refine List.mem_append.2 (.inl (List.mem_filterMap.2 ⟨.tmp t, by simpa using h, rfl⟩))

theorem wanted_agree {rg rg' : Regs} {o : Oper} (h : ∀ t, t ∈ o.looksAt ops → rg[t]? = rg'[t]?) : Region.wanted o (yieldedA ops rg) = Region.wanted o (yieldedA ops rg') := by
  unfold Region.wanted
  cases hg : o.guard with
  | none => rfl
  | some g =>
    obtain ⟨j, b⟩ := g
    simp only
    unfold yieldedA
    cases hd : (ops[j]?).bind (·.dst) with
    | none => rfl
    | some d =>
      simp only [Option.bind_some]
      rw [h d (by unfold Oper.looksAt; rw [hg]; refine List.mem_append.2 (.inr ?_); simp [hd])]


def addS (S : Nat → Bool) (i : Nat) : Nat → Bool := fun j => if j = i then true else S j

theorem dNext_ns {i q : Nat} : ∃ k, dNext s0 i + dStep ops s0 * q = s0.next + s0.step * k := ⟨i + ops.size * q, by unfold dNext dStep; rw [Nat.mul_add, Nat.mul_assoc]; omega⟩

theorem dNext_ne (hp : 0 < s0.step) {i j : Nat} (hi : i < ops.size) (hj : j < ops.size) (hne : i ≠ j) (p q : Nat) : dNext s0 i + dStep ops s0 * p ≠ dNext s0 j + dStep ops s0 * q := by
  unfold dNext dStep
  intro h
  have h1 : s0.step * (i + ops.size * p) = s0.step * (j + ops.size * q) := by
    rw [Nat.mul_add, Nat.mul_add, ← Nat.mul_assoc, ← Nat.mul_assoc]; omega
  have h2 := Nat.eq_of_mul_eq_mul_left hp h1
  have h3 : (i + ops.size * p) % ops.size = (j + ops.size * q) % ops.size := by rw [h2]
  rw [Nat.add_mul_mod_self_left, Nat.add_mul_mod_self_left, Nat.mod_eq_of_lt hi, Nat.mod_eq_of_lt hj] at h3
  exact hne h3

/-- The invariant behind one operation more. -/
theorem DInv.next (hD : DrawOk P T ops rg0 s0 rc) (h0 : Rel P r0 s0 w0) (hI : DInv P ops rg0 s0 rc r0 w0 S r a w) {i : Nat} {o : Oper} (hi : ops[i]? = some o) (hSi : S i = false) (hr : ∀ e ∈ binding o, S e.on = true)
    {r1 : Rho} {w1 : World} {a1 : Act} {u : Value} (hv : VRel r1 (rc i).v u) (ha : a1 = a.put o.dst u) (hst : Step P r ⟨(rc i).m, dNext s0 i, dStep ops s0⟩ w r1 ⟨(rc i).m', (rc i).nx, dStep ops s0⟩ w1) (hrel : Rel P r ⟨(rc i).m, dNext s0 i, dStep ops s0⟩ w) :
    DInv P ops rg0 s0 rc r0 w0 (addS S i) r1 a1 w1 := by
  have hil : i < ops.size := (Array.getElem?_eq_some_iff.1 hi).1
  have hle : r.le r1 := hst.rle hrel
  have hadd : ∀ j, j ≠ i → addS S i j = S j := fun j h => by simp [addS, h]
  have haddi : addS S i i = true := by simp [addS]
  -- writers of what this one looks at are in order with it
  have hord : ∀ id, (rc i).m.get id ≠ none → ∀ j, j < ops.size → j ≠ i → id ∈ (rc j).log → S j = ltS i j := by
    intro id hid j hj hne hl
    refine ready_split hi hj hI.closed hSi hr ?_
    cases h1 : before (predsOf ops ops.size) j i with
    | true => exact .inl rfl
    | false =>
      cases h2 : before (predsOf ops ops.size) i j with
      | true => exact .inr rfl
      | false => exact absurd (hD.ni i j hil hj (fun h => hne h.symm) h1 h2 id hl) hid
  have hord2 : ∀ id, id ∈ (rc i).log → ∀ j, j < ops.size → j ≠ i → (rc j).m.get id ≠ none → S j = ltS i j := by
    intro id hid j hj hne hl
    refine ready_split hi hj hI.closed hSi hr ?_
    cases h1 : before (predsOf ops ops.size) j i with
    | true => exact .inl rfl
    | false =>
      cases h2 : before (predsOf ops ops.size) i j with
      | true => exact .inr rfl
      | false => exact absurd (hD.ni j i hj hil hne h2 h1 id hid) hl
  have hsub : ∀ id o', (rc i).m.get id = some o' → memAt s0 rc S ops.size id = some o' := by
    intro id o' h
    rw [← hD.sub i hil id o' h, ← memAt_lt s0 rc ops.size (by omega)]
    refine memAt_congr s0 rc ops.size fun j hj hl => ?_
    by_cases e : j = i
    · subst e; rw [hSi]; simp [ltS]
    · exact hord id (by rw [h]; simp) j hj e hl
  -- what is behind it
  have hmem : ∀ id o', memAt s0 rc (addS S i) ops.size id = some o' → (rc i).m'.get id = some o' ∨ ((rc i).m.get id = none ∧ memAt s0 rc S ops.size id = some o') := by
    intro id o' h
    by_cases hl : id ∈ (rc i).log
    · by_cases hlast : ∀ j, i < j → j < ops.size → id ∈ (rc j).log → addS S i j = false
      · rw [memAt_last s0 rc haddi hl ops.size hil hlast] at h
        exact .inl h
      · -- a later one that is not in order: it saw nothing of this object, and so didn't this one
        refine .inr ?_
        have hex : ∃ j, i < j ∧ j < ops.size ∧ id ∈ (rc j).log ∧ addS S i j = true := by
          refine Classical.byContradiction fun hne => hlast fun j h1 h2 h3 => ?_
          cases h4 : addS S i j with
          | false => rfl
          | true => exact absurd ⟨j, h1, h2, h3, h4⟩ hne
        obtain ⟨j, h1, h2, h3, h4⟩ := hex
        rw [hadd j (by omega)] at h4
        have hnone : (rc i).m.get id = none := by
          cases hg : (rc i).m.get id with
          | none => rfl
          | some x =>
            have := hord id (by rw [hg]; simp) j h2 (by omega) h3
            rw [h4] at this
            simp [ltS] at this; omega
        refine ⟨hnone, ?_⟩
        rw [← h]
        -- the last writer among those behind i decides for both
        have gen : ∀ n, j < n → memAt s0 rc (addS S i) n id = memAt s0 rc S n id := by
          intro n
          induction n with
          | zero => intro h; omega
          | succ n ih =>
            intro hjn
            rw [memAt_succ, memAt_succ]
            by_cases e : j = n
            · subst e
              have : (rc j).log.contains id = true := by simpa using h3
              rw [hadd j (by omega), h4, this]
              rfl
            · have hni : n ≠ i := by omega
              rw [hadd n hni, ih (by omega)]
        exact (gen ops.size h2).symm
    · rw [memAt_skip s0 rc (S := S) (S' := addS S i) hadd hl] at h
      cases hg : (rc i).m.get id with
      | none => exact .inr ⟨rfl, h⟩
      | some x =>
        left
        rw [hD.log i hil id hl, hg]
        rw [hsub id x hg] at h
        exact h
  have hblk : ∀ id o' L, memAt s0 rc S ops.size id = some o' → (rc i).m.get id = none → r id = some L → w1.heap[L.block]? = w.heap[L.block]? := by
    intro id o' L hm hn hL
    obtain ⟨L', h1, h2⟩ := (hI.objs id o' hm).loc
    rw [hL] at h1; cases h1
    refine hst.keep _ h2 ?_
    rintro ⟨id2, o2, L2, g1, g2, g3, g4⟩
    have hne : id2 ≠ id := fun e => by
      have g1' : (rc i).m.get id2 = some o2 := g1
      rw [e, hn] at g1'; cases g1'
    exact hI.sep id2 id o2 o' L2 L hne (hsub id2 o2 g1) hm (.inl g2) g3 hL g4
  have hold : ∀ id, ∀ L, r id = some L → ∀ q, id ≠ dNext s0 i + dStep ops s0 * q := by
    intro id L hL q e
    rw [e, hI.todo i hil hSi q] at hL; cases hL
  constructor
  · -- closed
    intro j oj hj hSj e he
    by_cases g : j = i
    · subst g
      rw [hi] at hj; cases hj
      by_cases g2 : e.on = j
      · rw [g2]; exact haddi
      · rw [hadd _ g2]; exact hr e he
    · rw [hadd j g] at hSj
      have := hI.closed j oj hj hSj e he
      by_cases g2 : e.on = i
      · rw [g2]; exact haddi
      · rw [hadd _ g2]; exact this
  · -- registers
    have hreg : regAt ops rg0 rc (addS S i) ops.size = putA (regAt ops rg0 rc S ops.size) o.dst (rc i).v := by
      apply List.ext_getElem?
      intro t
      rw [putA_get, regAt_length]
      have hdi : dstOf ops i = o.dst := by simp [dstOf, hi]
      by_cases hd : o.dst = some t
      · by_cases hl : t < rg0.length
        · rw [if_pos ⟨hd, hl⟩]
          -- the last writer
          have gen : ∀ n, i < n → n ≤ ops.size → (regAt ops rg0 rc (addS S i) n)[t]? = some (rc i).v := by
            intro n
            induction n with
            | zero => intro h; omega
            | succ n ih =>
              intro h1 h2
              rw [regAt_succ]
              by_cases e : i = n
              · subst e
                rw [haddi]
                simp only [if_true]
                rw [putA_get, regAt_length, hdi, if_pos ⟨hd, hl⟩]
              · have hni : n ≠ i := fun h => e h.symm
                have ih := ih (by omega) (by omega)
                by_cases hdn : dstOf ops n = some t
                · have hnl : n < ops.size := by omega
                  obtain ⟨on, hon⟩ : ∃ on, ops[n]? = some on := ⟨_, Array.getElem?_eq_getElem hnl⟩
                  have hdn' : on.dst = some t := by simpa [dstOf, hon] using hdn
                  have := ready_split hi hnl hI.closed hSi hr (drawRegs_spec hD.regs hi hon e hdn' (.inr hd))
                  have hf : S n = false := by rw [this]; simp [ltS]; omega
                  rw [hadd n hni, hf]
                  exact ih
                · split
                  · rw [putA_get, if_neg (fun h => hdn h.1)]; exact ih
                  · exact ih
          exact gen ops.size hil (Nat.le_refl _)
        · rw [if_neg (fun h => hl h.2)]
          rw [List.getElem?_eq_none (by rw [regAt_length]; omega), List.getElem?_eq_none (by rw [regAt_length]; omega)]
      · rw [if_neg (fun h => hd h.1)]
        refine regAt_congr ops rg0 rc _ fun j hj hdj => ?_
        exact hadd j fun e => by subst e; rw [hdi] at hdj; exact hd hdj
    rw [hreg, ha]
    exact (hI.act.mono hle).put _ hv
  · -- objects
    intro id o' hm
    rcases hmem id o' hm with h | ⟨h1, h2⟩
    · exact hst.rel.objs id o' h
    · exact (hI.objs id o' h2).mono hle fun L hL => hblk id o' L h2 h1 hL
  · -- apart
    have mixed : ∀ id1 id2 o1 o2 L1 L2, id1 ≠ id2 → (rc i).m'.get id1 = some o1 → (rc i).m.get id2 = none → memAt s0 rc S ops.size id2 = some o2 → (o1.ro = false ∨ o2.ro = false) → r1 id1 = some L1 → r1 id2 = some L2 → L1.block ≠ L2.block := by
      intro id1 id2 o1 o2 L1 L2 hne g1 g2 g3 hro hL1 hL2 hb
      obtain ⟨L2', hL2', hlt⟩ := (hI.objs id2 o2 g3).loc
      have : L2' = L2 := by have := hle id2 L2' hL2'; rw [hL2] at this; cases this; rfl
      subst this
      cases hro1 : o1.ro with
      | false =>
        obtain ⟨id3, o3, L3, k1, k2, k3, k4⟩ := hst.own L1.block (by rw [hb]; exact hlt) ⟨id1, o1, L1, g1, hro1, hL1, rfl⟩
        have hne3 : id3 ≠ id2 := fun e => by
          have k1' : (rc i).m.get id3 = some o3 := k1
          rw [e, g2] at k1'; cases k1'
        exact hI.sep id3 id2 o3 o2 L3 L2' hne3 (hsub id3 o3 k1) g3 (.inl k2) k3 hL2' (k4.trans hb)
      | true =>
        have k1 : (rc i).m.get id1 = some o1 := hst.ros id1 o1 g1 hro1
        have hm1 := hsub id1 o1 k1
        obtain ⟨L1', hL1', _⟩ := (hI.objs id1 o1 hm1).loc
        have : L1' = L1 := by have := hle id1 L1' hL1'; rw [hL1] at this; cases this; rfl
        subst this
        exact hI.sep id1 id2 o1 o2 L1' L2' hne hm1 g3 hro hL1' hL2' hb
    intro id1 id2 o1 o2 L1 L2 hne hm1 hm2 hro hL1 hL2
    rcases hmem id1 o1 hm1 with g1 | ⟨g1, g1'⟩
    · rcases hmem id2 o2 hm2 with g2 | ⟨g2, g2'⟩
      · exact hst.rel.sep id1 id2 o1 o2 L1 L2 hne g1 g2 hro hL1 hL2
      · exact mixed id1 id2 o1 o2 L1 L2 hne g1 g2 g2' hro hL1 hL2
    · rcases hmem id2 o2 hm2 with g2 | ⟨g2, g2'⟩
      · exact fun hb => mixed id2 id1 o2 o1 L2 L1 (fun h => hne h.symm) g2 g1 g1' (hro.symm) hL2 hL1 hb.symm
      · obtain ⟨L1', hL1', _⟩ := (hI.objs id1 o1 g1').loc
        obtain ⟨L2', hL2', _⟩ := (hI.objs id2 o2 g2').loc
        have e1 : L1' = L1 := by have := hle id1 L1' hL1'; rw [hL1] at this; cases this; rfl
        have e2 : L2' = L2 := by have := hle id2 L2' hL2'; rw [hL2] at this; cases this; rfl
        subst e1 e2
        exact hI.sep id1 id2 o1 o2 L1' L2' hne g1' g2' hro hL1' hL2'
  · -- done
    intro j hj hSj q
    by_cases e : j = i
    · subst e; exact hst.rel.fresh _ ⟨q, rfl⟩
    · rw [hadd j e] at hSj
      obtain ⟨k, hk⟩ := hI.prog j hj hSj
      rw [hst.ext _ ?_]
      · exact hI.done j hj hSj q
      · rintro ⟨q', hq'⟩
        rw [hk, Nat.add_assoc, ← Nat.mul_add] at hq'
        exact dNext_ne h0.pos hj hil e _ _ hq'
  · -- to do
    intro j hj hSj q
    by_cases e : j = i
    · subst e; rw [haddi] at hSj; cases hSj
    · rw [hadd j e] at hSj
      rw [hst.ext _ ?_]
      · exact hI.todo j hj hSj q
      · rintro ⟨q', hq'⟩
        exact dNext_ne h0.pos hj hil e _ _ hq'
  · -- progress
    intro j hj hSj
    by_cases e : j = i
    · subst e; exact hst.le.2
    · rw [hadd j e] at hSj; exact hI.prog j hj hSj
  · intro g hg
    obtain ⟨L, h1, h2⟩ := hI.glob g hg
    exact ⟨L, hle g L h1, h2⟩
  · intro h; omega
  · intro id hid
    rw [hst.ext id ?_]
    · exact hI.ext id hid
    · rintro ⟨q, hq⟩
      obtain ⟨k, hk⟩ := dNext_ns (ops := ops) (s0 := s0) (i := i) (q := q)
      exact hid ⟨k, hq.trans hk⟩
  · exact Nat.le_trans hI.size hst.size
  · intro b hb hn
    rw [hst.keep b (Nat.lt_of_lt_of_le hb hI.size) ?_]
    · exact hI.keep b hb hn
    · rintro ⟨id, o', L, g1, g2, g3, g4⟩
      exact hn (hI.own b hb ⟨id, o', L, hsub id o' g1, g2, g3, g4⟩)
  · rintro b hb ⟨id, o', L, g1, g2, g3, g4⟩
    rcases hmem id o' g1 with k | ⟨k1, k2⟩
    · obtain ⟨id2, o2, L2, m1, m2, m3, m4⟩ := hst.own b (Nat.lt_of_lt_of_le hb hI.size) ⟨id, o', L, k, g2, g3, g4⟩
      exact hI.own b hb ⟨id2, o2, L2, hsub id2 o2 m1, m2, m3, m4⟩
    · obtain ⟨L', hL', _⟩ := (hI.objs id o' k2).loc
      have : L' = L := by have := hle id L' hL'; rw [g3] at this; cases this; rfl
      subst this
      exact hI.own b hb ⟨id, o', L', k2, g2, hL', g4⟩
  · intro id o' hm hro
    rcases hmem id o' hm with k | ⟨k1, k2⟩
    · exact hI.ros id o' (hsub id o' (hst.ros id o' k hro)) hro
    · exact hI.ros id o' k2 hro
  · exact hst.os.trans hI.os
  · exact hst.tape.trans hI.tape
  · exact hst.output.trans hI.output


def listS (l : Array Bool) : Nat → Bool := fun j => l.getD j false

theorem listS_set {l : Array Bool} {i : Nat} (hi : i < l.size) : listS (l.setIfInBounds i true) = addS (listS l) i := by
  funext j
  unfold listS addS
  simp only [Array.getD_eq_getD_getElem?]
  by_cases e : j = i
  · subst e
    rw [if_pos rfl, Array.getElem?_setIfInBounds_self_of_lt hi]
    rfl
  · rw [if_neg e, Array.getElem?_setIfInBounds_ne (fun h => e h.symm)]

/-- How many are not done. -/
def undone (S : Nat → Bool) : Nat → Nat
  | 0 => 0
  | n + 1 => undone S n + (if S n then 0 else 1)

theorem undone_zero {S : Nat → Bool} : ∀ (n : Nat), undone S n = 0 → ∀ j, j < n → S j = true
  | 0, _, j, hj => by omega
  | n + 1, h, j, hj => by
    have h' : undone S n + (if S n then 0 else 1) = 0 := h
    have h1 : undone S n = 0 := Nat.le_zero.1 (Nat.le_trans (Nat.le_add_right _ _) (Nat.le_of_eq h'))
    by_cases e : j = n
    · subst e
      cases hS : S j with
      | true => rfl
      | false => rw [hS] at h'; simp at h'
    · exact undone_zero n h1 j (by omega)

theorem undone_add {S : Nat → Bool} {i : Nat} (hS : S i = false) : ∀ n, undone (addS S i) n + (if i < n then 1 else 0) = undone S n
  | 0 => by simp [undone]
  | n + 1 => by
    have ih := undone_add hS n
    show undone (addS S i) n + (if addS S i n then 0 else 1) + _ = undone S n + (if S n then 0 else 1)
    by_cases e : n = i
    · subst e
      have : addS S n n = true := by simp [addS]
      rw [this, hS]
      rw [if_neg (by omega)] at ih
      have h2 : n < n + 1 := by omega
      simp only [if_true, Bool.false_eq_true, if_false, h2]
      omega
    · have : addS S i n = S n := by simp [addS, e]
      rw [this]
      generalize (if S n then 0 else 1) = x
      by_cases g : i < n
      · rw [if_pos g] at ih; rw [if_pos (by omega)]; omega
      · rw [if_neg g] at ih; rw [if_neg (by omega)]; omega

theorem ready_all {md : Region.Mode} (he : ∀ i o, ops[i]? = some o → ∀ e ∈ o.after.toList, Region.binds md e = true → e.on < i) {l : Array Bool} (hl : l.size = ops.size) (h : Region.ready md ops l = []) : ∀ j, j < ops.size → listS l j = true := by
  intro j
  induction j using Nat.strongRecOn with
  | _ j ih =>
    intro hj
    refine Classical.byContradiction fun hn => ?_
    have hlf : listS l j = false := by simpa using hn
    have : j ∈ Region.ready md ops l := by
      rw [Region.ready, List.mem_filter]
      refine ⟨by simpa using hj, ?_⟩
      have h1 : l.getD j true = false := by
        unfold listS at hlf
        simp only [Array.getD_eq_getD_getElem?] at hlf ⊢
        have : j < l.size := by omega
        simp [this] at hlf ⊢
        exact hlf
      obtain ⟨o, ho⟩ : ∃ o, ops[j]? = some o := ⟨_, Array.getElem?_eq_getElem hj⟩
      rw [h1, ho]
      simp only [Bool.not_false, Option.map_some, Option.getD_some, Bool.true_and]
      rw [← Array.all_toList, List.all_eq_true]
      intro e hem
      cases hb : Region.binds md e with
      | false => rfl
      | true =>
        have hlt := he j o ho e hem hb
        have := ih e.on hlt (by omega)
        simpa [listS] using this
    rw [h] at this
    cases this

theorem code_draw (hT : T.Ok P) (hD : DrawOk P T ops rg0 s0 rc) {id : Nat} {Q : AExit → Regs → St → Prop} {Mf : Mem} {B : Nat} (hM : ∀ i, Mf.get i = memAt s0 rc allS ops.size i) (hB : ∃ K, B = s0.next + s0.step * K) (hnx : ∀ i, i < ops.size → (rc i).nx ≤ B)
    (hQ : Q .normal (regAt ops rg0 rc allS ops.size) ⟨Mf, B, s0.step⟩) : CodeWP P (.region id ops true) rg0 s0 Q := by
  intro r0 w0 a0 hr0 ha0
  -- the end
  have fin : ∀ (S : Nat → Bool) (r : Rho) (a : Act) (w : World), DInv P ops rg0 s0 rc r0 w0 S r a w → (∀ j, j < ops.size → S j = true) →
      ∃ e rg' s' r', Q e rg' s' ∧ Exit.normal = AExit.toExit e ∧ ActRel r' rg' a ∧ Step P r0 s0 w0 r' s' w := by
    intro S r a w hI hall
    have e1 : regAt ops rg0 rc S ops.size = regAt ops rg0 rc allS ops.size := regAt_same ops rg0 rc ops.size fun j hj => by simp [allS, hall j hj]
    have e2 : ∀ i, memAt s0 rc S ops.size i = Mf.get i := fun i => by
      rw [hM i]
      exact memAt_congr s0 rc ops.size fun j hj _ => by simp [allS, hall j hj]
    refine ⟨.normal, _, _, r, hQ, rfl, by rw [← e1]; exact hI.act, ?_⟩
    obtain ⟨K, hK⟩ := hB
    refine ⟨⟨rfl, K, hK⟩, hI.ext, ⟨fun i o hi => hI.objs i o ((e2 i).trans hi), fun i j oi oj Li Lj hne hi hj => hI.sep i j oi oj Li Lj hne ((e2 i).trans hi) ((e2 j).trans hj), ?_, hr0.pos, hI.glob⟩, hI.size, hI.keep, ?_, fun i o hi hro => hI.ros i o ((e2 i).trans hi) hro, hI.os, hI.tape, hI.output⟩
    · rintro i ⟨k, hk⟩
      -- of which operation's numbers it is
      simp only at hk
      rw [hK] at hk
      by_cases hN : ops.size = 0
      · have hns : Ns s0 i := ⟨K + k, by rw [hk, Nat.mul_add]; omega⟩
        exact (hI.zero hN i hns)
      · have hN : 0 < ops.size := by omega
        obtain ⟨j, hj⟩ : ∃ j, j = (K + k) % ops.size := ⟨_, rfl⟩
        have hjl : j < ops.size := by rw [hj]; exact Nat.mod_lt _ hN
        obtain ⟨q, hq⟩ := hI.prog j hjl (hall j hjl)
        have hdm := Nat.div_add_mod (K + k) ops.size
        have hi : i = dNext s0 j + dStep ops s0 * ((K + k) / ops.size) := by
          unfold dNext dStep
          rw [hk, Nat.mul_assoc, Nat.add_assoc, ← Nat.mul_add, Nat.add_assoc, ← Nat.mul_add, hj]
          congr 2
          omega
        have hge : q ≤ (K + k) / ops.size := by
          have h1 := hnx j hjl
          rw [hq, hK] at h1
          have h2 : dNext s0 j + dStep ops s0 * q ≤ dNext s0 j + dStep ops s0 * ((K + k) / ops.size) := by
            rw [← hi, hk]
            refine Nat.le_trans h1 ?_
            omega
          have h3 : dStep ops s0 * q ≤ dStep ops s0 * ((K + k) / ops.size) := by omega
          exact Nat.le_of_mul_le_mul_left h3 (Nat.mul_pos hr0.pos hN)
        have := hI.done j hjl (hall j hjl) ((K + k) / ops.size - q)
        rw [hq, Nat.add_assoc, ← Nat.mul_add] at this
        rw [hi]
        rwa [show q + ((K + k) / ops.size - q) = (K + k) / ops.size by omega] at this
    · rintro b hb ⟨i, o, L, g1, g2, g3, g4⟩
      exact hI.own b hb ⟨i, o, L, (e2 i).trans g1, g2, g3, g4⟩
  refine wp_region_any hT.mixed ?_
  -- one operation after the other
  have go : ∀ (fuel : Nat) (l : Array Bool) (r : Rho) (a : Act) (w : World), l.size = ops.size → undone (listS l) ops.size ≤ fuel → DInv P ops rg0 s0 rc r0 w0 (listS l) r a w →
      wpAny P .any ops (fun ex a' w' => ∃ e rg' s' r', Q e rg' s' ∧ ex = AExit.toExit e ∧ ActRel r' rg' a' ∧ Step P r0 s0 w0 r' s' w') fuel l a w := by
    have hedges : ∀ i o, ops[i]? = some o → ∀ e ∈ o.after.toList, Region.binds .any e = true → e.on < i := fun i o ho e he hb => hD.edges i o ho e (by simp [binding, hb]; simpa using he)
    intro fuel
    induction fuel with
    | zero =>
      intro l r a w hl hu hI
      have hall := undone_zero (S := listS l) ops.size (by omega)
      refine ⟨?_, fin _ r a w hI hall⟩
      apply List.eq_nil_iff_forall_not_mem.2
      intro j hj
      rw [Region.ready, List.mem_filter] at hj
      have hjl : j < ops.size := by simpa using hj.1
      have h1 := hall j hjl
      have h2 := hj.2
      simp only [Bool.and_eq_true, Bool.not_eq_true'] at h2
      have h3 := h2.1
      unfold listS at h1
      simp only [Array.getD_eq_getD_getElem?] at h1 h3
      have : j < l.size := by omega
      simp [this] at h1 h3
      rw [h1] at h3; cases h3
    | succ fuel ih =>
      intro l r a w hl hu hI
      refine ⟨fun hnil => fin _ r a w hI (ready_all hedges hl hnil), ?_⟩
      intro i hi
      rw [Region.ready, List.mem_filter] at hi
      have hil : i < ops.size := by simpa using hi.1
      obtain ⟨o, ho⟩ : ∃ o, ops[i]? = some o := ⟨_, Array.getElem?_eq_getElem hil⟩
      have h2 := hi.2
      rw [ho] at h2
      simp only [Bool.and_eq_true, Bool.not_eq_true', Option.map_some, Option.getD_some] at h2
      have hSi : listS l i = false := by
        have h3 := h2.1
        unfold listS
        simp only [Array.getD_eq_getD_getElem?] at h3 ⊢
        have : i < l.size := by omega
        simp [this] at h3 ⊢
        exact h3
      have hr : ∀ e ∈ binding o, listS l e.on = true := by
        intro e he
        have h3 := h2.2
        rw [← Array.all_toList, List.all_eq_true] at h3
        simp only [binding, List.mem_filter] at he
        have := h3 e he.1
        rw [he.2] at this
        simpa [listS] using this
      have hset : listS (l.setIfInBounds i true) = addS (listS l) i := listS_set (by omega)
      have hnext : ∀ (r1 : Rho) (w1 : World) (a1 : Act), DInv P ops rg0 s0 rc r0 w0 (addS (listS l) i) r1 a1 w1 →
          wpAny P .any ops (fun ex a' w' => ∃ e rg' s' r', Q e rg' s' ∧ ex = AExit.toExit e ∧ ActRel r' rg' a' ∧ Step P r0 s0 w0 r' s' w') fuel (l.setIfInBounds i true) a1 w1 := by
        intro r1 w1 a1 hI1
        refine ih _ r1 a1 w1 (by simpa using hl) ?_ (by rw [hset]; exact hI1)
        rw [hset]
        have := undone_add (S := listS l) (i := i) hSi ops.size
        rw [if_pos hil] at this
        omega
      have hagree : ∀ t, t ∈ o.looksAt ops → (regAt ops rg0 rc (listS l) ops.size)[t]? = (regAt ops rg0 rc allS i)[t]? := fun t ht => regs_agree hD ho hI.closed hSi hr (.inl ht)
      have hwant : Region.wanted o (yielded ops a.tmps) = Region.wanted o (yieldedA ops (regAt ops rg0 rc allS i)) := (wanted_eq hI.act o).trans (wanted_agree hagree)
      have hev : ∀ x ∈ o.op.operands, ev T (regAt ops rg0 rc (listS l) ops.size) x = ev T (regAt ops rg0 rc allS i) x := fun x hx => ev_agree fun t ht => hagree t (looks_of_operand (by rw [← ht]; exact hx))
      -- the part of the memory that it sees
      have hsub : ∀ j o', (rc i).m.get j = some o' → memAt s0 rc (listS l) ops.size j = some o' := by
        intro j o' h
        rw [← hD.sub i hil j o' h, ← memAt_lt s0 rc ops.size (by omega)]
        refine memAt_congr s0 rc ops.size fun k hk hlk => ?_
        by_cases e : k = i
        · subst e; rw [hSi]; simp [ltS]
        · refine ready_split ho hk hI.closed hSi hr ?_
          cases h1 : before (predsOf ops ops.size) k i with
          | true => exact .inl rfl
          | false =>
            cases h2 : before (predsOf ops ops.size) i k with
            | true => exact .inr rfl
            | false =>
              have := hD.ni i k hil hk (fun h => e h.symm) h1 h2 j hlk
              rw [h] at this; cases this
      have hstep : 0 < dStep ops s0 := Nat.mul_pos hr0.pos (by omega)
      have hrel : Rel P r ⟨(rc i).m, dNext s0 i, dStep ops s0⟩ w :=
        ⟨fun j o' h => hI.objs j o' (hsub j o' h), fun j k oj ok Lj Lk hne hj hk => hI.sep j k oj ok Lj Lk hne (hsub j oj hj) (hsub k ok hk), by rintro j ⟨q, rfl⟩; exact hI.todo i hil hSi q, hstep, hI.glob⟩
      unfold wpOp
      rw [ho]
      simp only
      cases hw : Region.wanted o (yieldedA ops (regAt ops rg0 rc allS i)) with
      | false =>
        rw [hwant, hw]
        simp only [Bool.false_eq_true, if_false]
        obtain ⟨h1, h2, h3⟩ := hD.skip i o ho hw
        refine hnext r w _ (hI.next hD hr0 ho hSi hr (u := undef) (by rw [h1]; exact VRel.undef r) rfl ?_ hrel)
        rw [h2, h3]
        exact Step.refl hrel
      | true =>
        rw [hwant, hw]
        simp only [if_true]
        left
        rcases hD.run i o ho hw with hop | ⟨f, args, hc, hf, hcall⟩
        · rw [← opA_congr hev] at hop
          obtain ⟨nx, u, w', r', h1, h2, h3, h4⟩ := opA_sound hT hrel (ERel.of hT hrel hI.act) hop
          have := hI.next hD hr0 ho hSi hr h3 rfl h4 hrel
          unfold Oper.wp
          rw [h1]
          rcases h2 with rfl | ⟨rfl, rfl⟩
          · exact hnext r' w' _ this
          · exact hnext r' w' _ this
        · rw [← callA_congr hev] at hc
          obtain ⟨us, h1, h2⟩ := call_run hT (ERel.of hT hrel hI.act) hc hf
          unfold Oper.wp
          rw [h1]
          refine (hcall r w us hrel h2).mono ?_
          rintro e w' ⟨v, s', r', u, ⟨rfl, rfl⟩, rfl, h4, h5⟩
          exact hnext r' w' _ (hI.next hD hr0 ho hSi hr h4 rfl h5 hrel)
  have hrep : listS (Array.replicate ops.size false) = fun _ => false := by
    funext j
    unfold listS
    simp only [Array.getD_eq_getD_getElem?, Array.getElem?_replicate]
    split <;> rfl
  refine go ops.size _ r0 a0 { w0 with drawn := w0.drawn + 1 } (by simp) ?_ ?_
  · rw [hrep]
    have : ∀ n, undone (fun _ => false) n = n := by
      intro n
      induction n with
      | zero => rfl
      | succ n ih => simp [undone, ih]
    rw [this]
    exact Nat.le_refl _
  · rw [hrep]
    have hm0 : ∀ n i, memAt s0 rc (fun _ => false) n i = s0.mem.get i := by
      intro n i
      induction n with
      | zero => rfl
      | succ n ih => rw [memAt_succ]; simpa using ih
    have hg0 : ∀ n, regAt ops rg0 rc (fun _ => false) n = rg0 := by
      intro n
      induction n with
      | zero => rfl
      | succ n ih => rw [regAt_succ]; simpa using ih
    have hrd := hr0.drew (w0.drawn + 1)
    constructor
    · intro i o hi h; cases h
    · rw [hg0]; exact ha0
    · intro i o hi; rw [hm0] at hi; exact hrd.objs i o hi
    · intro i j oi oj Li Lj hne hi hj; rw [hm0] at hi hj; exact hrd.sep i j oi oj Li Lj hne hi hj
    · intro i _ h; cases h
    · intro i hil _ q
      obtain ⟨k, hk⟩ := dNext_ns (ops := ops) (s0 := s0) (i := i) (q := q)
      exact hr0.fresh _ ⟨k, hk⟩
    · intro i _ h; cases h
    · exact hr0.glob
    · intro _ i hi; exact hr0.fresh i hi
    · intro _ _; rfl
    · exact Nat.le_refl _
    · intro _ _ _; rfl
    · rintro b hb ⟨i, o, L, g1, g2⟩; rw [hm0] at g1; exact ⟨i, o, L, g1, g2⟩
    · intro i o hi _; rw [hm0] at hi; exact hi
    · rfl
    · rfl
    · rfl

end

end Go.Proofs.Abs
