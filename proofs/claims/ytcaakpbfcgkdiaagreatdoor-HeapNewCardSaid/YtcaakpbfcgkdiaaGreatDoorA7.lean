/- From the abstract machine to a row. Conditions: none beyond what each theorem says. -/
import Derived.Test.YtcaakpbfcgkdiaaGreatDoorA4
import Derived.HandedShaped
import Derived.ProofKit
import Derived.OpenShut
import Derived.LaidMore
import Derived.Stop.Joined

/- From the abstract machine to a row: the wrap, the frame, the data of package variables. -/
namespace Go.Proofs.Abs
open Go Go.ChangeShapes Go.WideShapes Go.ChangeAt Go.RowKit

section
variable {H : Type} {enc : TypeId × Value → H}

/-- The plain wrap, with what is laid and with the world's shape. -/
theorem returnsInHanded_of_change_laid {a : Assume} {C : Checked} {os : Os} {f : FuncId} {fn : Func} {s : ChangeSpec} {conds : List PathCond} {apart fresh handsOn again : Bool} {X : World → Array Value → Prop}
    (hX : ∀ (w w' : World) (args : Array Value), w.heap = w'.heap → X w args → X w' args)
    (own : ownKnob C.prog.godebug = none) (started : os.Started) (noInit : C.prog.inits.idxOf? f = none) (hfn : C.prog.funcs[f]? = some fn)
    (witness : ∃ (w : World) (tape : Tape) (i : Input), w.os = os ∧ (w.forCall tape i).Shaped C.prog ∧ i.vars = [] ∧ Input.okWide C.prog (w.forCall tape i) .any w.heap.size f i ∧
      ((s.pre enc C.prog fn conds apart (w.forCall tape i).memory i.args ∧ X (w.forCall tape i).memory i.args) ∧ sizedMet enc C.prog fn (OpenSpec.ofChange s) apart (w.forCall tape i).memory i.args) ∧ a.holds C.prog (lone (Frame.enter C.prog f i.args .normal) [] (w.forCall tape i)))
    (contract : ∀ (W : World) (base : Nat) (args : Array Value) (ds gs : List (DataW H)) (before : List MemPlace),
      (∀ (j : Nat) t v, fn.params[j]? = some t → args[j]? = some v → Value.okWide C.prog W .any base t v) →
      DataW.Whole enc C.prog fn.params.toList s.vars apart W args.toList ds gs before →
      conds.all (PathCond.test C.prog ⟨fn.params.toList, ds, s.plain.varTypes C.prog, gs⟩) = true →
      (DataW.weightsEach C.prog (fn.params.toList ++ s.plain.varTypes C.prog) (ds ++ gs)).all (· ≤ reachBytes) = true → X W args → W.ShapedOpen C.prog →
      a.holds C.prog (lone (Frame.enter C.prog f args .normal) [] W) →
      Calls C.prog f args W fun e W' => ∃ v, e = .returned v ∧ s.post enc C.prog fn apart fresh handsOn again W args v W') :
    ReturnsInHanded a C os f .any (fun w args => (s.pre enc C.prog fn conds apart w args ∧ X w args) ∧ sizedMet enc C.prog fn (OpenSpec.ofChange s) apart w args) (s.post enc C.prog fn apart fresh handsOn again) := by
  refine returnsInHanded_of_calls own started noInit witness ?_
  intro w tape i _ hsh _ hok hpre hholds
  obtain ⟨_, _, _, fn', hfn', _, _, _, _, hval⟩ := hok
  have e : fn' = fn := Option.some.inj (hfn'.symm.trans hfn)
  subst e
  obtain ⟨⟨⟨ds, gs, before, hw, hc⟩, hx⟩, hz⟩ := hpre
  have hw' := DataW.Whole.of_heap (w' := w.forCall tape i) (by rfl) hw
  refine (contract (w.forCall tape i) w.heap.size i.args ds gs before hval hw' hc (hz.weights hw) (hX _ _ _ (by rfl) hx) hsh hholds).mono fun e W' ⟨v, he, hp⟩ => ?_
  subst he
  exact ChangeSpec.post_blind hp

/-- The arguments read behind the call as they read before. -/
theorem below_trodAll {P : Program} (hl : laidOutB P = true) {W W' : World} (hb : Below W.heap.size W W') : ∀ {ts : List TypeId} {vs : List Value} {ds : List (DataW H)} {ps : List MemPlace}, (ts.all fun t => P.readableRec t && Nat.blt t P.types.size) = true →
    DataW.TrodAll enc P W 0 (fun _ => true) true ts vs ds ps → (∀ x ∈ ps, x.block < W.heap.size) → DataW.TrodAll enc P W' 0 (fun b => decide (b < W.heap.size)) true ts vs ds ps
  | [], [], [], ps, _, h, _ => h
  | t :: ts, v :: vs, d :: ds, ps, ha, h, hlt => by
    obtain ⟨p, q, h1, h2, rfl⟩ := h
    simp only [List.all_cons, Bool.and_eq_true] at ha
    have hsz : t < P.types.size := by
      have h := ha.1.2
      exact Nat.le_of_ble_eq_true h
    exact ⟨p, q, Below.trod hl ha.1.1 hsz h1 hb (fun x hx => hlt x (List.mem_append.2 (.inl hx))), below_trodAll hl hb ha.2 h2 (fun x hx => hlt x (List.mem_append.2 (.inr hx))), rfl⟩
  | [], [], _ :: _, _, _, h, _ => h.elim
  | [], _ :: _, _, _, _, h, _ => by cases ‹List (DataW H)› <;> exact h.elim
  | _ :: _, [], _, _, _, h, _ => by cases ‹List (DataW H)› <;> exact h.elim
  | _ :: _, _ :: _, [], _, _, h, _ => h.elim

end

/-- Where nothing was the machine's own, nothing that was there has turned. -/
theorem below_of_step {P : Program} {r r' : Rho} {s s' : St} {w w' : World} (h : Step P r s w r' s' w') (hro : ∀ i o, s.mem.get i = some o → o.ro = true) : Below w.heap.size w w' := by
  refine ⟨h.os, h.tape, h.output, h.size, fun b hb => h.keep b hb ?_⟩
  rintro ⟨i, o, L, h1, h2, _⟩
  rw [hro i o h1] at h2; cases h2

/-! ### Data of package variables -/

section
variable {P : Program} {H : Type} {enc : TypeId × Value → H} {w : World} {base : Nat} {spare : Nat → Bool} {held : Bool}

theorem flat_parts {c : Nat} : ∀ {ls : List (List Value)} {cs : List Value}, (∀ i l, ls[i]? = some l → (cs.drop (i * c)).take c = l ∧ l.length = c) → cs.length = ls.length * c → cs = ls.flatten
  | [], cs, _, h => by simpa using h
  | l :: ls, cs, hp, h => by
    obtain ⟨h1, h2⟩ := hp 0 l rfl
    simp only [Nat.zero_mul, List.drop_zero] at h1
    have ih := flat_parts (c := c) (ls := ls) (cs := cs.drop c) (fun i l hl => by
      have := hp (i + 1) l (by simpa using hl)
      rw [List.drop_drop]
      rw [Nat.add_mul, Nat.one_mul] at this
      rw [Nat.add_comm c]; exact this) (by simp only [List.length_drop, h, List.length_cons, Nat.add_mul, Nat.one_mul]; omega)
    rw [List.flatten_cons, ← ih, ← h1, List.take_append_drop]

theorem array_cells {t e : TypeId} {n fuel : Nat} {cs : List Value} {ds : List (DataW H)} {p : List MemPlace} {g : DataW H → List Value} (ht : P.underlying t = some (.array n e)) (hc : P.cellsOf t = n * P.cellsOf e) (h : DataW.trod enc P w base spare held fuel t cs = some (.agg ds, p))
    (inv : ∀ fuel c d q, DataW.trod enc P w base spare held fuel e c = some (d, q) → c = g d ∧ c.length = P.cellsOf e) : cs = (ds.map g).flatten := by
  obtain ⟨xs, m, rfl, hx, hlen, hn, hel⟩ := DataW.trod_array ht h
  simp only [Prod.mk.injEq, DataW.agg.injEq] at hx
  obtain ⟨hds, _⟩ := hx
  refine flat_parts (c := P.cellsOf e) (fun i l hl => ?_) (by rw [hlen, hc, List.length_map, hds, List.length_map, hn])
  rw [List.getElem?_map, hds, List.getElem?_map] at hl
  cases hxi : xs[i]? with
  | none => rw [hxi] at hl; cases hl
  | some x =>
    rw [hxi] at hl
    simp only [Option.map_some, Option.some.injEq] at hl
    have hi : i < n := by rw [← hn]; exact (List.getElem?_eq_some_iff.1 hxi).1
    obtain ⟨d, q⟩ := x
    have := inv _ _ _ _ ((hel i hi).trans hxi)
    rw [this.1] at *
    exact ⟨hl, by rw [← hl]; exact this.2⟩

theorem string_cells {e : TypeId} (he : P.underlying e = some .string) (fuel : Nat) (c : List Value) (d : DataW H) (q : List MemPlace) (h : DataW.trod enc P w base spare held fuel e c = some (d, q)) : ∃ bs, d = .lit (.string bs) ∧ c = [.string ⟨⟨bs⟩⟩] := by
  obtain ⟨s, h1, h2, _⟩ := DataW.trod_string he h
  cases h2
  exact ⟨_, rfl, h1⟩

theorem bool_cells {e : TypeId} (he : P.underlying e = some .bool) (fuel : Nat) (c : List Value) (d : DataW H) (q : List MemPlace) (h : DataW.trod enc P w base spare held fuel e c = some (d, q)) : ∃ b, d = .lit (.bool b) ∧ c = [.bool b] := by
  obtain ⟨b, h1, h2⟩ := DataW.trod_bool he h
  cases h2
  exact ⟨_, rfl, h1⟩

end

end Go.Proofs.Abs
