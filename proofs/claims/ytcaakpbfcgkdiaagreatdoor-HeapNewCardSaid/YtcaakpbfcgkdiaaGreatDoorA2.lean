/- The abstract machine: each operation is sound. Conditions: none beyond what each theorem says. -/
import Derived.Test.YtcaakpbfcgkdiaaGreatDoorA1
import Derived.IntWalk

/- The abstract machine: each operation is sound. -/
namespace Go.Proofs.Abs
open Go

section
variable {P : Program} {w : World} {T : Tab} {r : Rho} {s s' : St}

theorem ev_sound (hT : T.Ok P) (hr : Rel P r s w) {rg : List Value} {a : Act} (ha : VRels r rg a.tmps.toList) {x : Operand} {v : Value} (h : ev T rg x = some v) : VRel r v (a.eval x) := by
  cases x with
  | tmp t =>
    simp only [ev, Option.some.injEq] at h
    subst h
    simp only [Act.eval, List.getD_eq_getElem?_getD, Array.getD_eq_getD_getElem?]
    rcases ha.get t with ⟨h1, h2⟩ | ⟨a', v', h1, h2, h3⟩
    · rw [h1]; simp only [Array.getElem?_toList] at h2; rw [h2]; exact VRel.undef r
    · rw [h1]; simp only [Array.getElem?_toList] at h2; rw [h2]; exact h3
  | const v' =>
    simp only [ev] at h
    split at h
    · cases h; exact plain_rel r _ ‹_›
    · cases h
  | global g =>
    simp only [ev] at h
    split at h
    · cases h
      obtain ⟨L, h1, h2, h3⟩ := hr.glob g (Nat.lt_of_lt_of_le ‹_› hT.ng)
      have := VRel.ptr (r := r) g 0 L h1
      rw [h2, h3] at this
      exact this
    · cases h
  | func f =>
    simp only [ev, Option.some.injEq] at h
    subst h
    exact .func _ _ _ _ _ rfl rfl (by intro i h1; simp at h1) (by intro i h1; simp at h1)

/-- Operands: what the machine has stands for what the model has. -/
def ERel (r : Rho) (e : Operand → Option Value) (ρ : Operand → Value) : Prop := ∀ x v, e x = some v → VRel r v (ρ x)

theorem evs_sound {e : Operand → Option Value} {ρ : Operand → Value} (he : ERel r e ρ) : ∀ {xs : List Operand} {vs : List Value}, evs e xs = some vs → VRels r vs (xs.map ρ)
  | [], vs, h => by simp [evs] at h; subst h; exact .nil
  | x :: xs, vs, h => by
    simp only [evs] at h
    split at h
    · cases h; exact .cons (he _ _ ‹_›) (evs_sound he ‹_›)
    · cases h

theorem evParts_sound {e : Operand → Option Value} {ρ : Operand → Value} (he : ERel r e ρ) : ∀ {xs : List (Nat × Operand)} {vs : List (Nat × Value)}, evParts e xs = some vs →
    vs.map (·.1) = xs.map (·.1) ∧ VRels r (vs.map (·.2)) (xs.map fun p => ρ p.2)
  | [], vs, h => by simp [evParts] at h; subst h; exact ⟨rfl, .nil⟩
  | (i, x) :: xs, vs, h => by
    simp only [evParts] at h
    split at h
    · cases h
      obtain ⟨h1, h2⟩ := evParts_sound he ‹_›
      exact ⟨by simp [h1], .cons (he _ _ ‹_›) h2⟩
    · cases h

/-! ### Integers, strings, comparisons -/

theorem semPure_run {α : Type} {m : Sem α} {a : α} (h : semPure m = some a) : m.run P w = .ok a w := by
  cases m <;> simp [semPure] at h
  subst h; rfl

theorem eqLeaf_refl : ∀ (ks : List LK) (xs : List Value), hasAll ks xs = true → VRels r xs xs
  | [], [], _ => .nil
  | [], _ :: _, h => by simp [hasAll] at h
  | _ :: _, [], h => by simp [hasAll] at h
  | k :: ks, x :: xs, h => by
    simp only [hasAll, Bool.and_eq_true] at h
    refine .cons ?_ (eqLeaf_refl ks xs h.2)
    cases k <;> cases x <;> simp [LK.has] at h
    · exact .int _ _
    · exact .string _
    · exact .bool _

theorem hasAll_same : ∀ (ks : List LK) (xs us : List Value), hasAll ks xs = true → VRels r xs us → us = xs
  | [], [], us, _, h => by cases h; rfl
  | [], _ :: _, _, h, _ => by simp [hasAll] at h
  | _ :: _, [], _, h, _ => by simp [hasAll] at h
  | k :: ks, x :: xs, us, h, hv => by
    simp only [hasAll, Bool.and_eq_true] at h
    cases hv with
    | cons h1 h2 =>
      rw [hasAll_same ks xs _ h.2 h2]
      congr 1
      cases k <;> cases x <;> simp [LK.has] at h
      · exact h1.int_inv
      · exact h1.string_inv
      · exact h1.bool_inv

theorem isNil_sound {x x' : Value} (h : VRel r x x') {b : Bool} (hb : isNilV x = some b) : isNilV x = some b ∧ ((b = true ∧ x' = x) ∨ (b = false ∧ x' ≠ x ∨ b = false)) := by
  refine ⟨hb, ?_⟩
  cases b
  · exact .inr (.inr rfl)
  · left
    refine ⟨rfl, ?_⟩
    cases h <;> simp [isNilV] at hb <;> rfl

theorem run_eq_nil (hT : T.Ok P) {t : TypeId} {x y x' y' : Value} {b : Bool} (hx : VRel r x x') (hy : VRel r y y') (hs : sameSort x y = true) (hn : nilT T t x = true) (hb : isNilV y = some b) : (Op.equal t x' y').run P w = .ok b w := by
  have key : ∀ d, (Op.equalIn (d + 1) t x' y').run P w = .ok b w := by
    intro d
    unfold nilT at hn
    split at hn
    case h_5 => cases hn
    all_goals
      rename_i hd; have hu := hT.und _ _ hd
      cases hx
      cases hy <;> simp [sameSort] at hs <;> simp [isNilV] at hb <;> subst hb <;> simp [Op.equalIn, run_und hu]
  exact key 9999

theorem run_eq_nil' (hT : T.Ok P) {t : TypeId} {x y x' y' : Value} {b : Bool} (hx : VRel r x x') (hy : VRel r y y') (hs : sameSort x y = true) (hn : nilT T t y = true) (hb : isNilV x = some b) : (Op.equal t x' y').run P w = .ok b w := by
  have key : ∀ d, (Op.equalIn (d + 1) t x' y').run P w = .ok b w := by
    intro d
    unfold nilT at hn
    split at hn
    case h_5 => cases hn
    all_goals
      rename_i hd; have hu := hT.und _ _ hd
      cases hy
      cases hx <;> simp [sameSort] at hs <;> simp [isNilV] at hb <;> subst hb <;> simp [Op.equalIn, run_und hu]
  exact key 9999

theorem run_eqA (hT : T.Ok P) {t : TypeId} {x y x' y' : Value} {b : Bool} (h : eqA T t x y = some b) (hx : VRel r x x') (hy : VRel r y y') :
    (Op.equal t x' y').run P w = .ok b w ∧ ∀ (op : BinOp) (p q : Operand), (eqGuard op t p q x' y').run P w = .ok () w := by
  unfold eqA at h
  split at h
  · cases hx; cases hy
    split at h
    · cases h
      rename_i hm
      have hd : T.und t = some .bool := by
        cases hd : T.und t with
        | none => rw [hd] at hm; simp at hm
        | some d => rw [hd] at hm; cases d <;> simp at hm; rfl
      have hu := hT.und _ _ hd
      have key : ∀ d a b, (Op.equalIn (d + 1) t (.bool a) (.bool b)).run P w = .ok (a == b) w := fun d a b => by simp [Op.equalIn, run_und hu]
      refine ⟨key 9999 _ _, fun op p q => ?_⟩
      unfold eqGuard
      cases op <;> rfl
    · cases h
  · rename_i xs ys
    split at h
    · rename_i ks hk
      split at h
      · rename_i hb
        cases h
        cases hx with
        | agg _ us hsz hvr =>
          cases hy with
          | agg _ vs hsz' hvr' =>
            have e1 : us = xs := Array.toList_inj.1 (hasAll_same ks _ _ hb.1 (VRels.toArray hsz hvr))
            have e2 : vs = ys := Array.toList_inj.1 (hasAll_same ks _ _ hb.2 (VRels.toArray hsz' hvr'))
            subst e1 e2
            obtain ⟨hg, he⟩ := hT.eqk _ _ hk
            refine ⟨he w _ _ hb.1 hb.2, fun op p q => ?_⟩
            unfold eqGuard
            cases op <;> simp [hg]
      · cases h
    · cases h
  · split at h
    · cases h
    · rename_i hss
      have hss : sameSort x y = true := by simpa using hss
      have hg : ∀ (op : BinOp) (p q : Operand), (eqGuard op t p q x' y').run P w = .ok () w := by
        intro op p q
        unfold eqGuard
        cases hx <;> cases hy <;> simp [sameSort] at hss <;> cases op <;> rfl
      split at h
      · exact ⟨run_eq_nil hT hx hy hss ‹_› h, hg⟩
      · split at h
        · exact ⟨run_eq_nil' hT hx hy hss ‹_› h, hg⟩
        · cases h

theorem beq_bytes (a b : ByteArray) : (a.toList == b.toList) = (a == b) := (beq_toListBytes a b).symm

theorem run_binA (hT : T.Ok P) {op : BinOp} {t : TypeId} {x y x' y' v : Value} (h : binA T op t x y = some v) (hx : VRel r x x') (hy : VRel r y y') (p q : Operand) :
    ∃ u, (do eqGuard op t p q x' y'; binOp op t x' y').run P w = .ok u w ∧ VRel r v u := by
  unfold binA at h
  split at h
  · cases hx; cases hy
    split at h
    · rename_i v0 hv0
      split at h
      · cases h
        refine ⟨_, ?_, plain_rel r _ ‹_›⟩
        have hg : ∀ k a k' b, (eqGuard op t p q (Value.int k a) (Value.int k' b)).run P w = .ok () w := by intros; unfold eqGuard; cases op <;> rfl
        simp only [Sem.run_bind, hg, Result.andThen_ok]
        exact semPure_run hv0
      · cases h
    · cases h
  · cases hx; cases hy
    have hg : ∀ a b, (eqGuard op t p q (Value.string a) (Value.string b)).run P w = .ok () w := by intros; unfold eqGuard; cases op <;> rfl
    split at h
    · split at h
      · cases h
        refine ⟨_, ?_, .string _⟩
        simp only [Sem.run_bind, hg, Result.andThen_ok]
        have hm : IntKind.i64.max = 9223372036854775807 := by decide
        simp only [binOp, Op.stringOp]
        rw [Sem.run_ite, if_neg (by rw [hm]; omega)]
        rfl
      · cases h
    · cases h
      refine ⟨_, ?_, .bool _⟩
      simp only [Sem.run_bind, hg, Result.andThen_ok]
      simp [binOp, Op.stringOp, beq_bytes]
    · cases h
      refine ⟨_, ?_, .bool _⟩
      simp only [Sem.run_bind, hg, Result.andThen_ok]
      simp [binOp, Op.stringOp, beq_bytes]
    · cases h
  · rename_i hni hns
    have nx : ∀ {b : Bool}, eqA T t x y = some b → (binOp .eql t x' y').run P w = .ok (.bool b) w ∧ (binOp .neq t x' y').run P w = .ok (.bool (!b)) w := by
      intro b hb
      have he := (run_eqA (w := w) hT hb hx hy).1
      constructor
      · cases hx <;> cases hy <;> first
          | exact absurd rfl (hni _ _ _ _ rfl)
          | exact absurd rfl (hns _ _ rfl)
          | (simp only [binOp, Sem.run_bind, he, Result.andThen_ok, Sem.run_pure])
      · cases hx <;> cases hy <;> first
          | exact absurd rfl (hni _ _ _ _ rfl)
          | exact absurd rfl (hns _ _ rfl)
          | (simp only [binOp, Sem.run_bind, he, Result.andThen_ok, Sem.run_pure])
    split at h
    · obtain ⟨b, hb, rfl⟩ := Option.map_eq_some_iff.1 h
      refine ⟨.bool b, ?_, .bool _⟩
      simp only [Sem.run_bind, (run_eqA (w := w) hT hb hx hy).2, Result.andThen_ok]
      exact (nx hb).1
    · obtain ⟨b, hb, rfl⟩ := Option.map_eq_some_iff.1 h
      refine ⟨.bool (!b), ?_, .bool _⟩
      simp only [Sem.run_bind, (run_eqA (w := w) hT hb hx hy).2, Result.andThen_ok]
      exact (nx hb).2
    · cases h

end
end Go.Proofs.Abs

/- The abstract machine: addresses, parts, literals. -/
namespace Go.Proofs.Abs
open Go

section
variable {P : Program} {w : World} {T : Tab} {r : Rho} {s s' : St}

theorem run_unA {op : UnOp} {x x' v : Value} (h : unA op x = some v) (hx : VRel r x x') : ∃ u, (Op.unary op x').run P w = .ok u w ∧ VRel r v u := by
  unfold unA at h
  split at h
  · cases h; cases hx; exact ⟨_, rfl, .bool _⟩
  · cases h; cases hx; exact ⟨_, rfl, .int _ _⟩
  · cases h

theorem run_minMax {mx : Bool} {x y x' y' v : Value} (h : minMax mx x y = some v) (hx : VRel r x x') (hy : VRel r y y') :
    ∃ u, ((if mx then Builtin.max_ else Builtin.min_) #[] 0 #[x', y']).run P w = .ok u w ∧ VRel r v u := by
  unfold minMax at h
  split at h
  · split at h
    · cases h; cases hx; cases hy
      cases mx
      · exact ⟨_, rfl, .int _ _⟩
      · exact ⟨_, rfl, .int _ _⟩
    · cases h
  · cases h

theorem run_fieldAddrA (hT : T.Ok P) {t : TypeId} {x x' v : Value} {k : Nat} (h : fieldAddrA T t x k = some v) (hx : VRel r x x') : ∃ u, (Instr.fieldAt t x' k).run P w = .ok u w ∧ VRel r v u := by
  unfold fieldAddrA at h
  split at h
  · rename_i fs i o hd
    split at h
    · rename_i f hf
      split at h
      · rename_i z n b hi
        obtain ⟨inf, i1, _, i3, _⟩ := hT.inf _ _ _ _ hi
        split at h
        · cases h
        · cases h
          rename_i hn
          cases hx with
          | ptr _ _ L hL =>
            refine ⟨_, ?_, VRel.ptr i (o + f.offset) L hL⟩
            simp only [Instr.fieldAt, Sem.run_bind, run_und (hT.und _ _ hd), Result.andThen_ok, hf, Instr.sureAddr, Sem.run_pure, fieldPlace, run_size i1]
            rw [Sem.run_ite, if_neg (by omega)]
            simp [add_none, Nat.add_assoc]
      · cases h
    · cases h
  · cases h

theorem run_indexAddrA (hT : T.Ok P) {t : TypeId} {x x' ix ix' v : Value} (h : indexAddrA T t x ix = some v) (hx : VRel r x x') (hi : VRel r ix ix') : ∃ u, (Instr.indexAt t x' ix').run P w = .ok u w ∧ VRel r v u := by
  unfold indexAddrA at h
  split at h
  · rename_i k j n e i o hd
    split at h
    · rename_i z sz b hinf
      obtain ⟨inf, i1, _, i3, _⟩ := hT.inf _ _ _ _ hinf
      split at h
      · rename_i hj
        cases h; cases hi
        cases hx with
        | ptr _ _ L hL =>
          refine ⟨_, ?_, VRel.ptr i (o + j.toNat * sz) L hL⟩
          simp only [Instr.indexAt, Sem.run_bind, asIntOf, Sem.run_pure, Result.andThen_ok, run_und (hT.und _ _ hd), Instr.sureAddr]
          rw [Sem.run_ite, if_pos hj]
          simp [run_size i1, i3, add_none, Nat.add_assoc]
      · cases h
    · cases h
  · rename_i k j e i o n n' hd
    split at h
    · rename_i z sz b hinf
      obtain ⟨inf, i1, _, i3, _⟩ := hT.inf _ _ _ _ hinf
      split at h
      · rename_i hj
        obtain ⟨rfl, hj⟩ := hj
        cases h; cases hi
        cases hx with
        | sl _ _ _ a c L hL hle hc =>
          obtain ⟨ha, _⟩ := hc (by omega)
          subst ha
          refine ⟨_, ?_, VRel.ptr i (o + j.toNat * sz) L hL⟩
          simp only [Instr.indexAt, Sem.run_bind, asIntOf, Sem.run_pure, Result.andThen_ok, run_und (hT.und _ _ hd)]
          rw [Sem.run_ite, if_pos hj]
          simp [run_size i1, i3, add_none, Nat.add_assoc]
      · cases h
    · cases h
  · cases h

theorem run_indexA (hT : T.Ok P) {t : TypeId} {x x' ix ix' v : Value} (h : indexA T t x ix = some v) (hx : VRel r x x') (hi : VRel r ix ix') : ∃ u, (Instr.index t x' ix').run P w = .ok u w ∧ VRel r v u := by
  unfold indexA at h
  split at h
  · rename_i k j n e cs hd
    split at h
    · rename_i z sz b hinf
      obtain ⟨inf, i1, _, i3, _⟩ := hT.inf _ _ _ _ hinf
      split at h
      · rename_i hj
        cases hi
        cases hx with
        | agg _ us hsz hvr =>
          obtain ⟨u, hu, hr⟩ := run_part (w := w) hT (VRels.toArray hsz hvr) h
          refine ⟨u, ?_, hr⟩
          simp only [Instr.index, Sem.run_bind, asIntOf, Sem.run_pure, Result.andThen_ok, run_und (hT.und _ _ hd)]
          rw [Sem.run_ite, if_pos hj]
          simp only [Sem.run_bind, run_size i1, Result.andThen_ok, i3, hu]
      · cases h
    · cases h
  · rename_i k j b hd
    split at h
    · rename_i hj
      cases hi; cases hx
      obtain ⟨u, hu, rfl⟩ := Option.map_eq_some_iff.1 h
      refine ⟨_, ?_, .int _ _⟩
      simp only [Instr.index, Sem.run_bind, asIntOf, Sem.run_pure, Result.andThen_ok, run_und (hT.und _ _ hd)]
      rw [if_pos hj, hu]
      rfl
    · cases h
  · cases h

theorem run_fieldA (hT : T.Ok P) {t : TypeId} {x x' v : Value} {k : Nat} (h : fieldA T t x k = some v) (hx : VRel r x x') : ∃ u, (Instr.field t x' k).run P w = .ok u w ∧ VRel r v u := by
  unfold fieldA at h
  split at h
  · rename_i fs cs hd
    split at h
    · rename_i f hf
      cases hx with
      | agg _ us hsz hvr =>
        obtain ⟨u, hu, hr⟩ := run_part (w := w) hT (VRels.toArray hsz hvr) h
        refine ⟨u, ?_, hr⟩
        simp only [Instr.field, Sem.run_bind, run_und (hT.und _ _ hd), Result.andThen_ok, hf, asAgg, Sem.run_pure, hu]
    · cases h
  · cases h

/-! ### Literals -/

theorem foldl_write (vs : List Value) : ∀ (k : Nat) (c : Array Value) (o : Nat), (vs.zipIdx k).foldl (fun cs (p : Value × Nat) => cs.setIfInBounds (o + p.2) p.1) c = writeC c (o + k) vs := by
  induction vs with
  | nil => intro k c o; rfl
  | cons v vs ih =>
    intro k c o
    simp only [List.zipIdx_cons, List.foldl_cons, writeC]
    rw [ih, Nat.add_assoc]

theorem write_rel {vs us : List Value} (hv : VRels r vs us) : ∀ {cs : List Value} {c : Array Value} (o : Nat), VRels r cs c.toList → VRels r (writeAt cs o vs) (writeC c o us).toList := by
  induction hv with
  | nil => intro cs c o h; exact h
  | cons hv _ ih =>
    intro cs c o h
    simp only [writeAt, writeC]
    refine ih (o + 1) ?_
    have := h.set o hv
    rw [Array.toList_setIfInBounds]; exact this

theorem fill_sound {place : Nat → Option (Nat × Nat)} : ∀ {ps qs : List (Nat × Value)} {cs : List Value} {c : Array Value} {out : List Value}, ps.map (·.1) = qs.map (·.1) → VRels r (ps.map (·.2)) (qs.map (·.2)) → VRels r cs c.toList →
    fillA place cs ps = some out → ∃ out', Instr.fill place c qs = some out' ∧ VRels r out out'.toList
  | [], [], cs, c, out, _, _, hc, h => by simp [fillA] at h; subst h; exact ⟨c, rfl, hc⟩
  | [], _ :: _, _, _, _, h1, _, _, _ => by simp at h1
  | _ :: _, [], _, _, _, h1, _, _, _ => by simp at h1
  | (i, v) :: ps, (i', v') :: qs, cs, c, out, h1, h2, hc, h => by
    simp only [List.map_cons, List.cons.injEq] at h1
    obtain ⟨rfl, h1⟩ := h1
    cases h2 with
    | cons hv h2 =>
      simp only [fillA] at h
      split at h
      · cases h
      · rename_i off size hp
        split at h
        · rename_i hb
          have hl := hv.cells.length
          simp only [Array.length_toList] at hl
          have hcl := hc.length
          simp only [Array.length_toList] at hcl
          have hw := write_rel hv.cells off hc
          obtain ⟨out', ho, hr⟩ := fill_sound h1 h2 hw h
          refine ⟨out', ?_, hr⟩
          simp only [Instr.fill, hp]
          rw [if_neg (by simp; omega)]
          rw [← Array.foldl_toList, Array.toList_zipIdx]
          have := foldl_write v'.cells.toList 0 c off
          rw [Nat.add_zero] at this
          rw [this]
          exact ho
        · cases h

theorem places_sound (hT : T.Ok P) : ∀ {fs : List Field} {ps : List (Nat × Nat)}, placesOf T fs = some ps → (fs.mapM fun f => do pure (f.offset, ← sizeOf f.type) : Sem (List (Nat × Nat))).run P w = .ok ps w
  | [], ps, h => by simp [placesOf] at h; subst h; rfl
  | f :: fs, ps, h => by
    simp only [placesOf] at h
    split at h
    · rename_i z n b ps' hi hps
      cases h
      obtain ⟨inf, i1, _, i3, _⟩ := hT.inf _ _ _ _ hi
      rw [List.mapM_cons]
      simp only [Sem.run_bind, run_size i1, Result.andThen_ok, Sem.run_pure, places_sound hT hps, i3]
    · cases h

theorem plain_cells {z : Value} (h : plainV z = true) : VRels r z.cells.toList z.cells.toList := (plain_rel r z h).cells

theorem run_buildA (hT : T.Ok P) {t : TypeId} {ps qs : List (Nat × Value)} {v : Value} (h : buildA T t ps = some v) (h1 : ps.map (·.1) = qs.map (·.1)) (h2 : VRels r (ps.map (·.2)) (qs.map (·.2))) :
    ∃ u, (Instr.build t qs.toArray).run P w = .ok u w ∧ VRel r v u := by
  unfold buildA at h
  split at h
  · rename_i fs z sz b hd hi
    obtain ⟨inf, i1, i2, i3, i4, i5, i6⟩ := hT.inf _ _ _ _ hi
    split at h
    · rename_i pl hpl
      obtain ⟨out, hout, rfl⟩ := Option.map_eq_some_iff.1 h
      obtain ⟨out', ho, hr⟩ := fill_sound h1 h2 (plain_cells i5) hout
      refine ⟨.agg out', ?_, VRel.agg_iff.2 (by simpa using hr)⟩
      have hm : (fs.mapM fun f => do pure (f.offset, ← sizeOf f.type) : Sem (Array (Nat × Nat))).run P w = .ok pl.toArray w := by
        rw [← Array.toArray_toList (xs := fs), List.mapM_toArray]
        simp only [Sem.run_map, places_sound hT hpl, Result.andThen_ok]
      simp only [Instr.build, Sem.run_bind, run_zero i1 i2, Result.andThen_ok, run_und (hT.und _ _ hd), hm]
      have e : (fun x : Nat => pl.toArray[x]?) = (fun x : Nat => pl[x]?) := by funext x; simp
      rw [e, ho]
      rfl
    · cases h
  · rename_i n e z sz b hd hi
    obtain ⟨inf, i1, i2, i3, i4, i5, i6⟩ := hT.inf _ _ _ _ hi
    split at h
    · rename_i z' sz' b' hi'
      obtain ⟨inf', j1, j2, j3, j4, j5, j6⟩ := hT.inf _ _ _ _ hi'
      obtain ⟨out, hout, rfl⟩ := Option.map_eq_some_iff.1 h
      obtain ⟨out', ho, hr⟩ := fill_sound h1 h2 (plain_cells i5) hout
      refine ⟨.agg out', ?_, VRel.agg_iff.2 (by simpa using hr)⟩
      simp only [Instr.build, Sem.run_bind, run_zero i1 i2, Result.andThen_ok, run_und (hT.und _ _ hd), run_size j1, j3]
      rw [ho]
      rfl
    · cases h
  · cases h

theorem rep_length (n : Nat) (z : List Value) : (rep n z).length = n * z.length := by
  induction n with
  | zero => simp [rep]
  | succ n ih => simp [rep, ih, Nat.add_mul, Nat.add_comm]

theorem rep_get (n : Nat) (z : List Value) (i : Nat) (h : i < n * z.length) : (rep n z)[i]? = z[i % z.length]? := by
  induction n generalizing i with
  | zero => simp at h
  | succ n ih =>
    rw [rep]
    rcases Nat.lt_or_ge i z.length with g | g
    · rw [List.getElem?_append_left g, Nat.mod_eq_of_lt g]
    · rw [List.getElem?_append_right g, ih _ (by rw [Nat.add_mul] at h; omega), Nat.mod_eq_sub_mod g]

theorem range_rep (z : Array Value) (n : Nat) (hz : 0 < z.size) : ((Array.range (n * z.size)).map (z[· % z.size]!)).toList = rep n z.toList := by
  apply List.ext_getElem?
  intro i
  simp only [Array.toList_map, Array.toList_range, List.getElem?_map]
  rcases Nat.lt_or_ge i (n * z.size) with g | g
  · rw [rep_get _ _ _ (by simpa using g), List.getElem?_range g]
    have : i % z.size < z.size := Nat.mod_lt _ hz
    simp [this]
  · rw [List.getElem?_eq_none (by simpa using g), List.getElem?_eq_none (by rw [rep_length]; simpa using g)]
    rfl

theorem rep_plain {z : Value} (h : plainV z = true) (n : Nat) : VRels r (rep n z.cells.toList) (rep n z.cells.toList) := by
  induction n with
  | zero => exact .nil
  | succ n ih => exact (plain_cells h).append ih

theorem buildSliceA_sound (hT : T.Ok P) (hr : Rel P r s w) {t : TypeId} {len : Nat} {ps qs : List (Nat × Value)} {v : Value} (h : buildSliceA T t len ps s = some (v, s')) (h1 : ps.map (·.1) = qs.map (·.1)) (h2 : VRels r (ps.map (·.2)) (qs.map (·.2))) :
    SemOk P r s w (Instr.buildSlice t len qs.toArray) v s' := by
  unfold buildSliceA at h
  split at h
  · rename_i e hd
    split at h
    · rename_i z sz b hi
      obtain ⟨inf, i1, i2, i3, i4, i5, i6⟩ := hT.inf _ _ _ _ hi
      split at h
      · rename_i hb
        split at h
        · rename_i out hout
          cases h
          have h0 : VRels r (rep len z.cells.toList) ((Array.range (len * sz)).map (z.cells[· % z.cells.size]!)).toList := by
            have hz : 0 < z.cells.size := by omega
            rw [← i6, range_rep _ _ hz]
            exact rep_plain i5 len
          obtain ⟨out', ho, hrel⟩ := fill_sound h1 h2 h0 hout
          have hl := hrel.length
          simp only [Array.length_toList] at hl
          refine ⟨.slice (some ⟨w.heap.size, 0, none⟩) len len, _, _, ?_, ?_, Step.newCells hr i1 out out' (by omega) (by rw [List.take_of_length_le (by simp; omega)]; exact hrel)⟩
          · simp only [Instr.buildSlice, Sem.run_bind, run_und (hT.und _ _ hd), Result.andThen_ok, run_size i1, i3]
            rw [Sem.run_ite, if_neg (by have : (2 : Nat) ^ 24 = 16777216 := by decide
                                        rw [this]; omega)]
            by_cases hz : len * sz = 0
            · simp only [Sem.run_bind, if_pos hz, Sem.run_pure, Result.andThen_ok]
              have : (Array.range (len * sz)).map (fun x => (#[] : Array Value)[x % (#[] : Array Value).size]!) = (Array.range (len * sz)).map (z.cells[· % z.cells.size]!) := by rw [hz]; simp
              rw [this, ho]
              simp only [newRow, Sem.run_bind, run_newObj, Result.andThen_ok, Sem.run_pure]
              rfl
            · simp only [Sem.run_bind, if_neg hz, Sem.run_pure, Result.andThen_ok, run_zero i1 i2]
              rw [ho]
              simp only [newRow, Sem.run_bind, run_newObj, Result.andThen_ok, Sem.run_pure]
              rfl
          · refine VRel.sl _ 0 len _ len _ (Rho.put_same _ _ _) (Nat.le_refl _) fun _ => ⟨rfl, ?_⟩
            have : out.length = len * sz := by
              have hfl : ∀ (ps : List (Nat × Value)) (cs out : List Value), fillA (fun i => some (i * sz, sz)) cs ps = some out → out.length = cs.length := by
                intro ps
                induction ps with
                | nil => intro cs out h; simp [fillA] at h; rw [h]
                | cons p ps ih =>
                  intro cs out h
                  simp only [fillA] at h
                  split at h
                  · rw [ih _ _ h, writeAt_length]
                  · cases h
              rw [hfl _ _ _ hout, rep_length]; simp [i6]
            simp only [Nat.zero_add, i3]
            omega
        · cases h
      · cases h
    · cases h
  · cases h

theorem makeSliceA_sound (hT : T.Ok P) (hr : Rel P r s w) {t : TypeId} {l c l' c' v : Value} (h : makeSliceA T t l c s = some (v, s')) (hl : VRel r l l') (hc : VRel r c c') : SemOk P r s w (Instr.makeSlice t l' c') v s' := by
  unfold makeSliceA at h
  split at h
  · rename_i e n m hd
    split at h
    · rename_i z sz b hi
      obtain ⟨inf, i1, i2, i3, i4, i5, i6⟩ := hT.inf _ _ _ _ hi
      split at h
      · rename_i hb
        obtain ⟨rfl, hn, hnb, hnm, hsz⟩ := hb
        cases h; cases hl; cases hc
        have hz : 0 < z.cells.size := by omega
        have hrr := range_rep z.cells n.toNat hz
        rw [i6] at hrr
        obtain ⟨c, hcd⟩ : ∃ c, c = (Array.range (n.toNat * sz)).map (z.cells[· % sz]!) := ⟨_, rfl⟩
        rw [← hcd] at hrr
        have hcl : (rep n.toNat z.cells.toList).length = c.size := by rw [← hrr]; simp
        refine ⟨.slice (some ⟨w.heap.size, 0, none⟩) n.toNat n.toNat, _, _, ?_, ?_, Step.newCells hr i1 (rep n.toNat z.cells.toList) c (by omega) (by rw [List.take_of_length_le (by simp; omega), hrr]; exact rep_plain i5 _)⟩
        · have hw : IntKind.i64.wrap n = n := IntWalk.i64_in _ (by omega)
          have hnb' : (b : Int) * n ≤ 140737488355328 := by rw [Int.mul_comm]; exact hnb
          have h48 : (2 : Int) ^ 48 = 281474976710656 := by decide
          simp only [Instr.makeSlice, Sem.run_bind, run_und (hT.und _ _ hd), Result.andThen_ok, asInt, asIntOf, Sem.run_pure, run_info i1, i4, hw]
          rw [if_neg (by simp only [h48]; simp; omega)]
          simp only [Sem.run_bind, Result.andThen_ok, run_askRoom, run_size i1, i3]
          by_cases hq : n.toNat * sz = 0
          · simp only [if_pos hq, Sem.run_bind, Sem.run_pure, Result.andThen_ok]
            have : (Array.range (n.toNat * sz)).map (fun x => (#[] : Array Value)[x % (#[] : Array Value).size]!) = c := by rw [hcd, hq]; simp
            rw [this]
            simp only [newRow, Sem.run_bind, run_newObj, Result.andThen_ok, Sem.run_pure]
            rfl
          · simp only [if_neg hq, Sem.run_bind, run_zero i1 i2, Result.andThen_ok, Sem.run_pure]
            rw [i6, ← hcd]
            simp only [newRow, Sem.run_bind, run_newObj, Result.andThen_ok, Sem.run_pure]
            rfl
        · refine VRel.sl _ 0 _ _ _ _ (Rho.put_same _ _ _) (Nat.le_refl _) fun _ => ⟨rfl, ?_⟩
          simp only [Nat.zero_add, i3]
          rw [← hcl, rep_length]
          simp [i6]
      · cases h
    · cases h
  · cases h

end
end Go.Proofs.Abs

/- The abstract machine: slices, maps, iterators. -/
namespace Go.Proofs.Abs
open Go

section
variable {P : Program} {w : World} {T : Tab} {r : Rho} {s s' : St}

inductive OV (r : Rho) : Option Value → Option Value → Prop
  | nil : OV r none none
  | val {v u : Value} (h : VRel r v u) : OV r (some v) (some u)

theorem ev_opt {e : Operand → Option Value} {ρ : Operand → Value} (he : ERel r e ρ) {x : Option Operand} {l : List Value} (h : evs e x.toList = some l) : OV r l.head? (x.map ρ) := by
  cases x with
  | none => simp [evs] at h; subst h; exact .nil
  | some x =>
    have := evs_sound he h
    cases this with
    | cons h _ => exact .val h

theorem run_sliceBound {k : IntKind} {i : Int} {y : Nat} (h : 0 ≤ i ∧ i ≤ y) (c : BoundsCode) : (Instr.sliceBound (.int k i) y c).run P w = .ok i.toNat w := by
  simp only [Instr.sliceBound, Sem.run_bind, asIntOf, Sem.run_pure, Result.andThen_ok]
  rw [Sem.run_ite, if_pos h]
  rfl

theorem bound_int {x : Option Value} {d y b : Nat} (h : boundA x d y = some b) : (x = none ∧ b = d) ∨ ∃ k i, x = some (.int k i) ∧ 0 ≤ i ∧ i ≤ y ∧ b = i.toNat := by
  unfold boundA at h
  split at h
  · cases h; exact .inl ⟨rfl, rfl⟩
  · split at h
    · cases h; rename_i hb; exact .inr ⟨_, _, rfl, hb.1, hb.2, rfl⟩
    · cases h
  · cases h

theorem OV.int {k : IntKind} {i : Int} {y : Option Value} (h : OV r (some (.int k i)) y) : y = some (.int k i) := by
  cases h with
  | val h => cases h; rfl
theorem OV.none_inv {y : Option Value} (h : OV r none y) : y = none := by cases h; rfl

theorem run_bounds {isS : Bool} {len cap : Nat} {lo hi mx lo' hi' mx' : Option Value} (h1 : OV r lo lo') (h2 : OV r hi hi') (h3 : OV r mx mx') {m h l : Nat} (hm : boundA mx len len = some m) (hh : boundA hi len m = some h) (hl : boundA lo 0 h = some l)
    (hle : len ≤ cap) (hnn : (mx.isSome && hi.isNone) ≠ true) :
    (Instr.sliceBounds isS len cap lo' hi' mx').run P w = .ok (l, h, if mx.isSome then m else cap) w ∧ l ≤ h ∧ h ≤ m ∧ m ≤ len := by
  have b3 := bound_int hl
  rcases bound_int hm with ⟨rfl, rfl⟩ | ⟨km, im, rfl, hm1, hm2, rfl⟩
  · have := h3.none_inv; subst this
    rcases bound_int hh with ⟨rfl, rfl⟩ | ⟨kh, ih, rfl, hh1, hh2, rfl⟩
    · have := h2.none_inv; subst this
      rcases b3 with ⟨rfl, rfl⟩ | ⟨kl, il, rfl, hl1, hl2, rfl⟩
      · have := h1.none_inv; subst this
        exact ⟨by simp [Instr.sliceBounds], by omega, by omega, by omega⟩
      · have := h1.int; subst this
        exact ⟨by simp [Instr.sliceBounds, run_sliceBound ⟨hl1, hl2⟩], by omega, by omega, by omega⟩
    · have := h2.int; subst this
      rcases b3 with ⟨rfl, rfl⟩ | ⟨kl, il, rfl, hl1, hl2, rfl⟩
      · have := h1.none_inv; subst this
        exact ⟨by simp [Instr.sliceBounds, run_sliceBound (y := cap) ⟨hh1, by omega⟩], by omega, by omega, by omega⟩
      · have := h1.int; subst this
        exact ⟨by simp [Instr.sliceBounds, run_sliceBound (y := cap) ⟨hh1, by omega⟩, run_sliceBound ⟨hl1, hl2⟩], by omega, by omega, by omega⟩
  · have := h3.int; subst this
    rcases bound_int hh with ⟨rfl, rfl⟩ | ⟨kh, ih, rfl, hh1, hh2, rfl⟩
    · simp at hnn
    · have := h2.int; subst this
      rcases b3 with ⟨rfl, rfl⟩ | ⟨kl, il, rfl, hl1, hl2, rfl⟩
      · have := h1.none_inv; subst this
        exact ⟨by simp [Instr.sliceBounds, run_sliceBound (y := cap) ⟨hm1, by omega⟩, run_sliceBound ⟨hh1, hh2⟩], by omega, by omega, by omega⟩
      · have := h1.int; subst this
        exact ⟨by simp [Instr.sliceBounds, run_sliceBound (y := cap) ⟨hm1, by omega⟩, run_sliceBound ⟨hh1, hh2⟩, run_sliceBound ⟨hl1, hl2⟩], by omega, by omega, by omega⟩

theorem run_sliceA (hT : T.Ok P) (hr : Rel P r s w) {t : TypeId} {x x' v : Value} {lo hi mx lo' hi' mx' : Option Value} (h : sliceA T t x lo hi mx s = some v) (hx : VRel r x x') (h1 : OV r lo lo') (h2 : OV r hi hi') (h3 : OV r mx mx') :
    ∃ u, (Instr.sliceAt t x' lo' hi' mx').run P w = .ok u w ∧ VRel r v u := by
  unfold sliceA at h
  split at h
  · -- a string
    rename_i b hd
    split at h
    · cases h
    rename_i hmx
    have hmx : mx = none := by cases mx <;> simp at hmx; rfl
    subst hmx
    split at h
    · cases h
    rename_i hh hb
    split at h
    · cases h
    rename_i l hlb
    cases h; cases hx
    obtain ⟨hrun, ha, hb', hc⟩ := run_bounds (P := P) (w := w) (isS := false) (len := b.size) (cap := b.size) h1 h2 h3 (m := b.size) rfl hb hlb (Nat.le_refl _) (by simp)
    refine ⟨_, ?_, .string _⟩
    simp only [Instr.sliceAt, Sem.run_bind, run_und (hT.und _ _ hd), Result.andThen_ok, Instr.slice]
    have := h3.none_inv; subst this
    simp only [Option.isSome_none, Bool.false_eq_true, if_false, Sem.run_bind, hrun, Result.andThen_ok, Sem.run_pure]
  · -- nil
    rename_i e hd
    split at h
    · rename_i m h' l inf0 hm hh hl hinf
      split at h
      · cases h
      rename_i hnn
      cases h; cases hx
      have e1 : m = 0 := by rcases bound_int hm with ⟨_, h⟩ | ⟨_, _, _, _, _, h⟩ <;> omega
      subst e1
      have e2 : h' = 0 := by rcases bound_int hh with ⟨_, h⟩ | ⟨_, _, _, _, _, h⟩ <;> omega
      subst e2
      obtain ⟨hrun, ha, hb', hc⟩ := run_bounds (P := P) (w := w) (isS := true) (len := 0) (cap := 0) h1 h2 h3 hm hh hl (Nat.le_refl _) (by simpa using hnn)
      have e3 : l = 0 := by omega
      subst e3
      obtain ⟨inf, hinf, _⟩ := hT.inf _ _ _ _ hinf
      refine ⟨.slice none 0 0, ?_, .sl0⟩
      simp only [Instr.sliceAt, Sem.run_bind, run_und (hT.und _ _ hd), Result.andThen_ok, Instr.slice, hrun, run_size hinf, Sem.run_pure]
      simp
    · cases h
  · -- a slice
    rename_i e i o n n' hd
    split at h
    · cases h
    rename_i hnn
    have hn' : n' = n := by
      by_cases g : n' = n
      · exact g
      · exact absurd (Or.inl g) hnn
    have hnn' : (mx.isSome && hi.isNone) ≠ true := fun g => hnn (.inr g)
    subst hn'
    split at h
    · cases h
    rename_i m hm
    split at h
    · cases h
    rename_i h' hh
    split at h
    · rename_i l z sz b cs e' ro hl hinf hi'
      split at h
      · rename_i hro'
        obtain ⟨hro, hln⟩ := hro'
        cases h
        obtain ⟨inf, i1, _, i3, _⟩ := hT.inf _ _ _ _ hinf
        cases hx with
        | sl _ _ _ a c L hL hle hc =>
          obtain ⟨hrun, ha, hb', hc'⟩ := run_bounds (P := P) (w := w) (isS := true) (len := n') (cap := c) h1 h2 h3 hm hh hl hle hnn'
          obtain ⟨L', cc, fr, g1, g2, g3, g4, g5, g6⟩ := hr.objs _ _ hi'
          rw [hL] at g1; cases g1
          have hmle : (if mx.isSome then m else c) ≤ c := by split <;> omega
          have hhm : h' ≤ (if mx.isSome then m else c) := by split <;> omega
          generalize (if mx.isSome then m else c) = M at hrun hmle hhm
          refine ⟨.slice (if M = l then some a else (some a).map (·.add (l * inf.size))) (h' - l) (M - l), ?_, ?_⟩
          · simp only [Instr.sliceAt, Sem.run_bind, run_und (hT.und _ _ hd), Result.andThen_ok, Instr.slice, hrun, run_size i1, Sem.run_pure]
          · have hesz : L.esz = sz ∨ L.esz = 0 := by
              cases ro with
              | true => exact .inr (g4 rfl)
              | false =>
                rcases hro with hro | rfl
                · cases hro
                · obtain ⟨_, inf', j1, j2⟩ := g6 rfl
                  rw [i1] at j1; cases j1
                  left; omega
            by_cases g : M = l
            · rw [if_pos g]
              exact VRel.sl i (o + l * sz) (h' - l) a (M - l) L hL (by omega) fun g' => by omega
            · rw [if_neg g]
              obtain ⟨ha', hbd⟩ := hc (by omega)
              subst ha'
              simp only [Option.map_some, add_none]
              refine VRel.sl i (o + l * sz) (h' - l) _ (M - l) L hL (by omega) fun _ => ⟨by rw [i3, Nat.add_assoc], ?_⟩
              rcases hesz with g | g
              · rw [g]; rw [g] at hbd
                have : l * sz + (M - l) * sz ≤ c * sz := by rw [← Nat.add_mul]; exact Nat.mul_le_mul_right _ (by omega)
                omega
              · rw [g, Nat.mul_zero]
                have := g5.1
                have : l * sz ≤ n' * sz := Nat.mul_le_mul_right _ (by omega)
                omega
      · cases h
    · cases h
  · -- an array
    rename_i n e i o hd
    split at h
    · cases h
    rename_i hmx
    have hmx : mx = none := by cases mx <;> simp at hmx; rfl
    subst hmx
    split at h
    · cases h
    rename_i h' hh
    split at h
    · rename_i l z sz b cs e' hl hinf hi'
      split at h
      · rename_i hbd
        cases h
        obtain ⟨inf, i1, _, i3, _⟩ := hT.inf _ _ _ _ hinf
        obtain ⟨L, cc, fr, g1, g2, g3, g4, g5, g6⟩ := hr.objs _ _ hi'
        cases hx with
        | ptr _ _ L' hL =>
          rw [hL] at g1; cases g1
          obtain ⟨hrun, ha, hb', hc'⟩ := run_bounds (P := P) (w := w) (isS := false) (len := n) (cap := n) h1 h2 h3 (m := n) rfl hh hl (Nat.le_refl _) (by simp)
          simp only [Option.isSome_none, Bool.false_eq_true, if_false] at hrun
          refine ⟨.slice (some (if n = l then ⟨L.block, L.base + o, none⟩ else (⟨L.block, L.base + o, none⟩ : Addr).add (l * inf.size))) (h' - l) (n - l), ?_, ?_⟩
          · simp only [Instr.sliceAt, Sem.run_bind, run_und (hT.und _ _ hd), Result.andThen_ok, Instr.sureAddr, hrun, run_size i1, Sem.run_pure]
          · refine VRel.sl i (o + l * sz) (h' - l) _ (n - l) L hL (by omega) fun g' => ?_
            rw [if_neg (by omega), add_none, i3, Nat.add_assoc, g4 rfl, Nat.mul_zero]
            refine ⟨rfl, ?_⟩
            have := g5.1
            have : l * sz ≤ n * sz := Nat.mul_le_mul_right _ (by omega)
            omega
      · cases h
    · cases h
  · cases h


/-! ### copy, conversions -/

theorem elems_length {size n : Nat} {s : St} {x : Value} {xs : List Value} (h : elemsA size n s x = some xs) (hn : n ≠ 0) (hx : ∃ m, lenA x = some m ∧ n ≤ m) : xs.length = n * size := by
  unfold elemsA at h
  split at h
  · obtain ⟨m, h1, h2⟩ := hx; simp [lenA] at h1; omega
  · simp only [if_neg hn] at h
    split at h
    · split at h
      · cases h; simp; omega
      · cases h
    · cases h
  · split at h
    · rename_i hb; cases h; simp [bytesOf, hb.1]; exact Nat.min_eq_left (by simpa using hb.2)
    · cases h
  · cases h

theorem copyA_sound (hT : T.Ok P) (hr : Rel P r s w) {t ty : TypeId} {ts : Array TypeId} (hts : ts[0]? = some t) {d x d' x' v : Value} (h : copyA T t d x s = some (v, s')) (hd : VRel r d d') (hx : VRel r x x') :
    SemOk P r s w (Builtin.copy_ ts ty #[d', x']) v s' := by
  unfold copyA at h
  split at h
  · rename_i e k hu hk
    split at h
    · rename_i inf0 hinf
      obtain ⟨inf, i1, _⟩ := hT.inf _ _ _ _ hinf
      obtain ⟨xs, hxs, he⟩ := Option.map_eq_some_iff.1 h
      cases he; cases hd
      refine ⟨.int .i64 0, w, r, ?_, .int _ _, Step.refl hr⟩
      have hl := run_lenOf (P := P) (w := w) hx hk
      have hf : ∃ us : Array Value, (Builtin.firstCells inf.size 0 x').run P w = .ok us w := by
        cases hx <;> simp [lenA] at hk
        · exact ⟨_, rfl⟩
        · exact ⟨_, rfl⟩
        · exact ⟨#[], by simp [Builtin.firstCells, loadCells, loadCellsFrom]⟩
      obtain ⟨us, hf⟩ := hf
      simp only [Builtin.copy_, hts, List.getElem?_toArray, List.getElem?_cons_zero, List.getElem?_cons_succ, Sem.run_bind, run_und (hT.und _ _ hu), Result.andThen_ok, hl, run_size i1, Sem.run_pure]
      rw [show Nat.min k 0 = 0 by exact Nat.min_zero k, hf]
      rfl
    · cases h
  · rename_i e i o m m' k hu hk
    split at h
    · rename_i z sz b cs e' hinf hi
      obtain ⟨inf, i1, _, i3, _⟩ := hT.inf _ _ _ _ hinf
      subst i3
      simp only at h
      split at h
      · rename_i xs hxs
        split at h
        · rename_i hb
          obtain ⟨rfl, rfl, hlb, hone, hxl⟩ := hb
          cases h
          obtain ⟨us, hus, hrel⟩ := run_elems (P := P) hr hx hxs hk (Nat.min_le_left _ _)
          have hus := hus w.drawn
          have hul := hrel.length
          have hone1 : oneAll us = true := by rw [← hrel.one]; exact hone
          have hl := run_lenOf (P := P) (w := w) hx hk
          obtain ⟨L, cc, fr, h1, h2, h3, h4, h5, h6⟩ := hr.objs _ _ hi
          obtain ⟨hfr, hesz⟩ := h6 rfl
          subst hfr
          have hblk : L.block < w.heap.size := (Array.getElem?_eq_some_iff.1 h2).1
          cases hd with
          | sl _ _ _ a c L' hL hle hc =>
            rw [h1] at hL; cases hL
            have h5' := h5.1
            have hstep : Step P r s w r (s.put i (.cells (writeAt cs o xs) e' false)) (wput w L.block (.cells (writeC cc (L.base + o) us) e' (0, 0))) := by
              refine Step.put hr hi rfl h1 _ rfl (wput_size _ _ _) (fun b hb => wput_ne _ hb _) rfl rfl rfl ?_
              exact ⟨L, _, _, h1, wput_same _ hblk _, by rw [writeC_size, h3], by simp, CellsRel.write _ _ hrel o h5 (by omega), fun _ => ⟨rfl, hesz⟩⟩
            refine ⟨.int .i64 (Nat.min k m'), _, r, ?_, .int _ _, hstep⟩
            have hst : (storeCells a us).run P w = .ok () (wput w L.block (.cells (writeC cc (L.base + o) us) e' (0, 0))) := by
              by_cases hz : c = 0
              · have : us = [] := by
                  apply List.eq_nil_of_length_eq_zero
                  have : Nat.min k m' = 0 := by
                    have : Nat.min k m' ≤ m' := Nat.min_le_right _ _
                    omega
                  rw [← hul, hxl, this, Nat.zero_mul]
                subst this
                simp [storeCells, writeC, wput_self h2]
              · obtain ⟨ha, _⟩ := hc (by omega)
                subst ha
                have := run_storeCells (P := P) ⟨L.block, L.base + o, none⟩ rfl us 0 w cc e' h2 (by simp only [← hul, hxl]; omega) hone1
                simpa using this
            have hus' : (Builtin.firstCells inf.size (Nat.min k m') x').run P w = .ok us.toArray w := hus
            simp only [Builtin.copy_, hts, List.getElem?_toArray, List.getElem?_cons_zero, List.getElem?_cons_succ, Sem.run_bind, run_und (hT.und _ _ hu), Result.andThen_ok, hl, run_size i1, Sem.run_pure, hus', hst]
            rfl
        · cases h
      · cases h
    · cases h
  · cases h

theorem hasAll_bytes : ∀ (l : List Value), hasAll (List.replicate l.length (.int .u8)) l = true → ∃ bs : List Int, l = bs.map (Value.int .u8)
  | [], _ => ⟨[], rfl⟩
  | v :: l, h => by
    simp only [List.length_cons, List.replicate_succ, hasAll, Bool.and_eq_true] at h
    obtain ⟨bs, hbs⟩ := hasAll_bytes l h.2
    cases v <;> simp [LK.has] at h
    rename_i k n
    obtain ⟨rfl, _⟩ := h
    exact ⟨n :: bs, by rw [hbs]; rfl⟩

theorem bytes_loop (f : Value → ByteArray → Sem (ForInStep ByteArray)) (hf : ∀ n s, f (.int .u8 n) s = pure (.yield (s.push (UInt8.ofNat n.toNat)))) (bs : List Int) : ∀ (acc : ByteArray),
    (forIn (bs.map (Value.int .u8)) acc f : Sem ByteArray).run P w = .ok ⟨acc.data ++ (bs.map fun b => UInt8.ofNat b.toNat).toArray⟩ w := by
  induction bs with
  | nil => intro acc; simp
  | cons b bs ih =>
    intro acc
    rw [List.map_cons, List.forIn_cons]
    simp only [Sem.run_bind, hf, Sem.run_pure, Result.andThen_ok]
    rw [ih]
    congr 1
    simp [ByteArray.push]

theorem run_convA (hT : T.Ok P) (hr : Rel P r s w) {src dst : TypeId} {x x' v : Value} (h : convA T src dst x s = some v) (hx : VRel r x x') : ∃ u, (convert src dst x').run P w = .ok u w ∧ VRel r v u := by
  unfold convA at h
  split at h
  · rename_i k1 k2 k n h1 h2
    cases h; cases hx
    refine ⟨_, ?_, .int _ _⟩
    simp [convert, run_und (hT.und _ _ h1), run_und (hT.und _ _ h2), Conv.intToInt]
  · rename_i b h1 h2
    cases h; cases hx
    refine ⟨_, ?_, .string _⟩
    simp [convert, run_und (hT.und _ _ h1), run_und (hT.und _ _ h2)]
  · rename_i e h1 h2
    split at h
    · cases h; cases hx
      rename_i hm
      have h3 : T.und e = some (.int .u8) := by
        cases hd : T.und e with
        | none => rw [hd] at hm; simp at hm
        | some d => rw [hd] at hm; cases d <;> simp at hm; rename_i k; cases k <;> simp at hm; rfl
      refine ⟨_, ?_, .string _⟩
      simp [convert, run_und (hT.und _ _ h1), run_und (hT.und _ _ h2), run_und (hT.und _ _ h3), Conv.bytesToString]
    · cases h
  · rename_i e i o n n' h1 h2
    split at h
    · rename_i cs e' ro h3 hi
      split at h
      · rename_i hb
        obtain ⟨rfl, hlb, hall⟩ := hb
        cases h
        obtain ⟨L, cc, fr, g1, g2, g3, g4, g5, g6⟩ := hr.objs _ _ hi
        cases hx with
        | sl _ _ _ a c L' hL hle hc =>
          rw [g1] at hL; cases hL
          have hln : ((cs.drop o).take n').length = n' := by simp; omega
          have hall' : hasAll (List.replicate ((cs.drop o).take n').length (.int .u8)) ((cs.drop o).take n') = true := by rw [hln]; exact hall
          obtain ⟨bs, hbs⟩ := hasAll_bytes _ hall'
          obtain ⟨us, hus, hrel⟩ := run_elems (P := P) (size := 1) (n := n') (xs := (cs.drop o).take n') hr (VRel.sl i o n' a c L g1 hle hc) (by
            unfold elemsA
            simp only [hi]
            rw [if_pos ⟨Nat.le_refl _, by omega⟩, Nat.mul_one]) (m := n') rfl (Nat.le_refl _)
          have hus := hus w.drawn
          have hsame := hasAll_same _ _ _ hall' hrel
          subst hsame
          have hld : (loadCells a n').run P w = .ok ((cs.drop o).take n').toArray w := by
            have : (Builtin.firstCells 1 n' (Value.slice (some a) n' c)).run P w = .ok ((cs.drop o).take n').toArray w := hus
            simpa [Builtin.firstCells] using this
          refine ⟨_, ?_, .string _⟩
          simp only [convert, Sem.run_bind, run_und (hT.und _ _ h1), run_und (hT.und _ _ h2), run_und (hT.und _ _ h3), Result.andThen_ok, Conv.bytesToString, hld]
          rw [hbs, List.forIn_toArray]
          rw [bytes_loop _ (fun _ _ => rfl)]
          simp only [Result.andThen_ok, Sem.run_pure]
          congr 2
          simp
      · cases h
    · cases h
  · cases h

end
end Go.Proofs.Abs

/- The abstract machine: maps and iterators. -/
namespace Go.Proofs.Abs
open Go

section
variable {P : Program} {w : World} {T : Tab} {r : Rho} {s s' : St}

theorem run_checkKey (hT : T.Ok P) {t : TypeId} {d : TypeDesc} (hd : T.und t = some d) {k : Value} (hk : keyKind d k = true) (b : Bool) : (Instr.checkKey b 10000 t k).run P w = .ok () w := by
  have key : ∀ n, (Instr.checkKey b (n + 1) t k).run P w = .ok () w := by
    intro n
    cases d <;> cases k <;> simp [keyKind] at hk <;> simp [Instr.checkKey, run_und (hT.und _ _ hd)]
  exact key 9999

theorem bytes_beq (a b : ByteArray) : (a == b) = true ↔ a = b := by
  obtain ⟨a⟩ := a
  obtain ⟨b⟩ := b
  show (a == b) = true ↔ _
  rw [beq_iff_eq]
  constructor
  · rintro rfl; rfl
  · intro h; cases h; rfl
theorem bytes_beq_self (a : ByteArray) : (a == a) = true := (bytes_beq a a).2 rfl

theorem key_same {d : TypeDesc} {k k0 c : Value} {b : Bool} (hk : keyKind d k = true) (h : keyEq k k0 = some b) (hc : VRel r k0 c) : Instr.sameNow d k c = some b ∧ (b = true → Instr.sameBits 10000 c k = true) := by
  have bits : ∀ n, b = true → Instr.sameBits (n + 1) c k = true := by
    intro n hb
    subst hb
    cases k <;> cases k0 <;> simp [keyEq] at h
    · obtain ⟨rfl, rfl⟩ := h; cases hc; simp [Instr.sameBits]
    · have := (bytes_beq _ _).1 h; subst this; cases hc; simp [Instr.sameBits, bytes_beq_self]
  refine ⟨?_, bits 9999⟩
  cases k <;> cases k0 <;> simp [keyEq] at h
  · obtain ⟨rfl, rfl⟩ := h; cases hc
    cases d <;> simp [keyKind] at hk
    simp [Instr.sameNow]
  · subst h; cases hc
    cases d <;> simp [keyKind] at hk
    simp [Instr.sameNow]

theorem findNow_sound {d : TypeDesc} {k : Value} (hk : keyKind d k = true) : ∀ (es : List (Value × Value)) (ces : List MapEntry) (i : Nat) (res : Option (Nat × Value)), VRels r (es.map (·.1)) (ces.map (·.key)) → VRels r (es.map (·.2)) (ces.map (·.val)) →
    findA k es i = some res → ∃ res', Instr.findNow d k ces i = some res' ∧ ((res = none ∧ res' = none) ∨ ∃ j v u, res = some (j, v) ∧ res' = some (j, u) ∧ VRel r v u ∧ i ≤ j ∧ j - i < ces.length ∧ ∃ e, ces[j - i]? = some e ∧ Instr.sameBits 10000 e.key k = true ∧ e.val = u)
  | [], [], i, res, _, _, h => by simp [findA] at h; subst h; exact ⟨none, rfl, .inl ⟨rfl, rfl⟩⟩
  | [], _ :: _, _, _, h, _, _ => by cases h
  | _ :: _, [], _, _, h, _, _ => by cases h
  | e :: es, c :: ces, i, res, h1, h2, h => by
    simp only [List.map_cons] at h1 h2
    cases h1 with
    | cons a1 t1 =>
      cases h2 with
      | cons a2 t2 =>
        simp only [findA] at h
        have hsame : ∀ b, keyEq k e.1 = some b → Instr.sameNow d k c.key = some b ∧ (b = true → Instr.sameBits 10000 c.key k = true) := fun b hb => key_same hk hb a1
        split at h
        · cases h
          rename_i hb
          obtain ⟨g1, g2⟩ := hsame _ hb
          refine ⟨some (i, c.val), by simp [Instr.findNow, g1], .inr ⟨i, e.2, c.val, rfl, rfl, a2, Nat.le_refl _, by simp, c, by simp, g2 rfl, rfl⟩⟩
        · rename_i hb
          obtain ⟨g1, _⟩ := hsame _ hb
          obtain ⟨res', hr, hh⟩ := findNow_sound hk es ces (i + 1) res t1 t2 h
          refine ⟨res', by simp [Instr.findNow, g1, hr], ?_⟩
          rcases hh with hh | ⟨j, v, u, e1, e2, e3, e4, e5, e', e6, e7⟩
          · exact .inl hh
          · refine .inr ⟨j, v, u, e1, e2, e3, by omega, by simp; omega, e', ?_, e7⟩
            rw [show j - i = (j - (i + 1)) + 1 by omega]
            simpa using e6
        · cases h

theorem run_findKey (hT : T.Ok P) {t : TypeId} {d : TypeDesc} (hd : T.und t = some d) {k : Value} (hk : keyKind d k = true) {es : List (Value × Value)} {ces : List MapEntry} {res : Option (Nat × Value)} (h1 : VRels r (es.map (·.1)) (ces.map (·.key))) (h2 : VRels r (es.map (·.2)) (ces.map (·.val)))
    (h : findA k es 0 = some res) : ∃ res', (Instr.findKey t k ces).run P w = .ok res' w ∧ ((res = none ∧ res' = none) ∨ ∃ j v u, res = some (j, v) ∧ res' = some (j, u) ∧ VRel r v u ∧ j < ces.length ∧ ∃ e, ces[j]? = some e ∧ Instr.sameBits 10000 e.key k = true ∧ e.val = u) := by
  obtain ⟨res', hr, hh⟩ := findNow_sound hk es ces 0 res h1 h2 h
  refine ⟨res', ?_, ?_⟩
  · simp only [Instr.findKey, Sem.run_bind, run_und (hT.und _ _ hd), Result.andThen_ok, hr, Sem.run_pure]
  · rcases hh with hh | ⟨j, v, u, e1, e2, e3, _, e4, e5⟩
    · exact .inl hh
    · exact .inr ⟨j, v, u, e1, e2, e3, e4, e5⟩

theorem key_plain {d : TypeDesc} {k k' : Value} (hk : keyKind d k = true) (h : VRel r k k') : k' = k := by
  cases d <;> cases k <;> simp [keyKind] at hk
  · exact h.int_inv
  · exact h.string_inv

theorem lookupA_sound (hT : T.Ok P) (hr : Rel P r s w) {t : TypeId} {m k m' k' v : Value} {ok : Bool} (h : lookupA T t m k ok s = some (v, s')) (hm : VRel r m m') (hk : VRel r k k') : SemOk P r s w (Instr.lookup t m' k' ok) v s' := by
  unfold lookupA at h
  split at h
  · rename_i kt et hd
    split at h
    · rename_i kd z sz b hkd hinf
      obtain ⟨inf, i1, i2, i3, i4, i5, i6⟩ := hT.inf _ _ _ _ hinf
      split at h
      · cases h
      · rename_i hkk
        have hkk : keyKind kd k = true := by simpa using hkk
        have := key_plain hkk hk
        subst this
        -- what is found
        have fin : ∀ (ces : List MapEntry) (res : Option (Nat × Value)) (res' : Option (Nat × Value)), (Instr.findKey kt k' ces).run P w = .ok res' w → ((res = none ∧ res' = none) ∨ ∃ j x u, res = some (j, x) ∧ res' = some (j, u) ∧ VRel r x u) →
            (match (some res : Option (Option (Nat × Value))) with
              | some (some (_, v)) => some (if ok then Value.tuple #[v, .bool true] else v, s)
              | some none => some (if ok then Value.tuple #[z, .bool false] else z, s)
              | none => none) = some (v, s') →
            ∃ u, (do
              let (v, ok') ← match ← Instr.findKey kt k' ces with
                | some (_, v) => pure (v, true)
                | none => pure (← zeroValue et, false)
              pure (if ok then .tuple #[v, .bool ok'] else v) : Sem Value).run P w = .ok u w ∧ VRel r v u ∧ s' = s := by
          intro ces res res' hf hh he
          rcases hh with ⟨rfl, rfl⟩ | ⟨j, x, u, rfl, rfl, hxu⟩
          · simp only [Option.some.injEq, Prod.mk.injEq] at he
            obtain ⟨rfl, rfl⟩ := he
            refine ⟨if ok then .tuple #[z, .bool false] else z, ?_, ?_, rfl⟩
            · simp only [Sem.run_bind, hf, Result.andThen_ok, run_zero i1 i2, Sem.run_pure]
            · cases ok
              · exact plain_rel r z i5
              · exact VRel.tuple_iff.2 (.cons (plain_rel r z i5) (.cons (.bool _) .nil))
          · simp only [Option.some.injEq, Prod.mk.injEq] at he
            obtain ⟨rfl, rfl⟩ := he
            refine ⟨if ok then .tuple #[u, .bool true] else u, ?_, ?_, rfl⟩
            · simp only [Sem.run_bind, hf, Result.andThen_ok, Sem.run_pure]
            · cases ok
              · exact hxu
              · exact VRel.tuple_iff.2 (.cons hxu (.cons (.bool _) .nil))
        simp only at h
        split at h
        · cases hm
          obtain ⟨u, hu, hv, rfl⟩ := fin [] none none (by
            simp only [Instr.findKey, Sem.run_bind, run_und (hT.und _ _ hkd), Result.andThen_ok, Instr.findNow, Sem.run_pure]) (.inl ⟨rfl, rfl⟩) h
          refine SemOk.pure hr (u := u) ?_ hv
          simp only [Instr.lookup, Sem.run_bind, run_und (hT.und _ _ hd), Result.andThen_ok, Sem.run_pure, run_checkKey hT hkd hkk]
          simp only [Sem.run_bind] at hu
          exact hu
        · rename_i i
          split at h
          · rename_i es hi
            cases hm with
            | map _ L hL =>
              obtain ⟨L', c, clock, h1, h2, h3, h4, h5, h6, h7⟩ := hr.objs _ _ hi
              rw [hL] at h1; cases h1
              cases hfa : findA k' es 0 with
              | none => rw [hfa] at h; cases h
              | some res =>
                rw [hfa] at h
                obtain ⟨res', hrun, hh⟩ := run_findKey (w := w) hT hkd hkk h5 h6 hfa
                obtain ⟨u, hu, hv, rfl⟩ := fin c.toList res res' hrun (hh.imp id fun ⟨j, v, u, e1, e2, e3, _⟩ => ⟨j, v, u, e1, e2, e3⟩) h
                refine SemOk.pure hr (u := u) ?_ hv
                have hg : (getObj L.block).run P w = .ok (.map c clock) w := by simp [getObj, Sem.run, h3]
                simp only [Instr.lookup, Sem.run_bind, run_und (hT.und _ _ hd), Result.andThen_ok, hg, Sem.run_pure, run_checkKey hT hkd hkk]
                simp only [Sem.run_bind] at hu
                exact hu
          · cases h
        · cases h
    · cases h
  · cases h


/-! ### Writing into a map -/

theorem run_setObj {b : Nat} {c : Array MapEntry} {k : Nat} (h : w.heap[b]? = some (.map c k)) (o : Obj) : (setObj b o).run P w = .ok () (wput w b o) := by
  simp only [setObj, Sem.run, h]
  rfl

theorem run_keyStays {old new : Value} (h : Instr.sameBits 10000 old new = true) : (Instr.keyThatStays old new).run P w = .ok new w := by
  unfold Instr.keyThatStays
  rw [Sem.run_ite, if_pos h]
  rfl

theorem modify_keys (c : Array MapEntry) (j : Nat) (f : MapEntry → MapEntry) (g : MapEntry → Value) (v : Value) (hg : ∀ e, g (f e) = v) : ((c.modify j f).toList.map g) = (c.toList.map g).set j v := by
  apply List.ext_getElem?
  intro i
  rw [List.getElem?_map, Array.getElem?_toList, Array.getElem?_modify, List.getElem?_set, List.getElem?_map, Array.getElem?_toList]
  by_cases e : j = i
  · subst e
    rw [if_pos rfl, if_pos rfl]
    rcases Nat.lt_or_ge j c.size with g | g
    · rw [if_pos (by simpa using g)]
      simp [g, hg]
    · rw [if_neg (by simpa using g)]
      simp [g]
  · rw [if_neg e, if_neg e]

theorem modify_same (c : Array MapEntry) (j : Nat) (f : MapEntry → MapEntry) {α : Type} (g : MapEntry → α) (hg : ∀ e, g (f e) = g e) : ((c.modify j f).toList.map g) = c.toList.map g := by
  apply List.ext_getElem?
  intro i
  rw [List.getElem?_map, Array.getElem?_toList, Array.getElem?_modify, List.getElem?_map, Array.getElem?_toList]
  by_cases e : j = i
  · rw [if_pos e]; cases c[i]? <;> simp [hg]
  · rw [if_neg e]

theorem map_set {α β : Type} (f : α → β) (l : List α) (j : Nat) (a : α) : (l.set j a).map f = (l.map f).set j (f a) := by
  apply List.ext_getElem?
  intro i
  rw [List.getElem?_map, List.getElem?_set, List.getElem?_set, List.getElem?_map]
  by_cases e : j = i
  · subst e; simp
  · rw [if_neg e, if_neg e]

/-- What is behind a map's store. -/
theorem map_step (hr : Rel P r s w) {i : Nat} {es es' : List (Value × Value)} (hi : s.mem.get i = some (.map es)) {L : Loc} (hL : r i = some L) {c' : Array MapEntry} {clock : Nat} (hb : L.base = 0) (hblk : L.block < w.heap.size)
    (h1 : clock = es'.length) (h2 : VRels r (es'.map (·.1)) (c'.toList.map (·.key))) (h3 : VRels r (es'.map (·.2)) (c'.toList.map (·.val))) (h4 : c'.toList.map (·.born) = List.range es'.length) :
    Step P r s w r (s.put i (.map es')) (wput w L.block (.map c' clock)) := by
  refine Step.put hr hi rfl hL _ rfl (wput_size _ _ _) (fun b hb => wput_ne _ hb _) rfl rfl rfl ?_
  exact ⟨L, c', clock, hL, hb, wput_same _ hblk _, h1, h2, h3, h4⟩

theorem mapSetA_sound (hT : T.Ok P) (hr : Rel P r s w) {t : TypeId} {m k v m' k' v' : Value} (h : mapSetA T t m k v s = some s') (hm : VRel r m m') (hk : VRel r k k') (hv : VRel r v v') :
    ∃ w', (Instr.mapUpdate t m' k' v').run P w = .ok () w' ∧ Step P r s w r s' w' := by
  unfold mapSetA at h
  split at h
  · rename_i kt et hd
    split at h
    · rename_i kd i hkd
      split at h
      · cases h
      · rename_i hkk
        have hkk : keyKind kd k = true := by simpa using hkk
        have := key_plain hkk hk
        subst this
        split at h
        · rename_i es hi
          cases hm with
          | map _ L hL =>
            obtain ⟨L', c, clock, h1, h2, h3, h4, h5, h6, h7⟩ := hr.objs _ _ hi
            rw [hL] at h1; cases h1
            have hblk : L.block < w.heap.size := (Array.getElem?_eq_some_iff.1 h3).1
            have hg : (getObj L.block).run P w = .ok (.map c clock) w := by simp [getObj, Sem.run, h3]
            have hlen := h5.length
            simp only [List.length_map, Array.length_toList] at hlen
            split at h
            · rename_i j x hfa
              cases h
              obtain ⟨res', hrun, hh⟩ := run_findKey (w := w) hT hkd hkk h5 h6 hfa
              rcases hh with ⟨h, _⟩ | ⟨j', x', u, e1, e2, e3, e4, e, e5, e6, e7⟩
              · cases h
              · cases e1; subst e2
                have e5' : c[j]? = some e := by simpa using e5
                have hj : j < es.length := by simpa [hlen] using e4
                refine ⟨_, ?_, map_step (es' := es.set j (k', v)) hr hi hL h2 hblk (by simpa using h4) (c' := c.modify j fun e => { e with key := k', val := v' }) ?_ ?_ ?_⟩
                · simp only [Instr.mapUpdate, Sem.run_bind, run_und (hT.und _ _ hd), Result.andThen_ok, hg, run_checkKey hT hkd hkk, hrun, e5', Option.map_some, Option.getD_some, run_keyStays e6, run_setObj h3]
                · rw [map_set, modify_keys _ _ _ _ k' (fun _ => rfl)]
                  exact h5.set j hk
                · rw [map_set, modify_keys _ _ _ _ v' (fun _ => rfl)]
                  exact h6.set j hv
                · rw [modify_same c j (fun e => { e with key := k', val := v' }) (fun e => e.born) (fun _ => rfl), h7]; simp
            · rename_i hfa
              cases h
              obtain ⟨res', hrun, hh⟩ := run_findKey (w := w) hT hkd hkk h5 h6 hfa
              rcases hh with ⟨_, rfl⟩ | ⟨j', x', u, e1, _⟩
              · refine ⟨_, ?_, map_step (es' := es ++ [(k', v)]) hr hi hL h2 hblk (clock := clock + 1) (by simp [h4]) (c' := c.push { key := k', val := v', born := clock }) ?_ ?_ ?_⟩
                · simp only [Instr.mapUpdate, Sem.run_bind, run_und (hT.und _ _ hd), Result.andThen_ok, hg, run_checkKey hT hkd hkk, hrun, run_setObj h3]
                · simp only [List.map_append, List.map_cons, List.map_nil, Array.toList_push]
                  exact h5.append (.cons hk .nil)
                · simp only [List.map_append, List.map_cons, List.map_nil, Array.toList_push]
                  exact h6.append (.cons hv .nil)
                · simp only [List.map_append, List.map_cons, List.map_nil, Array.toList_push, h7, List.length_append, List.length_cons, List.length_nil, Nat.zero_add]
                  rw [List.range_succ, h4]
              · cases e1
            · cases h
        · cases h
    · cases h
  · cases h

theorem mapEntryA_sound (hT : T.Ok P) (hr : Rel P r s w) {t : TypeId} {m k m' k' v : Value} (h : mapEntryA T t m k s = some (v, s')) (hm : VRel r m m') (hk : VRel r k k') : SemOk P r s w (Instr.mapEntry t m' k') v s' := by
  unfold mapEntryA at h
  split at h
  · rename_i kt et hd
    split at h
    · rename_i kd z sz b i hkd hinf
      obtain ⟨inf, i1, i2, i3, i4, i5, i6⟩ := hT.inf _ _ _ _ hinf
      split at h
      · cases h
      · rename_i hkk
        have hkk : keyKind kd k = true := by simpa using hkk
        have := key_plain hkk hk
        subst this
        split at h
        · rename_i es hi
          cases hm with
          | map _ L hL =>
            obtain ⟨L', c, clock, h1, h2, h3, h4, h5, h6, h7⟩ := hr.objs _ _ hi
            rw [hL] at h1; cases h1
            have hblk : L.block < w.heap.size := (Array.getElem?_eq_some_iff.1 h3).1
            have hg : (getObj L.block).run P w = .ok (.map c clock) w := by simp [getObj, Sem.run, h3]
            have hlen := h5.length
            simp only [List.length_map, Array.length_toList] at hlen
            split at h
            · rename_i j x hfa
              cases h
              obtain ⟨res', hrun, hh⟩ := run_findKey (w := w) hT hkd hkk h5 h6 hfa
              rcases hh with ⟨h, _⟩ | ⟨j', x', u, e1, e2, e3, e4, e, e5, e6, e7⟩
              · cases h
              · cases e1; subst e2
                have e5' : c[j]? = some e := by simpa using e5
                have hj : j < es.length := by simpa [hlen] using e4
                have hborn : e.born = j := by
                  have : (c.toList.map (·.born))[j]? = some e.born := by simp [e5']
                  rw [h7, List.getElem?_range hj] at this
                  cases this; rfl
                refine ⟨.tuple #[u, .int .i64 j], _, r, ?_, VRel.tuple_iff.2 (.cons e3 (.cons (.int _ _) .nil)), map_step (es' := es.set j (k', x)) hr hi hL h2 hblk (by simpa using h4) (c' := c.modify j fun e => { e with key := k' }) ?_ ?_ ?_⟩
                · simp only [Instr.mapEntry, Sem.run_bind, run_und (hT.und _ _ hd), Result.andThen_ok, hg, run_checkKey hT hkd hkk, hrun, e5', Option.map_some, Option.getD_some, run_keyStays e6, run_setObj h3, Sem.run_pure, hborn, goInt]
                · rw [map_set, modify_keys _ _ _ _ k' (fun _ => rfl)]
                  exact h5.set j hk
                · rw [map_set, modify_same c j (fun e => { e with key := k' }) (fun e => e.val) (fun _ => rfl)]
                  have hux : (c.toList.map (·.val)).set j u = c.toList.map (·.val) := by
                    apply List.ext_getElem?
                    intro q
                    rw [List.getElem?_set]
                    by_cases hq : j = q
                    · subst hq
                      have : (c.toList.map (·.val))[j]? = some u := by simp [e5', e7]
                      rw [if_pos rfl, if_pos (List.getElem?_eq_some_iff.1 this).1, this]
                    · rw [if_neg hq]
                  rw [← hux]
                  exact h6.set j e3
                · rw [modify_same c j (fun e => { e with key := k' }) (fun e => e.born) (fun _ => rfl), h7]; simp
            · rename_i hfa
              cases h
              obtain ⟨res', hrun, hh⟩ := run_findKey (w := w) hT hkd hkk h5 h6 hfa
              rcases hh with ⟨_, rfl⟩ | ⟨j', x', u, e1, _⟩
              · refine ⟨.tuple #[z, .int .i64 clock], _, r, ?_, ?_, map_step (es' := es ++ [(k', z)]) hr hi hL h2 hblk (clock := clock + 1) (by simp [h4]) (c' := c.push { key := k', val := z, born := clock }) ?_ ?_ ?_⟩
                · simp only [Instr.mapEntry, Sem.run_bind, run_und (hT.und _ _ hd), Result.andThen_ok, hg, run_checkKey hT hkd hkk, hrun, run_setObj h3, run_zero i1 i2, Sem.run_pure, goInt]
                · rw [h4]; exact VRel.tuple_iff.2 (.cons (plain_rel r z i5) (.cons (.int _ _) .nil))
                · simp only [List.map_append, List.map_cons, List.map_nil, Array.toList_push]
                  exact h5.append (.cons hk .nil)
                · simp only [List.map_append, List.map_cons, List.map_nil, Array.toList_push]
                  exact h6.append (.cons (plain_rel r z i5) .nil)
                · simp only [List.map_append, List.map_cons, List.map_nil, Array.toList_push, h7, List.length_append, List.length_cons, List.length_nil, Nat.zero_add]
                  rw [List.range_succ, h4]
              · cases e1
            · cases h
        · cases h
    · cases h
  · cases h

end
end Go.Proofs.Abs

/- The abstract machine: an operation that calls no Go function is sound. -/
namespace Go.Proofs.Abs
open Go

section
variable {P : Program} {w : World} {T : Tab} {r : Rho} {s s' : St}

theorem entryStoreA_sound (hr : Rel P r s w) {t : TypeId} {m st v m' st' v' : Value} (h : entryStoreA m st v s = some s') (hm : VRel r m m') (hs : VRel r st st') (hv : VRel r v v') :
    ∃ w', (Instr.entryStore t m' st' v').run P w = .ok () w' ∧ Step P r s w r s' w' := by
  unfold entryStoreA at h
  split at h
  · rename_i i j
    split at h
    · rename_i es hi
      split at h
      · rename_i hj
        cases h; cases hs
        cases hm with
        | map _ L hL =>
          obtain ⟨L', c, clock, h1, h2, h3, h4, h5, h6, h7⟩ := hr.objs _ _ hi
          rw [hL] at h1; cases h1
          have hblk : L.block < w.heap.size := (Array.getElem?_eq_some_iff.1 h3).1
          have hg : (getObj L.block).run P w = .ok (.map c clock) w := by simp [getObj, Sem.run, h3]
          have hlen := h5.length
          simp only [List.length_map, Array.length_toList] at hlen
          have hjl : j.toNat < c.size := by omega
          have hfind : c.findIdx? (fun e => (e.born : Int) == j) = some j.toNat := by
            rw [Array.findIdx?_eq_some_iff_getElem]
            refine ⟨hjl, ?_, ?_⟩
            · have : (c.toList.map (·.born))[j.toNat]? = some c[j.toNat].born := by simp [hjl]
              rw [h7, List.getElem?_range (by omega)] at this
              have hb : j.toNat = c[j.toNat].born := by simpa using this
              rw [← hb]; simp; omega
            · intro q hq
              have : (c.toList.map (·.born))[q]? = some (c[q]'(by omega)).born := by simp [show q < c.size by omega]
              rw [h7, List.getElem?_range (by omega)] at this
              have hb : q = (c[q]'(by omega)).born := by simpa using this
              rw [← hb]; simp; omega
          refine ⟨_, ?_, map_step (es' := es.set j.toNat ((es.getD j.toNat (undef, undef)).1, v)) hr hi hL h2 hblk (by simpa using h4) (c' := c.modify j.toNat fun e => { e with val := v' }) ?_ ?_ ?_⟩
          · simp only [Instr.entryStore, Sem.run_bind, hg, Result.andThen_ok, asInt, asIntOf, Sem.run_pure, hfind, run_setObj h3]
          · rw [map_set, modify_same c j.toNat (fun e => { e with val := v' }) (fun e => e.key) (fun _ => rfl)]
            have : (es.map (·.1)).set j.toNat (es.getD j.toNat (undef, undef)).1 = es.map (·.1) := by
              apply List.ext_getElem?
              intro q
              rw [List.getElem?_set]
              by_cases hq : j.toNat = q
              · subst hq
                have hjl' : j.toNat < es.length := by omega
                rw [if_pos rfl, if_pos (by simpa using hjl')]
                simp [List.getD_eq_getElem?_getD, hjl']
              · rw [if_neg hq]
            rw [this]
            exact h5
          · rw [map_set, modify_keys _ _ _ _ v' (fun _ => rfl)]
            exact h6.set _ hv
          · rw [modify_same c j.toNat (fun e => { e with val := v' }) (fun e => e.born) (fun _ => rfl), h7]; simp
      · cases h
    · cases h
  · cases h

/-- What an operation's run is. -/
def OpOk (P : Program) (r : Rho) (s : St) (w : World) (m : Sem Next) (v : Value) (s' : St) : Prop :=
  ∃ nx u w' r', m.run P w = .ok nx w' ∧ (nx = .value u ∨ (nx = .skip ∧ u = undef)) ∧ VRel r' v u ∧ Step P r s w r' s' w'

theorem OpOk.val {m : Sem Value} {v : Value} (h : SemOk P r s w m v s') : OpOk P r s w (do pure (.value (← m))) v s' := by
  obtain ⟨u, w', r', h1, h2, h3⟩ := h
  exact ⟨.value u, u, w', r', by simp only [Sem.run_bind, h1, Result.andThen_ok, Sem.run_pure], .inl rfl, h2, h3⟩

theorem OpOk.pureVal (hr : Rel P r s w) {m : Sem Value} {v : Value} (h : ∃ u, m.run P w = .ok u w ∧ VRel r v u) : OpOk P r s w (do pure (.value (← m))) v s := by
  obtain ⟨u, h1, h2⟩ := h
  exact OpOk.val (SemOk.pure hr h1 h2)

theorem OpOk.unit {m : Sem Unit} (h : ∃ w', m.run P w = .ok () w' ∧ Step P r s w r s' w') : OpOk P r s w (do m; pure .skip) undef s' := by
  obtain ⟨w', h1, h2⟩ := h
  exact ⟨.skip, undef, w', r, by simp only [Sem.run_bind, h1, Result.andThen_ok, Sem.run_pure], .inr ⟨rfl, rfl⟩, VRel.undef r, h2⟩

theorem OpOk.now (hr : Rel P r s w) {v u : Value} (h : VRel r v u) : OpOk P r s w (pure (.value u)) v s :=
  ⟨.value u, u, w, r, rfl, .inl rfl, h, Step.refl hr⟩

theorem builtinA_sound (hT : T.Ok P) (hr : Rel P r s w) {b : Builtin} {ts : Array TypeId} {ty : TypeId} {cs : Array Bool} {vs : List Value} {us : Array Value} {v : Value} (h : builtinA T b ts.toList vs s = some (v, s')) (hv : VRels r vs us.toList) :
    OpOk P r s w (builtin b ts ty cs us) v s' := by
  obtain ⟨ts⟩ := ts
  obtain ⟨us⟩ := us
  unfold builtinA at h
  split at h
  · rename_i t t2 v0 x0 hts
    simp only at hts hv
    subst hts
    cases hv with
    | cons h1 hv => cases hv with
      | cons h2 hv => cases hv with
        | nil => exact OpOk.val (appendA_sound hT hr h h1 h2)
  · rename_i t rest d x hts
    simp only at hts hv
    subst hts
    cases hv with
    | cons h1 hv => cases hv with
      | cons h2 hv => cases hv with
        | nil => exact OpOk.val (copyA_sound hT hr (by simp) h h1 h2)
  · rename_i t rest x hts
    simp only at hts hv
    subst hts
    cases hv with
    | cons h1 hv => cases hv with
      | nil =>
        refine OpOk.val ?_
        split at h
        · rename_i b hd
          cases h; cases h1
          exact SemOk.pure hr (by simp [Builtin.len_, run_und (hT.und _ _ hd), goInt]) (.int _ _)
        · rename_i e a n c hd
          cases h
          cases h1
          · exact SemOk.pure hr (by simp [Builtin.len_, run_und (hT.und _ _ hd), goInt]) (.int _ _)
          · exact SemOk.pure hr (by simp [Builtin.len_, run_und (hT.und _ _ hd), goInt]) (.int _ _)
        · rename_i n e hd
          cases h
          exact SemOk.pure hr (by simp [Builtin.len_, run_und (hT.und _ _ hd), goInt]) (.int _ _)
        · cases h
  · rename_i x y
    obtain ⟨v0, hv0, he⟩ := Option.map_eq_some_iff.1 h
    cases he
    cases hv with
    | cons h1 hv => cases hv with
      | cons h2 hv => cases hv with
        | nil => exact OpOk.pureVal hr (run_minMax (mx := false) hv0 h1 h2)
  · rename_i x y
    obtain ⟨v0, hv0, he⟩ := Option.map_eq_some_iff.1 h
    cases he
    cases hv with
    | cons h1 hv => cases hv with
      | cons h2 hv => cases hv with
        | nil => exact OpOk.pureVal hr (run_minMax (mx := true) hv0 h1 h2)
  · cases h

theorem map_pair {α : Type} {x : Option α} {s s' : St} {v : α} (h : x.map (·, s) = some (v, s')) : x = some v ∧ s' = s := by
  obtain ⟨v', h1, h2⟩ := Option.map_eq_some_iff.1 h
  cases h2; exact ⟨h1, rfl⟩

theorem map_undef {x : Option St} {s' : St} {v : Value} (h : x.map (undef, ·) = some (v, s')) : x = some s' ∧ v = undef := by
  obtain ⟨s0, h1, h2⟩ := Option.map_eq_some_iff.1 h
  cases h2; exact ⟨h1, rfl⟩

theorem newCells_pure (hr : Rel P r s w) {t : TypeId} {inf : TypeInfo} (hi : P.info? t = some inf) {cs : List Value} {us : Array Value} (h : VRels r cs us.toList) :
    Step P r s w (r.put s.next ⟨w.heap.size, 0, us.size, inf.size⟩) (s.new (.cells cs t false)) (w.alloc (.cells us t)) := by
  have hl := h.length
  simp only [Array.length_toList] at hl
  exact Step.newCells hr hi cs us (by omega) (by rw [List.take_of_length_le (by simp; omega)]; exact h)

theorem opA_sound (hT : T.Ok P) (hr : Rel P r s w) {e : Operand → Option Value} {ρ : Operand → Value} (he : ERel r e ρ) {o : Oper} {v : Value} (h : opA T e o s = some (v, s')) : OpOk P r s w (execOp ρ o) v s' := by
  unfold opA at h
  unfold execOp
  split at h
  · -- move
    rename_i x ho
    replace h := map_pair h
    obtain ⟨h, rfl⟩ := h
    simp only [ho]
    exact OpOk.now hr (he _ _ h)
  · rename_i x ho
    replace h := map_pair h
    obtain ⟨h, rfl⟩ := h
    simp only [ho]
    exact OpOk.now hr (he _ _ h)
  · -- pick
    rename_i c a b ho
    split at h
    · rename_i t hc
      replace h := map_pair h
      obtain ⟨h, rfl⟩ := h
      have hcv := (he _ _ hc).bool_inv
      simp only [ho]
      refine ⟨_, if t then ρ a else ρ b, w, r, by simp only [Sem.run_bind, hcv, asBool, Sem.run_pure, Result.andThen_ok], .inl rfl, ?_, Step.refl hr⟩
      cases t
      · exact he _ _ h
      · exact he _ _ h
    · cases h
  · -- alloc
    rename_i t ho
    split at h
    · rename_i z sz b hinf
      cases h
      obtain ⟨inf, i1, i2, i3, i4, i5, i6⟩ := hT.inf _ _ _ _ hinf
      simp only [ho]
      refine OpOk.val ⟨.pointer (some ⟨w.heap.size, 0, none⟩), _, _, ?_, VRel.newPtr r s.next _ rfl, newCells_pure hr i1 (plain_cells i5)⟩
      simp only [Instr.alloc, Sem.run_bind, run_zero i1 i2, Result.andThen_ok, newVar, newRow, run_newObj, Sem.run_pure]
      rfl
    · cases h
  · -- box
    rename_i t x ho
    split at h
    · rename_i v0 q hx hinf
      cases h
      obtain ⟨z, sz, b⟩ := q
      obtain ⟨inf, i1, i2, i3, i4, i5, i6⟩ := hT.inf _ _ _ _ hinf
      simp only [ho]
      refine OpOk.val ⟨.pointer (some ⟨w.heap.size, 0, none⟩), _, _, ?_, VRel.newPtr r s.next _ rfl, newCells_pure hr i1 (he _ _ hx).cells⟩
      simp only [Instr.box, Sem.run_bind, newVar, newRow, run_newObj, Result.andThen_ok, Sem.run_pure]
      rfl
    · cases h
  · -- build
    rename_i t ps ho
    split at h
    · rename_i vs hvs
      replace h := map_pair h
      obtain ⟨h, rfl⟩ := h
      obtain ⟨h1, h2⟩ := evParts_sound he hvs
      simp only [ho]
      have hq : (ps.map fun (i, x) => (i, ρ x)) = (ps.toList.map fun p => (p.1, ρ p.2)).toArray := by
        apply Array.ext'
        simp
      rw [hq]
      refine OpOk.pureVal hr (run_buildA hT h ?_ ?_)
      · rw [h1]; simp
      · simpa [Function.comp_def] using h2
    · cases h
  · -- buildSlice
    rename_i t n ps ho
    split at h
    · rename_i vs hvs
      obtain ⟨h1, h2⟩ := evParts_sound he hvs
      simp only [ho]
      have hq : (ps.map fun (i, x) => (i, ρ x)) = (ps.toList.map fun p => (p.1, ρ p.2)).toArray := by
        apply Array.ext'
        simp
      rw [hq]
      refine OpOk.val (buildSliceA_sound hT hr h ?_ ?_)
      · rw [h1]; simp
      · simpa [Function.comp_def] using h2
    · cases h
  · -- load
    rename_i t a ho
    split at h
    · rename_i p hp
      replace h := map_pair h
      obtain ⟨h, rfl⟩ := h
      simp only [ho]
      exact OpOk.pureVal hr (run_loadA hT hr h (he _ _ hp))
    · cases h
  · -- store
    rename_i t a x ho
    split at h
    · rename_i p v0 hp hx
      replace h := map_undef h
      obtain ⟨h, rfl⟩ := h
      simp only [ho]
      exact OpOk.unit (run_storeA hT hr h (he _ _ hp) (he _ _ hx))
    · cases h
  · -- nilCheck
    rename_i x ho
    split at h
    · rename_i i k hx
      cases h
      have hv := he _ _ hx
      simp only [ho]
      cases hvx : ρ x <;> rw [hvx] at hv <;> cases hv
      rename_i L hL
      exact OpOk.now hr (.ptr _ _ _ hL)
    · rename_i f a b hx
      cases h
      have hv := he _ _ hx
      simp only [ho]
      cases hvx : ρ x <;> rw [hvx] at hv <;> cases hv
      rename_i h1 h3 h2 h4
      exact OpOk.now hr (.func _ _ _ _ _ h1 h2 h3 h4)
    · cases h
  · -- binOp
    rename_i op t x y yt ho
    split at h
    · rename_i v0 u0 hx hy
      replace h := map_pair h
      obtain ⟨h, rfl⟩ := h
      simp only [ho]
      exact OpOk.pureVal hr (run_binA hT h (he _ _ hx) (he _ _ hy) x y)
    · cases h
  · -- unOp
    rename_i op t x ho
    split at h
    · rename_i v0 hx
      replace h := map_pair h
      obtain ⟨h, rfl⟩ := h
      simp only [ho]
      exact OpOk.pureVal hr (run_unA h (he _ _ hx))
    · cases h
  · -- convert
    rename_i a b x ho
    split at h
    · rename_i v0 hx
      replace h := map_pair h
      obtain ⟨h, rfl⟩ := h
      simp only [ho]
      exact OpOk.pureVal hr (run_convA hT hr h (he _ _ hx))
    · cases h
  · -- makeFunc
    rename_i fn first cap ho
    split at h
    · rename_i vs us hvs hus
      cases h
      simp only [ho]
      have h1 := evs_sound he hvs
      have h2 := evs_sound he hus
      refine OpOk.pureVal hr ⟨_, rfl, ?_⟩
      have g1 := VRels.of_array (xs := vs.toArray) (us := first.map ρ) (by simpa using h1)
      have g2 := VRels.of_array (xs := us.toArray) (us := cap.map ρ) (by simpa using h2)
      exact .func _ _ _ _ _ g1.1 g2.1 g1.2 g2.2
    · cases h
  · -- makeMap
    rename_i t ho
    cases h
    simp only [ho]
    refine OpOk.val ⟨.map (some w.heap.size), w.alloc (.map #[] 0), r.put s.next ⟨w.heap.size, 0, 0, 0⟩, ?_, .map _ _ (Rho.put_same _ _ _), Step.new hr _ _ rfl _ rfl ?_⟩
    · rfl
    · exact ⟨_, #[], 0, Rho.put_same _ _ _, rfl, newrow _ _, rfl, .nil, .nil, rfl⟩
  · -- makeSlice
    rename_i t l c ho
    split at h
    · rename_i v0 u0 hl hc
      simp only [ho]
      exact OpOk.val (makeSliceA_sound hT hr h (he _ _ hl) (he _ _ hc))
    · cases h
  · -- slice
    rename_i t x lo hi mx ho
    split at h
    · rename_i v0 l0 h0 m0 hx hl hh hm
      replace h := map_pair h
      obtain ⟨h, rfl⟩ := h
      simp only [ho]
      exact OpOk.pureVal hr (run_sliceA hT hr h (he _ _ hx) (ev_opt he hl) (ev_opt he hh) (ev_opt he hm))
    · cases h
  · -- fieldAddr
    rename_i t x k ho
    split at h
    · rename_i v0 hx
      replace h := map_pair h
      obtain ⟨h, rfl⟩ := h
      simp only [ho]
      exact OpOk.pureVal hr (run_fieldAddrA hT h (he _ _ hx))
    · cases h
  · -- field
    rename_i t x k ho
    split at h
    · rename_i v0 hx
      replace h := map_pair h
      obtain ⟨h, rfl⟩ := h
      simp only [ho]
      exact OpOk.pureVal hr (run_fieldA hT h (he _ _ hx))
    · cases h
  · -- indexAddr
    rename_i t x ix ho
    split at h
    · rename_i v0 j0 hx hj
      replace h := map_pair h
      obtain ⟨h, rfl⟩ := h
      simp only [ho]
      exact OpOk.pureVal hr (run_indexAddrA hT h (he _ _ hx) (he _ _ hj))
    · cases h
  · -- index
    rename_i t x ix ho
    split at h
    · rename_i v0 j0 hx hj
      replace h := map_pair h
      obtain ⟨h, rfl⟩ := h
      simp only [ho]
      exact OpOk.pureVal hr (run_indexA hT h (he _ _ hx) (he _ _ hj))
    · cases h
  · -- lookup
    rename_i t x k ok ho
    split at h
    · rename_i m0 k0 hm hk
      simp only [ho]
      exact OpOk.val (lookupA_sound hT hr h (he _ _ hm) (he _ _ hk))
    · cases h
  · -- mapUpdate
    rename_i t m k x ho
    split at h
    · rename_i m0 k0 v0 hm hk hx
      replace h := map_undef h
      obtain ⟨h, rfl⟩ := h
      simp only [ho]
      exact OpOk.unit (mapSetA_sound hT hr h (he _ _ hm) (he _ _ hk) (he _ _ hx))
    · cases h
  · -- insert
    rename_i t m k x ho
    split at h
    · rename_i m0 k0 v0 hm hk hx
      replace h := map_undef h
      obtain ⟨h, rfl⟩ := h
      simp only [ho]
      exact OpOk.unit (mapSetA_sound hT hr h (he _ _ hm) (he _ _ hk) (he _ _ hx))
    · cases h
  · -- mapEntry
    rename_i t m k ho
    split at h
    · rename_i m0 k0 hm hk
      simp only [ho]
      exact OpOk.val (mapEntryA_sound hT hr h (he _ _ hm) (he _ _ hk))
    · cases h
  · -- entryStore
    rename_i t m st x ho
    split at h
    · rename_i m0 k0 v0 hm hk hx
      replace h := map_undef h
      obtain ⟨h, rfl⟩ := h
      simp only [ho]
      exact OpOk.unit (entryStoreA_sound hr h (he _ _ hm) (he _ _ hk) (he _ _ hx))
    · cases h
  · -- range
    rename_i t x ho
    split at h
    · rename_i b hx hd
      cases h
      have hv := (he _ _ hx).string_inv
      simp only [ho, hv]
      refine OpOk.val ⟨.pointer (some ⟨w.heap.size, 0, none⟩), w.alloc (.stringIter b 0), r.put s.next ⟨w.heap.size, 0, 0, 0⟩, ?_, VRel.newPtr r s.next _ rfl, Step.new hr _ _ rfl _ rfl ?_⟩
      · simp only [Instr.range, Sem.run_bind, run_und (hT.und _ _ hd), Result.andThen_ok, Sem.run_pure, run_newObj]
        rfl
      · exact ⟨_, Rho.put_same _ _ _, rfl, newrow _ _⟩
    · cases h
  · -- next
    rename_i it ho
    split at h
    · rename_i i hx
      split at h
      · rename_i b pos hi
        have hv := he _ _ hx
        simp only [ho]
        obtain ⟨L, h1, h2, h3⟩ := hr.objs _ _ hi
        have hg : (getObj L.block).run P w = .ok (.stringIter b pos) w := by simp [getObj, Sem.run, h3]
        have hblk : L.block < w.heap.size := (Array.getElem?_eq_some_iff.1 h3).1
        cases hvx : ρ it <;> rw [hvx] at hv <;> cases hv
        rename_i L' hL
        rw [h1] at hL; cases hL
        rw [h2, Nat.zero_add]
        split at h
        · rename_i hp
          cases h
          refine OpOk.val ⟨_, wput w L.block (.stringIter b (pos + (Utf8.decode b pos).2)), r, ?_, VRel.tuple_iff.2 (.cons (.bool _) (.cons (.int _ _) (.cons (.int _ _) .nil))), ?_⟩
          · simp only [Instr.next, Sem.run_bind, hg, Result.andThen_ok, if_pos hp, goInt]
            simp only [setObj, Sem.run, h3]
            rfl
          · refine Step.put hr hi rfl h1 _ rfl (wput_size _ _ _) (fun b hb => wput_ne _ hb _) rfl rfl rfl ?_
            exact ⟨L, h1, h2, wput_same _ hblk _⟩
        · rename_i hp
          cases h
          refine OpOk.val (SemOk.pure hr (u := .tuple #[.bool false]) ?_ (VRel.tuple_iff.2 (.cons (.bool _) .nil)))
          simp only [Instr.next, Sem.run_bind, hg, Result.andThen_ok, if_neg hp, Sem.run_pure]
      · cases h
    · cases h
  · -- extract
    rename_i x k ho
    split at h
    · rename_i vs hx
      replace h := map_pair h
      obtain ⟨h, rfl⟩ := h
      have hv := he _ _ hx
      simp only [ho]
      cases hvx : ρ x <;> rw [hvx] at hv <;> cases hv
      rename_i us hsz hvr
      obtain ⟨u, hu, hr'⟩ := (VRels.toArray hsz hvr).get_some (i := k) (a := v) (by simpa using h)
      refine OpOk.pureVal hr ⟨u, ?_, hr'⟩
      simp only [Array.getElem?_toList] at hu
      simp only [Instr.extract, hu, Sem.run_pure]
    · cases h
  · -- call
    rename_i c ho
    split at h
    · rename_i b hb
      split at h
      · rename_i vs hvs
        simp only [ho, resolve, hb]
        have := builtinA_sound (ty := o.type) (cs := c.args.map fun | .const _ => true | _ => false) (us := c.args.map ρ) hT hr h (by simpa using evs_sound he hvs)
        obtain ⟨nx, u, w', r', h1, h2⟩ := this
        exact ⟨nx, u, w', r', by simp only [Sem.run_bind, Sem.run_pure, Result.andThen_ok, invoke]; exact h1, h2⟩
      · cases h
    · cases h
  · cases h

end
end Go.Proofs.Abs
