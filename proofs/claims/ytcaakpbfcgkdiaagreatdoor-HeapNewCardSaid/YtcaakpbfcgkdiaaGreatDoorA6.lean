/- The abstract machine with unknown values: what is owed for a piece of code. Conditions: none beyond what each theorem says. -/
import Derived.Test.YtcaakpbfcgkdiaaGreatDoorA5

/- The abstract machine with unknown values: registers of which some are known; what an operation does hangs on what it reads alone. -/
namespace Go.Proofs.Abs
open Go

noncomputable section

inductive HT
  | nil
  | node (v : Option Value) (l r : HT)

def HT.get (t : HT) : Nat → Option Value :=
  HT.rec (motive := fun _ => Nat → Option Value) (fun _ => none) (fun v _ _ gl gr n =>
    Nat.rec (motive := fun _ => Option Value) v (fun m _ => Nat.rec (motive := fun _ => Option Value) (gl (Nat.div m 2)) (fun _ _ => gr (Nat.div m 2)) (Nat.mod m 2)) n) t

def HT.at0 (t : HT) (v : Option Value) : HT := HT.rec (motive := fun _ => HT) (.node v .nil .nil) (fun _ l r _ _ => .node v l r) t
def HT.atL (ih : HT → Nat → Option Value → HT) (t : HT) (m : Nat) (v : Option Value) : HT := HT.rec (motive := fun _ => HT) (.node none (ih .nil (Nat.div m 2) v) .nil) (fun u l r _ _ => .node u (ih l (Nat.div m 2) v) r) t
def HT.atR (ih : HT → Nat → Option Value → HT) (t : HT) (m : Nat) (v : Option Value) : HT := HT.rec (motive := fun _ => HT) (.node none .nil (ih .nil (Nat.div m 2) v)) (fun u l r _ _ => .node u l (ih r (Nat.div m 2) v)) t

def HT.upd (f : Nat) : HT → Nat → Option Value → HT :=
  Nat.rec (motive := fun _ => HT → Nat → Option Value → HT) (fun t _ _ => t) (fun _ ih t n v =>
    Nat.rec (motive := fun _ => HT) (HT.at0 t v) (fun m _ => Nat.rec (motive := fun _ => HT) (HT.atL ih t m v) (fun _ _ => HT.atR ih t m v) (Nat.mod m 2)) n) f

theorem HT.get_nil (n : Nat) : HT.nil.get n = none := rfl
theorem HT.get_zero (v : Option Value) (l r : HT) : (HT.node v l r).get 0 = v := rfl
theorem HT.get_succ (v : Option Value) (l r : HT) (m : Nat) : (HT.node v l r).get (m + 1) = if m % 2 = 0 then l.get (m / 2) else r.get (m / 2) := by
  show Nat.rec (motive := fun _ => Option Value) (l.get (Nat.div m 2)) (fun _ _ => r.get (Nat.div m 2)) (Nat.mod m 2) = _
  have : Nat.mod m 2 = m % 2 := rfl
  rw [this]
  rcases Nat.mod_two_eq_zero_or_one m with h | h <;> rw [h] <;> rfl

theorem HT.get_upd (f : Nat) : ∀ (t : HT) (n : Nat) (v : Option Value) (m : Nat), n < 2 ^ f - 1 → (HT.upd f t n v).get m = if m = n then v else t.get m := by
  induction f with
  | zero => intro t n v m h; simp at h
  | succ f ih =>
    intro t n v m h
    have hpow : 2 ^ (f + 1) = 2 * 2 ^ f := by rw [Nat.pow_succ]; omega
    cases n with
    | zero =>
      have e : HT.upd (f + 1) t 0 v = HT.at0 t v := rfl
      rw [e]
      cases t with
      | nil =>
        show (HT.node v .nil .nil).get m = _
        cases m with
        | zero => rfl
        | succ m => rw [HT.get_succ]; simp [HT.get_nil]
      | node u l r =>
        show (HT.node v l r).get m = _
        cases m with
        | zero => rfl
        | succ m => rw [HT.get_succ, HT.get_succ]; simp
    | succ n =>
      have e : HT.upd (f + 1) t (n + 1) v = Nat.rec (motive := fun _ => HT) (HT.atL (HT.upd f) t n v) (fun _ _ => HT.atR (HT.upd f) t n v) (Nat.mod n 2) := rfl
      have hm2 : Nat.mod n 2 = n % 2 := rfl
      rw [e, hm2]
      have hd : n / 2 < 2 ^ f - 1 := by omega
      have hq : Nat.div n 2 = n / 2 := rfl
      rcases Nat.mod_two_eq_zero_or_one n with hn | hn <;> rw [hn]
      · show (HT.atL (HT.upd f) t n v).get m = _
        have main : ∀ u l r, (HT.node u (HT.upd f l (Nat.div n 2) v) r).get m = if m = n + 1 then v else (HT.node u l r).get m := by
          intro u l r
          cases m with
          | zero => rfl
          | succ m =>
            rw [HT.get_succ, HT.get_succ, ih _ _ _ _ (by rw [hq]; exact hd), hq]
            by_cases hmm : m % 2 = 0
            · by_cases e : m = n
              · subst e; simp [hmm]
              · have : ¬ m / 2 = n / 2 := by omega
                simp [hmm, e, this]
            · have : ¬ m = n := by omega
              simp [hmm, this]
        cases t with
        | nil =>
          refine (main none .nil .nil).trans ?_
          cases m with
          | zero => rfl
          | succ m => rw [HT.get_succ]; simp [HT.get_nil]
        | node u l r => exact main u l r
      · show (HT.atR (HT.upd f) t n v).get m = _
        have main : ∀ u l r, (HT.node u l (HT.upd f r (Nat.div n 2) v)).get m = if m = n + 1 then v else (HT.node u l r).get m := by
          intro u l r
          cases m with
          | zero => rfl
          | succ m =>
            rw [HT.get_succ, HT.get_succ, ih _ _ _ _ (by rw [hq]; exact hd), hq]
            by_cases hmm : m % 2 = 0
            · have : ¬ m = n := by omega
              simp [hmm, this]
            · by_cases e : m = n
              · subst e; simp [hmm]
              · have : ¬ m / 2 = n / 2 := by omega
                simp [hmm, e, this]
        cases t with
        | nil =>
          refine (main none .nil .nil).trans ?_
          cases m with
          | zero => rfl
          | succ m => rw [HT.get_succ]; simp [HT.get_nil]
        | node u l r => exact main u l r


def evH (T : Tab) (tr : HT) : Operand → Option Value
  | .tmp t => tr.get t
  | .const v => if plainV v then some v else none
  | .global g => if g < T.ng then some (.pointer (some ⟨g, 0, none⟩)) else none
  | .func f => some (.func (.func f) #[] #[])

def putH (tr : HT) (d : Option Tmp) (v : Value) : HT :=
  match d with
  | some d => HT.upd 12 tr d (some v)
  | none => tr

/-- Is the operation wanted? none: that isn't known. -/
def wantedH (ops : Array Oper) (tr : HT) (o : Oper) : Option Bool :=
  match o.guard with
  | none => some true
  | some (j, b) =>
    match (ops[j]?).bind (·.dst) with
    | none => some false
    | some d => match tr.get d with
      | some (.bool c) => some (c == b)
      | some _ => some false
      | none => none

end

/-- What is known of the registers is so. -/
def HRep (nt : Nat) (tr : HT) (rg : Regs) : Prop := (∀ t v, tr.get t = some v → rg.getD t undef = v) ∧ rg.length = nt

def ELe (e e' : Operand → Option Value) : Prop := ∀ x v, e x = some v → e' x = some v

theorem evH_le {T : Tab} {nt : Nat} {tr : HT} {rg : Regs} (h : HRep nt tr rg) : ELe (evH T tr) (ev T rg) := by
  intro x v hx
  cases x with
  | tmp t => show some (rg.getD t undef) = some v; rw [h.1 t v hx]
  | const u => exact hx
  | global g => exact hx
  | func f => exact hx

theorem HRep.put {nt : Nat} {tr : HT} {rg : Regs} (h : HRep nt tr rg) {d : Option Tmp} (v : Value) (hd : dstOk nt d = true) (hn : nt < 4095) : HRep nt (putH tr d v) (putA rg d v) := by
  cases d with
  | none => exact h
  | some d =>
    have hlt : d < nt := by simpa [dstOk] using hd
    refine ⟨fun t u hu => ?_, by simpa [putA] using h.2⟩
    have hu : (HT.upd 12 tr d (some v)).get t = some u := hu
    rw [HT.get_upd 12 tr d (some v) t (Nat.lt_of_lt_of_le hlt (by have : (2:Nat) ^ 12 - 1 = 4095 := rfl; omega))] at hu
    show (rg.set d v).getD t undef = u
    by_cases e : t = d
    · subst e
      rw [if_pos rfl] at hu; cases hu
      simp [h.2, hlt]
    · rw [if_neg e] at hu
      rw [← h.1 t u hu]
      simp only [List.getD_eq_getElem?_getD, List.getElem?_set]
      rw [if_neg (fun g => e g.symm)]

theorem wantedH_eq {nt : Nat} {tr : HT} {rg : Regs} (h : HRep nt tr rg) {ops : Array Oper} (hops : (ops.toList.all fun o => dstOk nt o.dst) = true) {o : Oper} {b : Bool} (hw : wantedH ops tr o = some b) : Region.wanted o (yieldedA ops rg) = b := by
  unfold wantedH at hw
  unfold Region.wanted
  cases hg : o.guard with
  | none => rw [hg] at hw; cases hw; rfl
  | some p =>
    obtain ⟨j, c⟩ := p
    rw [hg] at hw
    simp only [yieldedA] at hw ⊢
    cases hd : (ops[j]?).bind (·.dst) with
    | none => rw [hd] at hw; cases hw; rfl
    | some d =>
      rw [hd] at hw
      simp only [Option.bind_some]
      have hlt : d < nt := by
        cases ho : ops[j]? with
        | none => rw [ho] at hd; cases hd
        | some oj =>
          rw [ho] at hd
          have hm : oj ∈ ops.toList := List.mem_of_getElem? (by simpa using ho)
          have := List.all_eq_true.1 hops oj hm
          have hd : oj.dst = some d := hd
          rw [hd] at this
          simpa [dstOk] using this
      have hget : rg[d]? = some (rg.getD d undef) := by
        have : d < rg.length := by rw [h.2]; exact hlt
        simp [this]
      simp only [] at hw
      split at hw
      · rename_i c' hc
        cases hw
        rw [hget, h.1 d _ hc]
        simp
      · rename_i v hne hv
        cases hw
        rw [hget, h.1 d _ hv]
        cases v <;> first | rfl | (rename_i bb; exact absurd rfl (hne bb))
      · cases hw

/-! ### Monotony -/

section
variable {T : Tab} {e e' : Operand → Option Value}

theorem evs_mono (h : ELe e e') : ∀ {xs : List Operand} {vs : List Value}, evs e xs = some vs → evs e' xs = some vs
  | [], _, hv => hv
  | x :: xs, vs, hv => by
    simp only [evs] at hv ⊢
    split at hv
    · rename_i v us h1 h2
      rw [h x v h1, evs_mono h h2]; exact hv
    · cases hv

theorem evParts_mono (h : ELe e e') : ∀ {xs : List (Nat × Operand)} {vs : List (Nat × Value)}, evParts e xs = some vs → evParts e' xs = some vs
  | [], _, hv => hv
  | (i, x) :: xs, vs, hv => by
    simp only [evParts] at hv ⊢
    split at hv
    · rename_i v us h1 h2
      rw [h x v h1, evParts_mono h h2]; exact hv
    · cases hv

theorem one_mono {α : Type} (h : ELe e e') {x : Operand} {f : Value → Option α} {r : α} (hr : (match e x with
    | some v => f v
    | none => none) = some r) : (match e' x with
    | some v => f v
    | none => none) = some r := by
  cases hx : e x with
  | none => rw [hx] at hr; cases hr
  | some v => rw [hx] at hr; rw [h x v hx]; exact hr

theorem two_mono {α : Type} (h : ELe e e') {x y : Operand} {f : Value → Value → Option α} {r : α} (hr : (match e x, e y with
    | some v, some u => f v u
    | _, _ => none) = some r) : (match e' x, e' y with
    | some v, some u => f v u
    | _, _ => none) = some r := by
  cases hx : e x with
  | none => rw [hx] at hr; cases hr
  | some v =>
    cases hy : e y with
    | none => rw [hx, hy] at hr; cases hr
    | some u => rw [hx, hy] at hr; rw [h x v hx, h y u hy]; exact hr

theorem three_mono {α : Type} (h : ELe e e') {x y z : Operand} {f : Value → Value → Value → Option α} {r : α} (hr : (match e x, e y, e z with
    | some v, some u, some w => f v u w
    | _, _, _ => none) = some r) : (match e' x, e' y, e' z with
    | some v, some u, some w => f v u w
    | _, _, _ => none) = some r := by
  cases hx : e x with
  | none => rw [hx] at hr; cases hr
  | some v =>
    cases hy : e y with
    | none => rw [hx, hy] at hr; cases hr
    | some u =>
      cases hz : e z with
      | none => rw [hx, hy, hz] at hr; cases hr
      | some w => rw [hx, hy, hz] at hr; rw [h x v hx, h y u hy, h z w hz]; exact hr

theorem opA_mono (h : ELe e e') {o : Oper} {s : St} {r : Value × St} (hr : opA T e o s = some r) : opA T e' o s = some r := by
  unfold opA at hr ⊢
  cases ho : o.op <;> rw [ho] at hr <;> simp only [] at hr ⊢ <;> try (cases hr; done)
  case move x => obtain ⟨v, hv, hr⟩ := Option.map_eq_some_iff.1 hr; rw [h _ _ hv, ← hr]; rfl
  case assign x => obtain ⟨v, hv, hr⟩ := Option.map_eq_some_iff.1 hr; rw [h _ _ hv, ← hr]; rfl
  case pick c a b =>
    cases hc : e c with
    | none => rw [hc] at hr; cases hr
    | some v =>
      rw [hc] at hr
      rw [h c v hc]
      cases v with
      | bool t =>
        simp only [] at hr ⊢
        cases t
        · obtain ⟨v, hv, hr⟩ := Option.map_eq_some_iff.1 hr
          rw [← hr]; exact congrArg _ (h _ _ hv)
        · obtain ⟨v, hv, hr⟩ := Option.map_eq_some_iff.1 hr
          rw [← hr]; exact congrArg _ (h _ _ hv)
      | _ => cases hr
  case alloc t => exact hr
  case box t x =>
    cases hx : e x with
    | none => rw [hx] at hr; cases hr
    | some v => rw [hx] at hr; rw [h _ _ hx]; exact hr
  case build t ps =>
    cases hx : evParts e ps.toList with
    | none => rw [hx] at hr; cases hr
    | some v => rw [hx] at hr; rw [evParts_mono h hx]; exact hr
  case buildSlice t n ps =>
    cases hx : evParts e ps.toList with
    | none => rw [hx] at hr; cases hr
    | some v => rw [hx] at hr; rw [evParts_mono h hx]; exact hr
  case insert t m k x => exact three_mono h hr
  case load t x => exact one_mono h hr
  case store t x y => exact two_mono h hr
  case nilCheck x =>
    cases hx : e x with
    | none => rw [hx] at hr; cases hr
    | some v => rw [hx] at hr; rw [h _ _ hx]; exact hr
  case binOp op t x y u => exact two_mono h hr
  case unOp op t x => exact one_mono h hr
  case convert a b x => exact one_mono h hr
  case makeFunc fn a b =>
    cases hx : evs e a.toList with
    | none => rw [hx] at hr; cases hr
    | some v =>
      cases hy : evs e b.toList with
      | none => rw [hx, hy] at hr; cases hr
      | some u => rw [hx, hy] at hr; rw [evs_mono h hx, evs_mono h hy]; exact hr
  case makeMap t q =>
    cases q with
    | none => exact hr
    | some q => cases hr
  case makeSlice t x y => exact two_mono h hr
  case slice t x a b c =>
    cases hx : e x with
    | none => rw [hx] at hr; cases hr
    | some v =>
      cases ha : evs e a.toList with
      | none => rw [hx, ha] at hr; cases hr
      | some u =>
        cases hb : evs e b.toList with
        | none => rw [hx, ha, hb] at hr; cases hr
        | some w =>
          cases hc : evs e c.toList with
          | none => rw [hx, ha, hb, hc] at hr; cases hr
          | some z => rw [hx, ha, hb, hc] at hr; rw [h _ _ hx, evs_mono h ha, evs_mono h hb, evs_mono h hc]; exact hr
  case fieldAddr t x k => exact one_mono h hr
  case field t x k => exact one_mono h hr
  case indexAddr t x y => exact two_mono h hr
  case index t x y => exact two_mono h hr
  case lookup t x k ok => exact two_mono h hr
  case mapUpdate t m k x => exact three_mono h hr
  case mapEntry t m k => exact two_mono h hr
  case entryStore t m k x => exact three_mono h hr
  case range t x =>
    cases hx : e x with
    | none => rw [hx] at hr; cases hr
    | some v => rw [hx] at hr; rw [h _ _ hx]; exact hr
  case next it b =>
    cases b with
    | false => exact hr
    | true =>
      cases hx : e it with
      | none => simp only [hx] at hr; cases hr
      | some v => simp only [hx] at hr; simp only [h _ _ hx]; exact hr
  case extract x k =>
    cases hx : e x with
    | none => rw [hx] at hr; cases hr
    | some v => rw [hx] at hr; rw [h _ _ hx]; exact hr
  case call c =>
    cases hc : c.callee with
    | builtin b =>
      rw [hc] at hr
      simp only [] at hr ⊢
      cases hx : evs e c.args.toList with
      | none => rw [hx] at hr; cases hr
      | some v => rw [hx] at hr; rw [evs_mono h hx]; exact hr
    | value f => rw [hc] at hr; cases hr
    | invoke a b => rw [hc] at hr; cases hr

theorem callA_mono (h : ELe e e') {o : Oper} {r : FuncId × List Value} (hr : callA e o = some r) : callA e' o = some r := by
  unfold callA at hr ⊢
  cases ho : o.op <;> rw [ho] at hr <;> simp only [] at hr ⊢ <;> try (cases hr; done)
  case call c =>
    cases hc : c.callee with
    | builtin b => rw [hc] at hr; cases hr
    | invoke a b => rw [hc] at hr; cases hr
    | value f =>
      rw [hc] at hr
      simp only [] at hr ⊢
      cases hx : e f with
      | none => rw [hx] at hr; cases hr
      | some v =>
        cases hy : evs e c.args.toList with
        | none => rw [hx, hy] at hr; split at hr <;> simp_all
        | some u => rw [hx, hy] at hr; rw [h _ _ hx, evs_mono h hy]; exact hr

end

end Go.Proofs.Abs

/- The abstract machine with unknown values: what is owed for a piece of code. -/
namespace Go.Proofs.Abs
open Go

/-- What is said of an operation ahead of its run. -/
inductive Hint
  | bool (b : Bool)
  | eq (v : Value)
  | val (v : Value)
  | st (v : Value) (s' : St)
  | load (cs : List Value) (t : TypeId) (ro : Bool)
  | loadv (cs : List Value) (t : TypeId) (ro : Bool) (v : Value)
  | store (cs : List Value) (t : TypeId) (cs' : List Value)
  | call (v : Value) (s' : St)
  | callp (v : Value)
  | callwp (Q : Value → St → Prop)
  | sem

noncomputable section

variable (T : Tab) (P : Program) (call : Oracle)

/-- An operation that calls no Go function. -/
def hOp (e : Operand → Option Value) (o : Oper) (s : St) (h : Option Hint) (k : Value → St → Prop) : Prop :=
  match h with
  | none => match opK T e o s with
    | some (v, s') => k v s'
    | none => False
  | some (.bool b) => match opK T e o s with
    | some (.bool c, s') => c = b ∧ k (.bool b) s'
    | _ => False
  | some (.eq v) => match opK T e o s with
    | some (u, s') => u = v ∧ k v s'
    | none => False
  | some (.val v) => opA T e o s = some (v, s) ∧ k v s
  | some (.st v s') => opA T e o s = some (v, s') ∧ k v s'
  | some (.load cs t ro) => match o.op with
    | .load ty x => match e x with
      | some (.pointer (some ⟨j, off, none⟩)) => s.mem.get j = some (.cells cs t ro) ∧ match readCells T ty cs off with
        | some v => k v s
        | none => False
      | _ => False
    | _ => False
  | some (.loadv cs t ro v) => match o.op with
    | .load ty x => match e x with
      | some (.pointer (some ⟨j, off, none⟩)) => s.mem.get j = some (.cells cs t ro) ∧ readCells T ty cs off = some v ∧ k v s
      | _ => False
    | _ => False
  | some (.store cs t cs') => match o.op with
    | .store ty x y => match e x, e y, T.inf ty with
      | some (.pointer (some ⟨j, off, none⟩)), some u, some (_, n, _) =>
        s.mem.get j = some (.cells cs t false) ∧ (Nat.beq u.cells.size n && oneAll u.cells.toList) = true ∧ off + n ≤ cs.length ∧ writeAt cs off u.cells.toList = cs' ∧ k undef (s.put j (.cells cs' t false))
      | _, _, _ => False
    | _ => False
  | _ => False

/-- An operation: a call, or none. -/
def hOne (e : Operand → Option Value) (o : Oper) (s : St) (h : Option Hint) (k : Value → St → Prop) : Prop :=
  match callA e o with
  | none => hOp T e o s h k
  | some (f, args) => match h with
    | none => match call f args s with
      | some (v, s', _) => k v s'
      | none => False
    | some (.call v s') => ((T.fn f).isSome = true ∧ CallD P f args s v s') ∧ k v s'
    | some (.callp v) => ((T.fn f).isSome = true ∧ ∀ n st, 0 < st → CallD P f args ⟨s.mem, n, st⟩ v ⟨s.mem, n, st⟩) ∧ k v s
    | some (.callwp Q) => ((T.fn f).isSome = true ∧ CallWP P f args s Q) ∧ ∀ v s', Q v s' → k v s'
    | _ => False

/-- In a drawn region: calls that leave all as it is. -/
def hOneD (e : Operand → Option Value) (o : Oper) (s : St) (h : Option Hint) (k : Value → St → Prop) : Prop :=
  match callA e o with
  | none => hOp T e o s h k
  | some (f, args) => match h with
    | some (.callp v) => ((T.fn f).isSome = true ∧ ∀ n st, 0 < st → CallD P f args ⟨s.mem, n, st⟩ v ⟨s.mem, n, st⟩) ∧ k v s
    | _ => False

def hOps (hint : Nat → Option Hint) (ops : Array Oper) (l : List Oper) : Nat → HT → St → (HT → St → Prop) → Prop :=
  List.rec (motive := fun _ => Nat → HT → St → (HT → St → Prop) → Prop) (fun _ tr s K => K tr s) (fun o _ ih i tr s K =>
    match wantedH ops tr o with
    | some true => hOne T P call (evH T tr) o s (hint i) fun v s' => ih (i + 1) (putH tr o.dst v) s' K
    | some false => ih (i + 1) (putH tr o.dst undef) s K
    | none => False) l

def hOpsD (hint : Nat → Option Hint) (ops : Array Oper) (l : List Oper) : Nat → HT → St → (HT → St → Prop) → Prop :=
  List.rec (motive := fun _ => Nat → HT → St → (HT → St → Prop) → Prop) (fun _ tr s K => K tr s) (fun o _ ih i tr s K =>
    match wantedH ops tr o with
    | some true => hOneD T P (evH T tr) o s (hint i) fun v s' => ih (i + 1) (putH tr o.dst v) s' K
    | some false => ih (i + 1) (putH tr o.dst undef) s K
    | none => False) l

/-- Operations that make nothing new. -/
def noNewB : Op → Bool
  | .move _ | .assign _ | .pick _ _ _ | .load _ _ | .store _ _ _ | .nilCheck _ | .binOp _ _ _ _ _ | .unOp _ _ _ | .convert _ _ _ | .makeFunc _ _ _ | .slice _ _ _ _ _ | .fieldAddr _ _ _ | .field _ _ _ | .indexAddr _ _ _ | .index _ _ _ | .lookup _ _ _ _ | .extract _ _ | .build _ _ => true
  | .call c => match c.callee with
    | .value _ => true
    | .builtin .len => true
    | .builtin .min => true
    | .builtin .max => true
    | _ => false
  | _ => false

def isStore : Op → Bool
  | .store _ _ _ => true
  | _ => false

/-- Is each store in order with every other operation? -/
def storesOk (ps : List Nat) (n : Nat) : List Oper → Nat → Bool
  | [], _ => true
  | o :: os, j => (!isStore o.op || (List.range n).all fun i => Nat.beq i j || (before ps j i || before ps i j)) && storesOk ps n os (j + 1)

def drawB (ops : Array Oper) : Bool :=
  drawRegs ops (predsOf ops ops.size) && edgesOk ops && storesOk (predsOf ops ops.size) ops.size ops.toList 0 && ops.toList.all fun o => noNewB o.op

end

variable {T : Tab} {P : Program}

/-- Whatever the registers that aren't known hold. -/
def CodeWPH (P : Program) (nt : Nat) (c : Code) (tr : HT) (s : St) (K : AExit → HT → St → Prop) : Prop :=
  ∀ rg, HRep nt tr rg → CodeWP P c rg s fun e rg' s' => ∃ tr', HRep nt tr' rg' ∧ K e tr' s'

noncomputable section
variable (T P) (call : Oracle)

def hEnd (K : AExit → HT → St → Prop) (y : HT → St → (AExit → HT → St → Prop) → Prop) (e : AExit) (tr : HT) (s : St) : Prop :=
  match e with
  | .normal => y tr s K
  | e => K e tr s

def hLeave (id : Nat) (K : AExit → HT → St → Prop) (e : AExit) (tr : HT) (s : St) : Prop :=
  match e with
  | .exit id' => if id' = id then K .normal tr s else K (.exit id') tr s
  | e => K e tr s

def hRegion (nt : Nat) (hint : Nat → Option Hint) (id : Nat) (ops : Array Oper) (draw : Bool) (tr : HT) (s : St) (K : AExit → HT → St → Prop) : Prop :=
  match draw with
  | false => hOps T P call hint ops ops.toList 0 tr s (K .normal)
  | true => match hint 1000 with
    | some .sem => CodeWPH P nt (.region id ops true) tr s K
    | _ => drawB ops = true ∧ hOpsD T P hint ops ops.toList 0 tr s fun tr' s' => K .normal tr' ⟨s'.mem, s.next + s.step * ops.size, s.step⟩

def hCond (c : Operand) (x y : HT → St → (AExit → HT → St → Prop) → Prop) (tr : HT) (s : St) (K : AExit → HT → St → Prop) : Prop :=
  match evH T tr c with
  | some (.bool true) => x tr s K
  | some (.bool false) => y tr s K
  | _ => False

abbrev HFun := HT → St → (AExit → HT → St → Prop) → Prop

def hCode (nt : Nat) (hint : Nat → Nat → Option Hint) (c : Code) : HFun :=
  Code.rec (motive := fun _ => HFun) (fun tr s K => K .normal tr s) (fun id ops draw tr s K => hRegion T P call nt (hint id) id ops draw tr s K) (fun _ _ x y tr s K => x tr s (hEnd K y)) (fun c _ _ x y => hCond T c x y)
    (fun id _ x tr s K => x tr s (hLeave id K)) (fun c _ tr s K => CodeWPH P nt (.loop c) tr s K)
    (fun _ _ _ _ _ _ _ _ _ => False) (fun id tr s K => K (.exit id) tr s) (fun _ _ _ _ _ => False) (fun _ _ _ _ => False) (fun _ _ _ _ => False) (fun tr s K => K .ret tr s) (fun _ _ _ _ => False) c

end

/-! ### It is sound -/

theorem hOp_spec {e : Operand → Option Value} {o : Oper} {s : St} {h : Option Hint} {k : Value → St → Prop} (hh : hOp T e o s h k) : ∃ v s', opA T e o s = some (v, s') ∧ k v s' := by
  unfold hOp at hh
  split at hh
  · split at hh
    · rename_i v s' hk
      rw [opK_eq] at hk
      exact ⟨v, s', hk, hh⟩
    · cases hh
  · rename_i b
    split at hh
    · rename_i c s' hk
      rw [opK_eq] at hk
      obtain ⟨rfl, hh⟩ := hh
      exact ⟨_, s', hk, hh⟩
    · cases hh
  · rename_i v
    split at hh
    · rename_i u s' hk
      rw [opK_eq] at hk
      obtain ⟨rfl, hh⟩ := hh
      exact ⟨_, s', hk, hh⟩
    · cases hh
  · exact ⟨_, _, hh.1, hh.2⟩
  · exact ⟨_, _, hh.1, hh.2⟩
  · rename_i cs t ro
    split at hh
    · rename_i ty x ho
      split at hh
      · rename_i j off hx
        obtain ⟨hm, hh⟩ := hh
        split at hh
        · rename_i v hv
          refine ⟨v, s, ?_, hh⟩
          unfold opA
          simp only [ho, hx, loadA, hm, hv, Option.map_some]
        · cases hh
      · cases hh
    · cases hh
  · rename_i cs t ro v
    split at hh
    · rename_i ty x ho
      split at hh
      · rename_i j off hx
        obtain ⟨hm, hv, hh⟩ := hh
        refine ⟨v, s, ?_, hh⟩
        unfold opA
        simp only [ho, hx, loadA, hm, hv, Option.map_some]
      · cases hh
    · cases hh
  · rename_i cs t cs'
    split at hh
    · rename_i ty x y ho
      split at hh
      · rename_i j off u z n b hx hy ht
        obtain ⟨hm, h1, h2, h3, hh⟩ := hh
        simp only [Bool.and_eq_true] at h1
        refine ⟨undef, _, ?_, hh⟩
        unfold opA
        simp only [ho, hx, hy, storeA, hm, ht]
        rw [if_pos ⟨Nat.eq_of_beq_eq_true h1.1, h2, h1.2⟩, h3]
        rfl
      · cases hh
    · cases hh
  · cases hh

/-- The operations, whatever they are. -/
theorem hOps_sound (hT : T.Ok P) {call : Oracle} (hc : OSound P T call) {nt : Nat} (hn : nt < 4095) {hint : Nat → Option Hint} {ops : Array Oper} (hops : (ops.toList.all fun o => dstOk nt o.dst) = true) : ∀ (l : List Oper) (i : Nat) {tr : HT} {rg : Regs} {s : St} {K : HT → St → Prop}, (∀ j, j < l.length → ops[i + j]? = l[j]?) → HRep nt tr rg → hOps T P call hint ops l i tr s K →
    OpsWP P ops (List.range' i l.length) rg s fun rg' s' => ∃ tr', HRep nt tr' rg' ∧ K tr' s'
  | [], i, tr, rg, s, K, _, hr, h => ops_nil ⟨tr, hr, h⟩
  | o :: l, i, tr, rg, s, K, ho, hr, h => by
    have ho0 : ops[i]? = some o := by have := ho 0 (by simp); simpa using this
    have hol : ∀ j, j < l.length → ops[i + 1 + j]? = l[j]? := fun j hj => by
      have := ho (j + 1) (by simpa using hj)
      rw [show i + 1 + j = i + (j + 1) by omega, this]; simp
    have hd : dstOk nt o.dst = true := List.all_eq_true.1 hops o (List.mem_of_getElem? (i := i) (by simpa using ho0))
    simp only [List.length_cons, List.range'_succ]
    have h : (match wantedH ops tr o with
      | some true => hOne T P call (evH T tr) o s (hint i) fun v s' => hOps T P call hint ops l (i + 1) (putH tr o.dst v) s' K
      | some false => hOps T P call hint ops l (i + 1) (putH tr o.dst undef) s K
      | none => False) := h
    split at h
    · rename_i hw
      have hw := wantedH_eq hr hops hw
      have le := evH_le (T := T) hr
      unfold hOne at h
      split at h
      · rename_i hca
        obtain ⟨v, s', h1, h2⟩ := hOp_spec h
        exact ops_op hT ho0 hw (opA_mono le h1) (hOps_sound hT hc hn hops l (i + 1) hol (hr.put v hd hn) h2)
      · rename_i f args hca
        have hca := callA_mono le hca
        split at h
        · split at h
          · rename_i v s' lg hcall
            intro r w a hrel hact
            obtain ⟨g1, g2, g3⟩ := hc _ _ _ _ _ _ hcall hrel.pos
            refine ops_call hT ho0 hw hca g1 (g2.mono ?_) r w a hrel hact
            rintro _ _ ⟨rfl, rfl⟩
            exact hOps_sound hT hc hn hops l (i + 1) hol (hr.put _ hd hn) h
          · cases h
        · rename_i v s'
          obtain ⟨⟨g1, g2⟩, h⟩ := h
          refine ops_call hT ho0 hw hca g1 (g2.mono ?_)
          rintro _ _ ⟨rfl, rfl⟩
          exact hOps_sound hT hc hn hops l (i + 1) hol (hr.put _ hd hn) h
        · rename_i v
          obtain ⟨⟨g1, g2⟩, h⟩ := h
          intro r w a hrel hact
          refine ops_call hT ho0 hw hca g1 ((g2 s.next s.step hrel.pos).mono ?_) r w a hrel hact
          rintro _ _ ⟨rfl, rfl⟩
          exact hOps_sound hT hc hn hops l (i + 1) hol (hr.put _ hd hn) h
        · rename_i Q
          obtain ⟨⟨g1, g2⟩, h⟩ := h
          refine ops_call hT ho0 hw hca g1 (g2.mono ?_)
          intro v s' hq
          exact hOps_sound hT hc hn hops l (i + 1) hol (hr.put _ hd hn) (h v s' hq)
        · cases h
    · rename_i hw
      have hw := wantedH_eq hr hops hw
      exact ops_skip ho0 hw (hOps_sound hT hc hn hops l (i + 1) hol (hr.put _ hd hn) h)
    · cases h

end Go.Proofs.Abs

/- The abstract machine with unknown values: drawn regions in which nothing new is made; code. -/
namespace Go.Proofs.Abs
open Go

variable {T : Tab} {P : Program}

/-- An operation that makes nothing new does the same wherever new objects' numbers are. -/
def NoNew (T : Tab) (e : Operand → Option Value) (o : Oper) (s : St) (v : Value) (s' : St) : Prop :=
  s'.next = s.next ∧ s'.step = s.step ∧ (isStore o.op = false → s' = s) ∧ ∀ n st, opA T e o ⟨s.mem, n, st⟩ = some (v, ⟨s'.mem, n, st⟩)

theorem noNew_same {e : Operand → Option Value} {o : Oper} {s s' : St} {v : Value} (hs : s' = s) (h : ∀ n st, opA T e o ⟨s.mem, n, st⟩ = some (v, ⟨s.mem, n, st⟩)) : NoNew T e o s v s' := by
  subst hs; exact ⟨rfl, rfl, fun _ => rfl, h⟩

theorem noNew_map {e : Operand → Option Value} {o : Oper} {s s' : St} {v : Value} {f : Mem → Option Value} (hf : ∀ n st, opA T e o ⟨s.mem, n, st⟩ = (f s.mem).map (·, ⟨s.mem, n, st⟩)) (h : opA T e o s = some (v, s')) : NoNew T e o s v s' := by
  have h0 : opA T e o s = (f s.mem).map (·, s) := hf s.next s.step
  rw [h0] at h
  obtain ⟨u, hu, he⟩ := Option.map_eq_some_iff.1 h
  cases he
  exact noNew_same rfl fun n st => by rw [hf, hu]; rfl

theorem lookup_map (T : Tab) (t : TypeId) (u w : Value) (ok : Bool) (m : Mem) (n st : Nat) : lookupA T t u w ok ⟨m, n, st⟩ = ((lookupA T t u w ok ⟨m, 0, 0⟩).map (·.1)).map (·, (⟨m, n, st⟩ : St)) := by
  unfold lookupA
  cases T.und t with
  | none => rfl
  | some d =>
    cases d <;> try rfl
    rename_i kt et
    simp only []
    cases T.und kt with
    | none => rfl
    | some kd =>
      cases T.inf et with
      | none => rfl
      | some z =>
        obtain ⟨z, n1, n2⟩ := z
        simp only []
        by_cases hk : keyKind kd w = false
        · rw [if_pos hk]; rw [if_pos hk]; rfl
        · rw [if_neg hk]; rw [if_neg hk]
          cases u <;> try rfl
          rename_i q
          cases q with
          | none => rfl
          | some i =>
            simp only []
            cases m.get i with
            | none => rfl
            | some ob =>
              cases ob <;> try rfl
              rename_i es
              simp only []
              cases findA w es 0 with
              | none => rfl
              | some r => cases r <;> rfl

theorem builtin_len (T : Tab) (ts : List TypeId) (vs : List Value) : ∃ f : Option Value, ∀ s, builtinA T .len ts vs s = f.map (·, s) := by
  rcases ts with _ | ⟨t, ts⟩
  · exact ⟨none, fun _ => rfl⟩
  · rcases vs with _ | ⟨x, _ | ⟨y, vs⟩⟩
    · exact ⟨none, fun _ => rfl⟩
    · cases hd : T.und t with
      | none => exact ⟨none, fun _ => by simp only [builtinA, hd]; rfl⟩
      | some d =>
        cases d with
        | string =>
          cases x with
          | string b => exact ⟨some (.int .i64 b.size), fun _ => by simp only [builtinA, hd]; rfl⟩
          | _ => exact ⟨none, fun _ => by simp only [builtinA, hd]; rfl⟩
        | slice e =>
          cases x with
          | slice a n c => exact ⟨some (.int .i64 n), fun _ => by simp only [builtinA, hd]; rfl⟩
          | _ => exact ⟨none, fun _ => by simp only [builtinA, hd]; rfl⟩
        | array n e => exact ⟨some (.int .i64 n), fun _ => by simp only [builtinA, hd]; rfl⟩
        | _ => exact ⟨none, fun _ => by simp only [builtinA, hd]; rfl⟩
    · exact ⟨none, fun _ => rfl⟩
theorem builtin_min (T : Tab) (ts : List TypeId) (vs : List Value) : ∃ f : Option Value, ∀ s, builtinA T .min ts vs s = f.map (·, s) := by
  rcases vs with _ | ⟨x, _ | ⟨y, _ | ⟨z, vs⟩⟩⟩
  · exact ⟨none, fun _ => rfl⟩
  · exact ⟨none, fun _ => rfl⟩
  · exact ⟨minMax false x y, fun _ => rfl⟩
  · exact ⟨none, fun _ => rfl⟩
theorem builtin_max (T : Tab) (ts : List TypeId) (vs : List Value) : ∃ f : Option Value, ∀ s, builtinA T .max ts vs s = f.map (·, s) := by
  rcases vs with _ | ⟨x, _ | ⟨y, _ | ⟨z, vs⟩⟩⟩
  · exact ⟨none, fun _ => rfl⟩
  · exact ⟨none, fun _ => rfl⟩
  · exact ⟨minMax true x y, fun _ => rfl⟩
  · exact ⟨none, fun _ => rfl⟩

theorem noNew_spec {e : Operand → Option Value} {o : Oper} {s s' : St} {v : Value} (hn : noNewB o.op = true) (h : opA T e o s = some (v, s')) : NoNew T e o s v s' := by
  obtain ⟨d, op, ty, pos, af, g⟩ := o
  simp only at hn
  cases op <;> simp only [noNewB] at hn <;> try (cases hn; done)
  case move x => exact noNew_map (f := fun _ => e x) (fun _ _ => rfl) h
  case assign x => exact noNew_map (f := fun _ => e x) (fun _ _ => rfl) h
  case pick c a b =>
    cases hc : e c with
    | none => simp only [opA, hc] at h; cases h
    | some u =>
      cases u with
      | bool t => exact noNew_map (f := fun _ => if t then e a else e b) (fun _ _ => by simp only [opA, hc]) h
      | _ => simp only [opA, hc] at h; cases h
  case build t ps =>
    cases hc : evParts e ps.toList with
    | none => simp only [opA, hc] at h; cases h
    | some u => exact noNew_map (f := fun _ => buildA T t u) (fun _ _ => by simp only [opA, hc]) h
  case load t x =>
    cases hc : e x with
    | none => simp only [opA, hc] at h; cases h
    | some u => exact noNew_map (f := fun m => loadA T t ⟨m, 0, 0⟩ u) (fun _ _ => by simp only [opA, hc]; rfl) h
  case store t x y =>
    cases hx : e x with
    | none => simp only [opA, hx] at h; cases h
    | some p =>
      cases hy : e y with
      | none => simp only [opA, hx, hy] at h; cases h
      | some u =>
        simp only [opA, hx, hy] at h
        obtain ⟨s1, h1, he⟩ := Option.map_eq_some_iff.1 h
        cases he
        have key : ∀ n st, storeA T t ⟨s.mem, n, st⟩ p u = some ⟨s'.mem, n, st⟩ ∧ s'.next = s.next ∧ s'.step = s.step := by
          intro n st
          unfold storeA at h1 ⊢
          split at h1
          · rename_i i o0
            split at h1
            · rename_i cs e0 z k b hm ht
              simp only [hm, ht]
              split at h1
              · rename_i hcond
                cases h1
                rw [if_pos hcond]
                exact ⟨rfl, rfl, rfl⟩
              · cases h1
            · cases h1
          · cases h1
        refine ⟨(key 0 0).2.1, (key 0 0).2.2, (fun hst => by cases hst), fun n st => ?_⟩
        simp only [opA, hx, hy, (key n st).1, Option.map_some]
  case nilCheck x =>
    cases hc : e x with
    | none => simp only [opA, hc] at h; cases h
    | some u =>
      have key : ∀ s : St, opA T e ⟨d, .nilCheck x, ty, pos, af, g⟩ s = (match u with
        | .pointer (some ⟨i, o, none⟩) => some (.pointer (some ⟨i, o, none⟩))
        | .func (.func f) a b => some (.func (.func f) a b)
        | _ => none : Option Value).map (·, s) := by
        intro s
        simp only [opA, hc]
        cases u with
        | pointer p =>
          cases p with
          | none => rfl
          | some a => obtain ⟨b, o, sp⟩ := a; cases sp <;> rfl
        | func f a b => cases f <;> rfl
        | _ => rfl
      exact noNew_map (f := fun _ => _) (fun n st => key ⟨s.mem, n, st⟩) h
  case binOp op t x y z =>
    cases hx : e x with
    | none => simp only [opA, hx] at h; cases h
    | some u =>
      cases hy : e y with
      | none => simp only [opA, hx, hy] at h; cases h
      | some w => exact noNew_map (f := fun _ => binA T op t u w) (fun _ _ => by simp only [opA, hx, hy]) h
  case unOp op t x =>
    cases hx : e x with
    | none => simp only [opA, hx] at h; cases h
    | some u => exact noNew_map (f := fun _ => unA op u) (fun _ _ => by simp only [opA, hx]) h
  case convert a b x =>
    cases hx : e x with
    | none => simp only [opA, hx] at h; cases h
    | some u => exact noNew_map (f := fun m => convA T a b u ⟨m, 0, 0⟩) (fun _ _ => by simp only [opA, hx]; rfl) h
  case makeFunc fn a b =>
    cases hx : evs e a.toList with
    | none => simp only [opA, hx] at h; cases h
    | some u =>
      cases hy : evs e b.toList with
      | none => simp only [opA, hx, hy] at h; cases h
      | some w => exact noNew_map (f := fun _ => some (.func fn u.toArray w.toArray)) (fun _ _ => by simp only [opA, hx, hy]; rfl) h
  case slice t x a b c =>
    cases hx : e x with
    | none => simp only [opA, hx] at h; cases h
    | some u =>
      cases ha : evs e a.toList with
      | none => simp only [opA, hx, ha] at h; cases h
      | some l =>
        cases hb : evs e b.toList with
        | none => simp only [opA, hx, ha, hb] at h; cases h
        | some m =>
          cases hc : evs e c.toList with
          | none => simp only [opA, hx, ha, hb, hc] at h; cases h
          | some k => exact noNew_map (f := fun mm => sliceA T t u l.head? m.head? k.head? ⟨mm, 0, 0⟩) (fun _ _ => by simp only [opA, hx, ha, hb, hc]; rfl) h
  case fieldAddr t x k =>
    cases hx : e x with
    | none => simp only [opA, hx] at h; cases h
    | some u => exact noNew_map (f := fun _ => fieldAddrA T t u k) (fun _ _ => by simp only [opA, hx]) h
  case field t x k =>
    cases hx : e x with
    | none => simp only [opA, hx] at h; cases h
    | some u => exact noNew_map (f := fun _ => fieldA T t u k) (fun _ _ => by simp only [opA, hx]) h
  case indexAddr t x y =>
    cases hx : e x with
    | none => simp only [opA, hx] at h; cases h
    | some u =>
      cases hy : e y with
      | none => simp only [opA, hx, hy] at h; cases h
      | some w => exact noNew_map (f := fun _ => indexAddrA T t u w) (fun _ _ => by simp only [opA, hx, hy]) h
  case index t x y =>
    cases hx : e x with
    | none => simp only [opA, hx] at h; cases h
    | some u =>
      cases hy : e y with
      | none => simp only [opA, hx, hy] at h; cases h
      | some w => exact noNew_map (f := fun _ => indexA T t u w) (fun _ _ => by simp only [opA, hx, hy]) h
  case lookup t x y ok =>
    cases hx : e x with
    | none => simp only [opA, hx] at h; cases h
    | some u =>
      cases hy : e y with
      | none => simp only [opA, hx, hy] at h; cases h
      | some w =>
        have key : ∀ m n st, lookupA T t u w ok ⟨m, n, st⟩ = ((lookupA T t u w ok ⟨m, 0, 0⟩).map (·.1)).map (·, (⟨m, n, st⟩ : St)) := by
          intro m n st
          exact lookup_map T t u w ok m n st
        exact noNew_map (f := fun m => (lookupA T t u w ok ⟨m, 0, 0⟩).map (·.1)) (fun n st => by simp only [opA, hx, hy]; exact key _ _ _) h
  case extract x k =>
    cases hx : e x with
    | none => simp only [opA, hx] at h; cases h
    | some u =>
      cases u with
      | tuple vs => exact noNew_map (f := fun _ => vs[k]?) (fun _ _ => by simp only [opA, hx]) h
      | _ => simp only [opA, hx] at h; cases h
  case call c =>
    obtain ⟨cal, args, ts⟩ := c
    cases cal with
    | value f => simp only [opA] at h; cases h
    | invoke a b => cases hn
    | builtin b =>
      cases hx : evs e args.toList with
      | none => simp only [opA, hx] at h; cases h
      | some vs =>
        have fin : ∀ (f : Option Value), (∀ s, builtinA T b ts.toList vs s = f.map (·, s)) → NoNew T e ⟨d, .call ⟨.builtin b, args, ts⟩, ty, pos, af, g⟩ s v s' := by
          intro f hf
          exact noNew_map (f := fun _ => f) (fun n st => by simp only [opA, hx]; exact hf _) h
        cases b <;> simp only at hn <;> try (cases hn; done)
        case len =>
          obtain ⟨f, hf⟩ := builtin_len T ts.toList vs
          exact fin f hf
        case min =>
          obtain ⟨f, hf⟩ := builtin_min T ts.toList vs
          exact fin f hf
        case max =>
          obtain ⟨f, hf⟩ := builtin_max T ts.toList vs
          exact fin f hf

end Go.Proofs.Abs

/- The abstract machine with unknown values: drawn regions; code; loops; calls. -/
namespace Go.Proofs.Abs
open Go

variable {T : Tab} {P : Program}

/-- What an operation of a drawn region has done. -/
def DStepOk (T : Tab) (P : Program) (ops : Array Oper) (k : Nat) (rg : Regs) (m : Mem) (v : Value) (m' : Mem) (lg : List Nat) : Prop :=
  ∀ o, ops[k]? = some o →
    (isStore o.op = false → lg = []) ∧ (∀ id, id ∉ lg → m'.get id = m.get id) ∧
    ((Region.wanted o (yieldedA ops rg) = false ∧ v = undef ∧ m' = m ∧ lg = []) ∨
     (Region.wanted o (yieldedA ops rg) = true ∧ ∀ n st, 0 < st → (opA T (ev T rg) o ⟨m, n, st⟩ = some (v, ⟨m', n, st⟩) ∨
        ∃ f args, callA (ev T rg) o = some (f, args) ∧ (T.fn f).isSome = true ∧ CallD P f args ⟨m, n, st⟩ v ⟨m', n, st⟩)))

theorem hOpsD_recs {nt : Nat} (hn : nt < 4095) {hint : Nat → Option Hint} {ops : Array Oper} (hops : (ops.toList.all fun o => dstOk nt o.dst) = true) (hnew : (ops.toList.all fun o => noNewB o.op) = true) :
    ∀ (l : List Oper) (i : Nat) {tr : HT} {rg : Regs} {s : St} {K : HT → St → Prop}, 0 < s.step → (∀ j, j < l.length → ops[i + j]? = l[j]?) → HRep nt tr rg → hOpsD T P hint ops l i tr s K →
    ∃ (vs : Nat → Value) (ms : Nat → Mem) (lg : Nat → List Nat) (rgs : Nat → Regs) (tr' : HT), ms i = s.mem ∧ rgs i = rg ∧
      (∀ k, i ≤ k → k < i + l.length → rgs (k + 1) = putA (rgs k) (dstOf ops k) (vs k)) ∧ (∀ k, i ≤ k → k < i + l.length → DStepOk T P ops k (rgs k) (ms k) (vs k) (ms (k + 1)) (lg k)) ∧
      HRep nt tr' (rgs (i + l.length)) ∧ K tr' ⟨ms (i + l.length), s.next, s.step⟩
  | [], i, tr, rg, s, K, _, _, hr, h => ⟨fun _ => undef, fun _ => s.mem, fun _ => [], fun _ => rg, tr, rfl, rfl, fun k h1 h2 => by simp at h2; omega, fun k h1 h2 => by simp at h2; omega, hr, h⟩
  | o :: l, i, tr, rg, s, K, hp, ho, hr, h => by
    have ho0 : ops[i]? = some o := by have := ho 0 (by simp); simpa using this
    have hol : ∀ j, j < l.length → ops[i + 1 + j]? = l[j]? := fun j hj => by
      have := ho (j + 1) (by simpa using hj)
      rw [show i + 1 + j = i + (j + 1) by omega, this]; simp
    have hmem : o ∈ ops.toList := List.mem_of_getElem? (i := i) (by simpa using ho0)
    have hd : dstOk nt o.dst = true := List.all_eq_true.1 hops o hmem
    have hnn : noNewB o.op = true := List.all_eq_true.1 hnew o hmem
    have hdst : dstOf ops i = o.dst := by unfold dstOf; rw [ho0]; rfl
    -- the rest, behind one step
    have fin : ∀ (v : Value) (m' : Mem) (lg : List Nat), DStepOk T P ops i rg s.mem v m' lg → hOpsD T P hint ops l (i + 1) (putH tr o.dst v) ⟨m', s.next, s.step⟩ K →
        ∃ (vs : Nat → Value) (ms : Nat → Mem) (lg : Nat → List Nat) (rgs : Nat → Regs) (tr' : HT), ms i = s.mem ∧ rgs i = rg ∧
      (∀ k, i ≤ k → k < i + (o :: l).length → rgs (k + 1) = putA (rgs k) (dstOf ops k) (vs k)) ∧ (∀ k, i ≤ k → k < i + (o :: l).length → DStepOk T P ops k (rgs k) (ms k) (vs k) (ms (k + 1)) (lg k)) ∧
      HRep nt tr' (rgs (i + (o :: l).length)) ∧ K tr' ⟨ms (i + (o :: l).length), s.next, s.step⟩ := by
      intro v m' lg0 hstep hrest
      obtain ⟨vs, ms, lg, rgs, tr', e1, e2, e3, e4, e5, e6⟩ := hOpsD_recs hn hops hnew l (i + 1) (s := ⟨m', s.next, s.step⟩) hp hol (hr.put v hd hn) hrest
      refine ⟨fun k => if k = i then v else vs k, fun k => if k = i then s.mem else ms k, fun k => if k = i then lg0 else lg k, fun k => if k = i then rg else rgs k, tr', by simp, by simp, ?_, ?_, ?_, ?_⟩
      · intro k h1 h2
        simp only [List.length_cons] at h2
        by_cases e : k = i
        · subst e
          simp only [if_true, if_neg (show ¬ k + 1 = k by omega)]
          rw [e2, hdst]
        · simp only [if_neg e, if_neg (show ¬ k + 1 = i by omega)]
          exact e3 k (by omega) (by omega)
      · intro k h1 h2
        simp only [List.length_cons] at h2
        by_cases e : k = i
        · subst e
          simp only [if_true, if_neg (show ¬ k + 1 = k by omega)]
          rw [e1]; exact hstep
        · simp only [if_neg e, if_neg (show ¬ k + 1 = i by omega)]
          exact e4 k (by omega) (by omega)
      · simp only [List.length_cons]
        rw [show i + (l.length + 1) = i + 1 + l.length by omega]
        simp only [if_neg (show ¬ i + 1 + l.length = i by omega)]; exact e5
      · simp only [List.length_cons]
        rw [show i + (l.length + 1) = i + 1 + l.length by omega]
        simp only [if_neg (show ¬ i + 1 + l.length = i by omega)]; exact e6
    have h : (match wantedH ops tr o with
      | some true => hOneD T P (evH T tr) o s (hint i) fun v s' => hOpsD T P hint ops l (i + 1) (putH tr o.dst v) s' K
      | some false => hOpsD T P hint ops l (i + 1) (putH tr o.dst undef) s K
      | none => False) := h
    split at h
    · rename_i hw
      have hw := wantedH_eq hr hops hw
      have le := evH_le (T := T) hr
      unfold hOneD at h
      split at h
      · rename_i hca
        obtain ⟨v, s', h1, h2⟩ := hOp_spec h
        have h1 := opA_mono le h1
        obtain ⟨g1, g2, g3, g4⟩ := noNew_spec hnn h1
        obtain ⟨m', n', st'⟩ := s'
        simp only at g1 g2
        subst g1 g2
        have hfr := opA_fr hp h1
        refine fin v m' (if isStore o.op then opWrites (ev T rg) o else []) ?_ h2
        intro o' ho'
        rw [ho0] at ho'; cases ho'
        refine ⟨fun h => by rw [h]; rfl, fun id hid => ?_, .inr ⟨hw, fun n st _ => .inl (g4 n st)⟩⟩
        cases hst : isStore o.op with
        | false => rw [← g3 hst]
        | true =>
          rw [hst] at hid
          refine hfr.2.2 id fun hm => hid ?_
          rcases List.mem_append.1 hm with hm | hm
          · simp [nlog, newLog] at hm
          · simpa using hm
      · rename_i f args hca
        have hca := callA_mono le hca
        have hns : isStore o.op = false := by
          unfold callA at hca
          split at hca
          · rename_i c hc; rw [hc]; rfl
          · cases hca
        split at h
        · rename_i v _
          obtain ⟨⟨g1, g2⟩, h⟩ := h
          refine fin v s.mem [] ?_ h
          intro o' ho'
          rw [ho0] at ho'; cases ho'
          exact ⟨fun _ => rfl, fun _ _ => rfl, .inr ⟨hw, fun n st hst => .inr ⟨f, args, hca, g1, g2 n st hst⟩⟩⟩
        · cases h
    · rename_i hw
      have hw := wantedH_eq hr hops hw
      refine fin undef s.mem [] ?_ h
      intro o' ho'
      rw [ho0] at ho'; cases ho'
      exact ⟨fun _ => rfl, fun _ _ => rfl, .inl ⟨hw, rfl, rfl, rfl⟩⟩
    · cases h

theorem storesOk_spec {ps : List Nat} {n : Nat} : ∀ {l : List Oper} {j0 : Nat}, storesOk ps n l j0 = true → ∀ j o, l[j]? = some o → isStore o.op = true → ∀ i, i < n → i ≠ j0 + j → before ps (j0 + j) i = true ∨ before ps i (j0 + j) = true
  | [], _, _, j, o, h, _ => by simp at h
  | a :: l, j0, hs, j, o, h, hst => by
    simp only [storesOk, Bool.and_eq_true] at hs
    cases j with
    | zero =>
      simp at h; subst h
      intro i hi hne
      have h1 := hs.1
      rw [hst] at h1
      simp only [Bool.not_true, Bool.false_or, List.all_eq_true] at h1
      have := h1 i (List.mem_range.2 hi)
      simp only [Bool.or_eq_true] at this
      rcases this with h | h | h
      · exact absurd (Nat.eq_of_beq_eq_true h) hne
      · exact .inl h
      · exact .inr h
    | succ j =>
      simp at h
      intro i hi hne
      have := storesOk_spec hs.2 j o h hst i hi (by omega)
      rw [show j0 + (j + 1) = j0 + 1 + j by omega]; exact this

theorem hDraw_sound (hT : T.Ok P) {nt : Nat} (hn : nt < 4095) {hint : Nat → Option Hint} {id : Nat} {ops : Array Oper} (hops : (ops.toList.all fun o => dstOk nt o.dst) = true) (hb : drawB ops = true) {tr : HT} {s : St} {K : AExit → HT → St → Prop}
    (h : hOpsD T P hint ops ops.toList 0 tr s fun tr' s' => K .normal tr' ⟨s'.mem, s.next + s.step * ops.size, s.step⟩) : CodeWPH P nt (.region id ops true) tr s K := by
  intro rg hr
  unfold drawB at hb
  simp only [Bool.and_eq_true] at hb
  obtain ⟨⟨⟨b1, b2⟩, b3⟩, b4⟩ := hb
  intro r w a hrel hact
  have hp := hrel.pos
  obtain ⟨vs, ms, lg, rgs, tr', e1, e2, e3, e4, e5, e6⟩ := hOpsD_recs hn hops b4 ops.toList 0 hp (fun j hj => by simp) hr h
  simp only [Nat.zero_add, Array.length_toList] at e3 e4 e5 e6
  let rc : Nat → DRec := fun k => ⟨vs k, lg k, ms k, ms (k + 1), dNext s k⟩
  have hreg : ∀ k, k ≤ ops.size → regAt ops rg rc allS k = rgs k := by
    intro k
    induction k with
    | zero => intro _; exact e2.symm
    | succ k ih =>
      intro hk
      rw [regAt_succ, ih (by omega), e3 k (by omega) (by omega)]
      rfl
  have hstep : ∀ k, k < ops.size → ∀ id, id ∉ lg k → (ms (k + 1)).get id = (ms k).get id := by
    intro k hk
    obtain ⟨o, ho⟩ : ∃ o, ops[k]? = some o := ⟨_, Array.getElem?_eq_getElem hk⟩
    exact (e4 k (by omega) hk o ho).2.1
  have hmemS : ∀ (S : Nat → Bool) k, k ≤ ops.size → (∀ j, j < k → S j = true) → ∀ id, memAt s rc S k id = (ms k).get id := by
    intro S k
    induction k with
    | zero => intro _ _ id; show s.mem.get id = _; rw [e1]
    | succ k ih =>
      intro hk hS id
      rw [memAt_succ, hS k (by omega), ih (by omega) (fun j hj => hS j (by omega)) id]
      by_cases hid : id ∈ lg k
      · have : (rc k).log.contains id = true := by simpa using hid
        rw [this]; rfl
      · have : (rc k).log.contains id = false := by simpa using hid
        rw [this]
        simp only [Bool.and_false, Bool.false_eq_true, if_false]
        exact (hstep k (by omega) id hid).symm
  have lt : ∀ {i : Nat} {o : Oper}, ops[i]? = some o → i < ops.size := fun h => (Array.getElem?_eq_some_iff.1 h).1
  have hD : DrawOk P T ops rg s rc := by
    refine ⟨b1, edges_of b2, ?_, ?_, ?_, ?_, ?_⟩
    · intro i j hi hj hne h1 h2 id hid
      exfalso
      obtain ⟨o, ho⟩ : ∃ o, ops[j]? = some o := ⟨_, Array.getElem?_eq_getElem hj⟩
      cases hst : isStore o.op with
      | false =>
        have := (e4 j (by omega) hj o ho).1 hst
        have hid : id ∈ lg j := hid
        rw [this] at hid; cases hid
      | true =>
        have := storesOk_spec b3 j o (by simpa using ho) hst i hi (by omega)
        rw [Nat.zero_add] at this
        rcases this with h | h
        · rw [h] at h1; cases h1
        · rw [h] at h2; cases h2
    · intro i hi id o hm
      rw [hmemS (ltS i) i (by omega) (fun j hj => by simpa [ltS] using hj) id]; exact hm
    · intro i hi id hid
      exact hstep i hi id hid
    · intro i o ho hw
      rw [hreg i (by have := lt ho; omega)] at hw
      rcases (e4 i (by omega) (lt ho) o ho).2.2 with ⟨_, h2, h3, _⟩ | ⟨h1, _⟩
      · exact ⟨h2, h3, rfl⟩
      · rw [hw] at h1; cases h1
    · intro i o ho hw
      rw [hreg i (by have := lt ho; omega)] at hw ⊢
      rcases (e4 i (by omega) (lt ho) o ho).2.2 with ⟨h1, _⟩ | ⟨_, h2⟩
      · rw [hw] at h1; cases h1
      · have : 0 < dStep ops s := by
          unfold dStep
          exact Nat.mul_pos hp (by have := lt ho; omega)
        exact h2 _ _ this
  refine code_draw hT hD (Mf := ms ops.size) (B := s.next + s.step * ops.size) (fun i => (hmemS allS ops.size (Nat.le_refl _) (fun _ _ => rfl) i).symm) ⟨_, rfl⟩ (fun i hi => ?_) ?_ r w a hrel hact
  · show s.next + s.step * i ≤ _
    exact Nat.add_le_add_left (Nat.mul_le_mul_left _ (by omega)) _
  · rw [hreg ops.size (Nat.le_refl _)]
    exact ⟨tr', e5, e6⟩

end Go.Proofs.Abs

/- The abstract machine with unknown values: code, loops, calls. -/
namespace Go.Proofs.Abs
open Go

variable {T : Tab} {P : Program}

theorem CodeWPH.mono {nt : Nat} {c : Code} {tr : HT} {s : St} {K K' : AExit → HT → St → Prop} (h : CodeWPH P nt c tr s K) (hk : ∀ e tr s, K e tr s → K' e tr s) : CodeWPH P nt c tr s K' :=
  fun rg hr => CodeWP.mono (h rg hr) fun _ _ _ ⟨tr', h1, h2⟩ => ⟨tr', h1, hk _ _ _ h2⟩

theorem hCode_sound (hT : T.Ok P) {call : Oracle} (hc : OSound P T call) {nt : Nat} (hn : nt < 4095) {hint : Nat → Nat → Option Hint} : ∀ (c : Code), regsOk nt c = true → ∀ {tr : HT} {s : St} {K : AExit → HT → St → Prop}, hCode T P call nt hint c tr s K → CodeWPH P nt c tr s K
  | .skip, _ => fun h rg hr => code_skip ⟨_, hr, h⟩
  | .ret, _ => fun h rg hr => code_ret ⟨_, hr, h⟩
  | .exit id, _ => fun h rg hr => code_exit ⟨_, hr, h⟩
  | .seq a b, hd => by
    simp only [regsOk, Bool.and_eq_true] at hd
    rename_i tr s K
    intro h rg hr
    have h : hCode T P call nt hint a tr s (hEnd K (hCode T P call nt hint b)) := h
    refine code_seq (CodeWP.mono (hCode_sound hT hc hn a hd.1 h rg hr) ?_)
    rintro e rg' s' ⟨tr', h1, h2⟩
    cases e with
    | normal => exact hCode_sound hT hc hn b hd.2 h2 rg' h1
    | exit id => exact ⟨tr', h1, h2⟩
    | ret => exact ⟨tr', h1, h2⟩
  | .cond c a b, hd => by
    simp only [regsOk, Bool.and_eq_true] at hd
    rename_i tr s K
    intro h rg hr
    have h : hCond T c (hCode T P call nt hint a) (hCode T P call nt hint b) tr s K := h
    unfold hCond at h
    split at h
    · rename_i hx
      exact code_cond hT (b := true) (evH_le hr _ _ hx) (hCode_sound hT hc hn a hd.1 h rg hr)
    · rename_i hx
      exact code_cond hT (b := false) (evH_le hr _ _ hx) (hCode_sound hT hc hn b hd.2 h rg hr)
    · cases h
  | .block id c, hd => by
    simp only [regsOk] at hd
    rename_i tr s K
    intro h rg hr
    have h : hCode T P call nt hint c tr s (hLeave id K) := h
    refine code_block (CodeWP.mono (hCode_sound hT hc hn c hd h rg hr) ?_)
    rintro e rg' s' ⟨tr', h1, h2⟩
    cases e with
    | normal => exact ⟨tr', h1, h2⟩
    | ret => exact ⟨tr', h1, h2⟩
    | exit id' =>
      have h2 : (if id' = id then K .normal tr' s' else K (.exit id') tr' s') := h2
      show (if id' = id then _ else _)
      by_cases e : id' = id
      · rw [if_pos e] at h2 ⊢; exact ⟨tr', h1, h2⟩
      · rw [if_neg e] at h2 ⊢; exact ⟨tr', h1, h2⟩
  | .loop c, _ => fun h => h
  | .region id ops false, hd => by
    simp only [regsOk] at hd
    rename_i tr s K
    intro h rg hr
    have h : hOps T P call (hint id) ops ops.toList 0 tr s (K .normal) := h
    have := hOps_sound hT hc hn hd ops.toList 0 (fun j hj => by simp) hr h
    rw [Array.length_toList, ← List.range_eq_range'] at this
    exact code_region this
  | .region id ops true, hd => by
    simp only [regsOk] at hd
    rename_i tr s K
    intro h
    have h : hRegion T P call nt (hint id) id ops true tr s K := h
    unfold hRegion at h
    simp only [] at h
    split at h
    · exact h
    · exact hDraw_sound hT hn hd h.1 h.2
  | .rangeFunc _ _ _ _, _ => fun h => h.elim
  | .scope _, _ => fun h => h.elim
  | .label _, _ => fun h => h.elim
  | .goto _, _ => fun h => h.elim
  | .refuse _, _ => fun h => h.elim

/-! ### Registers written down -/

noncomputable section

/-- A tree out of a list. -/
def htOf : List (Nat × Value) → HT
  | [] => .nil
  | (t, v) :: l => HT.upd 12 (htOf l) t (some v)

def argsH (l : List Value) : Nat → HT → HT :=
  List.rec (motive := fun _ => Nat → HT → HT) (fun _ tr => tr) (fun a _ ih i tr => ih (i + 1) (HT.upd 12 tr i (some a))) l

/-- What the registers must hold. -/
def hasAllH (tr : HT) : List (Nat × Value) → Prop
  | [] => True
  | (t, v) :: l => tr.get t = some v ∧ hasAllH tr l

def resultH (T : Tab) (tr : HT) (s : St) : List ResultVar → Option (List Value)
  | [] => some []
  | .tmp t :: rs => match tr.get t, resultH T tr s rs with
    | some v, some vs => some (v :: vs)
    | _, _ => none
  | .cell a t :: rs => match tr.get a with
    | some p => match loadA T t s p, resultH T tr s rs with
      | some v, some vs => some (v :: vs)
      | _, _ => none
    | none => none

end

theorem htOf_spec : ∀ {l : List (Nat × Value)}, (∀ p, p ∈ l → p.1 < 4095) → ∀ t v, (htOf l).get t = some v → (t, v) ∈ l
  | [], _, t, v, h => by cases h
  | (a, b) :: l, hl, t, v, h => by
    have hl' : ∀ p, p ∈ l → p.1 < 4095 := fun p hp => hl p (List.mem_cons_of_mem _ hp)
    have ha := hl (a, b) (by simp)
    rw [htOf, HT.get_upd 12 _ a (some b) t (by have : (2:Nat) ^ 12 - 1 = 4095 := rfl; rw [this]; exact ha)] at h
    by_cases e : t = a
    · rw [if_pos e] at h; cases h; subst e; simp
    · rw [if_neg e] at h
      exact List.mem_cons_of_mem _ (htOf_spec hl' t v h)

theorem hasAllH_spec {tr : HT} : ∀ {l : List (Nat × Value)}, hasAllH tr l → ∀ t v, (t, v) ∈ l → tr.get t = some v
  | [], _, _, _, h => by cases h
  | (a, b) :: l, hl, t, v, h => by
    rcases List.mem_cons.1 h with e | h
    · cases e; exact hl.1
    · exact hasAllH_spec hl.2 t v h

/-- Less may be known of the registers. -/
theorem HRep.forget {nt : Nat} {tr : HT} {rg : Regs} (h : HRep nt tr rg) {l : List (Nat × Value)} (hl : ∀ p, p ∈ l → p.1 < 4095) (ha : hasAllH tr l) : HRep nt (htOf l) rg :=
  ⟨fun t v hv => h.1 t v (hasAllH_spec ha t v (htOf_spec hl t v hv)), h.2⟩

/-- A loop: I m l s: at its head, m rounds are to come at most, the registers of l hold what l says. -/
theorem wp_loop {nt : Nat} {c : Code} {tr : HT} {s : St} {K : AExit → HT → St → Prop} (I : Nat → List (Nat × Value) → St → Prop) (n : Nat) (l : List (Nat × Value)) (hI : I n l s) (hl : ∀ n l s, I n l s → ∀ p, p ∈ l → p.1 < 4095) (ha : hasAllH tr l)
    (h : ∀ n l s, I n l s → CodeWPH P nt c (htOf l) s fun e tr' s' => match e with
      | .normal => ∃ m l', m < n ∧ hasAllH tr' l' ∧ I m l' s'
      | e => K e tr' s') : CodeWPH P nt (.loop c) tr s K := by
  intro rg hr
  refine code_loop (fun m rg s => ∃ l, HRep nt (htOf l) rg ∧ I m l s) n ⟨l, hr.forget (hl _ _ _ hI) ha, hI⟩ ?_
  rintro m rg1 s1 ⟨l1, h1, h2⟩
  refine CodeWP.mono (h m l1 s1 h2 rg1 h1) ?_
  rintro e rg2 s2 ⟨tr2, g1, g2⟩
  cases e with
  | normal =>
    obtain ⟨m', l', k1, k2, k3⟩ := g2
    exact ⟨m', k1, l', g1.forget (hl _ _ _ k3) k2, k3⟩
  | exit id => exact ⟨tr2, g1, g2⟩
  | ret => exact ⟨tr2, g1, g2⟩

theorem argsH_spec : ∀ (l : List Value) (i : Nat) (tr : HT), i + l.length < 4095 → ∀ t, (argsH l i tr).get t = if i ≤ t ∧ t < i + l.length then l[t - i]? else tr.get t
  | [], i, tr, _, t => by
    have : ¬ (i ≤ t ∧ t < i + 0) := by omega
    show tr.get t = _
    rw [List.length_nil, if_neg this]
  | a :: l, i, tr, h, t => by
    have e : argsH (a :: l) i tr = argsH l (i + 1) (HT.upd 12 tr i (some a)) := rfl
    simp only [List.length_cons] at h
    rw [e, argsH_spec l (i + 1) _ (by omega) t, HT.get_upd 12 tr i (some a) t (by have : (2:Nat) ^ 12 - 1 = 4095 := rfl; omega)]
    simp only [List.length_cons]
    by_cases h1 : t = i
    · subst h1
      rw [if_neg (by omega), if_pos rfl, if_pos (by omega)]
      simp
    · by_cases h2 : i + 1 ≤ t ∧ t < i + 1 + l.length
      · rw [if_pos h2, if_pos (by omega)]
        obtain ⟨d, hd⟩ : ∃ d, t - i = d + 1 := ⟨t - i - 1, by omega⟩
        rw [hd, show t - (i + 1) = d by omega]
        simp
      · rw [if_neg h2, if_neg h1, if_neg (by omega)]

theorem resultH_eq {nt : Nat} {tr : HT} {rg : Regs} {s : St} (h : HRep nt tr rg) : ∀ {rs : List ResultVar} {vs : List Value}, resultH T tr s rs = some vs → resultA T rg s rs = some vs
  | [], vs, hv => hv
  | .tmp t :: rs, vs, hv => by
    simp only [resultH] at hv
    split at hv
    · rename_i v us h1 h2
      cases hv
      simp only [resultA, resultH_eq h h2, h.1 t v h1, Option.map_some]
    · cases hv
  | .cell a t :: rs, vs, hv => by
    simp only [resultH] at hv
    split at hv
    · rename_i p hp
      split at hv
      · rename_i v us h1 h2
        cases hv
        simp only [resultA, h.1 a p hp, h1, resultH_eq h h2]
      · cases hv
    · cases hv

/-- A function. -/
theorem wp_call (hT : T.Ok P) {call : Oracle} (hc : OSound P T call) {f : FuncId} {fn : Func} {c : Code} {args : List Value} {s : St} {Q : Value → St → Prop} (hint : Nat → Nat → Option Hint) (hf : T.fn f = some fn) (hb : fn.body = some c)
    (hok : ((regsOk fn.ntmps c && Nat.ble fn.ntmps 4000) && Nat.ble args.length fn.ntmps) = true)
    (h : hCode T P call fn.ntmps hint c (argsH args 0 .nil) s fun e tr s' => (e = .normal ∨ e = .ret) ∧ ∃ vs, resultH T tr s' fn.results.toList = some vs ∧ Q (tupleA vs) s') : CallWP P f args s Q := by
  simp only [Bool.and_eq_true] at hok
  have hn1 : fn.ntmps ≤ 4000 := Nat.le_of_ble_eq_true hok.1.2
  have hn2 : args.length ≤ fn.ntmps := Nat.le_of_ble_eq_true hok.2
  refine call_body hT hf hb ?_
  have hr : HRep fn.ntmps (argsH args 0 .nil) (args ++ List.replicate (fn.ntmps - args.length) undef) := by
    refine ⟨fun t v hv => ?_, by simp; omega⟩
    rw [argsH_spec args 0 .nil (by omega) t] at hv
    simp only [Nat.zero_le, true_and, Nat.zero_add, Nat.sub_zero] at hv
    by_cases ht : t < args.length
    · rw [if_pos ht] at hv
      rw [List.getD_eq_getElem?_getD, List.getElem?_append_left ht, hv]; rfl
    · rw [if_neg ht] at hv; cases hv
  refine CodeWP.mono (hCode_sound hT hc (by omega) c hok.1.1 h _ hr) ?_
  rintro e rg' s' ⟨tr', h1, h2, vs, h3, h4⟩
  exact ⟨h2, vs, resultH_eq h1 h3, h4⟩

end Go.Proofs.Abs

/- The abstract machine with unknown values: small rules. -/
namespace Go.Proofs.Abs
open Go

variable {T : Tab} {P : Program}

/-- No object lies where new ones are made. -/
def Wf (s : St) : Prop := (∀ i o, s.mem.get i = some o → ¬ Ns s i) ∧ 0 < s.step

theorem CallWP.wf {f : FuncId} {args : List Value} {s : St} {Q : Value → St → Prop} (h : Wf s → CallWP P f args s Q) : CallWP P f args s Q :=
  fun r w us hr ha => h ⟨fun _ _ hi => hr.live hi, hr.pos⟩ r w us hr ha

theorem CodeWPH.wf {nt : Nat} {c : Code} {tr : HT} {s : St} {K : AExit → HT → St → Prop} (h : Wf s → CodeWPH P nt c tr s K) : CodeWPH P nt c tr s K :=
  fun rg hrep r w a hr ha => h ⟨fun _ _ hi => hr.live hi, hr.pos⟩ rg hrep r w a hr ha

theorem Wf.ne {s : St} (h : Wf s) {i : Nat} {o : AObj} (hi : s.mem.get i = some o) (k : Nat) : i ≠ s.next + s.step * k := fun e => h.1 i o hi ⟨k, e⟩
theorem Wf.ne0 {s : St} (h : Wf s) {i : Nat} {o : AObj} (hi : s.mem.get i = some o) : i ≠ s.next := fun e => h.1 i o hi ⟨0, by simp [e]⟩
theorem Wf.get_new {s : St} (h : Wf s) {i : Nat} {o o' : AObj} (hi : s.mem.get i = some o) : (s.new o').mem.get i = some o := by
  rw [St.get_new, if_neg (h.ne0 hi)]; exact hi
theorem get_new_same (s : St) (o : AObj) : (s.new o).mem.get s.next = some o := by rw [St.get_new, if_pos rfl]
theorem get_put_same (s : St) (i : Nat) (o : AObj) : (s.put i o).mem.get i = some o := by rw [St.get_put, if_pos rfl]
theorem get_put_ne {s : St} {i j : Nat} {o : AObj} (h : j ≠ i) : (s.put i o).mem.get j = s.mem.get j := by rw [St.get_put, if_neg h]
theorem Wf.new {s : St} (h : Wf s) (o : AObj) : Wf (s.new o) := by
  refine ⟨fun i o' hi hn => ?_, h.2⟩
  rw [St.get_new] at hi
  by_cases e : i = s.next
  · exact Ns.new_ne h.2 hn e
  · rw [if_neg e] at hi; exact h.1 i o' hi (Ns.new hn)
theorem Wf.put {s : St} (h : Wf s) {i : Nat} {o o' : AObj} (hi : s.mem.get i = some o) : Wf (s.put i o') := by
  refine ⟨fun j o'' hj hn => ?_, h.2⟩
  rw [St.get_put] at hj
  by_cases e : j = i
  · subst e; exact h.1 j o hi hn
  · rw [if_neg e] at hj; exact h.1 j o'' hj hn

/-- A call whose answer is plain, and that leaves all that was there. -/
theorem CallD.forget {f : FuncId} {args : List Value} {s s' : St} {v : Value} (h : CallD P f args s v s') (hv : plainV v = true) (hm : Wf s → ∀ i o, s.mem.get i = some o → s'.mem.get i = some o) : CallD P f args s v s := by
  refine CallWP.wf fun hw => CallWP.forget (CallWP.mono h ?_)
  rintro _ _ ⟨rfl, rfl⟩
  exact ⟨hv, hm hw, rfl, rfl⟩

/-- A piece of code. -/
theorem wp_code (hT : T.Ok P) {call : Oracle} (hc : OSound P T call) {nt : Nat} (hint : Nat → Nat → Option Hint) {c : Code} (hok : (regsOk nt c && Nat.ble nt 4000) = true) {tr : HT} {s : St} {K : AExit → HT → St → Prop} (h : hCode T P call nt hint c tr s K) : CodeWPH P nt c tr s K := by
  simp only [Bool.and_eq_true] at hok
  have hn : nt ≤ 4000 := Nat.le_of_ble_eq_true hok.2
  exact hCode_sound hT hc (by omega) c hok.1 h

theorem resultH_cell {tr : HT} {s : St} {a : Tmp} {t : TypeId} {j o : Nat} {cs : List Value} {e : TypeId} {ro : Bool} {v : Value} {rs : List ResultVar} {vs : List Value} (hp : tr.get a = some (.pointer (some ⟨j, o, none⟩))) (hj : s.mem.get j = some (.cells cs e ro)) (hv : readCells T t cs o = some v) (hr : resultH T tr s rs = some vs) : resultH T tr s (.cell a t :: rs) = some (v :: vs) := by
  simp only [resultH, hp, loadA, hj, hv, hr]

theorem resultH_tmp {tr : HT} {s : St} {a : Tmp} {v : Value} {rs : List ResultVar} {vs : List Value} (hp : tr.get a = some v) (hr : resultH T tr s rs = some vs) : resultH T tr s (.tmp a :: rs) = some (v :: vs) := by
  simp only [resultH, hp, hr]

/-- A loop that is left in its first round. -/
theorem wp_loop1 {nt : Nat} {c : Code} {tr : HT} {s : St} {K : AExit → HT → St → Prop} (h : CodeWPH P nt c tr s fun e tr' s' => match e with
      | .normal => False
      | e => K e tr' s') : CodeWPH P nt (.loop c) tr s K := by
  intro rg hr
  refine code_loop (fun _ rg1 s1 => rg1 = rg ∧ s1 = s) 0 ⟨rfl, rfl⟩ ?_
  rintro m rg1 s1 ⟨rfl, rfl⟩
  refine CodeWP.mono (h rg1 hr) ?_
  rintro e rg2 s2 ⟨tr2, g1, g2⟩
  cases e with
  | normal => exact g2.elim
  | exit id => exact ⟨tr2, g1, g2⟩
  | ret => exact ⟨tr2, g1, g2⟩

end Go.Proofs.Abs
