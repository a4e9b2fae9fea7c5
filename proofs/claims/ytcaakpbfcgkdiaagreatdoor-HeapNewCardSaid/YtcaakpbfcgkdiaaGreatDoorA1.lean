/- Values, memory, operations of an abstract machine; what a run by computation does. Conditions: none beyond what each theorem says. -/
import Derived.Calls
import Derived.Orders
import Derived.Laws.Sem
import Derived.Laws.World
import Derived.Laws.Append
import Derived.Laws.StructEq

/- The abstract machine: values. An abstract value is a value of the model in which a block's number is an abstract object's number; 'VRel r a v' says that v is what a stands for, where r tells where each object lies. -/
namespace Go.Proofs.Abs
open Go

/-- Where an object lies: its block, the first cell, how many cells the block has, how many cells an element takes. -/
structure Loc where
  block : Nat
  base : Nat
  tot : Nat
  esz : Nat

abbrev Rho := Nat → Option Loc

inductive VRel (r : Rho) : Value → Value → Prop
  | bool (b : Bool) : VRel r (.bool b) (.bool b)
  | int (k : IntKind) (n : Int) : VRel r (.int k n) (.int k n)
  | string (s : ByteArray) : VRel r (.string s) (.string s)
  | ptr0 : VRel r (.pointer none) (.pointer none)
  | ptr (i o : Nat) (L : Loc) (h : r i = some L) : VRel r (.pointer (some ⟨i, o, none⟩)) (.pointer (some ⟨L.block, L.base + o, none⟩))
  | sl0 : VRel r (.slice none 0 0) (.slice none 0 0)
  | sl (i o n : Nat) (a : Addr) (c : Nat) (L : Loc) (h : r i = some L) (hn : n ≤ c)
      (hc : 0 < c → a = ⟨L.block, L.base + o, none⟩ ∧ L.base + o + c * L.esz ≤ L.tot) :
      VRel r (.slice (some ⟨i, o, none⟩) n n) (.slice (some a) n c)
  | map0 : VRel r (.map none) (.map none)
  | map (i : Nat) (L : Loc) (h : r i = some L) : VRel r (.map (some i)) (.map (some L.block))
  | func0 : VRel r .nilFunc .nilFunc
  | func (fn : Fn) (xs ys us vs : Array Value) (hx : xs.size = us.size) (hy : ys.size = vs.size)
      (h : ∀ i (h1 : i < xs.size) (h2 : i < us.size), VRel r xs[i] us[i])
      (h' : ∀ i (h1 : i < ys.size) (h2 : i < vs.size), VRel r ys[i] vs[i]) : VRel r (.func fn xs ys) (.func fn us vs)
  | iface0 : VRel r .nilIface .nilIface
  | agg (xs us : Array Value) (hx : xs.size = us.size) (h : ∀ i (h1 : i < xs.size) (h2 : i < us.size), VRel r xs[i] us[i]) : VRel r (.agg xs) (.agg us)
  | tuple (xs us : Array Value) (hx : xs.size = us.size) (h : ∀ i (h1 : i < xs.size) (h2 : i < us.size), VRel r xs[i] us[i]) : VRel r (.tuple xs) (.tuple us)

/-- More is known of where objects lie. -/
def Rho.le (r r' : Rho) : Prop := ∀ i L, r i = some L → r' i = some L

theorem VRel.mono {r r' : Rho} (hr : r.le r') {a v : Value} (h : VRel r a v) : VRel r' a v := by
  induction h with
  | bool b => exact .bool b
  | int k n => exact .int k n
  | string s => exact .string s
  | ptr0 => exact .ptr0
  | ptr i o L h => exact .ptr i o L (hr _ _ h)
  | sl0 => exact .sl0
  | sl i o n a c L h hn hc => exact .sl i o n a c L (hr _ _ h) hn hc
  | map0 => exact .map0
  | map i L h => exact .map i L (hr _ _ h)
  | func0 => exact .func0
  | func fn xs ys us vs hx hy _ _ ih ih' => exact .func fn xs ys us vs hx hy ih ih'
  | iface0 => exact .iface0
  | agg xs us hx _ ih => exact .agg xs us hx ih
  | tuple xs us hx _ ih => exact .tuple xs us hx ih

/-- Lists of values. -/
inductive VRels (r : Rho) : List Value → List Value → Prop
  | nil : VRels r [] []
  | cons {a v : Value} {as vs : List Value} (h : VRel r a v) (t : VRels r as vs) : VRels r (a :: as) (v :: vs)

theorem VRels.mono {r r' : Rho} (hr : r.le r') {as vs : List Value} (h : VRels r as vs) : VRels r' as vs := by
  induction h with
  | nil => exact .nil
  | cons h _ ih => exact .cons (h.mono hr) ih

theorem VRels.length {r : Rho} {as vs : List Value} (h : VRels r as vs) : as.length = vs.length := by
  induction h with
  | nil => rfl
  | cons _ _ ih => simp [ih]

theorem VRels.get {r : Rho} {as vs : List Value} (h : VRels r as vs) (i : Nat) :
    (as[i]? = none ∧ vs[i]? = none) ∨ ∃ a v, as[i]? = some a ∧ vs[i]? = some v ∧ VRel r a v := by
  induction h generalizing i with
  | nil => exact .inl ⟨rfl, rfl⟩
  | cons h _ ih =>
    cases i with
    | zero => exact .inr ⟨_, _, rfl, rfl, h⟩
    | succ i => simpa using ih i

theorem VRels.get_some {r : Rho} {as vs : List Value} (h : VRels r as vs) {i : Nat} {a : Value} (ha : as[i]? = some a) : ∃ v, vs[i]? = some v ∧ VRel r a v := by
  rcases h.get i with ⟨h1, _⟩ | ⟨a', v, h1, h2, h3⟩
  · rw [h1] at ha; cases ha
  · rw [h1] at ha; cases ha; exact ⟨v, h2, h3⟩

theorem VRels.append {r : Rho} {as bs us vs : List Value} (h : VRels r as us) (h' : VRels r bs vs) : VRels r (as ++ bs) (us ++ vs) := by
  induction h with
  | nil => exact h'
  | cons h _ ih => exact .cons h ih

theorem VRels.drop {r : Rho} {as vs : List Value} (h : VRels r as vs) (n : Nat) : VRels r (as.drop n) (vs.drop n) := by
  induction h generalizing n with
  | nil => simp; exact .nil
  | cons h t ih =>
    cases n with
    | zero => exact .cons h t
    | succ n => simpa using ih n

theorem VRels.take {r : Rho} {as vs : List Value} (h : VRels r as vs) (n : Nat) : VRels r (as.take n) (vs.take n) := by
  induction h generalizing n with
  | nil => simp; exact .nil
  | cons h t ih =>
    cases n with
    | zero => simp; exact .nil
    | succ n => simp; exact .cons h (ih n)

theorem VRels.set {r : Rho} {as vs : List Value} (h : VRels r as vs) (n : Nat) {a v : Value} (hv : VRel r a v) : VRels r (as.set n a) (vs.set n v) := by
  induction h generalizing n with
  | nil => simp; exact .nil
  | cons h t ih =>
    cases n with
    | zero => exact .cons hv t
    | succ n => exact .cons h (ih n)

theorem VRels.of_get {r : Rho} {as vs : List Value} (hl : as.length = vs.length) (h : ∀ (i : Nat) (a v : Value), as[i]? = some a → vs[i]? = some v → VRel r a v) : VRels r as vs := by
  induction as generalizing vs with
  | nil => cases vs with
    | nil => exact .nil
    | cons => simp at hl
  | cons a as ih => cases vs with
    | nil => simp at hl
    | cons v vs =>
      refine .cons (h 0 a v rfl rfl) (ih (by simpa using hl) fun i a' v' h1 h2 => h (i + 1) a' v' (by simpa using h1) (by simpa using h2))

theorem VRels.replicate {r : Rho} {a v : Value} (h : VRel r a v) (n : Nat) : VRels r (List.replicate n a) (List.replicate n v) := by
  induction n with
  | zero => exact .nil
  | succ n ih => exact .cons h ih

theorem VRels.toArray {r : Rho} {xs us : Array Value} (hx : xs.size = us.size) (h : ∀ i (h1 : i < xs.size) (h2 : i < us.size), VRel r xs[i] us[i]) : VRels r xs.toList us.toList := by
  refine VRels.of_get (by simpa using hx) fun i a v h1 h2 => ?_
  have g1 : i < xs.size := by
    rcases Nat.lt_or_ge i xs.size with g | g
    · exact g
    · rw [List.getElem?_eq_none (by simpa using g)] at h1; cases h1
  have := h i g1 (by omega)
  simp [g1] at h1
  have g2 : i < us.size := by omega
  simp [g2] at h2
  rw [← h1, ← h2]; exact this

theorem VRels.of_array {r : Rho} {xs us : Array Value} (h : VRels r xs.toList us.toList) : xs.size = us.size ∧ ∀ i (h1 : i < xs.size) (h2 : i < us.size), VRel r xs[i] us[i] := by
  refine ⟨by simpa using h.length, fun i h1 h2 => ?_⟩
  obtain ⟨v, hv, hr⟩ := h.get_some (i := i) (a := xs[i]) (by simp [h1])
  simp [h2] at hv
  rw [hv]; exact hr

theorem VRel.agg_iff {r : Rho} {xs us : Array Value} : VRel r (.agg xs) (.agg us) ↔ VRels r xs.toList us.toList := by
  constructor
  · intro h; cases h with | agg _ _ hx h => exact VRels.toArray hx h
  · intro h; exact .agg _ _ h.of_array.1 h.of_array.2

theorem VRel.tuple_iff {r : Rho} {xs us : Array Value} : VRel r (.tuple xs) (.tuple us) ↔ VRels r xs.toList us.toList := by
  constructor
  · intro h; cases h with | tuple _ _ hx h => exact VRels.toArray hx h
  · intro h; exact .tuple _ _ h.of_array.1 h.of_array.2

theorem VRel.undef (r : Rho) : VRel r undef undef := .tuple _ _ rfl (by intro i h1; simp at h1)

/-- The cells of related values are related. -/
theorem VRel.cells {r : Rho} {a v : Value} (h : VRel r a v) : VRels r a.cells.toList v.cells.toList := by
  cases h with
  | agg xs us hx h => exact VRels.toArray hx h
  | _ => exact .cons (by first | exact .bool _ | exact .int _ _ | exact .string _ | exact .ptr0 | exact .ptr _ _ _ ‹_› | exact .sl0 | exact .sl _ _ _ _ _ _ ‹_› ‹_› ‹_› | exact .map0 | exact .map _ _ ‹_› | exact .func0 | exact .func _ _ _ _ _ ‹_› ‹_› ‹_› ‹_› | exact .iface0 | exact .tuple _ _ ‹_› ‹_›) .nil

/-! ### Values without addresses stand for themselves -/

def plainV : Value → Bool
  | .bool _ | .int _ _ | .string _ | .pointer none | .slice none 0 0 | .map none | .nilFunc | .nilIface => true
  | .agg xs | .tuple xs => plainL xs.toList
  | _ => false
where
  plainL : List Value → Bool
    | [] => true
    | x :: xs => plainV x && plainL xs

mutual
theorem plain_rel (r : Rho) : ∀ v, plainV v = true → VRel r v v
  | .bool b, _ => .bool b
  | .int k n, _ => .int k n
  | .string s, _ => .string s
  | .pointer none, _ => .ptr0
  | .pointer (some _), h => by simp [plainV] at h
  | .slice none 0 0, _ => .sl0
  | .slice none 0 (_ + 1), h => by simp [plainV] at h
  | .slice none (_ + 1) _, h => by simp [plainV] at h
  | .slice (some _) _ _, h => by simp [plainV] at h
  | .map none, _ => .map0
  | .map (some _), h => by simp [plainV] at h
  | .nilFunc, _ => .func0
  | .nilIface, _ => .iface0
  | .agg ⟨xs⟩, h => VRel.agg_iff.2 (plain_rels r xs (by simpa [plainV] using h))
  | .tuple ⟨xs⟩, h => VRel.tuple_iff.2 (plain_rels r xs (by simpa [plainV] using h))
  | .float _ _, h => by simp [plainV] at h
  | .complex _ _ _, h => by simp [plainV] at h
  | .chan _, h => by simp [plainV] at h
  | .func _ _ _, h => by simp [plainV] at h
  | .iface _ _, h => by simp [plainV] at h
theorem plain_rels (r : Rho) : ∀ xs, plainV.plainL xs = true → VRels r xs xs
  | [], _ => .nil
  | x :: xs, h => by
    simp only [plainV.plainL, Bool.and_eq_true] at h
    exact .cons (plain_rel r x h.1) (plain_rels r xs h.2)
end

/-- What stands for a value without addresses is that value. -/
theorem VRel.bool_inv {r : Rho} {b : Bool} {v : Value} (h : VRel r (.bool b) v) : v = .bool b := by cases h; rfl
theorem VRel.int_inv {r : Rho} {k : IntKind} {n : Int} {v : Value} (h : VRel r (.int k n) v) : v = .int k n := by cases h; rfl
theorem VRel.string_inv {r : Rho} {s : ByteArray} {v : Value} (h : VRel r (.string s) v) : v = .string s := by cases h; rfl

end Go.Proofs.Abs

/- The abstract machine: memory. Objects by numbers; what a memory says of a world; a step from one to another. -/
namespace Go.Proofs.Abs
open Go

inductive AObj
  | cells (cs : List Value) (e : TypeId) (ro : Bool)
  | map (es : List (Value × Value))
  | iter (s : ByteArray) (pos : Nat)
  | mapIter (m since : Nat) (seen : List Nat)

def AObj.ro : AObj → Bool
  | .cells _ _ r => r
  | _ => false

def Rho.put (r : Rho) (n : Nat) (L : Loc) : Rho := fun i => if i = n then some L else r i
theorem Rho.put_same (r : Rho) (n : Nat) (L : Loc) : r.put n L n = some L := if_pos rfl
theorem Rho.put_ne (r : Rho) {n i : Nat} (L : Loc) (h : i ≠ n) : r.put n L i = r i := if_neg h
theorem Rho.put_eq (r : Rho) (n i : Nat) (L : Loc) : r.put n L i = if i = n then some L else r i := rfl

/-! ### A tree by the number's binary signs -/

inductive Mem
  | nil
  | node (v : Option AObj) (l r : Mem)

noncomputable section

def Mem.get (t : Mem) : Nat → Option AObj :=
  Mem.rec (motive := fun _ => Nat → Option AObj) (fun _ => none) (fun v _ _ gl gr n =>
    Nat.rec (motive := fun _ => Option AObj) v (fun m _ => Nat.rec (motive := fun _ => Option AObj) (gl (Nat.div m 2)) (fun _ _ => gr (Nat.div m 2)) (Nat.mod m 2)) n) t

def Mem.at0 (t : Mem) (v : Option AObj) : Mem := Mem.rec (motive := fun _ => Mem) (.node v .nil .nil) (fun _ l r _ _ => .node v l r) t
def Mem.atL (ih : Mem → Nat → Option AObj → Mem) (t : Mem) (m : Nat) (v : Option AObj) : Mem := Mem.rec (motive := fun _ => Mem) (.node none (ih .nil (Nat.div m 2) v) .nil) (fun u l r _ _ => .node u (ih l (Nat.div m 2) v) r) t
def Mem.atR (ih : Mem → Nat → Option AObj → Mem) (t : Mem) (m : Nat) (v : Option AObj) : Mem := Mem.rec (motive := fun _ => Mem) (.node none .nil (ih .nil (Nat.div m 2) v)) (fun u l r _ _ => .node u l (ih r (Nat.div m 2) v)) t

def Mem.upd (f : Nat) : Mem → Nat → Option AObj → Mem :=
  Nat.rec (motive := fun _ => Mem → Nat → Option AObj → Mem) (fun t _ _ => t) (fun _ ih t n v =>
    Nat.rec (motive := fun _ => Mem) (Mem.at0 t v) (fun m _ => Nat.rec (motive := fun _ => Mem) (Mem.atL ih t m v) (fun _ _ => Mem.atR ih t m v) (Nat.mod m 2)) n) f

def Mem.put (m : Mem) (n : Nat) (o : Option AObj) : Mem := Mem.upd (n + 1) m n o

end

theorem Mem.get_nil (n : Nat) : Mem.nil.get n = none := rfl
theorem Mem.get_zero (v : Option AObj) (l r : Mem) : (Mem.node v l r).get 0 = v := rfl
theorem Mem.get_succ (v : Option AObj) (l r : Mem) (m : Nat) : (Mem.node v l r).get (m + 1) = if m % 2 = 0 then l.get (m / 2) else r.get (m / 2) := by
  show Nat.rec (motive := fun _ => Option AObj) (l.get (Nat.div m 2)) (fun _ _ => r.get (Nat.div m 2)) (Nat.mod m 2) = _
  have : Nat.mod m 2 = m % 2 := rfl
  rw [this]
  rcases Nat.mod_two_eq_zero_or_one m with h | h <;> rw [h] <;> rfl

theorem Mem.get_upd (f : Nat) : ∀ (t : Mem) (n m : Nat) (v : Option AObj), n < f → (Mem.upd f t n v).get m = if m = n then v else t.get m := by
  induction f with
  | zero => intro t n m v h; omega
  | succ f ih =>
    intro t n m v h
    cases n with
    | zero =>
      have e : Mem.upd (f + 1) t 0 v = Mem.at0 t v := rfl
      rw [e]
      cases t with
      | nil =>
        show (Mem.node v .nil .nil).get m = _
        cases m with
        | zero => rfl
        | succ m => rw [Mem.get_succ]; simp [Mem.get_nil]
      | node u l r =>
        show (Mem.node v l r).get m = _
        cases m with
        | zero => rfl
        | succ m => rw [Mem.get_succ, Mem.get_succ]; simp
    | succ n =>
      have e : Mem.upd (f + 1) t (n + 1) v = Nat.rec (motive := fun _ => Mem) (Mem.atL (Mem.upd f) t n v) (fun _ _ => Mem.atR (Mem.upd f) t n v) (Nat.mod n 2) := rfl
      have hm2 : Nat.mod n 2 = n % 2 := rfl
      rw [e, hm2]
      have hd : n / 2 < f := by omega
      have hq : Nat.div n 2 = n / 2 := rfl
      rcases Nat.mod_two_eq_zero_or_one n with hn | hn <;> rw [hn]
      · show (Mem.atL (Mem.upd f) t n v).get m = _
        have main : ∀ u l r, (Mem.node u (Mem.upd f l (Nat.div n 2) v) r).get m = if m = n + 1 then v else (Mem.node u l r).get m := by
          intro u l r
          cases m with
          | zero => rfl
          | succ m =>
            rw [Mem.get_succ, Mem.get_succ, ih _ _ _ _ (by rw [hq]; exact hd), hq]
            by_cases hmm : m % 2 = 0
            · by_cases e : m = n
              · subst e; simp [hmm]
              · have : ¬ m / 2 = n / 2 := by omega
                simp [hmm, e, this]
            · have : ¬ m = n := by omega
              simp [hmm, this]
        cases t with
        | nil =>
          refine (main none .nil .nil).trans ?_
          cases m with
          | zero => rfl
          | succ m => rw [Mem.get_succ]; simp [Mem.get_nil]
        | node u l r => exact main u l r
      · show (Mem.atR (Mem.upd f) t n v).get m = _
        have main : ∀ u l r, (Mem.node u l (Mem.upd f r (Nat.div n 2) v)).get m = if m = n + 1 then v else (Mem.node u l r).get m := by
          intro u l r
          cases m with
          | zero => rfl
          | succ m =>
            rw [Mem.get_succ, Mem.get_succ, ih _ _ _ _ (by rw [hq]; exact hd), hq]
            by_cases hmm : m % 2 = 0
            · have : ¬ m = n := by omega
              simp [hmm, this]
            · by_cases e : m = n
              · subst e; simp [hmm]
              · have : ¬ m / 2 = n / 2 := by omega
                simp [hmm, e, this]
        cases t with
        | nil =>
          refine (main none .nil .nil).trans ?_
          cases m with
          | zero => rfl
          | succ m => rw [Mem.get_succ]; simp [Mem.get_nil]
        | node u l r => exact main u l r

theorem Mem.get_put (m : Mem) (n k : Nat) (o : Option AObj) : (m.put n o).get k = if k = n then o else m.get k := Mem.get_upd _ _ _ _ _ (by omega)
theorem Mem.get_put_same (m : Mem) (n : Nat) (o : Option AObj) : (m.put n o).get n = o := by rw [get_put, if_pos rfl]
theorem Mem.get_put_ne (m : Mem) {n k : Nat} (o : Option AObj) (h : k ≠ n) : (m.put n o).get k = m.get k := by rw [get_put, if_neg h]

/-- A memory, the number of the next new object, and how far apart new objects' numbers are. -/
structure St where
  mem : Mem
  next : Nat
  step : Nat

noncomputable def St.put (s : St) (n : Nat) (o : AObj) : St := { s with mem := s.mem.put n (some o) }
noncomputable def St.del (s : St) (n : Nat) : St := { s with mem := s.mem.put n none }
/-- A new object. -/
noncomputable def St.new (s : St) (o : AObj) : St := { mem := s.mem.put s.next (some o), next := s.next + s.step, step := s.step }

@[simp] theorem St.next_put (s : St) (n : Nat) (o : AObj) : (s.put n o).next = s.next := rfl
@[simp] theorem St.next_del (s : St) (n : Nat) : (s.del n).next = s.next := rfl
@[simp] theorem St.next_new (s : St) (o : AObj) : (s.new o).next = s.next + s.step := rfl
@[simp] theorem St.step_put (s : St) (n : Nat) (o : AObj) : (s.put n o).step = s.step := rfl
@[simp] theorem St.step_del (s : St) (n : Nat) : (s.del n).step = s.step := rfl
@[simp] theorem St.step_new (s : St) (o : AObj) : (s.new o).step = s.step := rfl

/-- The numbers of new objects. -/
def Ns (s : St) (i : Nat) : Prop := ∃ k, i = s.next + s.step * k
theorem Ns.self (s : St) : Ns s s.next := ⟨0, by simp⟩
theorem Ns.put {s : St} {n i : Nat} {o : AObj} (h : Ns (s.put n o) i) : Ns s i := h
theorem Ns.del {s : St} {n i : Nat} (h : Ns (s.del n) i) : Ns s i := h
theorem Ns.new {s : St} {i : Nat} {o : AObj} (h : Ns (s.new o) i) : Ns s i := by
  obtain ⟨k, rfl⟩ := h
  exact ⟨k + 1, by simp [Nat.mul_add]; omega⟩
theorem Ns.new_ne {s : St} (hp : 0 < s.step) {i : Nat} {o : AObj} (h : Ns (s.new o) i) : i ≠ s.next := by
  obtain ⟨k, rfl⟩ := h
  simp; omega
theorem St.get_put (s : St) (n k : Nat) (o : AObj) : (s.put n o).mem.get k = if k = n then some o else s.mem.get k := Mem.get_put ..
theorem St.get_del (s : St) (n k : Nat) : (s.del n).mem.get k = if k = n then none else s.mem.get k := Mem.get_put ..
theorem St.get_new (s : St) (k : Nat) (o : AObj) : (s.new o).mem.get k = if k = s.next then some o else s.mem.get k := Mem.get_put ..

theorem Rho.put_other (r : Rho) {s : St} (L : Loc) {i : Nat} (h : ¬ Ns s i) : r.put s.next L i = r i := Rho.put_ne _ _ fun e => h (by rw [e]; exact Ns.self s)

/-! ### What an object says of the world -/

section
variable (P : Program)

/-- Cells that read as a list does. -/
def CellsRel (r : Rho) (base : Nat) (cs : List Value) (c : Array Value) : Prop :=
  base + cs.length ≤ c.size ∧ VRels r cs ((c.toList.drop base).take cs.length)

def ORel (r : Rho) (w : World) (i : Nat) : AObj → Prop
  | .cells cs e ro => ∃ L c fr, r i = some L ∧ w.heap[L.block]? = some (.cells c e fr) ∧ c.size = L.tot ∧ (ro = true → L.esz = 0) ∧ CellsRel r L.base cs c ∧ (ro = false → fr = (0, 0) ∧ ∃ inf, P.info? e = some inf ∧ inf.size = L.esz)
  | .map es => ∃ L c clock, r i = some L ∧ L.base = 0 ∧ w.heap[L.block]? = some (.map c clock) ∧ clock = es.length ∧ VRels r (es.map (·.1)) (c.toList.map (·.key)) ∧ VRels r (es.map (·.2)) (c.toList.map (·.val)) ∧
      c.toList.map (·.born) = List.range es.length
  | .iter s pos => ∃ L, r i = some L ∧ L.base = 0 ∧ w.heap[L.block]? = some (.stringIter s pos)
  | .mapIter m since seen => ∃ L Lm, r i = some L ∧ L.base = 0 ∧ r m = some Lm ∧ w.heap[L.block]? = some (.mapIter (some Lm.block) since seen.toArray since)

structure Rel (r : Rho) (s : St) (w : World) : Prop where
  objs : ∀ i o, s.mem.get i = some o → ORel P r w i o
  sep : ∀ i j oi oj Li Lj, i ≠ j → s.mem.get i = some oi → s.mem.get j = some oj → (oi.ro = false ∨ oj.ro = false) → r i = some Li → r j = some Lj → Li.block ≠ Lj.block
  fresh : ∀ i, Ns s i → r i = none
  pos : 0 < s.step
  glob : ∀ g, g < P.globals.size → ∃ L, r g = some L ∧ L.block = g ∧ L.base = 0

/-- A block that the machine may write. -/
def Owned (r : Rho) (s : St) (b : Nat) : Prop := ∃ i o L, s.mem.get i = some o ∧ o.ro = false ∧ r i = some L ∧ L.block = b

structure Step (r : Rho) (s : St) (w : World) (r' : Rho) (s' : St) (w' : World) : Prop where
  le : s'.step = s.step ∧ ∃ k, s'.next = s.next + s.step * k
  ext : ∀ i, ¬ Ns s i → r' i = r i
  rel : Rel P r' s' w'
  size : w.heap.size ≤ w'.heap.size
  keep : ∀ b, b < w.heap.size → ¬ Owned r s b → w'.heap[b]? = w.heap[b]?
  own : ∀ b, b < w.heap.size → Owned r' s' b → Owned r s b
  ros : ∀ i o, s'.mem.get i = some o → o.ro = true → s.mem.get i = some o
  os : w'.os = w.os
  tape : w'.tape = w.tape
  output : w'.output = w.output

end

section
variable {P : Program}

theorem ORel.loc {r : Rho} {w : World} {i : Nat} {o : AObj} (h : ORel P r w i o) : ∃ L, r i = some L ∧ L.block < w.heap.size := by
  cases o with
  | cells cs e ro => obtain ⟨L, c, fr, h1, h2, _⟩ := h; exact ⟨L, h1, (Array.getElem?_eq_some_iff.1 h2).1⟩
  | map es => obtain ⟨L, c, k, h1, _, h2, _⟩ := h; exact ⟨L, h1, (Array.getElem?_eq_some_iff.1 h2).1⟩
  | iter s p => obtain ⟨L, h1, _, h2⟩ := h; exact ⟨L, h1, (Array.getElem?_eq_some_iff.1 h2).1⟩
  | mapIter m c l => obtain ⟨L, Lm, h1, _, _, h2⟩ := h; exact ⟨L, h1, (Array.getElem?_eq_some_iff.1 h2).1⟩

theorem Rel.known {r : Rho} {s : St} {w : World} (h : Rel P r s w) {i : Nat} {L : Loc} (hi : r i = some L) : ¬ Ns s i := by
  intro hn
  rw [h.fresh i hn] at hi; cases hi

theorem Rel.live {r : Rho} {s : St} {w : World} (h : Rel P r s w) {i : Nat} {o : AObj} (hi : s.mem.get i = some o) : ¬ Ns s i := by
  obtain ⟨L, hL, _⟩ := (h.objs i o hi).loc
  exact h.known hL

theorem Rel.live_ne {r : Rho} {s : St} {w : World} (h : Rel P r s w) {i : Nat} {o : AObj} (hi : s.mem.get i = some o) : i ≠ s.next := fun e => h.live hi (by rw [e]; exact Ns.self s)

theorem Rel.put_le {r : Rho} {s : St} {w : World} (h : Rel P r s w) (L : Loc) : r.le (r.put s.next L) := by
  intro j L' hj
  rw [Rho.put_other _ _ (h.known hj)]; exact hj

theorem CellsRel.mono {r r' : Rho} (hr : r.le r') {b : Nat} {cs : List Value} {c : Array Value} (h : CellsRel r b cs c) : CellsRel r' b cs c := ⟨h.1, h.2.mono hr⟩

theorem ORel.mono {r r' : Rho} {w w' : World} (hr : r.le r') {i : Nat} {o : AObj} (h : ORel P r w i o) (hw : ∀ L, r i = some L → w'.heap[L.block]? = w.heap[L.block]?) : ORel P r' w' i o := by
  cases o with
  | cells cs e ro => obtain ⟨L, c, fr, h1, h2, h3, h4, h5, h6⟩ := h; exact ⟨L, c, fr, hr _ _ h1, (hw L h1).trans h2, h3, h4, h5.mono hr, h6⟩
  | map es => obtain ⟨L, c, k, h1, h2, h3, h4, h5, h6, h7⟩ := h; exact ⟨L, c, k, hr _ _ h1, h2, (hw L h1).trans h3, h4, h5.mono hr, h6.mono hr, h7⟩
  | iter s p => obtain ⟨L, h1, h2, h3⟩ := h; exact ⟨L, hr _ _ h1, h2, (hw L h1).trans h3⟩
  | mapIter m c l => obtain ⟨L, Lm, h1, h2, h3, h4⟩ := h; exact ⟨L, Lm, hr _ _ h1, h2, hr _ _ h3, (hw L h1).trans h4⟩

theorem Step.rle {r r' : Rho} {s s' : St} {w w' w0 : World} (h0 : Rel P r s w0) (h : Step P r s w r' s' w') : r.le r' := by
  intro i L hL
  rw [h.ext i (h0.known hL)]; exact hL

theorem Step.refl {r : Rho} {s : St} {w : World} (h : Rel P r s w) : Step P r s w r s w :=
  ⟨⟨rfl, 0, by simp⟩, fun _ _ => rfl, h, Nat.le_refl _, fun _ _ _ => rfl, fun _ _ h => h, fun _ _ h _ => h, rfl, rfl, rfl⟩

theorem Step.trans {r r1 r2 : Rho} {s s1 s2 : St} {w w1 w2 : World} (h : Step P r s w r1 s1 w1) (h' : Step P r1 s1 w1 r2 s2 w2) : Step P r s w r2 s2 w2 where
  le := by
    obtain ⟨h1, k1, h2⟩ := h.le
    obtain ⟨h3, k2, h4⟩ := h'.le
    exact ⟨h3.trans h1, k1 + k2, by rw [h4, h2, h1, Nat.mul_add, Nat.add_assoc]⟩
  ext i hi := by
    refine (h'.ext i fun hn => hi ?_).trans (h.ext i hi)
    obtain ⟨h1, k1, h2⟩ := h.le
    obtain ⟨k, rfl⟩ := hn
    exact ⟨k1 + k, by rw [h2, h1, Nat.mul_add, Nat.add_assoc]⟩
  rel := h'.rel
  size := Nat.le_trans h.size h'.size
  keep b hb hn := (h'.keep b (Nat.lt_of_lt_of_le hb h.size) (fun ho => hn (h.own b hb ho))).trans (h.keep b hb hn)
  own b hb ho := h.own b hb (h'.own b (Nat.lt_of_lt_of_le hb h.size) ho)
  ros i o hi hro := h.ros i o (h'.ros i o hi hro) hro
  os := h'.os.trans h.os
  tape := h'.tape.trans h.tape
  output := h'.output.trans h.output

/-- A draw changes nothing that is looked at. -/
theorem Rel.drew {r : Rho} {s : St} {w : World} (h : Rel P r s w) (n : Nat) : Rel P r s { w with drawn := n } :=
  ⟨fun i o hi => (h.objs i o hi).mono (fun _ _ h => h) (fun _ _ => rfl), h.sep, h.fresh, h.pos, h.glob⟩

theorem Step.drew {r r' : Rho} {s s' : St} {w w' : World} (h : Step P r s w r' s' w') (n : Nat) : Step P r s w r' s' { w' with drawn := n } :=
  ⟨h.le, h.ext, h.rel.drew n, h.size, h.keep, h.own, h.ros, h.os, h.tape, h.output⟩

theorem Step.ofDrew {r r' : Rho} {s s' : St} {w w' : World} {n : Nat} (h : Step P r s { w with drawn := n } r' s' w') : Step P r s w r' s' w' :=
  ⟨h.le, h.ext, h.rel, h.size, h.keep, h.own, h.ros, h.os, h.tape, h.output⟩

/-- A new object in a new block. -/
theorem Step.new {r : Rho} {s : St} {w : World} (h : Rel P r s w) (L : Loc) (o : AObj) (hro : o.ro = false) (ob : Obj) (hL : L.block = w.heap.size)
    (ho : ORel P (r.put s.next L) (w.alloc ob) s.next o) :
    Step P r s w (r.put s.next L) (s.new o) (w.alloc ob) := by
  have hrle : Rho.le r (r.put s.next L) := h.put_le L
  have hold : ∀ b, b < w.heap.size → (w.alloc ob).heap[b]? = w.heap[b]? := fun b hb => by
    show (w.heap.push ob)[b]? = _
    rw [Array.getElem?_push, if_neg (by omega)]
  refine ⟨⟨rfl, 1, by simp⟩, fun i hi => Rho.put_other _ _ hi, ⟨?_, ?_, ?_, h.pos, fun g hg => (h.glob g hg).imp fun L h => ⟨hrle _ _ h.1, h.2⟩⟩, by simp, fun b hb _ => hold b hb, ?_, ?_, rfl, rfl, rfl⟩
  · intro i o' hi
    rw [St.get_new] at hi
    by_cases e : i = s.next
    · rw [if_pos e] at hi; cases hi; subst e; exact ho
    · rw [if_neg e] at hi
      refine (h.objs i o' hi).mono hrle fun L' hL' => hold _ ?_
      obtain ⟨L'', h1, h2⟩ := (h.objs i o' hi).loc
      rw [hL'] at h1; cases h1; exact h2
  · intro i j oi oj Li Lj hij hi hj hro hLi hLj
    rw [St.get_new] at hi hj
    simp only [Rho.put_eq] at hLi hLj
    by_cases e : i = s.next
    · rw [if_pos e] at hLi; cases hLi
      have e' : j ≠ s.next := fun h => hij (e.trans h.symm)
      rw [if_neg e'] at hLj hj
      obtain ⟨L'', h1, h2⟩ := (h.objs j oj hj).loc
      rw [hLj] at h1; cases h1; omega
    · rw [if_neg e] at hLi hi
      by_cases e' : j = s.next
      · rw [if_pos e'] at hLj; cases hLj
        obtain ⟨L'', h1, h2⟩ := (h.objs i oi hi).loc
        rw [hLi] at h1; cases h1; omega
      · rw [if_neg e'] at hLj hj
        exact h.sep i j oi oj Li Lj hij hi hj hro hLi hLj
  · intro i hi
    rw [Rho.put_ne _ _ (hi.new_ne h.pos)]; exact h.fresh i hi.new
  · rintro b hb ⟨i, o', L', hi, hro, hL', rfl⟩
    rw [Rho.put_eq] at hL'
    rw [St.get_new] at hi
    by_cases e : i = s.next
    · rw [if_pos e] at hL'; cases hL'; omega
    · rw [if_neg e] at hL' hi
      exact ⟨i, o', L', hi, hro, hL', rfl⟩
  · intro i o' hi hr'
    rw [St.get_new] at hi
    split at hi
    · cases hi; rw [hro] at hr'; cases hr'
    · exact hi

/-- An object written in place: its block alone is changed. -/
theorem Step.put {r : Rho} {s : St} {w w' : World} (h : Rel P r s w) {i : Nat} {o : AObj} {L : Loc} (hi : s.mem.get i = some o) (hro : o.ro = false) (hL : r i = some L) (o' : AObj) (hro' : o'.ro = false)
    (hsz : w'.heap.size = w.heap.size) (hk : ∀ b, b ≠ L.block → w'.heap[b]? = w.heap[b]?) (hos : w'.os = w.os) (htape : w'.tape = w.tape) (hout : w'.output = w.output)
    (ho : ORel P r w' i o') : Step P r s w r (s.put i o') w' := by
  refine ⟨⟨rfl, 0, by simp⟩, fun _ _ => rfl, ⟨?_, ?_, h.fresh, h.pos, h.glob⟩, by omega, ?_, ?_, ?_, hos, htape, hout⟩
  · intro j oj hj
    rw [St.get_put] at hj
    by_cases e : j = i
    · rw [if_pos e] at hj; cases hj; subst e; exact ho
    · rw [if_neg e] at hj
      exact (h.objs j oj hj).mono (fun _ _ h => h) fun Lj hLj => hk _ (h.sep j i oj o Lj L e hj hi (.inr hro) hLj hL)
  · intro j k oj ok Lj Lk hjk hj hk' hor hLj hLk
    rw [St.get_put] at hj hk'
    by_cases e : j = i
    · rw [if_pos e] at hj
      have e' : k ≠ i := fun h => hjk (e.trans h.symm)
      rw [if_neg e'] at hk'
      subst e
      exact h.sep j k o ok Lj Lk hjk hi hk' (.inl hro) hLj hLk
    · rw [if_neg e] at hj
      by_cases e' : k = i
      · subst e'
        exact h.sep j k oj o Lj Lk hjk hj hi (.inr hro) hLj hLk
      · rw [if_neg e'] at hk'
        exact h.sep j k oj ok Lj Lk hjk hj hk' hor hLj hLk
  · intro b hb hn
    exact hk b fun e => hn ⟨i, o, L, hi, hro, hL, e.symm⟩
  · rintro b hb ⟨j, oj, Lj, hj, hr, hLj, rfl⟩
    rw [St.get_put] at hj
    by_cases e : j = i
    · subst e; exact ⟨j, o, Lj, hi, hro, hLj, rfl⟩
    · rw [if_neg e] at hj; exact ⟨j, oj, Lj, hj, hr, hLj, rfl⟩
  · intro j oj hj hr
    rw [St.get_put] at hj
    split at hj
    · cases hj; rw [hro'] at hr; cases hr
    · exact hj

/-- An object that dies. -/
theorem Rel.del {r : Rho} {s : St} {w : World} (h : Rel P r s w) (i : Nat) : Rel P r (s.del i) w := by
  refine ⟨fun j o hj => ?_, fun j k oj ok Lj Lk hjk hj hk => ?_, h.fresh, h.pos, h.glob⟩
  · rw [St.get_del] at hj
    split at hj
    · cases hj
    · exact h.objs j o hj
  · rw [St.get_del] at hj hk
    split at hj
    · cases hj
    · split at hk
      · cases hk
      · exact h.sep j k oj ok Lj Lk hjk hj hk

theorem Step.del {r : Rho} {s : St} {w : World} (h : Rel P r s w) (i : Nat) : Step P r s w r (s.del i) w :=
  ⟨⟨rfl, 0, by simp⟩, fun _ _ => rfl, h.del i, Nat.le_refl _, fun _ _ _ => rfl, fun b _ ho => by
    obtain ⟨j, o, L, h1, h2, h3, h4⟩ := ho
    rw [St.get_del] at h1
    split at h1
    · cases h1
    · exact ⟨j, o, L, h1, h2, h3, h4⟩, fun j o h1 _ => by
    rw [St.get_del] at h1
    split at h1
    · cases h1
    · exact h1, rfl, rfl, rfl⟩

/-- An object that dies; a new one takes its block, which is written. -/
theorem Step.take {r : Rho} {s : St} {w w' : World} (h : Rel P r s w) {i : Nat} {o : AObj} {L : Loc} (hi : s.mem.get i = some o) (hro : o.ro = false) (hL : r i = some L) (L' : Loc) (hL' : L'.block = L.block) (o' : AObj) (hro' : o'.ro = false)
    (hsz : w'.heap.size = w.heap.size) (hk : ∀ b, b ≠ L.block → w'.heap[b]? = w.heap[b]?) (hos : w'.os = w.os) (htape : w'.tape = w.tape) (hout : w'.output = w.output)
    (ho : ORel P (r.put s.next L') w' s.next o') :
    Step P r s w (r.put s.next L') ((s.del i).new o') w' := by
  have hrle : Rho.le r (r.put s.next L') := h.put_le L'
  refine ⟨⟨rfl, 1, by simp⟩, fun j hj => Rho.put_other _ _ hj, ⟨?_, ?_, ?_, h.pos, fun g hg => (h.glob g hg).imp fun L h => ⟨hrle _ _ h.1, h.2⟩⟩, by omega, ?_, ?_, ?_, hos, htape, hout⟩
  · intro j oj hj
    rw [St.get_new, St.next_del] at hj
    by_cases e : j = s.next
    · rw [if_pos e] at hj; cases hj; subst e; exact ho
    · rw [if_neg e, St.get_del] at hj
      by_cases e' : j = i
      · rw [if_pos e'] at hj; cases hj
      · rw [if_neg e'] at hj
        exact (h.objs j oj hj).mono hrle fun Lj hLj => hk _ (h.sep j i oj o Lj L e' hj hi (.inr hro) hLj hL)
  · intro j k oj ok Lj Lk hjk hj hk' hor hLj hLk
    rw [St.get_new, St.next_del] at hj hk'
    simp only [Rho.put_eq] at hLj hLk
    by_cases e : j = s.next
    · have e' : k ≠ s.next := fun h => hjk (e.trans h.symm)
      rw [if_pos e] at hj hLj; rw [if_neg e'] at hk' hLk
      cases hLj
      rw [St.get_del] at hk'
      by_cases e2 : k = i
      · rw [if_pos e2] at hk'; cases hk'
      · rw [if_neg e2] at hk'
        rw [hL']
        exact h.sep i k o ok L Lk (fun h => e2 h.symm) hi hk' (.inl hro) hL hLk
    · rw [if_neg e] at hj hLj
      rw [St.get_del] at hj
      by_cases e2 : j = i
      · rw [if_pos e2] at hj; cases hj
      · rw [if_neg e2] at hj
        by_cases e' : k = s.next
        · rw [if_pos e'] at hk' hLk
          cases hLk
          rw [hL']
          exact h.sep j i oj o Lj L e2 hj hi (.inr hro) hLj hL
        · rw [if_neg e'] at hk' hLk
          rw [St.get_del] at hk'
          by_cases e3 : k = i
          · rw [if_pos e3] at hk'; cases hk'
          · rw [if_neg e3] at hk'
            exact h.sep j k oj ok Lj Lk hjk hj hk' hor hLj hLk
  · intro j hj
    have hj' : Ns (s.new o') j := hj
    rw [Rho.put_ne _ _ (hj'.new_ne h.pos)]; exact h.fresh j hj'.new
  · intro b hb hn
    exact hk b fun e => hn ⟨i, o, L, hi, hro, hL, e.symm⟩
  · rintro b hb ⟨j, oj, Lj, hj, hr, hLj, rfl⟩
    rw [Rho.put_eq] at hLj
    rw [St.get_new, St.next_del] at hj
    by_cases e : j = s.next
    · rw [if_pos e] at hLj; cases hLj
      exact ⟨i, o, L, hi, hro, hL, hL'.symm⟩
    · rw [if_neg e] at hj hLj
      rw [St.get_del] at hj
      split at hj
      · cases hj
      · exact ⟨j, oj, Lj, hj, hr, hLj, rfl⟩
  · intro j oj hj hr
    rw [St.get_new, St.next_del] at hj
    split at hj
    · cases hj; rw [hro'] at hr; cases hr
    · rw [St.get_del] at hj
      split at hj
      · cases hj
      · exact hj

end
end Go.Proofs.Abs

/- The abstract machine: what an operation does. -/
namespace Go.Proofs.Abs
open Go

noncomputable section

/-- The kinds of one-cell values that can be compared. -/
inductive LK
  | int (k : IntKind) | str | bool
  deriving DecidableEq

def LK.has : LK → Value → Bool
  | .int k, .int k' _ => k == k'
  | .str, .string _ => true
  | .bool, .bool _ => true
  | _, _ => false

def hasAll : List LK → List Value → Bool
  | [], [] => true
  | k :: ks, v :: vs => k.has v && hasAll ks vs
  | _, _ => false

def eqLeaf : Value → Value → Bool
  | .int _ a, .int _ b => a == b
  | .string a, .string b => a == b
  | .bool a, .bool b => a == b
  | _, _ => false

def eqCells : List Value → List Value → Bool
  | [], [] => true
  | x :: xs, y :: ys => eqLeaf x y && eqCells xs ys
  | _, _ => false

/-- What is known of a program's types and functions. -/
structure Tab where
  ng : Nat
  und : TypeId → Option TypeDesc
  inf : TypeId → Option (Value × Nat × Nat)
  fn : FuncId → Option Func
  eqk : TypeId → Option (List LK)

structure Tab.Ok (T : Tab) (P : Program) : Prop where
  mixed : P.follows .mixedOrders = true
  ng : T.ng ≤ P.globals.size
  und : ∀ t d, T.und t = some d → P.underlying t = some d
  inf : ∀ t z s b, T.inf t = some (z, s, b) → ∃ i, P.info? t = some i ∧ i.zero = some z ∧ i.size = s ∧ i.bytes = b ∧ plainV z = true ∧ z.cells.size = s
  fn : ∀ f x, T.fn f = some x → P.funcs[f]? = some x ∧ x.body.isSome = true ∧ (x.name == "runtime.NumGoroutine") = false
  eqk : ∀ t ks, T.eqk t = some ks → P.eqGuardType P.depth t = false ∧ ∀ (w : World) (xs ys : Array Value), hasAll ks xs.toList = true → hasAll ks ys.toList = true → (Op.equal t (.agg xs) (.agg ys)).run P w = .ok (eqCells xs.toList ys.toList) w

/-- The value of an operand. -/
def ev (T : Tab) (rg : List Value) : Operand → Option Value
  | .tmp t => some (rg.getD t undef)
  | .const v => if plainV v then some v else none
  | .global g => if g < T.ng then some (.pointer (some ⟨g, 0, none⟩)) else none
  | .func f => some (.func (.func f) #[] #[])

def semPure {α : Type} : Sem α → Option α
  | .pure a => some a
  | _ => none

def oneAll : List Value → Bool
  | [] => true
  | v :: vs => v.oneCell' && oneAll vs

def writeAt (cs : List Value) (o : Nat) : List Value → List Value
  | [] => cs
  | v :: vs => writeAt (cs.set o v) (o + 1) vs

def isAggT : TypeDesc → Bool
  | .struct _ | .array _ _ => true
  | _ => false

def readCells (T : Tab) (t : TypeId) (cs : List Value) (o : Nat) : Option Value :=
  match T.und t with
  | none => none
  | some d =>
    if isAggT d then
      match T.inf t with
      | some (_, n, _) => if o + n ≤ cs.length then some (.agg ((cs.drop o).take n).toArray) else none
      | none => none
    else cs[o]?

def loadA (T : Tab) (t : TypeId) (s : St) : Value → Option Value
  | .pointer (some ⟨i, o, none⟩) =>
    match s.mem.get i with
    | some (.cells cs _ _) => readCells T t cs o
    | _ => none
  | _ => none

def storeA (T : Tab) (t : TypeId) (s : St) (p v : Value) : Option St :=
  match p with
  | .pointer (some ⟨i, o, none⟩) =>
    match s.mem.get i, T.inf t with
    | some (.cells cs e false), some (_, n, _) =>
      if v.cells.size = n ∧ o + n ≤ cs.length ∧ oneAll v.cells.toList = true then some (s.put i (.cells (writeAt cs o v.cells.toList) e false)) else none
    | _, _ => none
  | _ => none

def evParts (e : Operand → Option Value) : List (Nat × Operand) → Option (List (Nat × Value))
  | [] => some []
  | (i, x) :: xs =>
    match e x, evParts e xs with
    | some v, some vs => some ((i, v) :: vs)
    | _, _ => none

def evs (e : Operand → Option Value) : List Operand → Option (List Value)
  | [] => some []
  | x :: xs =>
    match e x, evs e xs with
    | some v, some vs => some (v :: vs)
    | _, _ => none

def placesOf (T : Tab) : List Field → Option (List (Nat × Nat))
  | [] => some []
  | f :: fs =>
    match T.inf f.type, placesOf T fs with
    | some (_, n, _), some ps => some ((f.offset, n) :: ps)
    | _, _ => none

/-- Cells with parts laid in. -/
def fillA (place : Nat → Option (Nat × Nat)) (cells : List Value) : List (Nat × Value) → Option (List Value)
  | [] => some cells
  | (i, v) :: rest =>
    match place i with
    | none => none
    | some (off, size) => if v.cells.size = size ∧ off + size ≤ cells.length then fillA place (writeAt cells off v.cells.toList) rest else none

def rep (n : Nat) (z : List Value) : List Value :=
  match n with
  | 0 => []
  | n + 1 => z ++ rep n z

def bytesOf (s : ByteArray) : List Value := s.data.toList.map fun b => .int .u8 b.toNat

/-- The elements of what is appended, or copied. -/
def elemsA (size n : Nat) (s : St) : Value → Option (List Value)
  | .slice none 0 0 => some []
  | .slice (some ⟨i, o, none⟩) m _ =>
    match s.mem.get i with
    | some (.cells cs _ _) => if n ≤ m ∧ o + n * size ≤ cs.length then some ((cs.drop o).take (n * size)) else if n = 0 then some [] else none
    | _ => if n = 0 then some [] else none
  | .string b => if size = 1 ∧ n ≤ b.size then some ((bytesOf b).take n) else none
  | _ => none

def lenA : Value → Option Nat
  | .slice _ n _ => some n
  | .string s => some s.size
  | _ => none

def textT : TypeDesc → Bool
  | .string | .slice _ => true
  | _ => false

def appendA (T : Tab) (t t2 : TypeId) (v x : Value) (s : St) : Option (Value × St) :=
  match T.und t with
  | some (.slice e) =>
    match T.und t2, T.inf e, lenA x with
    | some d2, some (_, size, bytes), some n =>
      if textT d2 = false then none else
      match elemsA size n s x with
      | none => none
      | some xs =>
        if n = 0 then
          match v with
          | .slice none 0 0 => some (v, s)
          | .slice (some ⟨_, _, none⟩) _ _ => some (v, s)
          | _ => none
        else if oneAll xs = false ∨ size = 0 ∨ bytes = 0 then none else
        match v with
        | .slice none 0 0 => if n * bytes ≤ 140737488355328 then some (.slice (some ⟨s.next, 0, none⟩) n n, s.new (.cells xs e false)) else none
        | .slice (some ⟨i, o, none⟩) m m' =>
          match s.mem.get i with
          | some (.cells cs e' false) =>
            if m' = m ∧ e' = e ∧ o + m * size ≤ cs.length ∧ (m + n) * bytes ≤ 140737488355328 then
              some (.slice (some ⟨s.next, 0, none⟩) (m + n) (m + n), (s.del i).new (.cells ((cs.drop o).take (m * size) ++ xs) e false))
            else none
          | _ => none
        | _ => none
    | _, _, _ => none
  | _ => none

def keyEq : Value → Value → Option Bool
  | .int k a, .int k' b => if k = k' then some (a == b) else none
  | .string a, .string b => some (a == b)
  | _, _ => none

def keyKind : TypeDesc → Value → Bool
  | .int k, .int k' _ => k == k'
  | .string, .string _ => true
  | _, _ => false

def findA (k : Value) : List (Value × Value) → Nat → Option (Option (Nat × Value))
  | [], _ => some none
  | e :: es, i =>
    match keyEq k e.1 with
    | some true => some (some (i, e.2))
    | some false => findA k es (i + 1)
    | none => none

def lookupA (T : Tab) (t : TypeId) (m k : Value) (ok : Bool) (s : St) : Option (Value × St) :=
  match T.und t with
  | some (.map kt et) =>
    match T.und kt, T.inf et with
    | some kd, some (z, _, _) =>
      if keyKind kd k = false then none else
      let go (r : Option (Option (Nat × Value))) : Option (Value × St) :=
        match r with
        | some (some (_, v)) => some (if ok then .tuple #[v, .bool true] else v, s)
        | some none => some (if ok then .tuple #[z, .bool false] else z, s)
        | none => none
      match m with
      | .map none => go (some none)
      | .map (some i) =>
        match s.mem.get i with
        | some (.map es) => go (findA k es 0)
        | _ => none
      | _ => none
    | _, _ => none
  | _ => none

def mapSetA (T : Tab) (t : TypeId) (m k v : Value) (s : St) : Option St :=
  match T.und t with
  | some (.map kt _) =>
    match T.und kt, m with
    | some kd, .map (some i) =>
      if keyKind kd k = false then none else
      match s.mem.get i with
      | some (.map es) =>
        match findA k es 0 with
        | some (some (j, _)) => some (s.put i (.map (es.set j (k, v))))
        | some none => some (s.put i (.map (es ++ [(k, v)])))
        | none => none
      | _ => none
    | _, _ => none
  | _ => none

def mapEntryA (T : Tab) (t : TypeId) (m k : Value) (s : St) : Option (Value × St) :=
  match T.und t with
  | some (.map kt et) =>
    match T.und kt, T.inf et, m with
    | some kd, some (z, _, _), .map (some i) =>
      if keyKind kd k = false then none else
      match s.mem.get i with
      | some (.map es) =>
        match findA k es 0 with
        | some (some (j, v)) => some (.tuple #[v, .int .i64 j], s.put i (.map (es.set j (k, v))))
        | some none => some (.tuple #[z, .int .i64 es.length], s.put i (.map (es ++ [(k, z)])))
        | none => none
      | _ => none
    | _, _, _ => none
  | _ => none

def entryStoreA (m st v : Value) (s : St) : Option St :=
  match m, st with
  | .map (some i), .int .i64 j =>
    match s.mem.get i with
    | some (.map es) => if 0 ≤ j ∧ j < es.length then some (s.put i (.map (es.set j.toNat ((es.getD j.toNat (undef, undef)).1, v)))) else none
    | _ => none
  | _, _ => none

def boundA (x : Option Value) (d y : Nat) : Option Nat :=
  match x with
  | none => some d
  | some (.int _ i) => if 0 ≤ i ∧ i ≤ y then some i.toNat else none
  | some _ => none

/-- s[l:h:m], m at most the length. -/
def sliceA (T : Tab) (t : TypeId) (x : Value) (lo hi mx : Option Value) (s : St) : Option Value :=
  match T.und t, x with
  | some .string, .string b =>
    if mx.isSome then none else
    match boundA hi b.size b.size with
    | none => none
    | some h =>
      match boundA lo 0 h with
      | none => none
      | some l => some (.string (b.extract l h))
  | some (.slice e), .slice none 0 0 =>
    match boundA mx 0 0, boundA hi 0 0, boundA lo 0 0, T.inf e with
    | some _, some _, some _, some _ => if mx.isSome && hi.isNone then none else some (.slice none 0 0)
    | _, _, _, _ => none
  | some (.slice e), .slice (some ⟨i, o, none⟩) n n' =>
    if n' ≠ n ∨ (mx.isSome && hi.isNone) = true then none else
    match boundA mx n n with
    | none => none
    | some m =>
      match boundA hi n m with
      | none => none
      | some h =>
        match boundA lo 0 h, T.inf e, s.mem.get i with
        | some l, some (_, size, _), some (.cells cs e' ro) =>
          if (ro = true ∨ e' = e) ∧ o + n * size ≤ cs.length then some (.slice (some ⟨i, o + l * size, none⟩) (h - l) (h - l)) else none
        | _, _, _ => none
  | some (.array n e), .pointer (some ⟨i, o, none⟩) =>
    if mx.isSome then none else
    match boundA hi n n with
    | none => none
    | some h =>
      match boundA lo 0 h, T.inf e, s.mem.get i with
      | some l, some (_, size, _), some (.cells cs _ true) =>
        if o + n * size ≤ cs.length then some (.slice (some ⟨i, o + l * size, none⟩) (h - l) (h - l)) else none
      | _, _, _ => none
  | _, _ => none

def indexAddrA (T : Tab) (t : TypeId) (x ix : Value) : Option Value :=
  match ix, T.und t, x with
  | .int _ j, some (.array n e), .pointer (some ⟨i, o, none⟩) =>
    match T.inf e with
    | some (_, size, _) => if 0 ≤ j ∧ j < n then some (.pointer (some ⟨i, o + j.toNat * size, none⟩)) else none
    | none => none
  | .int _ j, some (.slice e), .slice (some ⟨i, o, none⟩) n n' =>
    match T.inf e with
    | some (_, size, _) => if n' = n ∧ 0 ≤ j ∧ j < n then some (.pointer (some ⟨i, o + j.toNat * size, none⟩)) else none
    | none => none
  | _, _, _ => none

def fieldAddrA (T : Tab) (t : TypeId) (x : Value) (k : Nat) : Option Value :=
  match T.und t, x with
  | some (.struct fs), .pointer (some ⟨i, o, none⟩) =>
    match fs[k]? with
    | some f =>
      match T.inf f.type with
      | some (_, n, _) => if n = 0 then none else some (.pointer (some ⟨i, o + f.offset, none⟩))
      | none => none
    | none => none
  | _, _ => none

def indexA (T : Tab) (t : TypeId) (x ix : Value) : Option Value :=
  match ix, T.und t, x with
  | .int _ j, some (.array n e), .agg cs =>
    match T.inf e with
    | some (_, size, _) => if 0 ≤ j ∧ j < n then readCells T e cs.toList (j.toNat * size) else none
    | none => none
  | .int _ j, some .string, .string b => if 0 ≤ j then (b[j.toNat]?).map fun u => .int .u8 u.toNat else none
  | _, _, _ => none

def fieldA (T : Tab) (t : TypeId) (x : Value) (k : Nat) : Option Value :=
  match T.und t, x with
  | some (.struct fs), .agg cs =>
    match fs[k]? with
    | some f => readCells T f.type cs.toList f.offset
    | none => none
  | _, _ => none

def buildA (T : Tab) (t : TypeId) (parts : List (Nat × Value)) : Option Value :=
  match T.und t, T.inf t with
  | some (.struct fs), some (z, _, _) =>
    match placesOf T fs.toList with
    | some ps => (fillA (ps[·]?) z.cells.toList parts).map fun cs => .agg cs.toArray
    | none => none
  | some (.array _ e), some (z, _, _) =>
    match T.inf e with
    | some (_, size, _) => (fillA (fun i => some (i * size, size)) z.cells.toList parts).map fun cs => .agg cs.toArray
    | none => none
  | _, _ => none

def buildSliceA (T : Tab) (t : TypeId) (len : Nat) (parts : List (Nat × Value)) (s : St) : Option (Value × St) :=
  match T.und t with
  | some (.slice e) =>
    match T.inf e with
    | some (z, size, _) =>
      if len * size ≤ 16777216 ∧ 0 < size then
        match fillA (fun i => some (i * size, size)) (rep len z.cells.toList) parts with
        | some cs => some (.slice (some ⟨s.next, 0, none⟩) len len, s.new (.cells cs e false))
        | none => none
      else none
    | none => none
  | _ => none

def makeSliceA (T : Tab) (t : TypeId) (l c : Value) (s : St) : Option (Value × St) :=
  match T.und t, l, c with
  | some (.slice e), .int .i64 n, .int .i64 m =>
    match T.inf e with
    | some (z, size, bytes) =>
      if n = m ∧ 0 ≤ n ∧ n * bytes ≤ 140737488355328 ∧ n ≤ 140737488355328 ∧ 0 < size then
        some (.slice (some ⟨s.next, 0, none⟩) n.toNat n.toNat, s.new (.cells (rep n.toNat z.cells.toList) e false))
      else none
    | none => none
  | _, _, _ => none

def copyA (T : Tab) (t : TypeId) (d x : Value) (s : St) : Option (Value × St) :=
  match T.und t, d, lenA x with
  | some (.slice e), .slice none 0 0, some _ => match T.inf e with
    | some _ => (elemsA 0 0 s x).map fun _ => (.int .i64 0, s)
    | none => none
  | some (.slice e), .slice (some ⟨i, o, none⟩) m m', some k =>
    match T.inf e, s.mem.get i with
    | some (_, size, _), some (.cells cs e' false) =>
      let n := Nat.min k m
      match elemsA size n s x with
      | some xs =>
        if m' = m ∧ e' = e ∧ o + n * size ≤ cs.length ∧ oneAll xs = true ∧ xs.length = n * size then some (.int .i64 n, s.put i (.cells (writeAt cs o xs) e false)) else none
      | none => none
    | _, _ => none
  | _, _, _ => none

def isNilV : Value → Option Bool
  | .pointer none => some true
  | .pointer (some ⟨_, _, none⟩) => some false
  | .slice none 0 0 => some true
  | .slice (some ⟨_, _, none⟩) _ _ => some false
  | .map none => some true
  | .map (some _) => some false
  | .nilFunc => some true
  | .func _ _ _ => some false
  | _ => none

def nilT (T : Tab) (t : TypeId) (x : Value) : Bool :=
  match T.und t, x with
  | some (.pointer _), .pointer none => true
  | some (.slice _), .slice none 0 0 => true
  | some (.map _ _), .map none => true
  | some (.func _ _ _), .nilFunc => true
  | _, _ => false

def sameSort : Value → Value → Bool
  | .pointer _, .pointer _ | .slice _ _ _, .slice _ _ _ | .map _, .map _ => true
  | .nilFunc, .nilFunc | .nilFunc, .func _ _ _ | .func _ _ _, .nilFunc => true
  | _, _ => false

def eqA (T : Tab) (t : TypeId) (x y : Value) : Option Bool :=
  match x, y with
  | .bool a, .bool b => if T.und t matches some .bool then some (a == b) else none
  | .agg xs, .agg ys =>
    match T.eqk t with
    | some ks => if hasAll ks xs.toList = true ∧ hasAll ks ys.toList = true then some (eqCells xs.toList ys.toList) else none
    | none => none
  | x, y =>
    if sameSort x y = false then none
    else if nilT T t x then isNilV y else if nilT T t y then isNilV x else none

def binA (T : Tab) (op : BinOp) (t : TypeId) (x y : Value) : Option Value :=
  match x, y with
  | .int k a, .int k' b =>
    match semPure (binOp op t (.int k a) (.int k' b)) with
    | some v => if plainV v then some v else none
    | none => none
  | .string a, .string b =>
    match op with
    | .add => if a.size + b.size ≤ 9223372036854775807 then some (.string (a ++ b)) else none
    | .eql => some (.bool (a == b))
    | .neq => some (.bool (!(a == b)))
    | _ => none
  | x, y =>
    match op with
    | .eql => (eqA T t x y).map .bool
    | .neq => (eqA T t x y).map fun b => .bool (!b)
    | _ => none

def unA (op : UnOp) (x : Value) : Option Value :=
  match op, x with
  | .not, .bool b => some (.bool (!b))
  | .neg, .int k n => some (.int k (k.wrap (0 - n)))
  | _, _ => none

def convA (T : Tab) (src dst : TypeId) (x : Value) (s : St) : Option Value :=
  match T.und src, T.und dst, x with
  | some (.int _), some (.int k), .int _ n => some (.int k (k.wrap n))
  | some .string, some .string, .string b => some (.string b)
  | some (.slice e), some .string, .slice none 0 0 => if T.und e matches some (.int .u8) then some (.string .empty) else none
  | some (.slice e), some .string, .slice (some ⟨i, o, none⟩) n n' =>
    match T.und e, s.mem.get i with
    | some (.int .u8), some (.cells cs _ _) =>
      if n' = n ∧ o + n ≤ cs.length ∧ hasAll (List.replicate n (.int .u8)) ((cs.drop o).take n) = true then
        some (.string ⟨(((cs.drop o).take n).map fun v => match v with | .int _ b => UInt8.ofNat b.toNat | _ => 0).toArray⟩)
      else none
    | _, _ => none
  | _, _, _ => none

def minMax (mx : Bool) : Value → Value → Option Value
  | .int k x, .int k' y => if k = k' then some (.int k (if mx then (if y > x then y else x) else (if y < x then y else x))) else none
  | _, _ => none

def builtinA (T : Tab) (b : Builtin) (ts : List TypeId) (vs : List Value) (s : St) : Option (Value × St) :=
  match b, ts, vs with
  | .append, [t, t2], [v, x] => appendA T t t2 v x s
  | .copy, t :: _, [d, x] => copyA T t d x s
  | .len, t :: _, [x] =>
    match T.und t, x with
    | some .string, .string b => some (.int .i64 b.size, s)
    | some (.slice _), .slice _ n _ => some (.int .i64 n, s)
    | some (.array n _), _ => some (.int .i64 n, s)
    | _, _ => none
  | .min, _, [x, y] => (minMax false x y).map (·, s)
  | .max, _, [x, y] => (minMax true x y).map (·, s)
  | _, _, _ => none

/-- What an operation that calls no Go function does. -/
def opA (T : Tab) (e : Operand → Option Value) (o : Oper) (s : St) : Option (Value × St) :=
  match o.op with
  | .move x | .assign x => (e x).map (·, s)
  | .pick c a b =>
    match e c with
    | some (.bool t) => (if t then e a else e b).map (·, s)
    | _ => none
  | .alloc t =>
    match T.inf t with
    | some (z, _, _) => some (.pointer (some ⟨s.next, 0, none⟩), s.new (.cells z.cells.toList t false))
    | none => none
  | .box t x =>
    match e x, T.inf t with
    | some v, some _ => some (.pointer (some ⟨s.next, 0, none⟩), s.new (.cells v.cells.toList t false))
    | _, _ => none
  | .build t ps =>
    match evParts e ps.toList with
    | some vs => (buildA T t vs).map (·, s)
    | none => none
  | .buildSlice t n ps =>
    match evParts e ps.toList with
    | some vs => buildSliceA T t n vs s
    | none => none
  | .load t a =>
    match e a with
    | some p => (loadA T t s p).map (·, s)
    | none => none
  | .store t a x =>
    match e a, e x with
    | some p, some v => (storeA T t s p v).map (undef, ·)
    | _, _ => none
  | .nilCheck x =>
    match e x with
    | some (.pointer (some ⟨i, o, none⟩)) => some (.pointer (some ⟨i, o, none⟩), s)
    | some (.func (.func f) a b) => some (.func (.func f) a b, s)
    | _ => none
  | .binOp op t x y _ =>
    match e x, e y with
    | some v, some u => (binA T op t v u).map (·, s)
    | _, _ => none
  | .unOp op _ x =>
    match e x with
    | some v => (unA op v).map (·, s)
    | none => none
  | .convert a b x =>
    match e x with
    | some v => (convA T a b v s).map (·, s)
    | none => none
  | .makeFunc fn first cap =>
    match evs e first.toList, evs e cap.toList with
    | some vs, some us => some (.func fn vs.toArray us.toArray, s)
    | _, _ => none
  | .makeMap _ none => some (.map (some s.next), s.new (.map []))
  | .makeSlice t l c =>
    match e l, e c with
    | some v, some u => makeSliceA T t v u s
    | _, _ => none
  | .slice t x lo hi mx =>
    match e x, evs e lo.toList, evs e hi.toList, evs e mx.toList with
    | some v, some l, some h, some m => (sliceA T t v l.head? h.head? m.head? s).map (·, s)
    | _, _, _, _ => none
  | .fieldAddr t x k =>
    match e x with
    | some v => (fieldAddrA T t v k).map (·, s)
    | none => none
  | .field t x k =>
    match e x with
    | some v => (fieldA T t v k).map (·, s)
    | none => none
  | .indexAddr t x ix =>
    match e x, e ix with
    | some v, some j => (indexAddrA T t v j).map (·, s)
    | _, _ => none
  | .index t x ix =>
    match e x, e ix with
    | some v, some j => (indexA T t v j).map (·, s)
    | _, _ => none
  | .lookup t x k ok =>
    match e x, e k with
    | some m, some v => lookupA T t m v ok s
    | _, _ => none
  | .mapUpdate t m k x | .insert t m k x =>
    match e m, e k, e x with
    | some m, some k, some v => (mapSetA T t m k v s).map (undef, ·)
    | _, _, _ => none
  | .mapEntry t m k =>
    match e m, e k with
    | some m, some k => mapEntryA T t m k s
    | _, _ => none
  | .entryStore _ m st x =>
    match e m, e st, e x with
    | some m, some st, some v => (entryStoreA m st v s).map (undef, ·)
    | _, _, _ => none
  | .range t x =>
    match e x, T.und t with
    | some (.string b), some .string => some (.pointer (some ⟨s.next, 0, none⟩), s.new (.iter b 0))
    | _, _ => none
  | .next it true =>
    match e it with
    | some (.pointer (some ⟨i, 0, none⟩)) =>
      match s.mem.get i with
      | some (.iter b pos) =>
        if pos < b.size then
          some (.tuple #[.bool true, .int .i64 pos, .int .i32 (Utf8.decode b pos).1], s.put i (.iter b (pos + (Utf8.decode b pos).2)))
        else some (.tuple #[.bool false], s)
      | _ => none
    | _ => none
  | .extract x k =>
    match e x with
    | some (.tuple vs) => (vs[k]?).map (·, s)
    | _ => none
  | .call c =>
    match c.callee with
    | .builtin b =>
      match evs e c.args.toList with
      | some vs => builtinA T b c.argTypes.toList vs s
      | none => none
    | _ => none
  | _ => none

/-- Which Go function an operation calls, and with what. -/
def callA (e : Operand → Option Value) (o : Oper) : Option (FuncId × List Value) :=
  match o.op with
  | .call c =>
    match c.callee with
    | .value f =>
      match e f, evs e c.args.toList with
      | some (.func (.func f) first cap), some vs => some (f, first.toList ++ vs ++ cap.toList)
      | _, _ => none
    | _ => none
  | _ => none

end

end Go.Proofs.Abs

/- The abstract machine: a run by computation. -/
namespace Go.Proofs.Abs
open Go

noncomputable section

abbrev Regs := List Value

inductive AExit
  | normal
  | exit (id : Nat)
  | ret
  deriving DecidableEq

def yieldedA (ops : Array Oper) (rg : Regs) (j : Nat) : Option Bool :=
  match ((ops[j]?).bind (·.dst)).bind (rg[·]?) with
  | some (.bool b) => some b
  | _ => none

def putA (rg : Regs) (d : Option Tmp) (v : Value) : Regs :=
  match d with
  | some d => rg.set d v
  | none => rg

def resultA (T : Tab) (rg : Regs) (s : St) : List ResultVar → Option (List Value)
  | [] => some []
  | .tmp t :: rs => (resultA T rg s rs).map (rg.getD t undef :: ·)
  | .cell a t :: rs =>
    match loadA T t s (rg.getD a undef), resultA T rg s rs with
    | some v, some vs => some (v :: vs)
    | _, _ => none

def tupleA : List Value → Value
  | [v] => v
  | vs => .tuple vs.toArray

/-! ### The objects that a value names -/

def idsV : Value → List Nat
  | .pointer (some a) => [a.block]
  | .slice (some a) _ _ => [a.block]
  | .map (some i) => [i]
  | .func _ a b => idsL a.toList ++ idsL b.toList
  | .agg a => idsL a.toList
  | .tuple a => idsL a.toList
  | _ => []
where
  idsL : List Value → List Nat
    | [] => []
    | v :: vs => idsV v ++ idsL vs

def evIds (e : Operand → Option Value) (x : Operand) : List Nat :=
  match e x with
  | some v => idsV v
  | none => []

/-- The objects that an operation looks at. -/
def opIds (e : Operand → Option Value) (o : Oper) : List Nat :=
  match o.op with
  | .load _ x | .store _ x _ | .convert _ _ x | .slice _ x _ _ _ | .lookup _ x _ _ | .mapUpdate _ x _ _ | .insert _ x _ _ | .mapEntry _ x _ | .entryStore _ x _ _ | .next x _ => evIds e x
  | .call c => c.args.toList.flatMap (evIds e)
  | _ => []

/-- The objects that it may write. -/
def opWrites (e : Operand → Option Value) (o : Oper) : List Nat :=
  match o.op with
  | .store _ x _ | .mapUpdate _ x _ _ | .insert _ x _ _ | .mapEntry _ x _ | .entryStore _ x _ _ | .next x _ => evIds e x
  | .call c => match c.callee, c.args.toList with
    | .builtin .append, x :: _ => evIds e x
    | .builtin .copy, x :: _ => evIds e x
    | _, _ => []
  | _ => []

def restrict (m : Mem) : List Nat → Mem
  | [] => .nil
  | i :: is => (restrict m is).put i (m.get i)

def hide (m : Mem) : List Nat → Mem
  | [] => m
  | i :: is => (hide m is).put i none

def overlay (m m' : Mem) : List Nat → Mem
  | [] => m
  | i :: is => (overlay m m' is).put i (m'.get i)

/-- The operations that come before each, in every order: as the binary signs of a number. -/
def predMask (ps : List Nat) (n : Nat) : List Edge → Nat
  | [] => 0
  | e :: es => if Region.binds .any e && decide (e.on < n) then Nat.lor (Nat.lor (Nat.shiftLeft 1 e.on) (ps.getD e.on 0)) (predMask ps n es) else predMask ps n es

def predsOf (ops : Array Oper) : Nat → List Nat
  | 0 => []
  | n + 1 =>
    let ps := predsOf ops n
    ps ++ [match ops[n]? with
      | none => 0
      | some o => predMask ps n o.after.toList]

def before (ps : List Nat) (j i : Nat) : Bool := !Nat.beq (Nat.land (Nat.shiftRight (ps.getD i 0) j) 1) 0

/-- The new object's number, if there is one. -/
def newLog (a b : Nat) : List Nat := if b = a then [] else [a]

structure Rec where
  log : List Nat
  ids : Option (List Nat)
  m : Mem

def Rec.sees (r : Rec) (i : Nat) : Bool :=
  match r.ids with
  | some l => l.contains i
  | none => (r.m.get i).isSome

abbrev Oracle := FuncId → List Value → St → Option (Value × St × List Nat)

section
variable (T : Tab) (call : Oracle)

def execOps (ops : Array Oper) : List Nat → Regs → St → List Nat → Option (Regs × St × List Nat)
  | [], rg, s, l => some (rg, s, l)
  | i :: rest, rg, s, l =>
    match ops[i]? with
    | none => none
    | some o =>
      if Region.wanted o (yieldedA ops rg) then
        match callA (ev T rg) o with
        | some (f, args) =>
          match call f args s with
          | some (v, s', l') => execOps ops rest (putA rg o.dst v) s' (l' ++ l)
          | none => none
        | none =>
          match opA T (ev T rg) o s with
          | some (v, s') =>
            execOps ops rest (putA rg o.dst v) s' (newLog s.next s'.next ++ opWrites (ev T rg) o ++ l)
          | none => none
      else execOps ops rest (putA rg o.dst undef) s l

def execDraw (ops : Array Oper) (ps : List Nat) (s0 : St) : Nat → Nat → List Rec → Regs → Mem → Nat → List Nat → Option (Regs × St × List Nat)
  | 0, _, _, rg, m, k, l => some (rg, { mem := m, next := s0.next + s0.step * ((k + s0.step - 1) / s0.step), step := s0.step }, l)
  | fuel + 1, i, recs, rg, m, k, l =>
    match ops[i]? with
    | none => none
    | some o =>
      let next := s0.next + s0.step * i
      let step := s0.step * ops.size
      if Region.wanted o (yieldedA ops rg) then
        let un := recs.zipIdx.filter fun (_, j) => !before ps j i
        match callA (ev T rg) o with
        | some (f, args) =>
          let mi := hide m (un.flatMap fun (r, _) => r.log)
          match call f args { mem := mi, next, step } with
          | some (v, s', l') =>
            if un.all fun (r, _) => l'.all fun id => !r.sees id then
              execDraw ops ps s0 fuel (i + 1) (recs ++ [{ log := l', ids := none, m := mi }]) (putA rg o.dst v) (overlay m s'.mem l') (max k (s'.next - s0.next)) (l' ++ l)
            else none
          | none => none
        | none =>
          let ids := opIds (ev T rg) o
          match opA T (ev T rg) o { mem := restrict m ids, next, step } with
          | some (v, s') =>
            let l' := newLog next s'.next ++ opWrites (ev T rg) o
            if un.all fun (r, _) => (l'.all fun id => !r.sees id) && (r.log.all fun id => !ids.contains id) then
              execDraw ops ps s0 fuel (i + 1) (recs ++ [{ log := l', ids := some ids, m := .nil }]) (putA rg o.dst v) (overlay m s'.mem l') (max k (s'.next - s0.next)) (l' ++ l)
            else none
          | none => none
      else execDraw ops ps s0 fuel (i + 1) (recs ++ [{ log := [], ids := some [], m := .nil }]) (putA rg o.dst undef) m (max k (s0.step * i)) l

/-- Does no register have two writers? -/
def uniqDst : List Oper → Nat → Bool
  | [], _ => true
  | o :: os, m =>
    match o.dst with
    | none => uniqDst os m
    | some d => Nat.beq (Nat.land (Nat.shiftRight m d) 1) 0 && uniqDst os (Nat.lor m (Nat.shiftLeft 1 d))

/-- Which operation writes a register. -/
def findDst (t : Nat) : List Oper → Nat → Option Nat
  | [], _ => none
  | o :: os, i =>
    match o.dst with
    | none => findDst t os (i + 1)
    | some d => if Nat.beq d t then some i else findDst t os (i + 1)

def readsOk (ops : Array Oper) (ps : List Nat) : List Oper → Nat → Bool
  | [], _ => true
  | o :: os, i => ((o.looksAt ops).all fun t => match findDst t ops.toList 0 with
    | none => true
    | some j => Nat.beq i j || before ps j i || before ps i j) && readsOk ops ps os (i + 1)

/-- Do operations that no order is given for not touch each other's registers? -/
def drawRegs (ops : Array Oper) (ps : List Nat) : Bool := uniqDst ops.toList 0 && readsOk ops ps ops.toList 0

/-- Does an operation wait for earlier ones alone? -/
def edgesOk (ops : Array Oper) : Bool :=
  (List.range ops.size).all fun i => match ops[i]? with
    | some o => o.after.toList.all fun e => !Region.binds .any e || decide (e.on < i)
    | none => false

def loopN (body : Regs → St → List Nat → Option (AExit × Regs × St × List Nat)) : Nat → Regs → St → List Nat → Option (AExit × Regs × St × List Nat)
  | 0, _, _, _ => none
  | n + 1, rg, s, l =>
    match body rg s l with
    | some (.normal, rg', s', l') => loopN body n rg' s' l'
    | r => r

def execCode (n : Nat) : Code → Regs → St → List Nat → Option (AExit × Regs × St × List Nat)
  | .skip, rg, s, l => some (.normal, rg, s, l)
  | .ret, rg, s, l => some (.ret, rg, s, l)
  | .exit id, rg, s, l => some (.exit id, rg, s, l)
  | .seq a b, rg, s, l =>
    match execCode n a rg s l with
    | some (.normal, rg', s', l') => execCode n b rg' s' l'
    | r => r
  | .cond c a b, rg, s, l =>
    match ev T rg c with
    | some (.bool true) => execCode n a rg s l
    | some (.bool false) => execCode n b rg s l
    | _ => none
  | .block id c, rg, s, l =>
    match execCode n c rg s l with
    | some (.exit id', rg', s', l') => if id' = id then some (.normal, rg', s', l') else some (.exit id', rg', s', l')
    | r => r
  | .loop c, rg, s, l => loopN (execCode n c) n rg s l
  | .region _ ops false, rg, s, l =>
    match execOps T call ops (List.range ops.size) rg s l with
    | some (rg', s', l') => some (.normal, rg', s', l')
    | none => none
  | .region _ ops true, rg, s, l =>
    let ps := predsOf ops ops.size
    if drawRegs ops ps && edgesOk ops then
      match execDraw T call ops ps s ops.size 0 [] rg s.mem 0 l with
      | some (rg', s', l') => some (.normal, rg', s', l')
      | none => none
    else none
  | _, _, _, _ => none

end

/-- A call whose answer is plain, and that wrote nothing that was there, leaves the memory as it was. -/
def forget (s : St) (v : Value) (s' : St) (l : List Nat) : Value × St × List Nat :=
  if plainV v && l.all fun i => (s.mem.get i).isNone then (v, s, []) else (v, s', l)

def execCall (T : Tab) (ext : Oracle) (n : Nat) : Nat → Oracle
  | 0, _, _, _ => none
  | k + 1, f, args, s =>
    match ext f args s with
    | some r => some r
    | none =>
      match T.fn f with
      | none => none
      | some fn =>
        match fn.body with
        | none => none
        | some c =>
          match execCode T (execCall T ext n k) n c (args ++ List.replicate (fn.ntmps - args.length) undef) s [] with
          | some (e, rg, s', l) =>
            match e with
            | .exit _ => none
            | _ =>
              match resultA T rg s' fn.results.toList with
              | some vs => some (forget s (tupleA vs) s' l)
              | none => none
          | none => none

end

end Go.Proofs.Abs

/- The abstract machine: the table of a program. -/
namespace Go.Proofs.Abs
open Go

noncomputable section

def tabOf (P : Program) (eqk : TypeId → Option (List LK)) : Tab where
  ng := P.globals.size
  und := P.underlying
  inf t := match P.info? t with
    | some i => match i.zero with
      | some z => if plainV z && z.cells.size == i.size then some (z, i.size, i.bytes) else none
      | none => none
    | none => none
  fn f := match P.funcs[f]? with
    | some x => if x.body.isSome && !(x.name == "runtime.NumGoroutine") then some x else none
    | none => none
  eqk := eqk

theorem tabOf_ok {P : Program} {eqk : TypeId → Option (List LK)} (hm : P.follows .mixedOrders = true)
    (he : ∀ t ks, eqk t = some ks → P.eqGuardType P.depth t = false ∧ ∀ (w : World) (xs ys : Array Value), hasAll ks xs.toList = true → hasAll ks ys.toList = true → (Op.equal t (.agg xs) (.agg ys)).run P w = .ok (eqCells xs.toList ys.toList) w) :
    (tabOf P eqk).Ok P where
  mixed := hm
  ng := Nat.le_refl _
  und _ _ h := h
  inf t z s b h := by
    simp only [tabOf] at h
    split at h
    · rename_i i hi
      split at h
      · rename_i z' hz
        split at h
        · rename_i hp
          simp only [Bool.and_eq_true, beq_iff_eq] at hp
          simp only [Option.some.injEq, Prod.mk.injEq] at h
          obtain ⟨rfl, rfl, rfl⟩ := h
          exact ⟨i, hi, hz, rfl, rfl, hp.1, hp.2⟩
        · cases h
      · cases h
    · cases h
  fn f x h := by
    simp only [tabOf] at h
    split at h
    · rename_i x' hx
      split at h
      · rename_i hp
        simp only [Bool.and_eq_true, Bool.not_eq_true'] at hp
        cases h
        exact ⟨hx, hp.1, hp.2⟩
      · cases h
    · cases h
  eqk := he

end

end Go.Proofs.Abs

/- The abstract machine: runs of the model's own instructions, in worlds that a memory describes. -/
namespace Go.Proofs.Abs
open Go

section
variable {P : Program} {w : World}

theorem run_und {t : TypeId} {d : TypeDesc} (h : P.underlying t = some d) : (underlying t).run P w = .ok d w := by simp [underlying, h]
theorem run_info {t : TypeId} {i : TypeInfo} (h : P.info? t = some i) : (typeInfo t).run P w = .ok i w := by simp [typeInfo, h]
theorem run_size {t : TypeId} {i : TypeInfo} (h : P.info? t = some i) : (sizeOf t).run P w = .ok i.size w := by simp [sizeOf, run_info h]
theorem run_zero {t : TypeId} {i : TypeInfo} {z : Value} (h : P.info? t = some i) (hz : i.zero = some z) : (zeroValue t).run P w = .ok z w := by simp [zeroValue, run_info h, hz]
theorem run_isAgg {t : TypeId} {d : TypeDesc} (h : P.underlying t = some d) : (isAgg t).run P w = .ok (isAggT d) w := by
  unfold isAgg
  rw [Sem.run_bind, run_und h]
  cases d <;> rfl

theorem add_none (b o n : Nat) : (⟨b, o, none⟩ : Addr).add n = ⟨b, o + n, none⟩ := by
  unfold Addr.add
  split
  · subst_vars; rfl
  · rfl

theorem cell_at {b : Nat} {c : Array Value} {e : TypeId} {fr : Nat × Nat} (h : w.heap[b]? = some (.cells c e fr)) (k : Nat) : w.cell? ⟨b, k, none⟩ = c[k]? := by
  simp [World.cell?, h]

/-! ### Loads -/

theorem run_loadCellsFrom (a : Addr) : ∀ (vs : List Value) (i : Nat) (acc : Array Value), (∀ j v, vs[j]? = some v → w.cell? (a.add (i + j)) = some v) →
    (loadCellsFrom a i vs.length acc).run P w = .ok (acc ++ vs.toArray) w
  | [], i, acc, _ => by simp [loadCellsFrom]
  | v :: vs, i, acc, h => by
    simp only [List.length_cons, loadCellsFrom, Sem.run_bind, run_load]
    have h0 := h 0 v rfl
    simp only [Nat.add_zero] at h0
    rw [h0]
    simp only [Result.andThen_ok]
    rw [run_loadCellsFrom a vs (i + 1) (acc.push v) fun j u hj => by
      have := h (j + 1) u (by simpa using hj)
      rwa [show i + (j + 1) = i + 1 + j by omega] at this]
    simp

theorem run_loadCells (a : Addr) (vs : List Value) (h : ∀ j v, vs[j]? = some v → w.cell? (a.add j) = some v) : (loadCells a vs.length).run P w = .ok vs.toArray w := by
  unfold loadCells
  rw [run_loadCellsFrom a vs 0 #[] (fun j v hj => by rw [Nat.zero_add]; exact h j v hj)]
  simp

theorem CellsRel.slice {r : Rho} {base : Nat} {cs : List Value} {c : Array Value} (h : CellsRel r base cs c) (o n : Nat) (hn : o + n ≤ cs.length) :
    VRels r ((cs.drop o).take n) ((c.toList.drop (base + o)).take n) := by
  have := (h.2.drop o).take n
  rwa [List.drop_take, List.take_take, List.drop_drop, Nat.min_eq_left (by omega)] at this

theorem CellsRel.at {r : Rho} {base : Nat} {cs : List Value} {c : Array Value} (h : CellsRel r base cs c) {o : Nat} {v : Value} (hv : cs[o]? = some v) : ∃ u, c[base + o]? = some u ∧ VRel r v u := by
  obtain ⟨u, hu, hr⟩ := h.2.get_some hv
  refine ⟨u, ?_, hr⟩
  have ho : o < cs.length := (List.getElem?_eq_some_iff.1 hv).1
  rw [List.getElem?_take, if_pos ho, List.getElem?_drop] at hu
  simpa using hu

theorem length_slice {base o n : Nat} {cs : List Value} {c : Array Value} (h : base + cs.length ≤ c.size) (hn : o + n ≤ cs.length) : ((c.toList.drop (base + o)).take n).length = n := by
  simp; omega

theorem run_read {T : Tab} (hT : T.Ok P) {r : Rho} {b base : Nat} {cs : List Value} {c : Array Value} {e : TypeId} {fr : Nat × Nat} (hc : CellsRel r base cs c) (hh : w.heap[b]? = some (.cells c e fr))
    {t : TypeId} {o : Nat} {v : Value} (h : readCells T t cs o = some v) : ∃ u, (loadVar t ⟨b, base + o, none⟩).run P w = .ok u w ∧ VRel r v u := by
  unfold readCells at h
  split at h
  · cases h
  · rename_i d hd
    have hu := hT.und _ _ hd
    unfold loadVar
    rw [Sem.run_bind, run_isAgg hu]
    simp only [Result.andThen_ok]
    by_cases ha : isAggT d = true
    · rw [if_pos ha] at h ⊢
      split at h
      · rename_i z n bb hi
        obtain ⟨i, h1, _, h3, _⟩ := hT.inf _ _ _ _ hi
        split at h
        · rename_i hn
          cases h
          refine ⟨.agg ((c.toList.drop (base + o)).take n).toArray, ?_, VRel.agg_iff.2 (by simpa using hc.slice o n hn)⟩
          simp only [Sem.run_bind, run_size h1, Result.andThen_ok]
          have hl := run_loadCells (P := P) (w := w) ⟨b, base + o, none⟩ ((c.toList.drop (base + o)).take n) fun j v hj => by
            rw [add_none, cell_at hh]
            rw [List.getElem?_take] at hj
            split at hj
            · rw [List.getElem?_drop] at hj; simpa using hj
            · cases hj
          rw [length_slice hc.1 hn] at hl
          rw [h3, hl]
          rfl
        · cases h
      · cases h
    · rw [if_neg ha] at h ⊢
      obtain ⟨u, hu', hr⟩ := hc.at h
      refine ⟨u, ?_, hr⟩
      rw [run_load, cell_at hh, hu']

theorem run_loadA {T : Tab} (hT : T.Ok P) {r : Rho} {s : St} (hr : Rel P r s w) {t : TypeId} {p v p' : Value} (h : loadA T t s p = some v) (hp : VRel r p p') :
    ∃ u, (Instr.loadAt t p').run P w = .ok u w ∧ VRel r v u := by
  unfold loadA at h
  split at h
  · rename_i i o
    split at h
    · rename_i cs e ro hi
      obtain ⟨L, c, fr, h1, h2, h3, h4, h5, h6⟩ := hr.objs _ _ hi
      cases hp with
      | ptr _ _ L' hL =>
        rw [h1] at hL; cases hL
        simpa [Instr.loadAt, Instr.sureAddr] using run_read hT h5 h2 h
    · cases h
  · cases h

/-! ### Stores -/

/-- A block laid anew. -/
def wput (w : World) (b : Nat) (o : Obj) : World := { w with heap := w.heap.setIfInBounds b o }

theorem wput_same (w : World) {b : Nat} (h : b < w.heap.size) (o : Obj) : (wput w b o).heap[b]? = some o := by simp [wput, h]
theorem wput_ne (w : World) {b k : Nat} (h : k ≠ b) (o : Obj) : (wput w b o).heap[k]? = w.heap[k]? := by
  simp [wput, Array.getElem?_setIfInBounds_ne (Ne.symm h)]
theorem wput_size (w : World) (b : Nat) (o : Obj) : (wput w b o).heap.size = w.heap.size := by simp [wput]
theorem wput_wput (w : World) (b : Nat) (o o' : Obj) : wput (wput w b o) b o' = wput w b o' := by simp [wput]
theorem wput_self {w : World} {b : Nat} {o : Obj} (h : w.heap[b]? = some o) : wput w b o = w := by
  obtain ⟨hb, hv⟩ := Array.getElem?_eq_some_iff.1 h
  have : w.heap.setIfInBounds b o = w.heap := by
    apply Array.ext
    · simp
    · intro i h1 h2
      rw [Array.getElem_setIfInBounds]
      split
      · subst_vars; rfl
      · rfl
  unfold wput
  rw [this]

theorem setCell_wput {b k : Nat} {c : Array Value} {e : TypeId} {fr : Nat × Nat} (h : w.heap[b]? = some (.cells c e fr)) (v : Value) :
    w.setCell ⟨b, k, none⟩ v = wput w b (.cells (c.setIfInBounds k v) e fr) := by
  obtain ⟨hb, hv⟩ := Array.getElem?_eq_some_iff.1 h
  unfold World.setCell wput
  congr 1
  apply Array.ext
  · simp
  · intro i h1 h2
    rw [Array.getElem_modify, Array.getElem_setIfInBounds]
    split
    · subst_vars; simp [hv]
    · rfl

def writeC (c : Array Value) (o : Nat) : List Value → Array Value
  | [] => c
  | v :: vs => writeC (c.setIfInBounds o v) (o + 1) vs

theorem writeC_size (vs : List Value) : ∀ (c : Array Value) (o : Nat), (writeC c o vs).size = c.size := by
  induction vs with
  | nil => intro c o; rfl
  | cons v vs ih => intro c o; simp [writeC, ih]

theorem run_storeCells (a : Addr) (ha : a.spot = none) : ∀ (vs : List Value) (i : Nat) (w : World) (c : Array Value) (e : TypeId), w.heap[a.block]? = some (.cells c e (0, 0)) → a.off + i + vs.length ≤ c.size → oneAll vs = true →
    (storeCells a vs i).run P w = .ok () (wput w a.block (.cells (writeC c (a.off + i) vs) e (0, 0)))
  | [], i, w, c, e, h, _, _ => by simp [storeCells, writeC, wput_self h]
  | v :: vs, i, w, c, e, h, hl, ho => by
    simp only [oneAll, Bool.and_eq_true] at ho
    simp only [List.length_cons] at hl
    have hadd : a.add i = ⟨a.block, a.off + i, none⟩ := by
      obtain ⟨b, o, sp⟩ := a
      simp only at ha; subst ha
      exact add_none _ _ _
    simp only [storeCells, Sem.run_bind]
    rw [run_store P w _ v _ ho.1, hadd, cell_at h, Array.getElem?_eq_getElem (by omega)]
    simp only
    have hfr : w.frozen? ⟨a.block, a.off + i, none⟩ = false := by simp [World.frozen?, h]
    rw [hfr]
    simp only [Bool.false_eq_true, if_false, Result.andThen_ok]
    rw [setCell_wput h]
    rw [run_storeCells a ha vs (i + 1) _ (c.setIfInBounds (a.off + i) v) e (wput_same _ (Array.getElem?_eq_some_iff.1 h).1 _) (by simp; omega) ho.2]
    rw [wput_wput]
    simp [writeC, Nat.add_assoc]

theorem writeC_outside (vs : List Value) : ∀ (c : Array Value) (o k : Nat), (k < o ∨ o + vs.length ≤ k) → (writeC c o vs)[k]? = c[k]? := by
  induction vs with
  | nil => intro c o k _; rfl
  | cons v vs ih =>
    intro c o k h
    simp only [List.length_cons] at h
    rw [writeC, ih _ _ _ (by omega), Array.getElem?_setIfInBounds_ne (by omega)]

theorem writeC_inside (vs : List Value) : ∀ (c : Array Value) (o k : Nat), o ≤ k → k < o + vs.length → o + vs.length ≤ c.size → (writeC c o vs)[k]? = vs[k - o]? := by
  induction vs with
  | nil => intro c o k h1 h2; simp at h2; omega
  | cons v vs ih =>
    intro c o k h1 h2 h3
    simp only [List.length_cons] at h2 h3
    rw [writeC]
    by_cases e : k = o
    · subst e
      rw [writeC_outside _ _ _ _ (by omega), Array.getElem?_setIfInBounds_self_of_lt (by omega)]
      simp
    · rw [ih _ _ _ (by omega) (by omega) (by simp; omega)]
      rw [show k - o = (k - (o + 1)) + 1 by omega]
      simp

theorem writeAt_length (vs : List Value) : ∀ (cs : List Value) (o : Nat), (writeAt cs o vs).length = cs.length := by
  induction vs with
  | nil => intro cs o; rfl
  | cons v vs ih => intro cs o; simp [writeAt, ih]

theorem set_take_drop (l : List Value) (base n k : Nat) (v : Value) (hk : k < n) : (((l.set (base + k) v).drop base).take n) = ((l.drop base).take n).set k v := by
  apply List.ext_getElem?
  intro i
  rw [List.getElem?_take, List.getElem?_drop, List.getElem?_set, List.getElem?_set, List.getElem?_take, List.getElem?_drop]
  by_cases hi : i < n
  · rw [if_pos hi, if_pos hi]
    by_cases e : k = i
    · subst e
      simp
      split <;> first | rfl | (rename_i h; simp; omega)
    · rw [if_neg (by omega), if_neg e]
  · rw [if_neg hi, if_neg hi, if_neg (by omega)]

theorem CellsRel.set {r : Rho} {base : Nat} {cs : List Value} {c : Array Value} (h : CellsRel r base cs c) {o : Nat} (ho : o < cs.length) {v u : Value} (hv : VRel r v u) :
    CellsRel r base (cs.set o v) (c.setIfInBounds (base + o) u) := by
  refine ⟨by simpa using h.1, ?_⟩
  have := h.2.set o hv
  rw [← set_take_drop _ _ _ _ _ ho] at this
  simpa using this

theorem CellsRel.write {r : Rho} {base : Nat} (vs us : List Value) (hv : VRels r vs us) : ∀ {cs : List Value} {c : Array Value} (o : Nat), CellsRel r base cs c → o + vs.length ≤ cs.length → CellsRel r base (writeAt cs o vs) (writeC c (base + o) us) := by
  induction hv with
  | nil => intro cs c o h _; exact h
  | cons hv _ ih =>
    intro cs c o h hl
    simp only [List.length_cons] at hl
    simp only [writeAt, writeC]
    exact ih (o + 1) (h.set (by omega) hv) (by simp; omega)

theorem VRel.one {r : Rho} {v u : Value} (h : VRel r v u) : v.oneCell' = u.oneCell' := by cases h <;> rfl
theorem VRels.one {r : Rho} {vs us : List Value} (h : VRels r vs us) : oneAll vs = oneAll us := by
  induction h with
  | nil => rfl
  | cons h _ ih => simp [oneAll, h.one, ih]

theorem run_storeA {T : Tab} (hT : T.Ok P) {r : Rho} {s s' : St} (hr : Rel P r s w) {t : TypeId} {p v p' v' : Value} (h : storeA T t s p v = some s') (hp : VRel r p p') (hv : VRel r v v') :
    ∃ w', (Instr.storeAt t p' v').run P w = .ok () w' ∧ Step P r s w r s' w' := by
  unfold storeA at h
  split at h
  · rename_i i o
    split at h
    · rename_i cs e z n bb hi hinf
      split at h
      · rename_i hc
        obtain ⟨hn, hl, hone⟩ := hc
        cases h
        obtain ⟨inf, i1, _, i3, _⟩ := hT.inf _ _ _ _ hinf
        obtain ⟨L, c, fr, h1, h2, h3, h4, h5, h6⟩ := hr.objs _ _ hi
        obtain ⟨hfr, hesz⟩ := h6 rfl
        subst hfr
        cases hp with
        | ptr _ _ L' hL =>
          rw [h1] at hL; cases hL
          have hcs := hv.cells
          have hlen := hcs.length
          simp only [Array.length_toList] at hlen
          refine ⟨wput w L.block (.cells (writeC c (L.base + o) v'.cells.toList) e (0, 0)), ?_, ?_⟩
          · simp only [Instr.storeAt, Instr.sureAddr, Sem.run_bind, Sem.run_pure, Result.andThen_ok, storeVar, run_size i1]
            rw [if_neg (by omega)]
            have h5' := h5.1
            rw [run_storeCells (P := P) _ rfl _ 0 w c e h2 (by simp; omega) (by rw [← hcs.one]; exact hone)]
            rfl
          · have hb : L.block < w.heap.size := (Array.getElem?_eq_some_iff.1 h2).1
            refine Step.put hr hi rfl h1 _ rfl (wput_size _ _ _) (fun b hb => wput_ne _ hb _) rfl rfl rfl ?_
            refine ⟨L, _, _, h1, wput_same _ hb _, by rw [writeC_size, h3], by simp, ?_, fun _ => ⟨rfl, hesz⟩⟩
            exact CellsRel.write _ _ hcs o h5 (by simp; omega)
      · cases h
    · cases h
  · cases h

/-! ### Parts of structs and arrays in registers -/

theorem run_part {T : Tab} (hT : T.Ok P) {r : Rho} {cs us : Array Value} (hc : VRels r cs.toList us.toList) {t : TypeId} {o : Nat} {v : Value} (h : readCells T t cs.toList o = some v) : ∃ u, (part t us o).run P w = .ok u w ∧ VRel r v u := by
  unfold readCells at h
  split at h
  · cases h
  · rename_i d hd
    have hu := hT.und _ _ hd
    unfold part
    rw [Sem.run_bind, run_isAgg hu]
    simp only [Result.andThen_ok]
    by_cases ha : isAggT d = true
    · rw [if_pos ha] at h ⊢
      split at h
      · rename_i z n bb hi
        obtain ⟨i, h1, _, h3, _⟩ := hT.inf _ _ _ _ hi
        split at h
        · rename_i hn
          cases h
          rw [Sem.run_bind, run_size h1]
          refine ⟨_, rfl, VRel.agg_iff.2 ?_⟩
          have := (hc.drop o).take n
          simp only [Array.toList_extract, h3]
          rw [List.extract_eq_take_drop]
          simpa using this
        · cases h
      · cases h
    · rw [if_neg ha] at h ⊢
      obtain ⟨u, hu', hr⟩ := hc.get_some h
      simp only [Array.getElem?_toList] at hu'
      refine ⟨u, ?_, hr⟩
      rw [hu']
      rfl

/-! ### New rows -/

theorem oldrow (w : World) (o : Obj) {b : Nat} (hb : b < w.heap.size) : (w.alloc o).heap[b]? = w.heap[b]? := by
  show (w.heap.push o)[b]? = _
  rw [Array.getElem?_push, if_neg (by omega)]
theorem newrow (w : World) (o : Obj) : (w.alloc o).heap[w.heap.size]? = some o := by
  show (w.heap.push o)[w.heap.size]? = _
  simp

/-- A row of cells in a new block, the abstract object its first cells. -/
theorem Step.newCells {r : Rho} {s : St} (hr : Rel P r s w) {e : TypeId} {inf : TypeInfo} (hi : P.info? e = some inf) (cs : List Value) (c : Array Value) (hl : cs.length ≤ c.size) (hv : VRels r cs (c.toList.take cs.length)) :
    Step P r s w (r.put s.next ⟨w.heap.size, 0, c.size, inf.size⟩) (s.new (.cells cs e false)) (w.alloc (.cells c e)) := by
  have hrle : Rho.le r (r.put s.next ⟨w.heap.size, 0, c.size, inf.size⟩) := hr.put_le _
  refine Step.new hr _ _ rfl _ rfl ⟨_, c, (0, 0), Rho.put_same _ _ _, newrow _ _, rfl, by simp, ⟨by simpa using hl, ?_⟩, fun _ => ⟨rfl, inf, hi, rfl⟩⟩
  simpa using hv.mono hrle

theorem VRel.newPtr (r : Rho) (n : Nat) (L : Loc) (hb : L.base = 0) : VRel (r.put n L) (.pointer (some ⟨n, 0, none⟩)) (.pointer (some ⟨L.block, 0, none⟩)) := by
  have := VRel.ptr (r := r.put n L) n 0 L (Rho.put_same _ _ _)
  rwa [hb] at this

end
end Go.Proofs.Abs

/- The abstract machine: append and copy. -/
namespace Go.Proofs.Abs
open Go

section
variable {P : Program} {w : World}

/-- A run that gives a value, and a step of the memory. -/
def SemOk (P : Program) (r : Rho) (s : St) (w : World) (m : Sem Value) (v : Value) (s' : St) : Prop :=
  ∃ u w' r', m.run P w = .ok u w' ∧ VRel r' v u ∧ Step P r s w r' s' w'

theorem SemOk.pure {r : Rho} {s : St} (hr : Rel P r s w) {m : Sem Value} {v u : Value} (h : m.run P w = .ok u w) (hv : VRel r v u) : SemOk P r s w m v s :=
  ⟨u, w, r, h, hv, Step.refl hr⟩

theorem run_lenOf {r : Rho} {x x' : Value} (hx : VRel r x x') {n : Nat} (h : lenA x = some n) : (Builtin.lenOf x').run P w = .ok n w := by
  cases hx <;> simp [lenA] at h <;> subst h <;> rfl

theorem toNat_bytes (s : ByteArray) (n : Nat) : ((s.extract 0 n).data.map fun b => Value.int .u8 b.toNat) = ((bytesOf s).take n).toArray := by
  apply Array.ext'
  simp [bytesOf, ByteArray.data_extract]

theorem run_elems {r : Rho} {s : St} (hr : Rel P r s w) {size n : Nat} {x x' : Value} {xs : List Value} (hx : VRel r x x') (h : elemsA size n s x = some xs) {m : Nat} (hm : lenA x = some m) (hn : n ≤ m) :
    ∃ us : List Value, (∀ k, (Builtin.firstCells size n x').run P { w with drawn := k } = .ok us.toArray { w with drawn := k }) ∧ VRels r xs us := by
  unfold elemsA at h
  split at h
  · cases h; cases hx
    exact ⟨[], fun _ => rfl, .nil⟩
  · rename_i i o m' c'
    have hm' : m' = m := by simpa [lenA] using hm
    subst hm'
    cases hx with
    | sl _ _ _ a c L hL hle hc =>
      by_cases hz : n = 0
      · subst hz
        refine ⟨[], by simp [Builtin.firstCells, loadCells, loadCellsFrom], ?_⟩
        split at h
        · split at h
          · cases h; simp; exact .nil
          · simp at h; subst h; exact .nil
        · simp at h; subst h; exact .nil
      · rw [if_neg hz] at h
        split at h
        · rename_i cs e ro hi
          split at h
          · rename_i hb
            cases h
            obtain ⟨L', c', fr, h1, h2, h3, h4, h5, h6⟩ := hr.objs _ _ hi
            rw [hL] at h1; cases h1
            obtain ⟨ha, _⟩ := hc (by omega)
            subst ha
            refine ⟨(c'.toList.drop (L.base + o)).take (n * size), fun k => ?_, h5.slice o (n * size) hb.2⟩
            have hl := run_loadCells (P := P) (w := { w with drawn := k }) ⟨L.block, L.base + o, none⟩ ((c'.toList.drop (L.base + o)).take (n * size)) fun j v hj => by
              rw [add_none, cell_at (w := { w with drawn := k }) h2]
              rw [List.getElem?_take] at hj
              split at hj
              · rw [List.getElem?_drop] at hj; simpa using hj
              · cases hj
            rw [length_slice h5.1 hb.2] at hl
            simpa [Builtin.firstCells] using hl
          · cases h
        · cases h
  · rename_i b
    split at h
    · rename_i hb
      cases h; cases hx
      refine ⟨(bytesOf b).take n, fun k => ?_, plain_rels r _ ?_⟩
      · have := toNat_bytes b n
        simp only [Builtin.firstCells, Sem.run_pure, this]
      · have : ∀ l : List UInt8, ∀ k, plainV.plainL ((l.map fun b => Value.int .u8 b.toNat).take k) = true := by
          intro l
          induction l with
          | nil => intro k; simp [plainV.plainL]
          | cons x l ih => intro k; cases k with
            | zero => simp [plainV.plainL]
            | succ k => simp [plainV.plainL, plainV, ih]
        exact this _ _
    · cases h
  · cases h

def isTextT (d : TypeDesc) : Prop := d = .string ∨ ∃ e, d = .slice e

theorem rep_eq (n : Nat) (z : Array Value) : (Builtin.zeroCells z n).size = n * z.size := by simp [Builtin.zeroCells]

/-- append's own run: in place. -/
theorem run_append_in {t t2 ty e : TypeId} {d2 : TypeDesc} {inf : TypeInfo} (ht : P.underlying t = some (.slice e)) (ht2 : P.underlying t2 = some d2) (hd2 : isTextT d2)
    (hi : P.info? e = some inf) {A : Option Addr} {m c n : Nat} {x' : Value} (hlen : (Builtin.lenOf x').run P w = .ok n w) {us : List Value} (hus : (Builtin.firstCells inf.size n x').run P w = .ok us.toArray w)
    (hc : m + n ≤ c) : (Builtin.append_ #[t, t2] ty #[.slice A m c, x']).run P w = (match A with
      | some a => (storeCells (a.add (m * inf.size)) us).run P w
      | none => .ok () w).andThen fun _ w' => .ok (.slice A (m + n) c) w' := by
  unfold Builtin.append_
  rcases hd2 with rfl | ⟨e', rfl⟩
  all_goals
    simp only [List.getElem?_toArray, List.getElem?_cons_zero, List.getElem?_cons_succ, Sem.run_bind, run_und ht, Result.andThen_ok, run_size hi, run_und ht2, Sem.run_pure]
    simp only [Bool.false_eq_true, if_false, Sem.run_bind, hlen, Result.andThen_ok]
    rw [Sem.run_ite, if_pos hc]
    simp only [Sem.run_bind, Bool.not_false, if_true, hus, Result.andThen_ok]
    cases A with
    | none => rfl
    | some a => simp

/-- append's own run: a new row. -/
theorem run_append_new {t t2 ty e : TypeId} {d2 : TypeDesc} {inf : TypeInfo} {z : Value} (ht : P.underlying t = some (.slice e)) (ht2 : P.underlying t2 = some d2) (hd2 : isTextT d2)
    (hi : P.info? e = some inf) (hz : inf.zero = some z) {A : Option Addr} {m c n : Nat} {x' : Value} (hlen : (Builtin.lenOf x').run P w = .ok n w) {us os : List Value} (hus : ∀ k, (Builtin.firstCells inf.size n x').run P { w with drawn := k } = .ok us.toArray { w with drawn := k })
    (hos : ∀ k, (Builtin.firstCells inf.size m (.slice A m c)).run P { w with drawn := k } = .ok os.toArray { w with drawn := k })
    (hc : ¬ m + n ≤ c) (hn0 : 0 < inf.bytes ∨ m + n ≤ 9223372036854775807) (hb : (m + n) * inf.bytes ≤ 140737488355328) : ∃ cap k, m + n ≤ cap ∧
      (Builtin.append_ #[t, t2] ty #[.slice A m c, x']).run P w = .ok (.slice (some ⟨w.heap.size, 0, none⟩) (m + n) cap)
        (World.alloc { w with drawn := k } (.cells (us.toArray |> fun new => os.toArray ++ new ++ Builtin.zeroCells z.cells (cap - (m + n))) e)) := by
  have hcap : m + n ≤ (Question.appendCap (m + n) c e).cut (w.tape w.drawn (.appendCap (m + n) c e)) := by simp only [Question.cut]; omega
  refine ⟨_, w.drawn + 1, hcap, ?_⟩
  unfold Builtin.append_
  rcases hd2 with rfl | ⟨e', rfl⟩
  all_goals
    simp only [List.getElem?_toArray, List.getElem?_cons_zero, List.getElem?_cons_succ, Sem.run_bind, run_und ht, Result.andThen_ok, run_size hi, run_und ht2, Sem.run_pure]
    simp only [Bool.false_eq_true, if_false, Sem.run_bind, hlen, Result.andThen_ok]
    rw [Sem.run_ite, if_neg hc]
    have h1 : Builtin.nextslicecap (m + n) c * inf.bytes ≤ 281474976710656 := by
      have := nextslicecap_le (need := m + n) (old := c) (by omega)
      have h2 := Nat.mul_le_mul_right inf.bytes this
      rw [Nat.mul_assoc] at h2
      omega
    simp only [Sem.run_bind, run_info hi, Result.andThen_ok]
    rw [Sem.run_ite, if_neg (by
      intro hh
      obtain ⟨g1, g2⟩ := hh
      rcases g2 with g2 | g2
      · cases g2
      · rcases hn0 with h0 | h0
        · omega
        · have : IntKind.i64.max = 9223372036854775807 := by decide
          omega)]
    simp only [Sem.run_bind, run_info hi, Result.andThen_ok, Bool.not_false, if_true]
    rw [Sem.run_ite, if_neg (by
      have : (2 : Nat) ^ 48 = 281474976710656 := by decide
      rw [this]; omega)]
    simp only [Sem.run_bind, run_choose]
    have hf : (Question.appendCap (m + n) c e).forced = false := rfl
    simp only [hf, Bool.false_eq_true, if_false, Result.andThen_ok, run_info hi, run_askRoom, hos, hus, run_zero hi hz, newRow, Sem.run_bind, run_newObj, Sem.run_pure]
    rfl


theorem textT_iff {d : TypeDesc} (h : textT d ≠ false) : isTextT d := by
  cases d <;> simp [textT] at h
  · exact .inl rfl
  · exact .inr ⟨_, rfl⟩

theorem zeroCells_size (z : Array Value) (n : Nat) : (Builtin.zeroCells z n).size = n * z.size := by simp [Builtin.zeroCells]

theorem oldNoDrawn (w : World) : ({ w with drawn := w.drawn } : World) = w := rfl

theorem appendA_sound {T : Tab} (hT : T.Ok P) {r : Rho} {s s' : St} (hr : Rel P r s w) {t t2 ty : TypeId} {v x v' x' y : Value} (h : appendA T t t2 v x s = some (y, s')) (hv : VRel r v v') (hx : VRel r x x') :
    SemOk P r s w (Builtin.append_ #[t, t2] ty #[v', x']) y s' := by
  unfold appendA at h
  split at h
  case h_2 => cases h
  rename_i e ht
  split at h
  case h_2 => cases h
  rename_i d2 z size bytes n hd2 hinf hlen
  split at h
  · cases h
  rename_i htext
  have htext := textT_iff htext
  split at h
  · cases h
  rename_i xs hxs
  have hu1 := hT.und _ _ ht
  have hu2 := hT.und _ _ hd2
  obtain ⟨inf, i1, i2, i3, i4, i5, i6⟩ := hT.inf _ _ _ _ hinf
  subst i3 i4
  obtain ⟨us, hus, hrel⟩ := run_elems (P := P) hr hx hxs hlen (Nat.le_refl _)
  have hlen' := run_lenOf (P := P) (w := w) hx hlen
  have hul := hrel.length
  by_cases hn : n = 0
  · subst hn
    have hus0 : xs = [] := by
      unfold elemsA at hxs
      split at hxs <;> first
        | (cases hxs; rfl)
        | (split at hxs <;> first
            | (split at hxs <;> first | (cases hxs; simp) | (simp at hxs; exact hxs.symm))
            | (simp at hxs; exact hxs.symm)
            | (cases hxs; simp)
            | cases hxs)
        | cases hxs
    subst hus0
    have hus' : us = [] := List.eq_nil_of_length_eq_zero (by simpa using hul.symm)
    subst hus'
    rw [if_pos rfl] at h
    split at h
    · cases h; cases hv
      refine SemOk.pure hr (run_append_in hu1 hu2 htext i1 hlen' (hus w.drawn) (by omega)) .sl0
    · cases h
      cases hv with
      | sl _ _ _ a c L hL hle hc =>
        refine SemOk.pure hr (u := .slice (some a) _ c) ?_ (.sl _ _ _ a c L hL hle hc)
        rw [run_append_in hu1 hu2 htext i1 hlen' (hus w.drawn) (by omega)]
        simp [storeCells]
    · cases h
  · rw [if_neg hn] at h
    split at h
    · cases h
    rename_i hone
    have hone1 : oneAll us = true := by
      rw [← hrel.one]
      cases hh : oneAll xs with
      | true => rfl
      | false => exact absurd (Or.inl hh) hone
    have hsz : 0 < inf.size := by
      rcases Nat.eq_zero_or_pos inf.size with g | g
      · exact absurd (Or.inr (Or.inl g)) hone
      · exact g
    have hbz : 0 < inf.bytes := by
      rcases Nat.eq_zero_or_pos inf.bytes with g | g
      · exact absurd (Or.inr (Or.inr g)) hone
      · exact g
    have hxl : xs.length = n * inf.size := by
      unfold elemsA at hxs
      split at hxs
      · simp [lenA] at hlen; omega
      · simp only [if_neg hn] at hxs
        split at hxs
        · split at hxs
          · rename_i hb; cases hxs; simp; omega
          · cases hxs
        · cases hxs
      · split at hxs
        · rename_i hb; cases hxs; simp [bytesOf, hb.1]; have := hb.2; exact Nat.min_eq_left (by simpa using this)
        · cases hxs
      · cases hxs
    split at h
    · -- nil
      split at h
      · rename_i hb
        cases h; cases hv
        obtain ⟨cap, k, hcap, hrun⟩ := run_append_new (P := P) (w := w) (ty := ty) (A := none) (m := 0) (c := 0) (os := []) hu1 hu2 htext i1 i2 hlen' hus (fun k => rfl) (by omega) (.inl hbz) (by simpa using hb)
        simp only [Nat.zero_add] at hrun hcap
        have hc := Step.newCells (hr.drew k) i1 xs (us.toArray |> fun new => ([] : List Value).toArray ++ new ++ Builtin.zeroCells z.cells (cap - n)) (by simp [← hul]) (by simp [hul]; exact hrel)
        refine ⟨_, _, _, hrun, ?_, hc.ofDrew⟩
        refine VRel.sl _ 0 n _ cap _ (Rho.put_same _ _ _) hcap fun _ => ⟨rfl, ?_⟩
        simp only [zeroCells_size, Array.size_append, i6, List.size_toArray, List.length_nil, ← hul, hxl]
        simp only [Nat.zero_add]
        rw [← Nat.add_mul]
        have : n + (cap - n) = cap := by omega
        rw [this]
        exact Nat.le_refl _
      · cases h
    · rename_i i o m0 m
      split at h
      · rename_i cs e' hi
        split at h
        · rename_i hb
          obtain ⟨rfl, rfl, hlb, hbytes⟩ := hb
          cases h
          have hv0 := hv
          cases hv with
          | sl _ _ _ a c L hL hle hc =>
            obtain ⟨L0, cc, fr, h1, h2, h3, h4, h5, h6⟩ := hr.objs _ _ hi
            rw [hL] at h1; cases h1
            obtain ⟨hfr, inf', j1, j2⟩ := h6 rfl
            subst hfr
            have : inf' = inf := by rw [i1] at j1; cases j1; rfl
            subst this
            by_cases hcap : m + n ≤ c
            · -- in place
              obtain ⟨ha, hbd⟩ := hc (by omega)
              subst ha
              have hblk : L.block < w.heap.size := (Array.getElem?_eq_some_iff.1 h2).1
              have hmul : m * inf'.size + n * inf'.size ≤ c * inf'.size := by rw [← Nat.add_mul]; exact Nat.mul_le_mul_right _ hcap
              rw [← j2] at hbd
              have hst := run_storeCells (P := P) ⟨L.block, L.base + o + m * inf'.size, none⟩ rfl us 0 w cc e' h2 (by simp only [← hul, hxl]; omega) hone1
              refine ⟨.slice (some ⟨L.block, L.base + o, none⟩) (m + n) c, wput w L.block (.cells (writeC cc (L.base + o + m * inf'.size) us) e' (0, 0)), r.put s.next ⟨L.block, L.base + o, L.tot, L.esz⟩, ?_, ?_, ?_⟩
              · rw [run_append_in hu1 hu2 htext i1 hlen' (hus w.drawn) hcap]
                simp only [add_none]
                rw [hst]
                rfl
              · refine VRel.sl _ 0 _ _ c _ (Rho.put_same _ _ _) hcap fun _ => ⟨rfl, ?_⟩
                simp only [← j2]; omega
              · have hrle : Rho.le r (r.put s.next ⟨L.block, L.base + o, L.tot, L.esz⟩) := hr.put_le _
                refine Step.take hr hi rfl hL ⟨L.block, L.base + o, L.tot, L.esz⟩ rfl _ rfl (wput_size _ _ _) (fun b hb => wput_ne _ hb _) rfl rfl rfl ?_
                refine ⟨_, _, _, Rho.put_same _ _ _, wput_same _ hblk _, by simp only [writeC_size, h3], by simp, ?_, fun _ => ⟨rfl, inf', i1, j2⟩⟩
                have hbase := h5.1
                show CellsRel _ (L.base + o) _ _
                refine ⟨?_, ?_⟩
                · simp only [writeC_size, List.length_append, List.length_take, List.length_drop, hxl]
                  have : min (m * inf'.size) (cs.length - o) ≤ m * inf'.size := Nat.min_le_left _ _
                  omega
                · have hl2 : ((cs.drop o).take (m * inf'.size) ++ xs).length = m * inf'.size + n * inf'.size := by
                    simp only [List.length_append, List.length_take, List.length_drop, hxl]
                    rw [Nat.min_eq_left (by omega)]
                  have hfirst := h5.slice o (m * inf'.size) hlb
                  have hall := (hfirst.append hrel).mono hrle
                  refine VRels.of_get ?_ ?_
                  · rw [hl2]; simp only [List.length_take, List.length_drop, Array.length_toList, writeC_size]; omega
                  · intro q a u ha hu
                    have hq : q < m * inf'.size + n * inf'.size := by rw [← hl2]; exact (List.getElem?_eq_some_iff.1 ha).1
                    rw [hl2, List.getElem?_take, if_pos hq, List.getElem?_drop, Array.getElem?_toList] at hu
                    obtain ⟨u', hu', hr'⟩ := hall.get_some ha
                    have : u' = u := by
                      rcases Nat.lt_or_ge q (m * inf'.size) with g | g
                      · rw [writeC_outside _ _ _ _ (by omega)] at hu
                        rw [List.getElem?_append_left (by simp only [List.length_take, List.length_drop, Array.length_toList]; omega), List.getElem?_take, if_pos g, List.getElem?_drop, Array.getElem?_toList] at hu'
                        rw [hu] at hu'; cases hu'; rfl
                      · rw [writeC_inside _ _ _ _ (by omega) (by rw [← hul, hxl]; omega) (by rw [← hul, hxl]; omega)] at hu
                        rw [List.getElem?_append_right (by simp only [List.length_take, List.length_drop, Array.length_toList]; omega)] at hu'
                        have hq2 : q - ((cc.toList.drop (L.base + o)).take (m * inf'.size)).length = L.base + o + q - (L.base + o + m * inf'.size) := by
                          simp only [List.length_take, List.length_drop, Array.length_toList]
                          rw [Nat.min_eq_left (by omega)]; omega
                        rw [hq2] at hu'
                        rw [hu] at hu'; cases hu'; rfl
                    rw [← this]; exact hr'
            · -- a new row
              obtain ⟨os, hos, hosr⟩ := run_elems (P := P) (size := inf'.size) (n := m) (xs := (cs.drop o).take (m * inf'.size)) hr hv0 (by
                unfold elemsA
                simp only [hi]
                rw [if_pos ⟨Nat.le_refl _, hlb⟩]) (m := m) rfl (Nat.le_refl _)
              have hosl := hosr.length
              have hol : os.length = m * inf'.size := by rw [← hosl]; simp only [List.length_take, List.length_drop]; omega
              obtain ⟨cap, k, hcp, hrun⟩ := run_append_new (P := P) (w := w) (ty := ty) (A := some a) (m := m) (c := c) hu1 hu2 htext i1 i2 hlen' hus hos hcap (.inl hbz) hbytes
              have hrd : Rel P r (s.del i) { w with drawn := k } := (hr.drew k).del i
              have hc := Step.newCells hrd i1 ((cs.drop o).take (m * inf'.size) ++ xs) (us.toArray |> fun new => os.toArray ++ new ++ Builtin.zeroCells z.cells (cap - (m + n))) (by simp only [List.length_append, hosl, hul, Array.size_append, List.size_toArray]; omega) (by
                have : ((us.toArray |> fun new => os.toArray ++ new ++ Builtin.zeroCells z.cells (cap - (m + n))).toList.take ((cs.drop o).take (m * inf'.size) ++ xs).length) = os ++ us := by
                  simp only [List.length_append, hosl, hul, Array.toList_append]
                  rw [← List.length_append, List.take_left']
                  simp
                rw [this]
                exact hosr.append hrel)
              refine ⟨_, _, _, hrun, ?_, ((Step.del (hr.drew k) i).trans hc).ofDrew⟩
              refine VRel.sl _ 0 (m + n) _ cap _ (Rho.put_same _ _ _) hcp fun _ => ⟨rfl, ?_⟩
              simp only [zeroCells_size, Array.size_append, i6, List.size_toArray, ← hul, hxl, hol]
              rw [← Nat.add_mul, ← Nat.add_mul]
              have : m + n + (cap - (m + n)) = cap := by omega
              rw [this]
              simp
        · cases h
      · cases h
    · cases h

end
end Go.Proofs.Abs
