/- Contracts of package heap; HeapNew walked. Conditions: none beyond what each theorem says. -/
import Derived.Test.YtcaakpbfcgkdiaaGreatDoorA6
import Derived.Test.YtcaakpbfcgkdiaaGreatDoorB1
import Derived.IntWalk
import Derived.Test.YtcaakpbfcgkdiaaGreatDoorC3

/- Contracts of package heap: a heap's own data. -/
namespace Go.Proofs.Abs
open Go
set_option maxRecDepth 100000

/-- A heap lies there: its classes, its room, what is used, its cells. -/
def HeapM (s : St) (h : Nat) (tp : Nat) (room used : Int) (a : Option Addr) (n : Nat) : Prop :=
  s.mem.get h = some (.cells [.pointer (some ⟨tp, 0, none⟩), .int .i64 room, .int .i64 used, .slice a n n] 100 false)

abbrev ptr (h : Nat) : Value := .pointer (some ⟨h, 0, none⟩)
noncomputable def heapCells (tp : Nat) (room used : Int) (a : Option Addr) (n : Nat) : List Value := [ptr tp, .int .i64 room, .int .i64 used, .slice a n n]

variable {s : St} {h tp n : Nat} {room used i1 i2 i4 : Int} {b3 : ByteArray} {a : Option Addr}

theorem heapNew_bad (s : St) (i : Nat) (room : Int) (h : room < 0 ∨ 1048576 < room) : CallD Tryz.prog 15 [ptr i, .int .i64 room] s (.tuple #[.pointer none, .int .i64 90]) s := by
  by_cases h0 : room < 0
  · refine wp_call T0_ok noExt_sound (fun r i => match r, i with | 1, 1 => some (.bool true) | _, _ => none) fn15 rfl (by kernel_rfl) ?_
    refine And.intro (by rw [ltK_eq]; simp [h0]) ?_
    exact ⟨.inr rfl, _, rfl, rfl, rfl⟩
  · have h1 : 1048576 < room := h.resolve_left h0
    refine wp_call T0_ok noExt_sound (fun r i => match r, i with | 1, 1 => some (.bool false) | 1, 4 => some (.bool true) | _, _ => none) fn15 rfl (by kernel_rfl) ?_
    refine And.intro (by rw [ltK_eq]; simp [h0]) (And.intro (by rw [ltK_eq]; simp [h1]) ?_)
    exact ⟨.inr rfl, _, rfl, rfl, rfl⟩

theorem heapNew_good (s : St) (i : Nat) (room : Int) (h0 : 0 ≤ room) (h1 : room ≤ 1048576) : CallD Tryz.prog 15 [ptr i, .int .i64 room] s (.tuple #[ptr s.next, .int .i64 0]) (s.new (.cells [ptr i, .int .i64 room, .int .i64 0, .slice none 0 0] 100 false)) := by
  refine wp_call T0_ok noExt_sound (fun r i => match r, i with | 1, 1 => some (.bool false) | 1, 4 => some (.bool false) | _, _ => none) fn15 rfl (by kernel_rfl) ?_
  refine And.intro (by rw [ltK_eq]; simp; omega) (And.intro (by rw [ltK_eq]; simp; omega) ?_)
  exact ⟨.inr rfl, _, rfl, rfl, rfl⟩

theorem heapLen (hm : HeapM s h tp room used a n) : CallD Tryz.prog 17 [ptr h] s (.int .i64 n) s := by
  refine wp_call T0_ok noExt_sound (fun r i => match r, i with | 1, 3 => some (.load (heapCells tp room used a n) 100 false) | _, _ => none) fn17 rfl (by kernel_rfl) ?_
  refine And.intro hm ?_
  exact ⟨.inr rfl, _, rfl, rfl, rfl⟩

theorem wrapI (n : Int) (h0 : -9223372036854775808 ≤ n) (h1 : n ≤ 9223372036854775807) : wrapK .i64 n = n := by rw [wrapK_eq]; exact IntWalk.i64_in n ⟨h0, h1⟩

theorem heapLeft (hm : HeapM s h tp room used a n) (h0 : room - used ≤ 9223372036854775807) (h1 : -9223372036854775808 ≤ room - used) : CallD Tryz.prog 18 [ptr h] s (.int .i64 (room - used)) s := by
  refine CallD.forget (s' := ⟨s.mem, s.next + s.step * 10, s.step⟩) ?_ rfl (fun _ _ _ hi => hi)
  refine wp_call T0_ok noExt_sound (fun r i => match r, i with | 1, 3 => some (.load (heapCells tp room used a n) 100 false) | 1, 7 => some (.load (heapCells tp room used a n) 100 false) | 1, 8 => some (.eq (.int .i64 (room - used))) | _, _ => none) fn18 rfl (by kernel_rfl) ?_
  refine And.intro (by kernel_rfl) (And.intro hm (And.intro hm (And.intro ?_ ?_)))
  · rw [wrapI _ h1 h0]
  · exact ⟨.inr rfl, _, rfl, rfl, rfl⟩

theorem heapHas_neg (s : St) (h : Nat) (ref : Int) (hr : ref < 0) : CallD Tryz.prog 51 [ptr h, .int .i64 ref] s (.bool false) s := by
  refine wp_call T0_ok noExt_sound (fun r i => match r, i with | 1, 1 => some (.bool false) | _, _ => none) fn51 rfl (by kernel_rfl) ?_
  refine And.intro (by rw [leK_eq]; simp; omega) ?_
  exact ⟨.inr rfl, _, rfl, rfl, rfl⟩

theorem heapHas (hm : HeapM s h tp room used a n) (ref : Int) (hr : 0 ≤ ref) (b : Bool) (hb : decide (ref < n) = b) : CallD Tryz.prog 51 [ptr h, .int .i64 ref] s (.bool b) s := by
  refine wp_call T0_ok noExt_sound (fun r i => match r, i with | 1, 1 => some (.bool true) | 1, 7 => some (.load (heapCells tp room used a n) 100 false) | 1, 9 => some (.bool b) | _, _ => none) fn51 rfl (by kernel_rfl) ?_
  refine And.intro (by rw [leK_eq]; simp [hr]) (And.intro hm (And.intro (by rw [ltK_eq]; exact hb) ?_))
  exact ⟨.inr rfl, _, rfl, rfl, rfl⟩

theorem heapHas_not (hm : HeapM s h tp room used a n) (ref : Int) (hr : ¬ (0 ≤ ref ∧ ref < n)) : CallD Tryz.prog 51 [ptr h, .int .i64 ref] s (.bool false) s := by
  by_cases h0 : ref < 0
  · exact heapHas_neg s h ref h0
  · exact heapHas hm ref (by omega) false (by simp; omega)

theorem heapKind_not (hm : HeapM s h tp room used a n) (ref : Int) (hr : ¬ (0 ≤ ref ∧ ref < n)) : CallD Tryz.prog 20 [ptr h, .int .i64 ref] s (.string ⟨#[]⟩) s := by
  refine wp_call T0_ok noExt_sound (fun r i => match r, i with | 1, 2 => some (.call (.bool false) s) | _, _ => none) fn20 rfl (by kernel_rfl) ?_
  refine And.intro ⟨by rw [fn51]; rfl, heapHas_not hm ref hr⟩ ?_
  exact ⟨.inr rfl, _, rfl, rfl, rfl⟩

theorem heapSize_not (hm : HeapM s h tp room used a n) (ref : Int) (hr : ¬ (0 ≤ ref ∧ ref < n)) : CallD Tryz.prog 21 [ptr h, .int .i64 ref] s (.int .i64 0) s := by
  refine wp_call T0_ok noExt_sound (fun r i => match r, i with | 1, 2 => some (.call (.bool false) s) | _, _ => none) fn21 rfl (by kernel_rfl) ?_
  refine And.intro ⟨by rw [fn51]; rfl, heapHas_not hm ref hr⟩ ?_
  exact ⟨.inr rfl, _, rfl, rfl, rfl⟩

theorem heapPlace_not (hm : HeapM s h tp room used a n) (ref k : Int) (hr : ¬ (0 ≤ ref ∧ ref < n)) : CallD Tryz.prog 50 [ptr h, .int .i64 ref, .int .i64 k] s (.int .i64 92) s := by
  refine wp_call T0_ok noExt_sound (fun r i => match r, i with | 1, 2 => some (.call (.bool false) s) | _, _ => none) fn50 rfl (by kernel_rfl) ?_
  refine And.intro ⟨by rw [fn51]; rfl, heapHas_not hm ref hr⟩ ?_
  exact ⟨.inr rfl, _, rfl, rfl, rfl⟩

noncomputable def zeroCells : List Value := [.int .i64 0, .int .i64 0, .string ⟨#[]⟩, .int .i64 0]
def zeroVal : Value := .agg #[.int .i64 0, .int .i64 0, .string ⟨#[]⟩, .int .i64 0]

/-- A heap's own cell stays where something is made. -/
theorem HeapM.new (hw : Wf s) (hm : HeapM s h tp room used a n) (o : AObj) : HeapM (s.new o) h tp room used a n := hw.get_new hm

theorem heapGet_bad (hm : HeapM s h tp room used a n) (ref k : Int) (hr : ¬ (0 ≤ ref ∧ ref < n)) : CallD Tryz.prog 16 [ptr h, .int .i64 ref, .int .i64 k] s (.tuple #[zeroVal, .int .i64 92]) s := by
  refine CallWP.wf fun hw => ?_
  refine CallD.forget (s' := (s.new (.cells zeroCells 33 false)).put s.next (.cells zeroCells 33 false)) ?_ rfl (fun _ i o hi => ?_)
  · refine wp_call T0_ok noExt_sound (fun r i => match r, i with | 1, 3 => some (.call (.int .i64 92) (s.new (.cells zeroCells 33 false))) | 3, 2 => some (.store zeroCells 33 zeroCells) | _, _ => none) fn16 rfl (by kernel_rfl) ?_
    refine And.intro ⟨by rw [fn50]; rfl, heapPlace_not (hm.new hw _) ref k hr⟩ ?_
    refine And.intro (get_new_same s _) (And.intro rfl (And.intro (Nat.le_of_ble_eq_true rfl) (And.intro rfl ?_)))
    exact ⟨.inr rfl, [zeroVal, .int .i64 92], resultH_cell rfl (get_put_same _ _ _) rfl rfl, rfl, rfl⟩
  · rw [get_put_ne (hw.ne0 hi)]; exact hw.get_new hi

theorem heapSet_bad (hm : HeapM s h tp room used a n) (ref k : Int) (x : Value) (hx : x = .agg #[.int .i64 i1, .int .i64 i2, .string b3, .int .i64 i4]) (hr : ¬ (0 ≤ ref ∧ ref < n)) : CallD Tryz.prog 22 [ptr h, .int .i64 ref, .int .i64 k, x] s (.int .i64 92) s := by
  subst hx
  refine CallWP.wf fun hw => ?_
  refine CallD.forget (s' := s.new (.cells [.int .i64 i1, .int .i64 i2, .string b3, .int .i64 i4] 33 false)) ?_ rfl (fun _ i o hi => hw.get_new hi)
  refine wp_call T0_ok noExt_sound (fun r i => match r, i with | 1, 3 => some (.call (.int .i64 92) (s.new (.cells [.int .i64 i1, .int .i64 i2, .string b3, .int .i64 i4] 33 false))) | _, _ => none) fn22 rfl (by kernel_rfl) ?_
  refine And.intro ⟨by rw [fn50]; rfl, heapPlace_not (hm.new hw _) ref k hr⟩ ?_
  exact ⟨.inr rfl, _, rfl, rfl, rfl⟩

/-- An empty heap has no cells to hand out. -/
theorem heapCells_none (hm : HeapM s h tp room used none 0) : CallD Tryz.prog 19 [ptr h] s (.slice none 0 0) s := by
  refine wp_call T0_ok noExt_sound (fun r i => match r, i with | 2, 3 => some (.load (heapCells tp room used none 0) 100 false) | _, _ => none) fn19 rfl (by kernel_rfl) ?_
  refine And.intro hm ?_
  refine wp_loop1 (wp_code T0_ok noExt_sound (fun _ _ => none) (by kernel_rfl) ?_)
  exact ⟨.inr rfl, _, rfl, rfl, rfl⟩

theorem indexNone (g : Value) (s : St) : CallD Tryz.prog 98 [.slice none 0 0, g] s (.int .i64 (-1)) s := by
  refine wp_call T0_ok noExt_sound (fun _ _ => none) fn98 rfl (by kernel_rfl) ?_
  refine wp_loop1 (wp_code T0_ok noExt_sound (fun _ _ => none) (by kernel_rfl) ?_)
  exact ⟨.inr rfl, _, rfl, rfl, rfl⟩

theorem containsNone (g : Value) (s : St) : CallD Tryz.prog 53 [.slice none 0 0, g] s (.bool false) s := by
  refine wp_call T0_ok noExt_sound (fun r i => match r, i with | 1, 2 => some (.call (.int .i64 (-1)) s) | 1, 3 => some (.bool false) | _, _ => none) fn53 rfl (by kernel_rfl) ?_
  refine And.intro ⟨by rw [fn98]; rfl, indexNone _ s⟩ (And.intro (by rw [leK_eq]; rfl) ?_)
  exact ⟨.inr rfl, _, rfl, rfl, rfl⟩

theorem heapRight_none (hm : HeapM s h tp room used none 0) : CallD Tryz.prog 23 [ptr h] s (.bool true) s := by
  refine CallWP.wf fun hw => ?_
  refine CallD.forget (s' := s.new (.cells [ptr h] 29 false)) ?_ rfl (fun _ i o hi => hw.get_new hi)
  refine wp_call T0_ok noExt_sound (fun r i => match r, i with | 1, 0 => some (.load [ptr h] 29 false) | 1, 3 => some (.load (heapCells tp room used none 0) 100 false) | 1, 5 => some (.call (.bool false) (s.new (.cells [ptr h] 29 false))) | _, _ => none) fn23 rfl (by kernel_rfl) ?_
  refine And.intro (get_new_same s _) (And.intro (hm.new hw _) (And.intro ⟨by rw [fn53]; rfl, containsNone _ _⟩ ?_))
  exact ⟨.inr rfl, _, rfl, rfl, rfl⟩

end Go.Proofs.Abs

/- squinchlaw09.HeapNew, walked. -/
namespace Go.Proofs.Abs
open Go
set_option maxRecDepth 1000000

noncomputable section
/-- A run's answer, its end forgotten where that is right. -/
def forgetExt (o : Oracle) : Oracle := fun f args s => match o f args s with
  | some (v, s', l) => some (forget s v s' l)
  | none => none

def s0g : St := ⟨memOf globObjs, 5, 1⟩
def stOf (r : Option (Value × St × List Nat)) : St := match r with
  | some (_, s, _) => s
  | none => s0g
def run1 : Option (Value × St × List Nat) := execCallK T0 ext4 100000 100 13 [] s0g
def st1 : St := stOf run1
def cls1 : Value := .slice (some ⟨12, 0, none⟩) 4 4
def run2 : Option (Value × St × List Nat) := execCallK T0 ext4 100000 100 12 [cls1] st1
def st2 : St := stOf run2
def new2 : Value := .tuple #[ptr 28, .int .i64 0, .int .i64 0]
end

theorem forgetExt_sound {P : Program} {T : Tab} {o : Oracle} (h : OSound P T o) : OSound P T (forgetExt o) := by
  intro f args s v s' l hf hp
  unfold forgetExt at hf
  split at hf
  · rename_i v1 s1 l1 hr
    obtain ⟨h1, h2, h3⟩ := h _ _ _ _ _ _ hr hp
    cases hfg : forget s v1 s1 l1 with
    | mk v2 p =>
      obtain ⟨s2, l2⟩ := p
      rw [hfg] at hf
      cases hf
      exact ⟨h1, forget_sound h2 h3 hfg⟩
  · cases hf

theorem stOf_eq {r : Option (Value × St × List Nat)} {v : Value} (h : r.map (·.1) = some v) : ∃ l, r = some (v, stOf r, l) := by
  cases r with
  | none => cases h
  | some p => obtain ⟨w, s, l⟩ := p; cases h; exact ⟨l, rfl⟩

theorem run1_v : run1.map (·.1) = some cls1 := by kernel_rfl
theorem run2_v : run2.map (·.1) = some new2 := by kernel_rfl
theorem run3_v : forgetExt (playK 5 playAwake) 14 [] st2 = some (.bool true, st2, []) := by kernel_rfl
theorem st1_step : 0 < st1.step := Nat.le_of_ble_eq_true (by kernel_rfl)
theorem st2_step : st2.step = 1 := by kernel_rfl

theorem call1 : CallD Tryz.prog 13 [] s0g cls1 st1 := by
  obtain ⟨l, h⟩ := stOf_eq run1_v
  exact (execCallK_sound T0_ok ext4_sound 100000 100 _ _ _ _ _ _ h Nat.one_pos).2.1
theorem call2 : CallD Tryz.prog 12 [cls1] st1 new2 st2 := by
  obtain ⟨l, h⟩ := stOf_eq run2_v
  exact (execCallK_sound T0_ok ext4_sound 100000 100 _ _ _ _ _ _ h st1_step).2.1
theorem call3 : CallD Tryz.prog 14 [] st2 (.bool true) st2 :=
  (forgetExt_sound (playK_sound glob5 playAwake_ok) _ _ _ _ _ _ run3_v (by rw [st2_step]; exact Nat.one_pos)).2.1

theorem heapNew_true (room ref : Int) : CallWP Tryz.prog 3 [.int .i64 room, .int .i64 ref] s0g fun v _ => v = .bool true := by
  by_cases hbad : room < 0 ∨ 1048576 < room
  · by_cases h0 : room < 0
    · refine wp_call T0_ok noExt_sound (fun r i => match r, i with
        | 1, 0 => some (.call cls1 st1) | 1, 1 => some (.call new2 st2) | 2, 0 => some (.call (.bool true) st2)
        | 4, 2 => some (.call (.tuple #[.pointer none, .int .i64 90]) st2) | 5, 1 => some (.bool true)
        | _, _ => none) fn3 rfl (by kernel_rfl) ?_
      refine And.intro ⟨by rw [fn13]; rfl, call1⟩ (And.intro ⟨by rw [fn12]; rfl, call2⟩ (And.intro ⟨by rw [fn14]; rfl, call3⟩ ?_))
      refine And.intro ⟨by rw [fn15]; rfl, heapNew_bad st2 28 room hbad⟩ (And.intro (by rw [ltK_eq]; simp [h0]) ?_)
      exact ⟨.inr rfl, _, rfl, rfl⟩
    · have h1 := hbad.resolve_left h0
      refine wp_call T0_ok noExt_sound (fun r i => match r, i with
        | 1, 0 => some (.call cls1 st1) | 1, 1 => some (.call new2 st2) | 2, 0 => some (.call (.bool true) st2)
        | 4, 2 => some (.call (.tuple #[.pointer none, .int .i64 90]) st2) | 5, 1 => some (.bool false) | 5, 4 => some (.bool true)
        | _, _ => none) fn3 rfl (by kernel_rfl) ?_
      refine And.intro ⟨by rw [fn13]; rfl, call1⟩ (And.intro ⟨by rw [fn12]; rfl, call2⟩ (And.intro ⟨by rw [fn14]; rfl, call3⟩ ?_))
      refine And.intro ⟨by rw [fn15]; rfl, heapNew_bad st2 28 room hbad⟩ (And.intro (by rw [ltK_eq]; simp [h0]) (And.intro (by rw [ltK_eq]; simp [h1]) ?_))
      exact ⟨.inr rfl, _, rfl, rfl⟩
  · have h0 : 0 ≤ room := by omega
    have h1 : room ≤ 1048576 := by omega
    obtain ⟨o3, ho3⟩ : ∃ o, o = AObj.cells [ptr 28, .int .i64 room, .int .i64 0, .slice none 0 0] 100 false := ⟨_, rfl⟩
    obtain ⟨st3, hst3⟩ : ∃ st, st = st2.new o3 := ⟨_, rfl⟩
    obtain ⟨z, hz⟩ : ∃ z, z = AObj.cells zeroCells 33 false := ⟨_, rfl⟩
    have g3 : st3.mem.get st2.next = some o3 := by rw [hst3]; exact get_new_same _ _
    have hm3 : HeapM st3 st2.next 28 room 0 none 0 := by unfold HeapM; rw [g3, ho3]
    obtain ⟨st4, hst4⟩ : ∃ st, st = st3.new z := ⟨_, rfl⟩
    have hn : st2.next ≠ st3.next := by rw [hst3]; simp [st2_step]
    have g4 : st4.mem.get st3.next = some z := by rw [hst4]; exact get_new_same _ _
    obtain ⟨st5, hst5⟩ : ∃ st, st = st4.put st3.next (.cells zeroCells 33 false) := ⟨_, rfl⟩
    have hm5 : HeapM st5 st2.next 28 room 0 none 0 := by
      unfold HeapM
      rw [hst5, get_put_ne hn, hst4, St.get_new, if_neg hn, g3, ho3]
    have noref : ¬ ((0 : Int) ≤ ref ∧ ref < ((0 : Nat) : Int)) := fun h => by have := h.1; have := h.2; omega
    have cLeft : CallD Tryz.prog 18 [ptr st2.next] st5 (.int .i64 room) st5 := by
      have := heapLeft hm5 (by omega) (by omega)
      rwa [Int.sub_zero] at this
    refine wp_call T0_ok noExt_sound (fun r i => match r, i with
      | 1, 0 => some (.call cls1 st1) | 1, 1 => some (.call new2 st2) | 2, 0 => some (.call (.bool true) st2)
      | 4, 2 => some (.call (.tuple #[ptr st2.next, .int .i64 0]) st3) | 5, 1 => some (.bool false) | 5, 4 => some (.bool false)
      | 9, 2 => some (.call (.tuple #[zeroVal, .int .i64 92]) st3) | 9, 6 => some (.st (ptr st3.next) st4) | 9, 7 => some (.store zeroCells 33 zeroCells)
      | 10, 1 => some (.call (.int .i64 0) st5) | 10, 5 => some (.call (.int .i64 room) st5) | 10, 7 => some (.bool true)
      | 10, 11 => some (.call (.slice none 0 0) st5) | 10, 18 => some (.call (.string ⟨#[]⟩) st5) | 10, 19 => some (.bool true)
      | 10, 24 => some (.call (.int .i64 0) st5) | 10, 35 => some (.call (.int .i64 92) st5) | 10, 40 => some (.call (.bool true) st5)
      | _, _ => none) fn3 rfl (by kernel_rfl) ?_
    refine And.intro ⟨by rw [fn13]; rfl, call1⟩ (And.intro ⟨by rw [fn12]; rfl, call2⟩ (And.intro ⟨by rw [fn14]; rfl, call3⟩ ?_))
    refine And.intro ⟨by rw [fn15]; rfl, by rw [hst3, ho3]; exact heapNew_good st2 28 room h0 h1⟩ (And.intro (by rw [ltK_eq]; simp; omega) (And.intro (by rw [ltK_eq]; simp; omega) ?_))
    refine And.intro ⟨by rw [fn16]; rfl, heapGet_bad hm3 ref 0 noref⟩ (And.intro ?_ ?_)
    · rw [hst4, hz]; rfl
    refine And.intro (by rw [g4, hz]) (And.intro rfl (And.intro (Nat.le_of_ble_eq_true rfl) (And.intro rfl ?_)))
    rw [← hst5]
    refine And.intro ⟨by rw [fn17]; rfl, heapLen hm5⟩ (And.intro ⟨by rw [fn18]; rfl, cLeft⟩ (And.intro (by rw [eqK_eq]; simp) ?_))
    refine And.intro ⟨by rw [fn19]; rfl, heapCells_none hm5⟩ (And.intro ⟨by rw [fn20]; rfl, heapKind_not hm5 ref noref⟩ (And.intro rfl ?_))
    refine And.intro ⟨by rw [fn21]; rfl, heapSize_not hm5 ref noref⟩ ?_
    refine And.intro ⟨by rw [fn22]; rfl, heapSet_bad hm5 ref 0 _ rfl noref⟩ (And.intro ⟨by rw [fn23]; rfl, heapRight_none hm5⟩ ?_)
    exact ⟨.inr rfl, _, rfl, rfl⟩

end Go.Proofs.Abs
