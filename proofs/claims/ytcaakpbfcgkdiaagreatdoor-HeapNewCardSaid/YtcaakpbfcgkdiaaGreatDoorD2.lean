/- From a world to the start of the abstract machine. Conditions: none beyond what each theorem says. -/
import Derived.Test.YtcaakpbfcgkdiaaGreatDoorA7
import Derived.Test.YtcaakpbfcgkdiaaGreatDoorD1
import Derived.Test.YtcaakpbfcgkdiaaGreatDoorTie
import Derived.Test.YtcaakpbfcgkdiaaGreatDoorCards
import Derived.Lay
import Derived.SevenTiedAt

/- From a world in which the listed variables are laid to the abstract machine's start; a law's row. -/
namespace Go.Proofs.Abs
open Go Go.ChangeShapes Go.WideShapes Go.ChangeAt Go.RowKit Go.Proofs.YtcaakpbfcgkdiaaGreatDoor
set_option maxRecDepth 1000000

/-- The cells of a datum. -/
def cellS : DataW Unit → List Value
  | .lit (.string bs) => [.string ⟨⟨bs⟩⟩]
  | .lit (.bool b) => [.bool b]
  | _ => []
def cellR : DataW Unit → List Value
  | .agg ds => ds.flatMap cellS
  | _ => []

theorem inv9 {w : World} {base : Nat} {spare : Nat → Bool} {held : Bool} (fuel : Nat) (c : List Value) (d : DataW Unit) (q : List MemPlace) (h : DataW.trod (fun _ => ()) Tryz.prog w base spare held fuel 9 c = some (d, q)) : c = cellS d ∧ c.length = Tryz.prog.cellsOf 9 := by
  have h9 : Tryz.prog.cellsOf 9 = 1 := by kernel_rfl
  obtain ⟨bs, rfl, rfl⟩ := string_cells Tryz.underlying9 _ _ _ _ h
  exact ⟨rfl, h9.symm⟩

theorem inv225 {w : World} {base : Nat} {spare : Nat → Bool} {held : Bool} (fuel : Nat) (c : List Value) (d : DataW Unit) (q : List MemPlace) (h : DataW.trod (fun _ => ()) Tryz.prog w base spare held fuel 225 c = some (d, q)) : c = cellR d ∧ c.length = Tryz.prog.cellsOf 225 := by
  have h225 : Tryz.prog.cellsOf 225 = 3 := by kernel_rfl
  have h9 : Tryz.prog.cellsOf 9 = 1 := by kernel_rfl
  have h4 : Tryz.prog.cellsOf 4 = 1 := by kernel_rfl
  have hu : ∃ fs, Tryz.prog.underlying 225 = some (.struct fs) ∧ fs.toList.map (fun f => (f.type, f.offset)) = [(9, 0), (4, 1), (4, 2)] := ⟨_, rfl, by kernel_rfl⟩
  obtain ⟨fs, hu, hf⟩ := hu
  obtain ⟨fs⟩ := fs
  simp only at hf
  rcases fs with _ | ⟨f1, _ | ⟨f2, _ | ⟨f3, _ | ⟨f4, fs⟩⟩⟩⟩
  · simp at hf
  · simp at hf
  · simp at hf
  · simp only [List.map_cons, List.map_nil, List.cons.injEq, Prod.mk.injEq, and_true] at hf
    obtain ⟨⟨t1, o1⟩, ⟨t2, o2⟩, ⟨t3, o3⟩⟩ := hf
    obtain ⟨xs, m, rfl, hx, hlen, hn, hel⟩ := DataW.trod_struct hu h
    rw [h225] at hlen
    have e1 := hel 0 f1 rfl
    have e2 := hel 1 f2 rfl
    have e3 := hel 2 f3 rfl
    rw [t1, o1, h9] at e1
    rw [t2, o2, h4] at e2
    rw [t3, o3, h4] at e3
    have hn : xs.length = 3 := hn
    rcases xs with _ | ⟨x1, _ | ⟨x2, _ | ⟨x3, _ | ⟨x4, xs⟩⟩⟩⟩
    · simp at hn
    · simp at hn
    · simp at hn
    · rcases c with _ | ⟨c1, _ | ⟨c2, _ | ⟨c3, _ | ⟨c4, c⟩⟩⟩⟩
      · simp at hlen
      · simp at hlen
      · simp at hlen
      · obtain ⟨d1, q1⟩ := x1
        obtain ⟨d2, q2⟩ := x2
        obtain ⟨d3, q3⟩ := x3
        obtain ⟨bs, rfl, k1⟩ := string_cells Tryz.underlying9 _ _ _ _ e1
        obtain ⟨b2, rfl, k2⟩ := bool_cells Tryz.underlying4 _ _ _ _ e2
        obtain ⟨b3, rfl, k3⟩ := bool_cells Tryz.underlying4 _ _ _ _ e3
        simp at k1 k2 k3
        subst k1 k2 k3
        cases hx
        exact ⟨rfl, h225.symm⟩
      · simp at hlen
    · simp at hn
  · simp at hf

def partsOf : DataW Unit → List (DataW Unit)
  | .agg ds => ds
  | _ => []
theorem faults_cells : AObj.cells ((partsOf Rows.laid_squinch_hier_faults).map cellS).flatten 126 true = faultsO := by kernel_rfl
theorem ops_cells : AObj.cells ((partsOf Rows.laid_squinch_code_ops).map cellR).flatten 226 true = opsO := by kernel_rfl

/-- The two variables' blocks. -/
structure Laid (W : World) : Prop where
  faults : ∃ c, W.heap[0]? = some (.cells c 126) ∧ .cells c.toList 126 true = faultsO
  ops : ∃ c, W.heap[3]? = some (.cells c 226) ∧ .cells c.toList 226 true = opsO
  size : ∀ g, g < 5 → ∃ c t, W.heap[g]? = some (.cells c t)

theorem shaped_block {W : World} (hsh : W.ShapedOpen Tryz.prog) (g : Nat) (hg : g < 5) : ∃ c t, W.heap[g]? = some (.cells c t) ∧ (((begin Tryz.prog (fun _ _ => 0) default).world.heap[g]?).bind Obj.row?).map (·.2) = some t := by
  have h5 : Tryz.prog.globals.size = 5 := by kernel_rfl
  have key : ∀ g, g < 5 → (((begin Tryz.prog (fun _ _ => 0) default).world.heap[g]?).bind Obj.row?).isSome = true := by
    intro g hg
    have : ((List.range 5).all fun g => (((begin Tryz.prog (fun _ _ => 0) default).world.heap[g]?).bind Obj.row?).isSome) = true := by kernel_rfl
    exact List.all_eq_true.1 this g (List.mem_range.2 hg)
  obtain ⟨⟨zero, t⟩, hz⟩ := Option.isSome_iff_exists.1 (key g hg)
  obtain ⟨cs, h1, _, _⟩ := hsh.1 g zero t (by rw [h5]; exact hg) hz
  exact ⟨cs, t, h1, by rw [hz]; rfl⟩

theorem laid_of {W : World} (hL : laidMetH Tryz.prog Rows.heapNewRow.laid W) (hsh : W.ShapedOpen Tryz.prog) : Laid W := by
  rw [MakeChecks.laidMetH_plain _ _ _ (by kernel_rfl)] at hL
  obtain ⟨ps, hlv, _, _⟩ := hL
  obtain ⟨g1, t1, cs1, f1, p1, q1, hg1, ht1, hv1, hd1, ⟨g2, t2, cs2, f2, p2, q2, hg2, ht2, hv2, hd2, ⟨g3, t3, cs3, f3, p3, q3, hg3, ht3, hv3, hd3, _⟩, _⟩, _⟩ := hlv
  obtain rfl := Option.some.inj ((show Tryz.prog.globalNamed "squinch/code.ops" = some 3 by kernel_rfl).symm.trans hg2)
  obtain rfl := Option.some.inj ((show Tryz.prog.globalNamed "squinch/hier.faults" = some 0 by kernel_rfl).symm.trans hg3)
  obtain rfl := Option.some.inj ((show (Tryz.prog.globals[3]?).map (·.type) = some 226 by kernel_rfl).symm.trans ht2)
  obtain rfl := Option.some.inj ((show (Tryz.prog.globals[0]?).map (·.type) = some 126 by kernel_rfl).symm.trans ht3)
  obtain ⟨c0, u0, b0, e0⟩ := shaped_block hsh 0 (by omega)
  obtain ⟨c3, u3, b3, e3⟩ := shaped_block hsh 3 (by omega)
  obtain rfl := Option.some.inj ((show (((begin Tryz.prog (fun _ _ => 0) default).world.heap[0]?).bind Obj.row?).map (·.2) = some 126 by kernel_rfl).symm.trans e0)
  obtain rfl := Option.some.inj ((show (((begin Tryz.prog (fun _ _ => 0) default).world.heap[3]?).bind Obj.row?).map (·.2) = some 226 by kernel_rfl).symm.trans e3)
  simp only [World.var?, hg2, Option.bind_some, b3, Option.some.injEq] at hv2
  simp only [World.var?, hg3, Option.bind_some, b0, Option.some.injEq] at hv3
  subst hv2 hv3
  refine ⟨⟨c0, b0, ?_⟩, ⟨c3, b3, ?_⟩, fun g hg => ?_⟩
  · have := array_cells (g := cellS) (ds := partsOf Rows.laid_squinch_hier_faults) Tryz.underlying126 (by kernel_rfl) hd3 inv9
    rw [this]
    exact faults_cells
  · have := array_cells (g := cellR) (ds := partsOf Rows.laid_squinch_code_ops) Tryz.underlying226 (by kernel_rfl) hd2 inv225
    rw [this]
    exact ops_cells
  · obtain ⟨c, t, h, _⟩ := shaped_block hsh g hg
    exact ⟨c, t, h⟩

def cellsO : AObj → List Value
  | .cells cs _ _ => cs
  | _ => []

noncomputable def rho0 (W : World) : Rho := fun i => if i < 5 then (match W.heap[i]? with
  | some (.cells c _ _) => some ⟨i, 0, c.size, 0⟩
  | _ => none) else none

theorem rho0_of {W : World} {i : Nat} (hi : i < 5) {c : Array Value} {t : TypeId} {fr : Nat × Nat} (h : W.heap[i]? = some (.cells c t fr)) : rho0 W i = some ⟨i, 0, c.size, 0⟩ := by
  unfold rho0
  rw [if_pos hi, h]

theorem rel_global {W : World} {r : Rho} {i e : Nat} {c : Array Value} (hr : r i = some ⟨i, 0, c.size, 0⟩) (h : W.heap[i]? = some (.cells c e)) (hp : plainV.plainL c.toList = true) : ORel Tryz.prog r W i (.cells c.toList e true) := by
  refine ⟨_, c, (0, 0), hr, h, rfl, fun _ => rfl, ⟨by simp, ?_⟩, fun h => by cases h⟩
  simp only [List.drop_zero]
  rw [List.take_of_length_le (Nat.le_refl _)]
  exact plain_rels _ _ hp

theorem glob_mem {i : Nat} {o : AObj} (h : s0g.mem.get i = some o) : (i = 0 ∧ o = faultsO) ∨ (i = 3 ∧ o = opsO) := by
  have h : (i, o) ∈ globObjs := memOf_mem (l := globObjs) h
  unfold globObjs at h
  simp only [List.mem_cons, Prod.mk.injEq, List.not_mem_nil, or_false] at h
  exact h

theorem start_ro (i : Nat) (o : AObj) (h : s0g.mem.get i = some o) : o.ro = true := by
  rcases glob_mem h with ⟨_, rfl⟩ | ⟨_, rfl⟩ <;> rfl

theorem faults_plain : plainV.plainL (cellsO faultsO) = true := by kernel_rfl
theorem ops_plain : plainV.plainL (cellsO opsO) = true := by kernel_rfl

theorem start_rel {W : World} (hL : Laid W) : Rel Tryz.prog (rho0 W) s0g W := by
  refine ⟨fun i o hi => ?_, fun i j oi oj Li Lj hne hi hj hro => ?_, fun i ⟨k, hk⟩ => ?_, Nat.one_pos, fun g hg => ?_⟩
  · rcases glob_mem hi with ⟨rfl, rfl⟩ | ⟨rfl, rfl⟩
    · obtain ⟨c, h1, h2⟩ := hL.faults
      rw [← h2]
      refine rel_global (rho0_of (by omega) h1) h1 ?_
      have : c.toList = cellsO faultsO := by rw [← h2]; rfl
      rw [this]; exact faults_plain
    · obtain ⟨c, h1, h2⟩ := hL.ops
      rw [← h2]
      refine rel_global (rho0_of (by omega) h1) h1 ?_
      have : c.toList = cellsO opsO := by rw [← h2]; rfl
      rw [this]; exact ops_plain
  · exfalso
    rw [start_ro i oi hi, start_ro j oj hj] at hro
    rcases hro with h | h <;> cases h
  · have hk : i = 5 + 1 * k := hk
    unfold rho0
    rw [if_neg (by omega)]
  · have hg : g < 5 := Nat.lt_of_lt_of_le hg glob5
    obtain ⟨c, t, h⟩ := hL.size g hg
    exact ⟨_, rho0_of hg h, rfl, rfl⟩

/-- A law that the abstract machine answers true from the start, whatever else its arguments are. -/
theorem calls_of {f : FuncId} {args : List Value} {W : World} (hL : Laid W) (h : CallWP Tryz.prog f args s0g fun v _ => v = .bool true) {us : Array Value} (hu : VRels (rho0 W) args us.toList) :
    Calls Tryz.prog f us W fun e W' => e = .returned (.bool true) ∧ Below W.heap.size W W' := by
  refine (h (rho0 W) W us (start_rel hL) hu).mono ?_
  rintro e w' ⟨v, s', r', u, rfl, rfl, hv, hst⟩
  rw [hv.bool_inv]
  exact ⟨rfl, below_of_step hst start_ro⟩

theorem own : ownKnob Tryz.prog.godebug = none := by kernel_rfl
theorem laidOut : laidOutB Tryz.prog = true := by kernel_rfl

end Go.Proofs.Abs
