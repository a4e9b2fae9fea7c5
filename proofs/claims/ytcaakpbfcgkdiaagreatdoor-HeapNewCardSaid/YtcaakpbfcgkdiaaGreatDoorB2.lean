/- Strings.Join; the data of the closed runs. Conditions: none beyond what each theorem says. -/
import Derived.Shelf.Strings.OnBuilder
import Derived.Test.YtcaakpbfcgkdiaaGreatDoorProg
import Derived.Test.YtcaakpbfcgkdiaaGreatDoorA5
import Derived.Test.YtcaakpbfcgkdiaaGreatDoorB1

/- THE SHELF's CONTRACT OF strings.Join AT THIS DUMP (written by the kit's lay-plain). -/
namespace Go.Proofs
open Go.Shelf
def Tryz.lays156_ren : Go.Shelf.Ren := ⟨fun | 156 => 143 | 165 => 176 | 166 => 177 | 169 => 178 | 240 => 200 | 241 => 201 | 276 => 213 | 277 => 214 | n => n, fun | 31 => 54 | 9 => 9 | 3 => 3 | 4 => 4 | 0 => 0 | 20 => 20 | 72 => 205 | 76 => 208 | 70 => 202 | 37 => 203 | 75 => 207 | 127 => 220 | 164 => 230 | 5 => 5 | 80 => 210 | n => n, fun | n => n⟩
theorem Tryz.lays156 : Go.Proofs.Lays.n156 Tryz.prog Tryz.lays156_ren := {
  mixed := by kernel_rfl
  f156 := Tryz.func143.trans (congrArg some (by kernel_rfl))
  f165 := Tryz.func176.trans (congrArg some (by kernel_rfl))
  f166 := Tryz.func177.trans (congrArg some (by kernel_rfl))
  f169 := Tryz.func178.trans (congrArg some (by kernel_rfl))
  f240 := Tryz.func200.trans (congrArg some (by kernel_rfl))
  f241 := Tryz.func201.trans (congrArg some (by kernel_rfl))
  f276 := Tryz.func213.trans (congrArg some (by kernel_rfl))
  f277 := Tryz.func214.trans (congrArg some (by kernel_rfl))
  t0 := Tryz.underlying0
  a0 := Tryz.isAgg0
  z0 := Tryz.sizeOf0
  v0 := Tryz.zeroValue0
  t3 := Tryz.underlying3
  a3 := Tryz.isAgg3
  z3 := Tryz.sizeOf3
  v3 := Tryz.zeroValue3
  t4 := Tryz.underlying4
  a4 := Tryz.isAgg4
  z4 := Tryz.sizeOf4
  v4 := Tryz.zeroValue4
  t9 := Tryz.underlying9
  a9 := Tryz.isAgg9
  z9 := Tryz.sizeOf9
  v9 := Tryz.zeroValue9
  t20 := Tryz.underlying20
  a20 := Tryz.isAgg20
  z20 := Tryz.sizeOf20
  v20 := Tryz.zeroValue20
  t31 := Tryz.underlying54
  a31 := Tryz.isAgg54
  z31 := Tryz.sizeOf54
  v31 := Tryz.zeroValue54
  t37 := Tryz.underlying203
  a37 := Tryz.isAgg203
  z37 := Tryz.sizeOf203
  v37 := Tryz.zeroValue203
  t70 := Tryz.underlying202
  a70 := Tryz.isAgg202
  z70 := Tryz.sizeOf202
  v70 := Tryz.zeroValue202
  t72 := Tryz.underlying205
  a72 := Tryz.isAgg205
  z72 := Tryz.sizeOf205
  v72 := Tryz.zeroValue205
  t75 := Tryz.underlying207
  a75 := Tryz.isAgg207
  z75 := Tryz.sizeOf207
  v75 := Tryz.zeroValue207
  t76 := Tryz.underlying208
  a76 := Tryz.isAgg208
  z76 := Tryz.sizeOf208
  v76 := Tryz.zeroValue208
  t127 := Tryz.underlying220
  a127 := Tryz.isAgg220
  z127 := Tryz.sizeOf220
  v127 := Tryz.zeroValue220
  t164 := Tryz.underlying230
  a164 := Tryz.isAgg230
  z164 := Tryz.sizeOf230
  v164 := Tryz.zeroValue230 }
theorem Tryz.Builder_Extra_156 : Builder.Extra Tryz.prog Tryz.lays156_ren := {
  sizeBuilder := by kernel_rfl
  liesBuilder := by kernel_rfl
  t5 := Tryz.underlying5
  a5 := Tryz.isAgg5
  z5 := Tryz.sizeOf5
  v5 := Tryz.zeroValue5
  infoByte := by kernel_rfl
  cellsByte := by kernel_rfl
  sizeByte := by kernel_rfl
  neB5 := by decide }
open Go.RowKit in
/-- No element: the empty string; the world is as it was. (Whatever the slice's address and capacity: a nil slice too.) (LAID: no walk: one application.) -/
theorem Tryz.strings_Join_none (a : Option Addr) (c : Nat) (sep : ByteArray) (w : World) :
    Calls Tryz.prog 143 #[.slice a 0 c, .string sep] w fun e w' => e = .returned (.string ⟨#[]⟩) ∧ w' = w := Any.strings_Join_none Tryz.lays156 Tryz.Builder_Extra_156 a c sep w
open Go.RowKit in
/-- strings.Join: "Join concatenates the elements of its first argument to create a single string. The separator string sep is placed between elements in the resulting string.": HOWEVER MANY ELEMENTS. Below the heap's end the world is as it was. (LAID: no walk: one application.) -/
theorem Tryz.strings_Join (bk o c : Nat) (xs : List ByteArray) (sep : ByteArray) (w : World) (hcells : ∀ (j : Nat) x, xs[j]? = some x → w.cell? ⟨bk, o + j, none⟩ = some (.string x)) (hbk : bk < w.heap.size) (hN : xs.length ≤ 140737488355328) (hcap : xs.length ≤ c) (hlen : (Lib.join (xs.map (·.data.toList)) sep.data.toList).length ≤ 140737488355328) :
    Calls Tryz.prog 143 #[.slice (some ⟨bk, o, none⟩) xs.length c, .string sep] w fun e w' => e = .returned (.string ⟨(Lib.join (xs.map (·.data.toList)) sep.data.toList).toArray⟩) ∧ Below w.heap.size w w' := Any.strings_Join Tryz.lays156 Tryz.Builder_Extra_156 bk o c xs sep w hcells hbk hN hcap hlen
end Go.Proofs

/- strings.Join as an oracle of the abstract machine. -/
namespace Go.Proofs.Abs
open Go Go.RowKit

noncomputable section

/-- The bytes of a list of strings. -/
def strsOf : List Value → Option (List ByteArray)
  | [] => some []
  | .string b :: vs => match strsOf vs with
    | some bs => some (b :: bs)
    | none => none
  | _ => none

def joinBytes (xs : List ByteArray) (sep : ByteArray) : List UInt8 := Lib.join (xs.map (·.data.toList)) sep.data.toList

def joinGo (xs : List ByteArray) (sep : ByteArray) (s : St) : Option (Value × St × List Nat) :=
  bif Nat.ble (joinBytes xs sep).length 1000 && Nat.ble xs.length 1000 then some (.string ⟨(joinBytes xs sep).toArray⟩, s, []) else none

def joinExt : Oracle := fun f args s =>
  bif Nat.beq f 143 then
    match args with
    | [.slice none 0 0, .string sep] => joinGo [] sep s
    | [.slice (some ⟨i, o, none⟩) n n', .string sep] =>
      match s.mem.get i with
      | some (.cells cs _ _) =>
        match strsOf ((cs.drop o).take n) with
        | some xs => bif Nat.beq xs.length n && Nat.beq n' n then joinGo xs sep s else none
        | none => none
      | _ => none
    | _ => none
  else none

end

variable {P : Program}

theorem strsOf_spec : ∀ {l : List Value} {xs : List ByteArray}, strsOf l = some xs → l = xs.map .string
  | [], xs, h => by simp only [strsOf] at h; cases h; rfl
  | v :: vs, xs, h => by
    cases v <;> simp only [strsOf] at h <;> try cases h
    split at h
    · rename_i bs hb
      cases h
      simp [strsOf_spec hb]
    · cases h

theorem cell_of_heap {w : World} {b o : Nat} {c : Array Value} {e : TypeId} {fr : Nat × Nat} (h : w.heap[b]? = some (.cells c e fr)) : w.cell? ⟨b, o, none⟩ = c[o]? := by
  simp [World.cell?, h]

theorem Step.ofBelow {r : Rho} {s : St} {w w' : World} (hr : Rel P r s w) (h : Below w.heap.size w w') : Step P r s w r s w' := by
  have hold : ∀ i o, s.mem.get i = some o → ORel P r w' i o := by
    intro i o hi
    have ho := hr.objs i o hi
    obtain ⟨L, hL, hb⟩ := ho.loc
    refine ho.mono (fun _ _ h => h) fun L' hL' => ?_
    rw [hL] at hL'; cases hL'
    exact h.block _ hb
  exact ⟨⟨rfl, 0, by simp⟩, fun _ _ => rfl, ⟨hold, hr.sep, hr.fresh, hr.pos, hr.glob⟩, h.size, fun b hb _ => h.block b hb, fun b _ ho => ho, fun i o hi _ => hi, h.os, h.tape, h.output⟩

theorem joinGo_spec {xs : List ByteArray} {sep : ByteArray} {s : St} {v : Value} {s' : St} {l : List Nat} (h : joinGo xs sep s = some (v, s', l)) : v = .string ⟨(joinBytes xs sep).toArray⟩ ∧ s' = s ∧ l = [] ∧ (joinBytes xs sep).length ≤ 1000 ∧ xs.length ≤ 1000 := by
  unfold joinGo at h
  cases hb : (Nat.ble (joinBytes xs sep).length 1000 && Nat.ble xs.length 1000) with
  | false => rw [hb] at h; cases h
  | true =>
    rw [hb] at h
    simp only [cond_true, Option.some.injEq, Prod.mk.injEq] at h
    simp only [Bool.and_eq_true] at hb
    exact ⟨h.1.symm, h.2.1.symm, h.2.2.symm, Nat.le_of_ble_eq_true hb.1, Nat.le_of_ble_eq_true hb.2⟩

theorem joinExt_sound : OSound Tryz.prog T0 joinExt := by
  intro f args s v s' l h hp
  unfold joinExt at h
  cases hb : Nat.beq f 143 with
  | false => rw [hb] at h; cases h
  | true =>
    rw [hb] at h
    simp only [cond_true] at h
    have := Nat.eq_of_beq_eq_true hb
    subst this
    refine ⟨by kernel_rfl, ?_⟩
    split at h
    · rename_i sep
      obtain ⟨rfl, rfl, rfl, h1, h2⟩ := joinGo_spec h
      refine ⟨?_, Fr.refl _ _⟩
      intro r w us hr hus
      have hus : ∃ a b, us = #[a, b] ∧ VRel r (.slice none 0 0) a ∧ VRel r (.string sep) b := by
        obtain ⟨us⟩ := us
        cases hus with
        | cons g1 g => cases g with
          | cons g2 g => cases g; exact ⟨_, _, rfl, g1, g2⟩
      obtain ⟨a, b, rfl, ga, gb⟩ := hus
      cases ga; cases gb
      refine (Tryz.strings_Join_none none 0 sep w).mono ?_
      rintro e w' ⟨rfl, rfl⟩
      exact ⟨_, s', r, _, ⟨rfl, rfl⟩, rfl, .string _, Step.refl hr⟩
    · rename_i i o n n' sep
      split at h
      · rename_i cs e0 ro hi
        split at h
        · rename_i xs hxs
          obtain ⟨hc, h⟩ := cond_some h
          simp only [Bool.and_eq_true] at hc
          have hn := Nat.eq_of_beq_eq_true hc.1
          have hn' := Nat.eq_of_beq_eq_true hc.2
          obtain ⟨rfl, rfl, rfl, h1, h2⟩ := joinGo_spec h
          refine ⟨?_, Fr.refl _ _⟩
          intro r w us hr hus
          have hus : ∃ a b, us = #[a, b] ∧ VRel r (.slice (some ⟨i, o, none⟩) n n') a ∧ VRel r (.string sep) b := by
            obtain ⟨us⟩ := us
            cases hus with
            | cons g1 g => cases g with
              | cons g2 g => cases g; exact ⟨_, _, rfl, g1, g2⟩
          obtain ⟨a, b, rfl, ga, gb⟩ := hus
          cases gb
          have hspec := strsOf_spec hxs
          cases ga with
          | sl _ _ _ a' c L hL hnc hcap =>
            obtain ⟨L', c', fr, k1, k2, k3, k4, k5, k6⟩ := hr.objs _ _ hi
            rw [hL] at k1; cases k1
            have hblk : L.block < w.heap.size := (Array.getElem?_eq_some_iff.1 k2).1
            have fin : ∀ {a' : Addr}, Calls Tryz.prog 143 #[.slice (some a') n c, .string sep] w (fun e w' => e = .returned (.string ⟨(joinBytes xs sep).toArray⟩) ∧ Below w.heap.size w w') →
                Calls Tryz.prog 143 #[.slice (some a') n c, .string sep] w fun e w' => ∃ v s'' r' u, (v = Value.string ⟨(joinBytes xs sep).toArray⟩ ∧ s'' = s') ∧ e = .returned u ∧ VRel r' v u ∧ Step Tryz.prog r s' w r' s'' w' := by
              intro a' hcall
              refine hcall.mono ?_
              rintro e w' ⟨rfl, hbel⟩
              exact ⟨_, s', r, _, ⟨rfl, rfl⟩, rfl, .string _, Step.ofBelow hr hbel⟩
            rcases Nat.eq_zero_or_pos c with hc0 | hc0
            · have : n = 0 := by omega
              subst this
              subst hc0
              refine fin ?_
              refine (Tryz.strings_Join_none (some a') 0 sep w).mono ?_
              rintro e w' ⟨rfl, rfl⟩
              have : xs = [] := by cases xs <;> simp at hn ⊢
              subst this
              exact ⟨rfl, Below.refl _ _⟩
            · obtain ⟨rfl, hbound⟩ := hcap hc0
              refine fin ?_
              rw [← hn]
              refine (Tryz.strings_Join L.block (L.base + o) c xs sep w ?_ hblk (by omega) (by omega) ?_).mono ?_
              · intro j x hx
                rw [cell_of_heap k2]
                -- the j-th string
                have hj : j < n := by rw [← hn]; exact (List.getElem?_eq_some_iff.1 hx).1
                have e1 : ((cs.drop o).take n)[j]? = some (.string x) := by
                  rw [hspec, List.getElem?_map, hx]; rfl
                rw [List.getElem?_take_of_lt hj, List.getElem?_drop] at e1
                obtain ⟨u, e2, e3⟩ := k5.2.get_some e1
                have hlt : o + j < cs.length := (List.getElem?_eq_some_iff.1 e1).1
                rw [List.getElem?_take_of_lt hlt, List.getElem?_drop, Array.getElem?_toList] at e2
                cases e3
                rw [Nat.add_assoc]; exact e2
              · have : Lib.join (xs.map (·.data.toList)) sep.data.toList = joinBytes xs sep := rfl
                rw [this]; omega
              · rintro e w' ⟨rfl, hb⟩
                exact ⟨rfl, hb⟩
        · cases h
      · cases h
    · cases h

end Go.Proofs.Abs

/- Data of the closed runs: the package variables, the classes. MADE BY PROGRAM (plays.py). -/
namespace Go.Proofs.Abs
open Go
set_option maxRecDepth 1000000
noncomputable section
def sb (l : List UInt8) : Value := .string ⟨⟨l⟩⟩
def faultsO : AObj := .cells ([[78, 117, 108, 108, 70, 97, 117, 108, 116], [73, 110, 100, 101, 120, 70, 97, 117, 108, 116], [67, 97, 115, 116, 70, 97, 117, 108, 116], [90, 101, 114, 111, 70, 97, 117, 108, 116], [82, 111, 111, 109, 70, 97, 117, 108, 116], [67, 97, 108, 108, 70, 97, 117, 108, 116]].map sb) 126 true
def opsDataU : List (List UInt8 × Bool × Bool) := [([105, 110, 116], true, false), ([116, 114, 117, 101], false, false), ([102, 97, 108, 115, 101], false, false), ([119, 111, 114, 100], false, true), ([110, 117, 108, 108], false, false), ([108, 111, 97, 100], true, false), ([115, 116, 111, 114, 101], true, false), ([112, 111, 112], false, false), ([100, 117, 112], false, false), ([115, 119, 97, 112], false, false), ([97, 100, 100], false, false), ([115, 117, 98], false, false), ([109, 117, 108], false, false), ([100, 105, 118], false, false), ([114, 101, 109], false, false), ([110, 101, 103], false, false), ([108, 101, 115, 115], false, false), ([115, 97, 109, 101], false, false), ([110, 111, 116], false, false), ([98, 111, 116, 104], false, false), ([106, 111, 105, 110], false, false), ([115, 105, 122, 101], false, false), ([106, 117, 109, 112], true, false), ([98, 114, 97, 110, 99, 104], true, false), ([110, 101, 119], false, true), ([103, 101, 116], false, true), ([112, 117, 116], false, true), ([99, 97, 108, 108], false, true), ([97, 114, 114, 97, 121], false, true), ([97, 116], false, false), ([115, 101, 116], false, false), ([105, 115], false, true), ([99, 97, 115, 116], false, true), ([114, 101, 116, 117, 114, 110], false, false), ([116, 104, 114, 111, 119], false, false), ([111, 117, 116], false, false), ([101, 113, 117, 97, 108], false, false), ([97, 110, 100], false, false), ([111, 114], false, false), ([120, 111, 114], false, false), ([115, 104, 108], false, false), ([115, 104, 114], false, false)]
def opsO : AObj := .cells (opsDataU.flatMap fun (s, a, b) => [sb s, .bool a, .bool b]) 226 true
def globObjs : List (Nat × AObj) := [(0, faultsO), (3, opsO)]
def clsArg : Value := (.slice (some ⟨5, 0, none⟩) 4 4)
def clsObjs : List (Nat × AObj) := [(5, (.cells [(sb [65]), (sb [79, 98, 106, 101, 99, 116]), (.slice none 0 0), (.bool false), (.bool false), (.bool false), (.slice (some ⟨6, 0, none⟩) 2 2), (.slice (some ⟨7, 0, none⟩) 2 2), (sb [66]), (sb [65]), (.slice (some ⟨11, 0, none⟩) 1 1), (.bool false), (.bool false), (.bool false), (.slice (some ⟨12, 0, none⟩) 1 1), (.slice none 0 0), (sb [73]), (sb [79, 98, 106, 101, 99, 116]), (.slice none 0 0), (.bool true), (.bool true), (.bool false), (.slice none 0 0), (.slice none 0 0), (sb [68]), (sb [79, 98, 106, 101, 99, 116]), (.slice none 0 0), (.bool false), (.bool true), (.bool false), (.slice none 0 0), (.slice none 0 0)] 85 false)), (6, (.cells [(sb [120]), (sb [105, 110, 116]), (.bool false), (sb [110, 101, 120, 116]), (sb [65]), (.bool false)] 69 false)), (7, (.cells [(sb [102]), (.slice (some ⟨8, 0, none⟩) 2 2), (sb [105, 110, 116]), (.bool false), (.int .i64 (3)), (.slice (some ⟨9, 0, none⟩) 2 2), (.slice none 0 0), (sb [103]), (.slice none 0 0), (sb []), (.bool false), (.int .i64 (1)), (.slice (some ⟨10, 0, none⟩) 1 1), (.slice none 0 0)] 98 false)), (8, (.cells [(sb [105, 110, 116]), (sb [65])] 9 false)), (9, (.cells [(sb [105, 110, 116]), (.int .i64 (1)), (sb []), (sb [114, 101, 116, 117, 114, 110]), (.int .i64 (0)), (sb [])] 94 false)), (10, (.cells [(sb [114, 101, 116, 117, 114, 110]), (.int .i64 (0)), (sb [])] 94 false)), (11, (.cells [(sb [73])] 9 false)), (12, (.cells [(sb [108]), (sb [65, 91, 93]), (.bool false)] 69 false))]
def clsNext : Nat := 13
def newV : Value := (.tuple ⟨[(.pointer (some ⟨28, 0, none⟩)), (.int .i64 (0)), (.int .i64 (0))]⟩)
def newCh : List (Nat × Option AObj) := [(28, some (.cells [(.slice (some ⟨1681, 0, none⟩) 12 12), (.map (some 27))] 82 false)), (1681, some (.cells [(sb [79, 98, 106, 101, 99, 116]), (sb []), (.slice none 0 0), (.bool false), (.bool false), (.bool false), (.slice none 0 0), (.slice none 0 0), (sb [70, 97, 117, 108, 116]), (sb [79, 98, 106, 101, 99, 116]), (.slice none 0 0), (.bool false), (.bool false), (.bool false), (.slice (some ⟨13, 0, none⟩) 1 1), (.slice none 0 0), (sb [78, 117, 108, 108, 70, 97, 117, 108, 116]), (sb [70, 97, 117, 108, 116]), (.slice none 0 0), (.bool false), (.bool false), (.bool true), (.slice none 0 0), (.slice none 0 0), (sb [73, 110, 100, 101, 120, 70, 97, 117, 108, 116]), (sb [70, 97, 117, 108, 116]), (.slice none 0 0), (.bool false), (.bool false), (.bool true), (.slice none 0 0), (.slice none 0 0), (sb [67, 97, 115, 116, 70, 97, 117, 108, 116]), (sb [70, 97, 117, 108, 116]), (.slice none 0 0), (.bool false), (.bool false), (.bool true), (.slice none 0 0), (.slice none 0 0), (sb [90, 101, 114, 111, 70, 97, 117, 108, 116]), (sb [70, 97, 117, 108, 116]), (.slice none 0 0), (.bool false), (.bool false), (.bool true), (.slice none 0 0), (.slice none 0 0), (sb [82, 111, 111, 109, 70, 97, 117, 108, 116]), (sb [70, 97, 117, 108, 116]), (.slice none 0 0), (.bool false), (.bool false), (.bool true), (.slice none 0 0), (.slice none 0 0), (sb [67, 97, 108, 108, 70, 97, 117, 108, 116]), (sb [70, 97, 117, 108, 116]), (.slice none 0 0), (.bool false), (.bool false), (.bool true), (.slice none 0 0), (.slice none 0 0), (sb [65]), (sb [79, 98, 106, 101, 99, 116]), (.slice none 0 0), (.bool false), (.bool false), (.bool false), (.slice (some ⟨240, 0, none⟩) 2 2), (.slice (some ⟨1308, 0, none⟩) 2 2), (sb [66]), (sb [65]), (.slice (some ⟨1495, 0, none⟩) 1 1), (.bool false), (.bool false), (.bool false), (.slice (some ⟨1531, 0, none⟩) 1 1), (.slice none 0 0), (sb [73]), (sb [79, 98, 106, 101, 99, 116]), (.slice none 0 0), (.bool true), (.bool true), (.bool false), (.slice none 0 0), (.slice none 0 0), (sb [68]), (sb [79, 98, 106, 101, 99, 116]), (.slice none 0 0), (.bool false), (.bool true), (.bool false), (.slice none 0 0), (.slice none 0 0)] 85 false)), (13, some (.cells [(sb [119, 104, 97, 116]), (sb [116, 101, 120, 116]), (.bool false)] 69 false)), (240, some (.cells [(sb [120]), (sb [105, 110, 116]), (.bool false), (sb [110, 101, 120, 116]), (sb [65]), (.bool false)] 69 false)), (1308, some (.cells [(sb [102]), (.slice (some ⟨600, 0, none⟩) 2 2), (sb [105, 110, 116]), (.bool false), (.int .i64 (3)), (.slice (some ⟨636, 0, none⟩) 2 2), (.slice none 0 0), (sb [103]), (.slice none 0 0), (sb []), (.bool false), (.int .i64 (1)), (.slice (some ⟨1116, 0, none⟩) 1 1), (.slice none 0 0)] 98 false)), (600, some (.cells [(sb [105, 110, 116]), (sb [65])] 9 false)), (636, some (.cells [(sb [105, 110, 116]), (.int .i64 (1)), (sb []), (sb [114, 101, 116, 117, 114, 110]), (.int .i64 (0)), (sb [])] 94 false)), (1116, some (.cells [(sb [114, 101, 116, 117, 114, 110]), (.int .i64 (0)), (sb [])] 94 false)), (1495, some (.cells [(sb [73])] 9 false)), (1531, some (.cells [(sb [108]), (sb [65, 91, 93]), (.bool false)] 69 false)), (27, some (.map [((sb [79, 98, 106, 101, 99, 116]), (.int .i64 (0))), ((sb [70, 97, 117, 108, 116]), (.int .i64 (1))), ((sb [78, 117, 108, 108, 70, 97, 117, 108, 116]), (.int .i64 (2))), ((sb [73, 110, 100, 101, 120, 70, 97, 117, 108, 116]), (.int .i64 (3))), ((sb [67, 97, 115, 116, 70, 97, 117, 108, 116]), (.int .i64 (4))), ((sb [90, 101, 114, 111, 70, 97, 117, 108, 116]), (.int .i64 (5))), ((sb [82, 111, 111, 109, 70, 97, 117, 108, 116]), (.int .i64 (6))), ((sb [67, 97, 108, 108, 70, 97, 117, 108, 116]), (.int .i64 (7))), ((sb [65]), (.int .i64 (8))), ((sb [66]), (.int .i64 (9))), ((sb [73]), (.int .i64 (10))), ((sb [68]), (.int .i64 (11)))]))]
def newFin : Nat := 2220
end
end Go.Proofs.Abs
