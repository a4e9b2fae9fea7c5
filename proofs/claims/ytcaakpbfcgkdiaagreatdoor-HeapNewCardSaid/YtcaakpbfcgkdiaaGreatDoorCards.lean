/-
  DERIVED. GIVEN WITH THE SEED: THE CARDS: each row of YtcaakpbfcgkdiaaGreatDoorRows.lean that lists a variable, with what it lists TIED to the program's text (the seventh form; the later family's looks); each row that meets fmt, with fmt's text TOLD by the authors' own Lean function (tested against real Go, not proved from fmt's source: count such statements apart). THE CARD IS WHAT COUNTS. Prove the row's statement (the work); the ties are given (YtcaakpbfcgkdiaaGreatDoorTie.lean); close each card by the builder's one call (the guide's Derived/Test/ToyasCard.lean, 'card_holds'). Laid BY PROGRAM, IN A SANDBOX (cutbox-door.mjs). By AI agents, Wed Nov 11 2026. No macro, syntax, notation, axiom, sorry.
-/
import Derived.Test.YtcaakpbfcgkdiaaGreatDoorRows
import GoSem.ClaimSeven
namespace Go.Proofs.YtcaakpbfcgkdiaaGreatDoor
namespace Rows

/-- THE TIED CARD OF 'squinchlaw09.HeapNew'. -/
def heapNewCard : Claim7 := { stood := { row := heapNewRow, standIns := [], harness := (true, "219ef1a812d5e03f6bbb4b600613f0d9495bd20144eedb34ca67eb64a30e7d92"), looks := false }, kinds := [], alts := [], laidByText := true, laidKinds := [.data, .widerDeep, .data, .pinned], laidTests := true, laidLooks := .later }
def HeapNewCardSaid : Prop := Claim7.holds Tryz.pinned (.plain (OpenSpec.ofChange heapNewSpec)) heapNewCard

/-- THE TIED CARD OF 'squinchlaw09.HeapFits'. -/
def heapFitsCard : Claim7 := { stood := { row := heapFitsRow, standIns := [], harness := (true, "219ef1a812d5e03f6bbb4b600613f0d9495bd20144eedb34ca67eb64a30e7d92"), looks := false }, kinds := [], alts := [], laidByText := true, laidKinds := [.data, .widerDeep, .data, .pinned], laidTests := true, laidLooks := .later }
def HeapFitsCardSaid : Prop := Claim7.holds Tryz.pinned (.plain (OpenSpec.ofChange heapFitsSpec)) heapFitsCard

/-- THE TIED CARD OF 'squinchlaw09.HeapRooms'. -/
def heapRoomsCard : Claim7 := { stood := { row := heapRoomsRow, standIns := [], harness := (true, "219ef1a812d5e03f6bbb4b600613f0d9495bd20144eedb34ca67eb64a30e7d92"), looks := false }, kinds := [], alts := [], laidByText := true, laidKinds := [.data, .widerDeep, .data, .pinned], laidTests := true, laidLooks := .later }
def HeapRoomsCardSaid : Prop := Claim7.holds Tryz.pinned (.plain (OpenSpec.ofChange heapRoomsSpec)) heapRoomsCard

/-- THE TIED CARD OF 'squinchlaw09.HeapFresh'. -/
def heapFreshCard : Claim7 := { stood := { row := heapFreshRow, standIns := [], harness := (true, "219ef1a812d5e03f6bbb4b600613f0d9495bd20144eedb34ca67eb64a30e7d92"), looks := false }, kinds := [], alts := [], laidByText := true, laidKinds := [.data, .widerDeep, .data, .pinned], laidTests := true, laidLooks := .later }
def HeapFreshCardSaid : Prop := Claim7.holds Tryz.pinned (.plain (OpenSpec.ofChange heapFreshSpec)) heapFreshCard

/-- THE TIED CARD OF 'squinchlaw09.HeapPlays'. -/
def heapPlaysCard : Claim7 := { stood := { row := heapPlaysRow, standIns := [], harness := (true, "219ef1a812d5e03f6bbb4b600613f0d9495bd20144eedb34ca67eb64a30e7d92"), looks := false }, kinds := [], alts := [], laidByText := true, laidKinds := [.data, .widerDeep, .data, .pinned], laidTests := true, laidLooks := .later }
def HeapPlaysCardSaid : Prop := Claim7.holds Tryz.pinned (.plain (OpenSpec.ofChange heapPlaysSpec)) heapPlaysCard

/-- THE TIED CARD OF 'squinchlaw09.HeapRight'. -/
def heapRightCard : Claim7 := { stood := { row := heapRightRow, standIns := [], harness := (true, "219ef1a812d5e03f6bbb4b600613f0d9495bd20144eedb34ca67eb64a30e7d92"), looks := false }, kinds := [], alts := [], laidByText := true, laidKinds := [.data, .widerDeep, .data, .pinned], laidTests := true, laidLooks := .later }
def HeapRightCardSaid : Prop := Claim7.holds Tryz.pinned (.plain (OpenSpec.ofChange heapRightSpec)) heapRightCard

/-- THE TIED CARD OF 'squinchlaw09.HeapCuts'. -/
def heapCutsCard : Claim7 := { stood := { row := heapCutsRow, standIns := [], harness := (true, "219ef1a812d5e03f6bbb4b600613f0d9495bd20144eedb34ca67eb64a30e7d92"), looks := false }, kinds := [], alts := [], laidByText := true, laidKinds := [.data, .widerDeep, .data, .pinned], laidTests := true, laidLooks := .later }
def HeapCutsCardSaid : Prop := Claim7.holds Tryz.pinned (.plain (OpenSpec.ofChange heapCutsSpec)) heapCutsCard

/-- THE TIED CARD OF 'squinchlaw09.HeapApart'. -/
def heapApartCard : Claim7 := { stood := { row := heapApartRow, standIns := [], harness := (true, "219ef1a812d5e03f6bbb4b600613f0d9495bd20144eedb34ca67eb64a30e7d92"), looks := false }, kinds := [], alts := [], laidByText := true, laidKinds := [.data, .widerDeep, .data, .pinned], laidTests := true, laidLooks := .later }
def HeapApartCardSaid : Prop := Claim7.holds Tryz.pinned (.plain (OpenSpec.ofChange heapApartSpec)) heapApartCard

/-- THE TIED CARD OF 'squinchlaw09.HeapSets'. -/
def heapSetsCard : Claim7 := { stood := { row := heapSetsRow, standIns := [], harness := (true, "219ef1a812d5e03f6bbb4b600613f0d9495bd20144eedb34ca67eb64a30e7d92"), looks := false }, kinds := [], alts := [], laidByText := true, laidKinds := [.data, .widerDeep, .data, .pinned], laidTests := true, laidLooks := .later }
def HeapSetsCardSaid : Prop := Claim7.holds Tryz.pinned (.plain (OpenSpec.ofChange heapSetsSpec)) heapSetsCard

/-- THE SECOND FORM's CARD OF 'squinchlaw09.HeapNew'. -/
def heapNewUptoCard : Claim7 := { stood := { row := heapNewUptoRow, standIns := [], harness := (true, "219ef1a812d5e03f6bbb4b600613f0d9495bd20144eedb34ca67eb64a30e7d92"), looks := false }, kinds := [], alts := [], laidByText := true, laidKinds := [.data, .widerDeep, .data, .pinned], laidTests := true, laidLooks := .later }
def HeapNewUptoCardSaid : Prop := Claim7.holds Tryz.pinned (.plain (OpenSpec.upto heapNewSpec)) heapNewUptoCard

/-- THE SECOND FORM's CARD OF 'squinchlaw09.HeapFits'. -/
def heapFitsUptoCard : Claim7 := { stood := { row := heapFitsUptoRow, standIns := [], harness := (true, "219ef1a812d5e03f6bbb4b600613f0d9495bd20144eedb34ca67eb64a30e7d92"), looks := false }, kinds := [], alts := [], laidByText := true, laidKinds := [.data, .widerDeep, .data, .pinned], laidTests := true, laidLooks := .later }
def HeapFitsUptoCardSaid : Prop := Claim7.holds Tryz.pinned (.plain (OpenSpec.upto heapFitsSpec)) heapFitsUptoCard

/-- THE SECOND FORM's CARD OF 'squinchlaw09.HeapRooms'. -/
def heapRoomsUptoCard : Claim7 := { stood := { row := heapRoomsUptoRow, standIns := [], harness := (true, "219ef1a812d5e03f6bbb4b600613f0d9495bd20144eedb34ca67eb64a30e7d92"), looks := false }, kinds := [], alts := [], laidByText := true, laidKinds := [.data, .widerDeep, .data, .pinned], laidTests := true, laidLooks := .later }
def HeapRoomsUptoCardSaid : Prop := Claim7.holds Tryz.pinned (.plain (OpenSpec.upto heapRoomsSpec)) heapRoomsUptoCard

/-- THE SECOND FORM's CARD OF 'squinchlaw09.HeapFresh'. -/
def heapFreshUptoCard : Claim7 := { stood := { row := heapFreshUptoRow, standIns := [], harness := (true, "219ef1a812d5e03f6bbb4b600613f0d9495bd20144eedb34ca67eb64a30e7d92"), looks := false }, kinds := [], alts := [], laidByText := true, laidKinds := [.data, .widerDeep, .data, .pinned], laidTests := true, laidLooks := .later }
def HeapFreshUptoCardSaid : Prop := Claim7.holds Tryz.pinned (.plain (OpenSpec.upto heapFreshSpec)) heapFreshUptoCard

/-- THE SECOND FORM's CARD OF 'squinchlaw09.HeapPlays'. -/
def heapPlaysUptoCard : Claim7 := { stood := { row := heapPlaysUptoRow, standIns := [], harness := (true, "219ef1a812d5e03f6bbb4b600613f0d9495bd20144eedb34ca67eb64a30e7d92"), looks := false }, kinds := [], alts := [], laidByText := true, laidKinds := [.data, .widerDeep, .data, .pinned], laidTests := true, laidLooks := .later }
def HeapPlaysUptoCardSaid : Prop := Claim7.holds Tryz.pinned (.plain (OpenSpec.upto heapPlaysSpec)) heapPlaysUptoCard

/-- THE SECOND FORM's CARD OF 'squinchlaw09.HeapRight'. -/
def heapRightUptoCard : Claim7 := { stood := { row := heapRightUptoRow, standIns := [], harness := (true, "219ef1a812d5e03f6bbb4b600613f0d9495bd20144eedb34ca67eb64a30e7d92"), looks := false }, kinds := [], alts := [], laidByText := true, laidKinds := [.data, .widerDeep, .data, .pinned], laidTests := true, laidLooks := .later }
def HeapRightUptoCardSaid : Prop := Claim7.holds Tryz.pinned (.plain (OpenSpec.upto heapRightSpec)) heapRightUptoCard

/-- THE SECOND FORM's CARD OF 'squinchlaw09.HeapCuts'. -/
def heapCutsUptoCard : Claim7 := { stood := { row := heapCutsUptoRow, standIns := [], harness := (true, "219ef1a812d5e03f6bbb4b600613f0d9495bd20144eedb34ca67eb64a30e7d92"), looks := false }, kinds := [], alts := [], laidByText := true, laidKinds := [.data, .widerDeep, .data, .pinned], laidTests := true, laidLooks := .later }
def HeapCutsUptoCardSaid : Prop := Claim7.holds Tryz.pinned (.plain (OpenSpec.upto heapCutsSpec)) heapCutsUptoCard

/-- THE SECOND FORM's CARD OF 'squinchlaw09.HeapApart'. -/
def heapApartUptoCard : Claim7 := { stood := { row := heapApartUptoRow, standIns := [], harness := (true, "219ef1a812d5e03f6bbb4b600613f0d9495bd20144eedb34ca67eb64a30e7d92"), looks := false }, kinds := [], alts := [], laidByText := true, laidKinds := [.data, .widerDeep, .data, .pinned], laidTests := true, laidLooks := .later }
def HeapApartUptoCardSaid : Prop := Claim7.holds Tryz.pinned (.plain (OpenSpec.upto heapApartSpec)) heapApartUptoCard

/-- THE SECOND FORM's CARD OF 'squinchlaw09.HeapSets'. -/
def heapSetsUptoCard : Claim7 := { stood := { row := heapSetsUptoRow, standIns := [], harness := (true, "219ef1a812d5e03f6bbb4b600613f0d9495bd20144eedb34ca67eb64a30e7d92"), looks := false }, kinds := [], alts := [], laidByText := true, laidKinds := [.data, .widerDeep, .data, .pinned], laidTests := true, laidLooks := .later }
def HeapSetsUptoCardSaid : Prop := Claim7.holds Tryz.pinned (.plain (OpenSpec.upto heapSetsSpec)) heapSetsUptoCard
end Rows
end Go.Proofs.YtcaakpbfcgkdiaaGreatDoor
