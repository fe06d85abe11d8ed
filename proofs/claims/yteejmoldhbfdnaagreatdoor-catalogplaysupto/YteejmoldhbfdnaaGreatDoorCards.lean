/-
  DERIVED. GIVEN WITH THE SEED: THE CARDS: each row of YteejmoldhbfdnaaGreatDoorRows.lean that lists a variable, with what it lists TIED to the program's text (the seventh form; the later family's looks); each row that meets fmt, with fmt's text TOLD by the authors' own Lean function (tested against real Go, not proved from fmt's source: count such statements apart). THE CARD IS WHAT COUNTS. Prove the row's statement (the work); the ties are given (YteejmoldhbfdnaaGreatDoorTie.lean); close each card by the builder's one call (the guide's Derived/Test/ToyasCard.lean, 'card_holds'). Laid BY PROGRAM, IN A SANDBOX (cutbox-door.mjs). By AI agents, Wed Nov 11 2026. No macro, syntax, notation, axiom, sorry.
-/
import Derived.Test.YteejmoldhbfdnaaGreatDoorRows
import GoSem.ClaimSeven
namespace Go.Proofs.YteejmoldhbfdnaaGreatDoor
namespace Rows

/-- THE TIED CARD OF 'warrenlaw14.BodiesFull'. -/
def bodiesFullCard : Claim7 := { stood := { row := bodiesFullRow, standIns := [], harness := (true, "e2d1dd1be46623bd87d5f2f2760c329470d626e031aa669c5c7855119d328190"), looks := true }, kinds := [], alts := [], laidByText := true, laidKinds := [.data, .data, .data, .sentinel, .sentinel, .data], laidTests := true, laidLooks := .later }
def BodiesFullCardSaid : Prop := Claim7.holds Tryz.pinned (.plain (OpenSpec.ofChange bodiesFullSpec)) bodiesFullCard

/-- THE TIED CARD OF 'warrenlaw13.CatalogAtomic'. -/
def catalogAtomicCard : Claim7 := { stood := { row := catalogAtomicRow, standIns := [], harness := (true, "e2d1dd1be46623bd87d5f2f2760c329470d626e031aa669c5c7855119d328190"), looks := true }, kinds := [], alts := [], laidByText := true, laidKinds := [.data, .data, .data, .sentinel, .sentinel, .data], laidTests := true, laidLooks := .later }
def CatalogAtomicCardSaid : Prop := Claim7.holds Tryz.pinned (.plain (OpenSpec.ofChange catalogAtomicSpec)) catalogAtomicCard

/-- THE TIED CARD OF 'warrenlaw13.CatalogPlays'. -/
def catalogPlaysCard : Claim7 := { stood := { row := catalogPlaysRow, standIns := [], harness := (true, "e2d1dd1be46623bd87d5f2f2760c329470d626e031aa669c5c7855119d328190"), looks := true }, kinds := [], alts := [], laidByText := true, laidKinds := [.data, .data, .data, .sentinel, .sentinel, .data], laidTests := true, laidLooks := .later }
def CatalogPlaysCardSaid : Prop := Claim7.holds Tryz.pinned (.plain (OpenSpec.ofChange catalogPlaysSpec)) catalogPlaysCard

/-- THE TIED CARD OF 'warrenlaw14.BodiesPlays'. -/
def bodiesPlaysCard : Claim7 := { stood := { row := bodiesPlaysRow, standIns := [], harness := (true, "e2d1dd1be46623bd87d5f2f2760c329470d626e031aa669c5c7855119d328190"), looks := true }, kinds := [], alts := [], laidByText := true, laidKinds := [.data, .data, .data, .sentinel, .sentinel, .data], laidTests := true, laidLooks := .later }
def BodiesPlaysCardSaid : Prop := Claim7.holds Tryz.pinned (.plain (OpenSpec.ofChange bodiesPlaysSpec)) bodiesPlaysCard

/-- THE TIED CARD OF 'warrenlaw16.RouterCycles'. -/
def routerCyclesCard : Claim7 := { stood := { row := routerCyclesRow, standIns := [], harness := (true, "e2d1dd1be46623bd87d5f2f2760c329470d626e031aa669c5c7855119d328190"), looks := true }, kinds := [], alts := [], laidByText := true, laidKinds := [.data, .pinned], laidTests := true, laidLooks := .later }
def RouterCyclesCardSaid : Prop := Claim7.holds Tryz.pinned (.plain (OpenSpec.ofChange routerCyclesSpec)) routerCyclesCard

/-- THE TIED CARD OF 'warrenlaw16.RouterPlays'. -/
def routerPlaysCard : Claim7 := { stood := { row := routerPlaysRow, standIns := [], harness := (true, "e2d1dd1be46623bd87d5f2f2760c329470d626e031aa669c5c7855119d328190"), looks := true }, kinds := [], alts := [], laidByText := true, laidKinds := [.data, .pinned], laidTests := true, laidLooks := .later }
def RouterPlaysCardSaid : Prop := Claim7.holds Tryz.pinned (.plain (OpenSpec.ofChange routerPlaysSpec)) routerPlaysCard

/-- THE TIED CARD OF 'warrenlaw16.RouterUndone'. -/
def routerUndoneCard : Claim7 := { stood := { row := routerUndoneRow, standIns := [], harness := (true, "e2d1dd1be46623bd87d5f2f2760c329470d626e031aa669c5c7855119d328190"), looks := true }, kinds := [], alts := [], laidByText := true, laidKinds := [.data, .pinned], laidTests := true, laidLooks := .later }
def RouterUndoneCardSaid : Prop := Claim7.holds Tryz.pinned (.plain (OpenSpec.ofChange routerUndoneSpec)) routerUndoneCard

/-- THE SECOND FORM's CARD OF 'warrenlaw14.BodiesFull'. -/
def bodiesFullUptoCard : Claim7 := { stood := { row := bodiesFullUptoRow, standIns := [], harness := (true, "e2d1dd1be46623bd87d5f2f2760c329470d626e031aa669c5c7855119d328190"), looks := true }, kinds := [], alts := [], laidByText := true, laidKinds := [.data, .data, .data, .sentinel, .sentinel, .data], laidTests := true, laidLooks := .later }
def BodiesFullUptoCardSaid : Prop := Claim7.holds Tryz.pinned (.plain (OpenSpec.upto bodiesFullSpec)) bodiesFullUptoCard

/-- THE SECOND FORM's CARD OF 'warrenlaw13.CatalogAtomic'. -/
def catalogAtomicUptoCard : Claim7 := { stood := { row := catalogAtomicUptoRow, standIns := [], harness := (true, "e2d1dd1be46623bd87d5f2f2760c329470d626e031aa669c5c7855119d328190"), looks := true }, kinds := [], alts := [], laidByText := true, laidKinds := [.data, .data, .data, .sentinel, .sentinel, .data], laidTests := true, laidLooks := .later }
def CatalogAtomicUptoCardSaid : Prop := Claim7.holds Tryz.pinned (.plain (OpenSpec.upto catalogAtomicSpec)) catalogAtomicUptoCard

/-- THE SECOND FORM's CARD OF 'warrenlaw13.CatalogPlays'. -/
def catalogPlaysUptoCard : Claim7 := { stood := { row := catalogPlaysUptoRow, standIns := [], harness := (true, "e2d1dd1be46623bd87d5f2f2760c329470d626e031aa669c5c7855119d328190"), looks := true }, kinds := [], alts := [], laidByText := true, laidKinds := [.data, .data, .data, .sentinel, .sentinel, .data], laidTests := true, laidLooks := .later }
def CatalogPlaysUptoCardSaid : Prop := Claim7.holds Tryz.pinned (.plain (OpenSpec.upto catalogPlaysSpec)) catalogPlaysUptoCard

/-- THE SECOND FORM's CARD OF 'warrenlaw14.BodiesPlays'. -/
def bodiesPlaysUptoCard : Claim7 := { stood := { row := bodiesPlaysUptoRow, standIns := [], harness := (true, "e2d1dd1be46623bd87d5f2f2760c329470d626e031aa669c5c7855119d328190"), looks := true }, kinds := [], alts := [], laidByText := true, laidKinds := [.data, .data, .data, .sentinel, .sentinel, .data], laidTests := true, laidLooks := .later }
def BodiesPlaysUptoCardSaid : Prop := Claim7.holds Tryz.pinned (.plain (OpenSpec.upto bodiesPlaysSpec)) bodiesPlaysUptoCard

/-- THE SECOND FORM's CARD OF 'warrenlaw16.RouterCycles'. -/
def routerCyclesUptoCard : Claim7 := { stood := { row := routerCyclesUptoRow, standIns := [], harness := (true, "e2d1dd1be46623bd87d5f2f2760c329470d626e031aa669c5c7855119d328190"), looks := true }, kinds := [], alts := [], laidByText := true, laidKinds := [.data, .pinned], laidTests := true, laidLooks := .later }
def RouterCyclesUptoCardSaid : Prop := Claim7.holds Tryz.pinned (.plain (OpenSpec.upto routerCyclesSpec)) routerCyclesUptoCard

/-- THE SECOND FORM's CARD OF 'warrenlaw16.RouterPlays'. -/
def routerPlaysUptoCard : Claim7 := { stood := { row := routerPlaysUptoRow, standIns := [], harness := (true, "e2d1dd1be46623bd87d5f2f2760c329470d626e031aa669c5c7855119d328190"), looks := true }, kinds := [], alts := [], laidByText := true, laidKinds := [.data, .pinned], laidTests := true, laidLooks := .later }
def RouterPlaysUptoCardSaid : Prop := Claim7.holds Tryz.pinned (.plain (OpenSpec.upto routerPlaysSpec)) routerPlaysUptoCard

/-- THE SECOND FORM's CARD OF 'warrenlaw16.RouterUndone'. -/
def routerUndoneUptoCard : Claim7 := { stood := { row := routerUndoneUptoRow, standIns := [], harness := (true, "e2d1dd1be46623bd87d5f2f2760c329470d626e031aa669c5c7855119d328190"), looks := true }, kinds := [], alts := [], laidByText := true, laidKinds := [.data, .pinned], laidTests := true, laidLooks := .later }
def RouterUndoneUptoCardSaid : Prop := Claim7.holds Tryz.pinned (.plain (OpenSpec.upto routerUndoneSpec)) routerUndoneUptoCard
end Rows
end Go.Proofs.YteejmoldhbfdnaaGreatDoor
