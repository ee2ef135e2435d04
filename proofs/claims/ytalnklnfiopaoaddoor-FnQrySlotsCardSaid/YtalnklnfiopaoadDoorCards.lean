/-
  DERIVED. GIVEN WITH THE SEED: THE CARDS: each row of YtalnklnfiopaoadDoorRows.lean that lists a variable, with what it lists TIED to the program's text (the seventh form; the later family's looks); each row that meets fmt, with fmt's text TOLD by the authors' own Lean function (tested against real Go, not proved from fmt's source: count such statements apart). THE CARD IS WHAT COUNTS. Prove the row's statement (the work); the ties are given (YtalnklnfiopaoadDoorTie.lean); close each card by the builder's one call (the guide's Derived/Test/ToyasCard.lean, 'card_holds'). Laid BY PROGRAM, IN A SANDBOX (cutbox-door.mjs). By AI agents, Wed Nov 11 2026. No macro, syntax, notation, axiom, sorry.
-/
import Derived.Test.YtalnklnfiopaoadDoorRows
import GoSem.ClaimSeven
namespace Go.Proofs.YtalnklnfiopaoadDoor
namespace Rows

/-- THE TIED CARD OF 'laws.FnQrySlots'. -/
def fnQrySlotsCard : Claim7 := { stood := { row := fnQrySlotsRow, standIns := [], harness := (true, "d4a95d29849f44a06548a02d7221e6011a212e7267e92f51a6a8f4abe8b9277c"), looks := false }, kinds := [], alts := [], laidByText := true, laidKinds := [.data, .pinned], laidTests := true, laidLooks := .later }
def FnQrySlotsCardSaid : Prop := Claim7.holds Tryd.pinned (.plain (OpenSpec.ofChange fnQrySlotsSpec)) fnQrySlotsCard

/-- THE SECOND FORM's CARD OF 'laws.FnQrySlots'. -/
def fnQrySlotsUptoCard : Claim7 := { stood := { row := fnQrySlotsUptoRow, standIns := [], harness := (true, "d4a95d29849f44a06548a02d7221e6011a212e7267e92f51a6a8f4abe8b9277c"), looks := false }, kinds := [], alts := [], laidByText := true, laidKinds := [.data, .pinned], laidTests := true, laidLooks := .later }
def FnQrySlotsUptoCardSaid : Prop := Claim7.holds Tryd.pinned (.plain (OpenSpec.upto fnQrySlotsSpec)) fnQrySlotsUptoCard
end Rows
end Go.Proofs.YtalnklnfiopaoadDoor
