/-
  DERIVED. GIVEN WITH THE SEED: THE CARDS: each row of YtkbcmbjoelkgoacDoorRows.lean that lists a variable, with what it lists TIED to the program's text (the seventh form; the later family's looks); each row that meets fmt, with fmt's text TOLD by the authors' own Lean function (tested against real Go, not proved from fmt's source: count such statements apart). THE CARD IS WHAT COUNTS. Prove the row's statement (the work); the ties are given (YtkbcmbjoelkgoacDoorTie.lean); close each card by the builder's one call (the guide's Derived/Test/ToyasCard.lean, 'card_holds'). Laid BY PROGRAM, IN A SANDBOX (cutbox-door.mjs). By AI agents, Wed Nov 11 2026. No macro, syntax, notation, axiom, sorry.
-/
import Derived.Test.YtkbcmbjoelkgoacDoorRows
import GoSem.ClaimSeven
namespace Go.Proofs.YtkbcmbjoelkgoacDoor
namespace Rows

/-- THE TIED CARD OF 'laws.FnGrdSlots'. -/
def fnGrdSlotsCard : Claim7 := { stood := { row := fnGrdSlotsRow, standIns := [], harness := (true, "2e0e930dd04e48fda9d43e2f22330f18792e9f94d80d0bff0bbee8e37c5ccd1f"), looks := false }, kinds := [], alts := [], laidByText := true, laidKinds := [.data, .pinned], laidTests := true, laidLooks := .later }
def FnGrdSlotsCardSaid : Prop := Claim7.holds Tryd.pinned (.plain (OpenSpec.ofChange fnGrdSlotsSpec)) fnGrdSlotsCard

/-- THE SECOND FORM's CARD OF 'laws.FnGrdSlots'. -/
def fnGrdSlotsUptoCard : Claim7 := { stood := { row := fnGrdSlotsUptoRow, standIns := [], harness := (true, "2e0e930dd04e48fda9d43e2f22330f18792e9f94d80d0bff0bbee8e37c5ccd1f"), looks := false }, kinds := [], alts := [], laidByText := true, laidKinds := [.data, .pinned], laidTests := true, laidLooks := .later }
def FnGrdSlotsUptoCardSaid : Prop := Claim7.holds Tryd.pinned (.plain (OpenSpec.upto fnGrdSlotsSpec)) fnGrdSlotsUptoCard
end Rows
end Go.Proofs.YtkbcmbjoelkgoacDoor
