/-
  DERIVED. GIVEN WITH THE SEED: THE CARDS: each row of YtalnklnfiopaoabDoorRows.lean that lists a variable, with what it lists TIED to the program's text (the seventh form; the later family's looks); each row that meets fmt, with fmt's text TOLD by the authors' own Lean function (tested against real Go, not proved from fmt's source: count such statements apart). THE CARD IS WHAT COUNTS. Prove the row's statement (the work); the ties are given (YtalnklnfiopaoabDoorTie.lean); close each card by the builder's one call (the guide's Derived/Test/ToyasCard.lean, 'card_holds'). Laid BY PROGRAM, IN A SANDBOX (cutbox-door.mjs). By AI agents, Wed Nov 11 2026. No macro, syntax, notation, axiom, sorry.
-/
import Derived.Test.YtalnklnfiopaoabDoorRows
import GoSem.ClaimSeven
namespace Go.Proofs.YtalnklnfiopaoabDoor
namespace Rows

/-- THE TIED CARD OF 'laws.FnQryRange'. -/
def fnQryRangeCard : Claim7 := { stood := { row := fnQryRangeRow, standIns := [], harness := (true, "4dc370e17b5e4fdc2bd430840f343dc78198cf30057dcda2ec86c9237ce0422f"), looks := false }, kinds := [], alts := [], laidByText := true, laidKinds := [.data, .pinned], laidTests := true, laidLooks := .later }
def FnQryRangeCardSaid : Prop := Claim7.holds Tryd.pinned (.plain (OpenSpec.ofChange fnQryRangeSpec)) fnQryRangeCard

/-- THE SECOND FORM's CARD OF 'laws.FnQryRange'. -/
def fnQryRangeUptoCard : Claim7 := { stood := { row := fnQryRangeUptoRow, standIns := [], harness := (true, "4dc370e17b5e4fdc2bd430840f343dc78198cf30057dcda2ec86c9237ce0422f"), looks := false }, kinds := [], alts := [], laidByText := true, laidKinds := [.data, .pinned], laidTests := true, laidLooks := .later }
def FnQryRangeUptoCardSaid : Prop := Claim7.holds Tryd.pinned (.plain (OpenSpec.upto fnQryRangeSpec)) fnQryRangeUptoCard
end Rows
end Go.Proofs.YtalnklnfiopaoabDoor
