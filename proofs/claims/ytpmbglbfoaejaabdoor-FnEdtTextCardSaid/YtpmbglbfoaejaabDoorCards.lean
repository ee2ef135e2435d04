/-
  DERIVED. GIVEN WITH THE SEED: THE CARDS: each row of YtpmbglbfoaejaabDoorRows.lean that lists a variable, with what it lists TIED to the program's text (the seventh form; the later family's looks); each row that meets fmt, with fmt's text TOLD by the authors' own Lean function (tested against real Go, not proved from fmt's source: count such statements apart). THE CARD IS WHAT COUNTS. Prove the row's statement (the work); the ties are given (YtpmbglbfoaejaabDoorTie.lean); close each card by the builder's one call (the guide's Derived/Test/ToyasCard.lean, 'card_holds'). Laid BY PROGRAM, IN A SANDBOX (cutbox-door.mjs). By AI agents, Wed Nov 11 2026. No macro, syntax, notation, axiom, sorry.
-/
import Derived.Test.YtpmbglbfoaejaabDoorRows
import GoSem.ClaimSeven
namespace Go.Proofs.YtpmbglbfoaejaabDoor
namespace Rows

/-- THE TIED CARD OF 'laws.FnEdtText'. -/
def fnEdtTextCard : Claim7 := { stood := { row := fnEdtTextRow, standIns := [], harness := (true, "48070acc317ef966eb4eeac3f7e9698f380484ea3bab5b0ae501dd9de69967c9"), looks := false }, kinds := [], alts := [], laidByText := true, laidKinds := [.data, .pinned], laidTests := true, laidLooks := .later }
def FnEdtTextCardSaid : Prop := Claim7.holds Tryd.pinned (.plain (OpenSpec.ofChange fnEdtTextSpec)) fnEdtTextCard

/-- THE SECOND FORM's CARD OF 'laws.FnEdtText'. -/
def fnEdtTextUptoCard : Claim7 := { stood := { row := fnEdtTextUptoRow, standIns := [], harness := (true, "48070acc317ef966eb4eeac3f7e9698f380484ea3bab5b0ae501dd9de69967c9"), looks := false }, kinds := [], alts := [], laidByText := true, laidKinds := [.data, .pinned], laidTests := true, laidLooks := .later }
def FnEdtTextUptoCardSaid : Prop := Claim7.holds Tryd.pinned (.plain (OpenSpec.upto fnEdtTextSpec)) fnEdtTextUptoCard
end Rows
end Go.Proofs.YtpmbglbfoaejaabDoor
