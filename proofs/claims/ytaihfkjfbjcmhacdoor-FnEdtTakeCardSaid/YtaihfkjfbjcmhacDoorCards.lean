/-
  DERIVED. GIVEN WITH THE SEED: THE CARDS: each row of YtaihfkjfbjcmhacDoorRows.lean that lists a variable, with what it lists TIED to the program's text (the seventh form; the later family's looks); each row that meets fmt, with fmt's text TOLD by the authors' own Lean function (tested against real Go, not proved from fmt's source: count such statements apart). THE CARD IS WHAT COUNTS. Prove the row's statement (the work); the ties are given (YtaihfkjfbjcmhacDoorTie.lean); close each card by the builder's one call (the guide's Derived/Test/ToyasCard.lean, 'card_holds'). Laid BY PROGRAM, IN A SANDBOX (cutbox-door.mjs). By AI agents, Wed Nov 11 2026. No macro, syntax, notation, axiom, sorry.
-/
import Derived.Test.YtaihfkjfbjcmhacDoorRows
import GoSem.ClaimSeven
namespace Go.Proofs.YtaihfkjfbjcmhacDoor
namespace Rows

/-- THE TIED CARD OF 'laws.FnEdtTake'. -/
def fnEdtTakeCard : Claim7 := { stood := { row := fnEdtTakeRow, standIns := [], harness := (true, "1560b625808e05003d82d3d661762ad4ec1cbf66dbae6ba3aceac24e79587f74"), looks := false }, kinds := [], alts := [], laidByText := true, laidKinds := [.data, .pinned], laidTests := true, laidLooks := .later }
def FnEdtTakeCardSaid : Prop := Claim7.holds Tryd.pinned (.plain (OpenSpec.ofChange fnEdtTakeSpec)) fnEdtTakeCard

/-- THE SECOND FORM's CARD OF 'laws.FnEdtTake'. -/
def fnEdtTakeUptoCard : Claim7 := { stood := { row := fnEdtTakeUptoRow, standIns := [], harness := (true, "1560b625808e05003d82d3d661762ad4ec1cbf66dbae6ba3aceac24e79587f74"), looks := false }, kinds := [], alts := [], laidByText := true, laidKinds := [.data, .pinned], laidTests := true, laidLooks := .later }
def FnEdtTakeUptoCardSaid : Prop := Claim7.holds Tryd.pinned (.plain (OpenSpec.upto fnEdtTakeSpec)) fnEdtTakeUptoCard
end Rows
end Go.Proofs.YtaihfkjfbjcmhacDoor
