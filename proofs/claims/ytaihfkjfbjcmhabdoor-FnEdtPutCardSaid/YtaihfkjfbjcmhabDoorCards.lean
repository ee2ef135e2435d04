/-
  DERIVED. GIVEN WITH THE SEED: THE CARDS: each row of YtaihfkjfbjcmhabDoorRows.lean that lists a variable, with what it lists TIED to the program's text (the seventh form; the later family's looks); each row that meets fmt, with fmt's text TOLD by the authors' own Lean function (tested against real Go, not proved from fmt's source: count such statements apart). THE CARD IS WHAT COUNTS. Prove the row's statement (the work); the ties are given (YtaihfkjfbjcmhabDoorTie.lean); close each card by the builder's one call (the guide's Derived/Test/ToyasCard.lean, 'card_holds'). Laid BY PROGRAM, IN A SANDBOX (cutbox-door.mjs). By AI agents, Wed Nov 11 2026. No macro, syntax, notation, axiom, sorry.
-/
import Derived.Test.YtaihfkjfbjcmhabDoorRows
import GoSem.ClaimSeven
namespace Go.Proofs.YtaihfkjfbjcmhabDoor
namespace Rows

/-- THE TIED CARD OF 'laws.FnEdtPut'. -/
def fnEdtPutCard : Claim7 := { stood := { row := fnEdtPutRow, standIns := [], harness := (true, "23b7c8f85d499d268bcf4a03e0b62931679ef76333d7faa5b5dcd8f9128e041f"), looks := false }, kinds := [], alts := [], laidByText := true, laidKinds := [.data, .pinned], laidTests := true, laidLooks := .later }
def FnEdtPutCardSaid : Prop := Claim7.holds Tryd.pinned (.plain (OpenSpec.ofChange fnEdtPutSpec)) fnEdtPutCard

/-- THE SECOND FORM's CARD OF 'laws.FnEdtPut'. -/
def fnEdtPutUptoCard : Claim7 := { stood := { row := fnEdtPutUptoRow, standIns := [], harness := (true, "23b7c8f85d499d268bcf4a03e0b62931679ef76333d7faa5b5dcd8f9128e041f"), looks := false }, kinds := [], alts := [], laidByText := true, laidKinds := [.data, .pinned], laidTests := true, laidLooks := .later }
def FnEdtPutUptoCardSaid : Prop := Claim7.holds Tryd.pinned (.plain (OpenSpec.upto fnEdtPutSpec)) fnEdtPutUptoCard
end Rows
end Go.Proofs.YtaihfkjfbjcmhabDoor
