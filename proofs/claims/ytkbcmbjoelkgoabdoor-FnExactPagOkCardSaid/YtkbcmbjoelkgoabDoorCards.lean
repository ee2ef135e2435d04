/-
  DERIVED. GIVEN WITH THE SEED: THE CARDS: each row of YtkbcmbjoelkgoabDoorRows.lean that lists a variable, with what it lists TIED to the program's text (the seventh form; the later family's looks); each row that meets fmt, with fmt's text TOLD by the authors' own Lean function (tested against real Go, not proved from fmt's source: count such statements apart). THE CARD IS WHAT COUNTS. Prove the row's statement (the work); the ties are given (YtkbcmbjoelkgoabDoorTie.lean); close each card by the builder's one call (the guide's Derived/Test/ToyasCard.lean, 'card_holds'). Laid BY PROGRAM, IN A SANDBOX (cutbox-door.mjs). By AI agents, Wed Nov 11 2026. No macro, syntax, notation, axiom, sorry.
-/
import Derived.Test.YtkbcmbjoelkgoabDoorRows
import GoSem.ClaimSeven
namespace Go.Proofs.YtkbcmbjoelkgoabDoor
namespace Rows

/-- THE TIED CARD OF 'laws.FnExactPagOk'. -/
def fnExactPagOkCard : Claim7 := { stood := { row := fnExactPagOkRow, standIns := [], harness := (true, "c1637eeb2391ea80706e58d1718e2dd321f812a493165f9c60ae0914974224a2"), looks := false }, kinds := [], alts := [], laidByText := true, laidKinds := [.data, .pinned], laidTests := true, laidLooks := .later }
def FnExactPagOkCardSaid : Prop := Claim7.holds Tryd.pinned (.plain (OpenSpec.ofChange fnExactPagOkSpec)) fnExactPagOkCard

/-- THE SECOND FORM's CARD OF 'laws.FnExactPagOk'. -/
def fnExactPagOkUptoCard : Claim7 := { stood := { row := fnExactPagOkUptoRow, standIns := [], harness := (true, "c1637eeb2391ea80706e58d1718e2dd321f812a493165f9c60ae0914974224a2"), looks := false }, kinds := [], alts := [], laidByText := true, laidKinds := [.data, .pinned], laidTests := true, laidLooks := .later }
def FnExactPagOkUptoCardSaid : Prop := Claim7.holds Tryd.pinned (.plain (OpenSpec.upto fnExactPagOkSpec)) fnExactPagOkUptoCard
end Rows
end Go.Proofs.YtkbcmbjoelkgoabDoor
