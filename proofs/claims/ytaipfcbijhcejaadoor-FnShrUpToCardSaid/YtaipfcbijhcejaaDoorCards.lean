/-
  DERIVED. GIVEN WITH THE SEED: THE CARDS: each row of YtaipfcbijhcejaaDoorRows.lean that lists a variable, with what it lists TIED to the program's text (the seventh form; the later family's looks); each row that meets fmt, with fmt's text TOLD by the authors' own Lean function (tested against real Go, not proved from fmt's source: count such statements apart). THE CARD IS WHAT COUNTS. Prove the row's statement (the work); the ties are given (YtaipfcbijhcejaaDoorTie.lean); close each card by the builder's one call (the guide's Derived/Test/ToyasCard.lean, 'card_holds'). Laid BY PROGRAM, IN A SANDBOX (cutbox-door.mjs). By AI agents, Wed Nov 11 2026. No macro, syntax, notation, axiom, sorry.
-/
import Derived.Test.YtaipfcbijhcejaaDoorRows
import GoSem.ClaimSeven
namespace Go.Proofs.YtaipfcbijhcejaaDoor
namespace Rows

/-- THE TIED CARD OF 'laws.FnShrUpTo'. -/
def fnShrUpToCard : Claim7 := { stood := { row := fnShrUpToRow, standIns := [], harness := (true, "8968306999f925e8bac068887a6d09310f416536d6d0597b6c06c124e001246d"), looks := false }, kinds := [], alts := [], laidByText := true, laidKinds := [.data, .pinned], laidTests := true, laidLooks := .later }
def FnShrUpToCardSaid : Prop := Claim7.holds Tryd.pinned (.plain (OpenSpec.ofChange fnShrUpToSpec)) fnShrUpToCard

/-- THE SECOND FORM's CARD OF 'laws.FnShrUpTo'. -/
def fnShrUpToUptoCard : Claim7 := { stood := { row := fnShrUpToUptoRow, standIns := [], harness := (true, "8968306999f925e8bac068887a6d09310f416536d6d0597b6c06c124e001246d"), looks := false }, kinds := [], alts := [], laidByText := true, laidKinds := [.data, .pinned], laidTests := true, laidLooks := .later }
def FnShrUpToUptoCardSaid : Prop := Claim7.holds Tryd.pinned (.plain (OpenSpec.upto fnShrUpToSpec)) fnShrUpToUptoCard
end Rows
end Go.Proofs.YtaipfcbijhcejaaDoor
