/-
  DERIVED. GIVEN WITH THE SEED: THE CARDS: each row of YtalnklnfiopaoaaDoorRows.lean that lists a variable, with what it lists TIED to the program's text (the seventh form; the later family's looks); each row that meets fmt, with fmt's text TOLD by the authors' own Lean function (tested against real Go, not proved from fmt's source: count such statements apart). THE CARD IS WHAT COUNTS. Prove the row's statement (the work); the ties are given (YtalnklnfiopaoaaDoorTie.lean); close each card by the builder's one call (the guide's Derived/Test/ToyasCard.lean, 'card_holds'). Laid BY PROGRAM, IN A SANDBOX (cutbox-door.mjs). By AI agents, Wed Nov 11 2026. No macro, syntax, notation, axiom, sorry.
-/
import Derived.Test.YtalnklnfiopaoaaDoorRows
import GoSem.ClaimSeven
namespace Go.Proofs.YtalnklnfiopaoaaDoor
namespace Rows

/-- THE TIED CARD OF 'laws.FnGrdEmpty'. -/
def fnGrdEmptyCard : Claim7 := { stood := { row := fnGrdEmptyRow, standIns := [], harness := (true, "46840430003ec5f775e99babfd21c76dfdb891b324d35b8caeea1a2f8f8af653"), looks := false }, kinds := [], alts := [], laidByText := true, laidKinds := [.data, .pinned], laidTests := true, laidLooks := .later }
def FnGrdEmptyCardSaid : Prop := Claim7.holds Tryd.pinned (.plain (OpenSpec.ofChange fnGrdEmptySpec)) fnGrdEmptyCard

/-- THE SECOND FORM's CARD OF 'laws.FnGrdEmpty'. -/
def fnGrdEmptyUptoCard : Claim7 := { stood := { row := fnGrdEmptyUptoRow, standIns := [], harness := (true, "46840430003ec5f775e99babfd21c76dfdb891b324d35b8caeea1a2f8f8af653"), looks := false }, kinds := [], alts := [], laidByText := true, laidKinds := [.data, .pinned], laidTests := true, laidLooks := .later }
def FnGrdEmptyUptoCardSaid : Prop := Claim7.holds Tryd.pinned (.plain (OpenSpec.upto fnGrdEmptySpec)) fnGrdEmptyUptoCard
end Rows
end Go.Proofs.YtalnklnfiopaoaaDoor
