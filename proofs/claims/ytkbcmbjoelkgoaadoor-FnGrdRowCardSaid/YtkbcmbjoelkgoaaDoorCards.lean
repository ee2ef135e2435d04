/-
  DERIVED. GIVEN WITH THE SEED: THE CARDS: each row of YtkbcmbjoelkgoaaDoorRows.lean that lists a variable, with what it lists TIED to the program's text (the seventh form; the later family's looks); each row that meets fmt, with fmt's text TOLD by the authors' own Lean function (tested against real Go, not proved from fmt's source: count such statements apart). THE CARD IS WHAT COUNTS. Prove the row's statement (the work); the ties are given (YtkbcmbjoelkgoaaDoorTie.lean); close each card by the builder's one call (the guide's Derived/Test/ToyasCard.lean, 'card_holds'). Laid BY PROGRAM, IN A SANDBOX (cutbox-door.mjs). By AI agents, Wed Nov 11 2026. No macro, syntax, notation, axiom, sorry.
-/
import Derived.Test.YtkbcmbjoelkgoaaDoorRows
import GoSem.ClaimSeven
namespace Go.Proofs.YtkbcmbjoelkgoaaDoor
namespace Rows

/-- THE TIED CARD OF 'laws.FnGrdRow'. -/
def fnGrdRowCard : Claim7 := { stood := { row := fnGrdRowRow, standIns := [], harness := (true, "7f5d68d39bc690e5fa6c605b228d1c0c35e4de5e5efcf62d8640de80aa6f35db"), looks := false }, kinds := [], alts := [], laidByText := true, laidKinds := [.data, .pinned], laidTests := true, laidLooks := .later }
def FnGrdRowCardSaid : Prop := Claim7.holds Tryd.pinned (.plain (OpenSpec.ofChange fnGrdRowSpec)) fnGrdRowCard

/-- THE SECOND FORM's CARD OF 'laws.FnGrdRow'. -/
def fnGrdRowUptoCard : Claim7 := { stood := { row := fnGrdRowUptoRow, standIns := [], harness := (true, "7f5d68d39bc690e5fa6c605b228d1c0c35e4de5e5efcf62d8640de80aa6f35db"), looks := false }, kinds := [], alts := [], laidByText := true, laidKinds := [.data, .pinned], laidTests := true, laidLooks := .later }
def FnGrdRowUptoCardSaid : Prop := Claim7.holds Tryd.pinned (.plain (OpenSpec.upto fnGrdRowSpec)) fnGrdRowUptoCard
end Rows
end Go.Proofs.YtkbcmbjoelkgoaaDoor
