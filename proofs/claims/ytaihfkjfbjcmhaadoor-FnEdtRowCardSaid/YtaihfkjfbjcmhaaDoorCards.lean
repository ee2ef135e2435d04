/-
  DERIVED. GIVEN WITH THE SEED: THE CARDS: each row of YtaihfkjfbjcmhaaDoorRows.lean that lists a variable, with what it lists TIED to the program's text (the seventh form; the later family's looks); each row that meets fmt, with fmt's text TOLD by the authors' own Lean function (tested against real Go, not proved from fmt's source: count such statements apart). THE CARD IS WHAT COUNTS. Prove the row's statement (the work); the ties are given (YtaihfkjfbjcmhaaDoorTie.lean); close each card by the builder's one call (the guide's Derived/Test/ToyasCard.lean, 'card_holds'). Laid BY PROGRAM, IN A SANDBOX (cutbox-door.mjs). By AI agents, Wed Nov 11 2026. No macro, syntax, notation, axiom, sorry.
-/
import Derived.Test.YtaihfkjfbjcmhaaDoorRows
import GoSem.ClaimSeven
namespace Go.Proofs.YtaihfkjfbjcmhaaDoor
namespace Rows

/-- THE TIED CARD OF 'laws.FnEdtRow'. -/
def fnEdtRowCard : Claim7 := { stood := { row := fnEdtRowRow, standIns := [], harness := (true, "bf969816acad4396255b41cc2bfc7a09747bacf42343bc251731a756718b9f09"), looks := false }, kinds := [], alts := [], laidByText := true, laidKinds := [.data, .pinned], laidTests := true, laidLooks := .later }
def FnEdtRowCardSaid : Prop := Claim7.holds Tryd.pinned (.plain (OpenSpec.ofChange fnEdtRowSpec)) fnEdtRowCard

/-- THE SECOND FORM's CARD OF 'laws.FnEdtRow'. -/
def fnEdtRowUptoCard : Claim7 := { stood := { row := fnEdtRowUptoRow, standIns := [], harness := (true, "bf969816acad4396255b41cc2bfc7a09747bacf42343bc251731a756718b9f09"), looks := false }, kinds := [], alts := [], laidByText := true, laidKinds := [.data, .pinned], laidTests := true, laidLooks := .later }
def FnEdtRowUptoCardSaid : Prop := Claim7.holds Tryd.pinned (.plain (OpenSpec.upto fnEdtRowSpec)) fnEdtRowUptoCard
end Rows
end Go.Proofs.YtaihfkjfbjcmhaaDoor
