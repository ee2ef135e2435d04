/-
  DERIVED. GIVEN WITH THE SEED: THE CARDS: each row of YtfcacpbblkahdaaDoorRows.lean that lists a variable, with what it lists TIED to the program's text (the seventh form; the later family's looks); each row that meets fmt, with fmt's text TOLD by the authors' own Lean function (tested against real Go, not proved from fmt's source: count such statements apart). THE CARD IS WHAT COUNTS. Prove the row's statement (the work); the ties are given (YtfcacpbblkahdaaDoorTie.lean); close each card by the builder's one call (the guide's Derived/Test/ToyasCard.lean, 'card_holds'). Laid BY PROGRAM, IN A SANDBOX (cutbox-door.mjs). By AI agents, Wed Nov 11 2026. No macro, syntax, notation, axiom, sorry.
-/
import Derived.Test.YtfcacpbblkahdaaDoorRows
import GoSem.ClaimSeven
namespace Go.Proofs.YtfcacpbblkahdaaDoor
namespace Rows

/-- THE TIED CARD OF 'laws.FnQryIn'. -/
def fnQryInCard : Claim7 := { stood := { row := fnQryInRow, standIns := [], harness := (true, "67c648ab4d0af0374debb32826ca627b112b08aa13df58594a4602980fe601e8"), looks := false }, kinds := [], alts := [], laidByText := true, laidKinds := [.data, .pinned], laidTests := true, laidLooks := .later }
def FnQryInCardSaid : Prop := Claim7.holds Tryd.pinned (.plain (OpenSpec.ofChange fnQryInSpec)) fnQryInCard

/-- THE TIED CARD OF 'laws.FnBrdBest'. -/
def fnBrdBestCard : Claim7 := { stood := { row := fnBrdBestRow, standIns := [], harness := (true, "67c648ab4d0af0374debb32826ca627b112b08aa13df58594a4602980fe601e8"), looks := false }, kinds := [], alts := [], laidByText := true, laidKinds := [.data, .pinned], laidTests := true, laidLooks := .later }
def FnBrdBestCardSaid : Prop := Claim7.holds Tryd.pinned (.plain (OpenSpec.ofChange fnBrdBestSpec)) fnBrdBestCard

/-- THE TIED CARD OF 'laws.FnWidCell'. -/
def fnWidCellCard : Claim7 := { stood := { row := fnWidCellRow, standIns := [], harness := (true, "67c648ab4d0af0374debb32826ca627b112b08aa13df58594a4602980fe601e8"), looks := false }, kinds := [], alts := [], laidByText := true, laidKinds := [.data, .pinned], laidTests := true, laidLooks := .later }
def FnWidCellCardSaid : Prop := Claim7.holds Tryd.pinned (.plain (OpenSpec.ofChange fnWidCellSpec)) fnWidCellCard

/-- THE SECOND FORM's CARD OF 'laws.FnQryIn'. -/
def fnQryInUptoCard : Claim7 := { stood := { row := fnQryInUptoRow, standIns := [], harness := (true, "67c648ab4d0af0374debb32826ca627b112b08aa13df58594a4602980fe601e8"), looks := false }, kinds := [], alts := [], laidByText := true, laidKinds := [.data, .pinned], laidTests := true, laidLooks := .later }
def FnQryInUptoCardSaid : Prop := Claim7.holds Tryd.pinned (.plain (OpenSpec.upto fnQryInSpec)) fnQryInUptoCard

/-- THE SECOND FORM's CARD OF 'laws.FnBrdBest'. -/
def fnBrdBestUptoCard : Claim7 := { stood := { row := fnBrdBestUptoRow, standIns := [], harness := (true, "67c648ab4d0af0374debb32826ca627b112b08aa13df58594a4602980fe601e8"), looks := false }, kinds := [], alts := [], laidByText := true, laidKinds := [.data, .pinned], laidTests := true, laidLooks := .later }
def FnBrdBestUptoCardSaid : Prop := Claim7.holds Tryd.pinned (.plain (OpenSpec.upto fnBrdBestSpec)) fnBrdBestUptoCard

/-- THE SECOND FORM's CARD OF 'laws.FnWidCell'. -/
def fnWidCellUptoCard : Claim7 := { stood := { row := fnWidCellUptoRow, standIns := [], harness := (true, "67c648ab4d0af0374debb32826ca627b112b08aa13df58594a4602980fe601e8"), looks := false }, kinds := [], alts := [], laidByText := true, laidKinds := [.data, .pinned], laidTests := true, laidLooks := .later }
def FnWidCellUptoCardSaid : Prop := Claim7.holds Tryd.pinned (.plain (OpenSpec.upto fnWidCellSpec)) fnWidCellUptoCard
end Rows
end Go.Proofs.YtfcacpbblkahdaaDoor
