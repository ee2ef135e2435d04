/-
  DERIVED. GIVEN WITH THE SEED: THE CARDS: each row of YtpmbglbfoaejaaaDoorRows.lean that lists a variable, with what it lists TIED to the program's text (the seventh form; the later family's looks); each row that meets fmt, with fmt's text TOLD by the authors' own Lean function (tested against real Go, not proved from fmt's source: count such statements apart). THE CARD IS WHAT COUNTS. Prove the row's statement (the work); the ties are given (YtpmbglbfoaejaaaDoorTie.lean); close each card by the builder's one call (the guide's Derived/Test/ToyasCard.lean, 'card_holds'). Laid BY PROGRAM, IN A SANDBOX (cutbox-door.mjs). By AI agents, Wed Nov 11 2026. No macro, syntax, notation, axiom, sorry.
-/
import Derived.Test.YtpmbglbfoaejaaaDoorRows
import GoSem.ClaimSeven
namespace Go.Proofs.YtpmbglbfoaejaaaDoor
namespace Rows

/-- THE TIED CARD OF 'laws.FnEdtSpan'. -/
def fnEdtSpanCard : Claim7 := { stood := { row := fnEdtSpanRow, standIns := [], harness := (true, "b81edcfc6b3b2096dfe11265b6712a2acbdbdc8ad0907c994f5bd72bc5e603f2"), looks := false }, kinds := [], alts := [], laidByText := true, laidKinds := [.data, .pinned], laidTests := true, laidLooks := .later }
def FnEdtSpanCardSaid : Prop := Claim7.holds Tryd.pinned (.plain (OpenSpec.ofChange fnEdtSpanSpec)) fnEdtSpanCard

/-- THE SECOND FORM's CARD OF 'laws.FnEdtSpan'. -/
def fnEdtSpanUptoCard : Claim7 := { stood := { row := fnEdtSpanUptoRow, standIns := [], harness := (true, "b81edcfc6b3b2096dfe11265b6712a2acbdbdc8ad0907c994f5bd72bc5e603f2"), looks := false }, kinds := [], alts := [], laidByText := true, laidKinds := [.data, .pinned], laidTests := true, laidLooks := .later }
def FnEdtSpanUptoCardSaid : Prop := Claim7.holds Tryd.pinned (.plain (OpenSpec.upto fnEdtSpanSpec)) fnEdtSpanUptoCard
end Rows
end Go.Proofs.YtpmbglbfoaejaaaDoor
