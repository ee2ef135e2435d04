-- A selection, by a program of this session, of the words that the print lays.
import Derived.Test.YtpmbglbfoaejaaaDoorWInv
import Derived.Test.YtpmbglbfoaejaaaDoorWFootNe
namespace Go.Proofs.YtpmbglbfoaejaaaDoorW.PrintWords
open Go.RowKit
end Go.Proofs.YtpmbglbfoaejaaaDoorW.PrintWords
namespace Go.Proofs.YtpmbglbfoaejaaaDoorW.PrintLast
section
variable {ops : Array Oper} {a : Act} {o og : Oper} {g : Nat} {t : Tmp} {u : Bool}
end
end Go.Proofs.YtpmbglbfoaejaaaDoorW.PrintLast
