-- A selection, by a program of this session, of the words that the print lays.
import Derived.Test.YtpmbglbfoaejaabDoorWInv
import Derived.Test.YtpmbglbfoaejaabDoorWFootNe
namespace Go.Proofs.YtpmbglbfoaejaabDoorW.PrintWords
open Go.RowKit
end Go.Proofs.YtpmbglbfoaejaabDoorW.PrintWords
namespace Go.Proofs.YtpmbglbfoaejaabDoorW.PrintLast
section
variable {ops : Array Oper} {a : Act} {o og : Oper} {g : Nat} {t : Tmp} {u : Bool}
end
end Go.Proofs.YtpmbglbfoaejaabDoorW.PrintLast
