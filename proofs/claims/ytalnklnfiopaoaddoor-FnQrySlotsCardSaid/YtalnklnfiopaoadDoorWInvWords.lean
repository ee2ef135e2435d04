-- A selection, by a program of this session, of the words that the print lays.
import Derived.Test.YtalnklnfiopaoadDoorWInv
import Derived.Test.YtalnklnfiopaoadDoorWFootNe
namespace Go.Proofs.YtalnklnfiopaoadDoorW.PrintWords
open Go.RowKit
end Go.Proofs.YtalnklnfiopaoadDoorW.PrintWords
namespace Go.Proofs.YtalnklnfiopaoadDoorW.PrintLast
section
variable {ops : Array Oper} {a : Act} {o og : Oper} {g : Nat} {t : Tmp} {u : Bool}
end
end Go.Proofs.YtalnklnfiopaoadDoorW.PrintLast
