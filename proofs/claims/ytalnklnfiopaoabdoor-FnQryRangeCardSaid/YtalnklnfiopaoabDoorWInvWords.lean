-- A selection, by a program of this session, of the words that the print lays.
import Derived.Test.YtalnklnfiopaoabDoorWInv
import Derived.Test.YtalnklnfiopaoabDoorWFootNe
namespace Go.Proofs.YtalnklnfiopaoabDoorW.PrintWords
open Go.RowKit
end Go.Proofs.YtalnklnfiopaoabDoorW.PrintWords
namespace Go.Proofs.YtalnklnfiopaoabDoorW.PrintLast
section
variable {ops : Array Oper} {a : Act} {o og : Oper} {g : Nat} {t : Tmp} {u : Bool}
end
end Go.Proofs.YtalnklnfiopaoabDoorW.PrintLast
