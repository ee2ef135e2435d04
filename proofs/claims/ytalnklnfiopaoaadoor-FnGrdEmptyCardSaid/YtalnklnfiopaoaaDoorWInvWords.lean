-- A selection, by a program of this session, of the words that the print lays.
import Derived.Test.YtalnklnfiopaoaaDoorWInv
import Derived.Test.YtalnklnfiopaoaaDoorWFootNe
namespace Go.Proofs.YtalnklnfiopaoaaDoorW.PrintWords
open Go.RowKit
end Go.Proofs.YtalnklnfiopaoaaDoorW.PrintWords
namespace Go.Proofs.YtalnklnfiopaoaaDoorW.PrintLast
section
variable {ops : Array Oper} {a : Act} {o og : Oper} {g : Nat} {t : Tmp} {u : Bool}
end
end Go.Proofs.YtalnklnfiopaoaaDoorW.PrintLast
