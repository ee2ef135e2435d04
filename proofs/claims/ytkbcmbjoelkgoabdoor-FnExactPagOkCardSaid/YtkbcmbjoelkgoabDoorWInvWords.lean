-- A selection, by a program of this session, of the words that the print lays.
import Derived.Test.YtkbcmbjoelkgoabDoorWInv
import Derived.Test.YtkbcmbjoelkgoabDoorWFootNe
namespace Go.Proofs.YtkbcmbjoelkgoabDoorW.PrintWords
open Go.RowKit
end Go.Proofs.YtkbcmbjoelkgoabDoorW.PrintWords
namespace Go.Proofs.YtkbcmbjoelkgoabDoorW.PrintLast
section
variable {ops : Array Oper} {a : Act} {o og : Oper} {g : Nat} {t : Tmp} {u : Bool}
end
end Go.Proofs.YtkbcmbjoelkgoabDoorW.PrintLast
