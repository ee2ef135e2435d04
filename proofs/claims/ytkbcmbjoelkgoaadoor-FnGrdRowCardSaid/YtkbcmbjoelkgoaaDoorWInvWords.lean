-- A selection, by a program of this session, of the words that the print lays.
import Derived.Test.YtkbcmbjoelkgoaaDoorWInv
import Derived.Test.YtkbcmbjoelkgoaaDoorWFootNe
namespace Go.Proofs.YtkbcmbjoelkgoaaDoorW.PrintWords
open Go.RowKit
end Go.Proofs.YtkbcmbjoelkgoaaDoorW.PrintWords
namespace Go.Proofs.YtkbcmbjoelkgoaaDoorW.PrintLast
section
variable {ops : Array Oper} {a : Act} {o og : Oper} {g : Nat} {t : Tmp} {u : Bool}
end
end Go.Proofs.YtkbcmbjoelkgoaaDoorW.PrintLast
