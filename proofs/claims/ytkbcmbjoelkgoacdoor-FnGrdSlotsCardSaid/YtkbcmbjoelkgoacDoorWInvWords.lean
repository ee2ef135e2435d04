-- A selection, by a program of this session, of the words that the print lays.
import Derived.Test.YtkbcmbjoelkgoacDoorWInv
import Derived.Test.YtkbcmbjoelkgoacDoorWFootNe
namespace Go.Proofs.YtkbcmbjoelkgoacDoorW.PrintWords
open Go.RowKit
end Go.Proofs.YtkbcmbjoelkgoacDoorW.PrintWords
namespace Go.Proofs.YtkbcmbjoelkgoacDoorW.PrintLast
section
variable {ops : Array Oper} {a : Act} {o og : Oper} {g : Nat} {t : Tmp} {u : Bool}
end
end Go.Proofs.YtkbcmbjoelkgoacDoorW.PrintLast
