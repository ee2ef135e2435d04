-- A selection, by a program of this session, of the words that the print lays.
import Derived.Test.YtkbcmbjoelkgoabDoorWWords
import Derived.Laws.StructEq
namespace Go.Proofs.YtkbcmbjoelkgoabDoorW.PrintWords
open Go.RowKit
section
variable {P : Program} {d : Nat} {xs ys : Array Value} {f : Field} {fs : List Field} {a b : Value} {r s : Bool} {w : World}
end
end Go.Proofs.YtkbcmbjoelkgoabDoorW.PrintWords
