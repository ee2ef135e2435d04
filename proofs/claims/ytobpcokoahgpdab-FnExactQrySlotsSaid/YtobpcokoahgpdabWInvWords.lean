-- A selection, by a program of this session, of the words that the print lays.
import Derived.Test.YtobpcokoahgpdabWInv
import Derived.Test.YtobpcokoahgpdabWFootNe
namespace Go.Proofs.YtobpcokoahgpdabW.PrintWords
open Go.RowKit
end Go.Proofs.YtobpcokoahgpdabW.PrintWords
namespace Go.Proofs.YtobpcokoahgpdabW.PrintLast
section
variable {ops : Array Oper} {a : Act} {o og : Oper} {g : Nat} {t : Tmp} {u : Bool}
end
end Go.Proofs.YtobpcokoahgpdabW.PrintLast
