-- A selection, by a program of this session, of the words that the print lays.
import Derived.Test.YtaihfkjfbjcmhabDoorWInv
import Derived.Test.YtaihfkjfbjcmhabDoorWFootNe
namespace Go.Proofs.YtaihfkjfbjcmhabDoorW.PrintWords
open Go.RowKit
end Go.Proofs.YtaihfkjfbjcmhabDoorW.PrintWords
namespace Go.Proofs.YtaihfkjfbjcmhabDoorW.PrintLast
section
variable {ops : Array Oper} {a : Act} {o og : Oper} {g : Nat} {t : Tmp} {u : Bool}
end
end Go.Proofs.YtaihfkjfbjcmhabDoorW.PrintLast
