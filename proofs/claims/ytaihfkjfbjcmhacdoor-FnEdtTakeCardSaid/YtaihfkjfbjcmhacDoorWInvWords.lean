-- A selection, by a program of this session, of the words that the print lays.
import Derived.Test.YtaihfkjfbjcmhacDoorWInv
import Derived.Test.YtaihfkjfbjcmhacDoorWFootNe
namespace Go.Proofs.YtaihfkjfbjcmhacDoorW.PrintWords
open Go.RowKit
end Go.Proofs.YtaihfkjfbjcmhacDoorW.PrintWords
namespace Go.Proofs.YtaihfkjfbjcmhacDoorW.PrintLast
section
variable {ops : Array Oper} {a : Act} {o og : Oper} {g : Nat} {t : Tmp} {u : Bool}
end
end Go.Proofs.YtaihfkjfbjcmhacDoorW.PrintLast
