-- A selection, by a program of this session, of the words that the print lays.
import Derived.Test.YtaihfkjfbjcmhaaDoorWInv
import Derived.Test.YtaihfkjfbjcmhaaDoorWFootNe
namespace Go.Proofs.YtaihfkjfbjcmhaaDoorW.PrintWords
open Go.RowKit
end Go.Proofs.YtaihfkjfbjcmhaaDoorW.PrintWords
namespace Go.Proofs.YtaihfkjfbjcmhaaDoorW.PrintLast
section
variable {ops : Array Oper} {a : Act} {o og : Oper} {g : Nat} {t : Tmp} {u : Bool}
end
end Go.Proofs.YtaihfkjfbjcmhaaDoorW.PrintLast
