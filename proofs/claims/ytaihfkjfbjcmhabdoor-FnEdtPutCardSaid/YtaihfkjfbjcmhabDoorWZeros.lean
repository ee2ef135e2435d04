-- A selection, by a program of this session, of the words that the print lays.
import Derived.Test.YtaihfkjfbjcmhabDoorWApart
import Derived.Test.YtaihfkjfbjcmhabDoorWArr
namespace Go.Proofs.YtaihfkjfbjcmhabDoorW.PrintWords
open Go.RowKit
section
variable {P : Program}
end
namespace Kd
section
variable {P : Program} {ops : Array Oper} {rest : List Oper} {o : Oper} {a : Act} {Q : Exit → Act → World → Prop} {Kc : Act → World → Prop} {α : Type}
end
section
variable {α : Type} {d : Kd α} {e : Nat} {w : World} {base : Nat} {ok : Nat → Prop} {v : Value} {xs : List α}
end
section
variable {P : Program} {ops : Array Oper} {rest : List Oper} {o : Oper} {a : Act} {Q : Exit → Act → World → Prop} {Kc : Act → World → Prop} {α : Type}
end
end Kd
end Go.Proofs.YtaihfkjfbjcmhabDoorW.PrintWords
