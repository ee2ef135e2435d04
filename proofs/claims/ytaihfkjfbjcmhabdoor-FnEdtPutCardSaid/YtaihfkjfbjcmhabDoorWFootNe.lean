-- A selection, by a program of this session, of the words that the print lays.
import Derived.Test.YtaihfkjfbjcmhabDoorWN
namespace Go.Proofs.YtaihfkjfbjcmhabDoorW.PrintWords
open Go.RowKit
namespace Kd
section
variable {α : Type} {d : Kd α} {W : World} {g n : Nat} {S ok : Nat → Prop} {A : Option Addr} {ad : Addr} {xs : List α}
end
end Kd
end Go.Proofs.YtaihfkjfbjcmhabDoorW.PrintWords
