-- Told by a program of this session (uprint.py).
import Derived.Test.YtaipfcbijhcejaaDoorProg
import Derived.Below
import Derived.Deep.Draws
import Derived.Deep.AppendLies
import Derived.Maps.AppendAt
import Derived.OwnWalk
import Derived.Laws.BytesArg
import Derived.Laws.MakeOwn
import Derived.Laws.OwnMore
import Derived.Deep.OwnRows
import Derived.Tactics
import Derived.Lib.ConvBytes
import Derived.Laws.Slices
import Derived.WalkKit
import Derived.KernelRfl
import Derived.RowKit3
import Derived.Deep.LoopGhost
import Derived.Deep.QuietTactic
import Derived.BigQuiet
import Derived.WideLaws
import Derived.Deep.DeepCutAuto
import Derived.Deep.CutBlock
import Derived.Deep.RegionHeld3
import Derived.Laws.Rows
import Derived.Lib.AppendStr
import Derived.ArgAppend
import Derived.Laws.IdiomCopy
import Derived.OrdersHeld
import Derived.Laws.BitsLemmas
import Derived.RowKit
import Derived.Shelf.Abstract
import Derived.Test.YtaipfcbijhcejaaDoorTxtLay
import Derived.Test.YtaipfcbijhcejaaDoorWWords
import Derived.Test.YtaipfcbijhcejaaDoorWLast
import Derived.Test.YtaipfcbijhcejaaDoorWTab
import Derived.Test.YtaipfcbijhcejaaDoorWFour
import Derived.Test.YtaipfcbijhcejaaDoorWQPut
import Derived.Test.YtaipfcbijhcejaaDoorWApart
import Derived.Test.YtaipfcbijhcejaaDoorWArr
import Derived.Test.YtaipfcbijhcejaaDoorWZeros
import Derived.Test.YtaipfcbijhcejaaDoorWFoot
import Derived.Test.YtaipfcbijhcejaaDoorWKept
import Derived.Test.YtaipfcbijhcejaaDoorWShare
import Derived.Test.YtaipfcbijhcejaaDoorWN
import Derived.Test.YtaipfcbijhcejaaDoorWFootNe
import Derived.Test.YtaipfcbijhcejaaDoorWAt
import Derived.Test.YtaipfcbijhcejaaDoorWEqStruct
import Derived.Test.YtaipfcbijhcejaaDoorWRepsOne
import Derived.Test.YtaipfcbijhcejaaDoorWInv
import Derived.Test.YtaipfcbijhcejaaDoorWInvWords
import Derived.Test.YtaipfcbijhcejaaDoorWGuard
import Derived.Test.YtaipfcbijhcejaaDoorWNEv
import Derived.Test.YtaipfcbijhcejaaDoorWMore
namespace Go.Proofs.YtaipfcbijhcejaaDoor.Q
open Go.RowKit Go.Proofs.YtaipfcbijhcejaaDoorW.PrintWords Go.Proofs.YtaipfcbijhcejaaDoorW.PrintLast Go.Proofs.YtaipfcbijhcejaaDoorW.PrintMore
attribute [local go_sem] max2_int min2_int max_two min_two max_three min_three max_four min_four   -- for this text's walks alone
set_option linter.unusedVariables false
set_option linter.unusedSimpArgs false



def errW : Option Int → Value
  | none => .nilIface
  | some c => .iface 0 (.int .i64 c)
theorem errW_none : errW none = .nilIface := rfl
theorem errW_some (c : Int) : errW (some c) = .iface 0 (.int .i64 c) := rfl

theorem info3 : (Tryd.prog.info? 3).map (fun i => (i.zero, i.size, i.bytes)) = some (some (.int .i64 0), 1, 8) := by kernel_rfl
theorem info4 : (Tryd.prog.info? 4).map (fun i => (i.zero, i.size, i.bytes)) = some (some (.bool false), 1, 1) := by kernel_rfl
theorem info5 : (Tryd.prog.info? 5).map (fun i => (i.zero, i.size, i.bytes)) = some (some (.int .u8 0), 1, 1) := by kernel_rfl
-- the values' own types

end Go.Proofs.YtaipfcbijhcejaaDoor.Q
