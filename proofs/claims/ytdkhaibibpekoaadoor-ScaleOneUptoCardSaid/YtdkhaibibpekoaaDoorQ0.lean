-- PRINTED by print.py (a twelfth state) out of the translation. Not trusted: Lean checks it.
import Derived.Test.YtdkhaibibpekoaaDoorProg
import Derived.Below
import Derived.Deep.Draws
import Derived.Deep.AppendLies
import Derived.Maps.AppendAt
import Derived.OwnWalk
import Derived.Laws.BytesArg
import Derived.Laws.MakeOwn
import Derived.Laws.OwnMore
import Derived.Deep.OwnRows
import Derived.Tactics
import Derived.Lib.ConvBytes
import Derived.Laws.Slices
import Derived.WalkKit
import Derived.KernelRfl
import Derived.RowKit3
import Derived.Deep.LoopGhost
import Derived.Deep.QuietTactic
import Derived.BigQuiet
import Derived.WideLaws
import Derived.Deep.DeepCutAuto
import Derived.Deep.CutBlock
import Derived.Deep.RegionHeld3
import Derived.Laws.Rows
import Derived.Lib.AppendStr
import Derived.ArgAppend
import Derived.Laws.IdiomCopy
import Derived.OrdersHeld
import Derived.Laws.BitsLemmas
import Derived.RowKit
import Derived.Test.YtdkhaibibpekoaaDoorLen
import Derived.Test.YtdkhaibibpekoaaDoorK
import Derived.Laws.Externs
import Derived.WalkSmall
import Derived.Laws.Cover2
import Derived.Test.YtdkhaibibpekoaaDoorWWords
import Derived.Test.YtdkhaibibpekoaaDoorWLast
import Derived.Test.YtdkhaibibpekoaaDoorWTab
import Derived.Test.YtdkhaibibpekoaaDoorWFour
import Derived.Test.YtdkhaibibpekoaaDoorWQPut
import Derived.Test.YtdkhaibibpekoaaDoorWApart
import Derived.Test.YtdkhaibibpekoaaDoorWArr
import Derived.Test.YtdkhaibibpekoaaDoorWZeros
import Derived.Test.YtdkhaibibpekoaaDoorWFoot
import Derived.Test.YtdkhaibibpekoaaDoorWKept
import Derived.Test.YtdkhaibibpekoaaDoorWShare
import Derived.Test.YtdkhaibibpekoaaDoorWN
import Derived.Test.YtdkhaibibpekoaaDoorWFootNe
import Derived.Test.YtdkhaibibpekoaaDoorWAt
import Derived.Test.YtdkhaibibpekoaaDoorWEqStruct
import Derived.Test.YtdkhaibibpekoaaDoorWRepsOne
import Derived.Test.YtdkhaibibpekoaaDoorWInv
import Derived.Test.YtdkhaibibpekoaaDoorWInvWords
import Derived.Test.YtdkhaibibpekoaaDoorWGuard
import Derived.Test.YtdkhaibibpekoaaDoorWNEv
import Derived.Test.YtdkhaibibpekoaaDoorWMore
namespace Go.Proofs.YtdkhaibibpekoaaDoor.Q
open Go.RowKit Go.Proofs.YtdkhaibibpekoaaDoorW.PrintWords Go.Proofs.YtdkhaibibpekoaaDoorW.PrintLast Go.Proofs.YtdkhaibibpekoaaDoorW.PrintMore
attribute [local go_sem] max2_int min2_int max_two min_two max_three min_three max_four min_four   -- for this text's walks alone
set_option linter.unusedVariables false
set_option linter.unusedSimpArgs false



def errW : Option Int → Value
  | none => .nilIface
  | some c => .iface 0 (.int .i64 c)
theorem errW_none : errW none = .nilIface := rfl
theorem errW_some (c : Int) : errW (some c) = .iface 0 (.int .i64 c) := rfl

theorem info2 : (Tryd.prog.info? 2).map (fun i => (i.zero, i.size, i.bytes)) = some (some (.int .i64 0), 1, 8) := by kernel_rfl
theorem info35 : (Tryd.prog.info? 35).map (fun i => (i.zero, i.size, i.bytes)) = some (some (.float .f64 0), 1, 8) := by kernel_rfl
-- the values' own types

end Go.Proofs.YtdkhaibibpekoaaDoor.Q
