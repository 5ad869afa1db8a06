/- The walk of functions that the law FnExactOpenSealed uses, written by program. -/
import Derived.Test.YtcdkbdkanjifeaaProg
import Derived.Below
import Derived.Deep.Draws
import Derived.Deep.AppendLies
import Derived.Maps.AppendAt
import Derived.OwnWalk
import Derived.Laws.BytesArg
import Derived.Laws.MakeOwn
import Derived.Laws.OwnMore
import Derived.Deep.OwnRows
import Derived.Tactics
import Derived.Lib.ConvBytes
import Derived.Laws.Slices
import Derived.WalkKit
import Derived.KernelRfl
import Derived.RowKit3
import Derived.Deep.LoopGhost
import Derived.Deep.QuietTactic
import Derived.BigQuiet
import Derived.WideLaws
import Derived.Deep.DeepCutAuto
import Derived.Deep.CutBlock
import Derived.Deep.RegionHeld3
import Derived.Laws.Rows
import Derived.Lib.AppendStr
import Derived.ArgAppend
import Derived.Laws.IdiomCopy
import Derived.OrdersHeld
import Derived.Laws.BitsLemmas
import Derived.RowKit
import Derived.Test.YtcdkbdkanjifeaaVWords
import Derived.Test.YtcdkbdkanjifeaaVLast
import Derived.Test.YtcdkbdkanjifeaaVTab
import Derived.Test.YtcdkbdkanjifeaaVFour
import Derived.Test.YtcdkbdkanjifeaaVQPut
import Derived.Test.YtcdkbdkanjifeaaVApart
import Derived.Test.YtcdkbdkanjifeaaVArr
import Derived.Test.YtcdkbdkanjifeaaVZeros
import Derived.Test.YtcdkbdkanjifeaaVFoot
import Derived.Test.YtcdkbdkanjifeaaVKept
import Derived.Test.YtcdkbdkanjifeaaVShare
import Derived.Test.YtcdkbdkanjifeaaVN
import Derived.Test.YtcdkbdkanjifeaaVFootNe
import Derived.Test.YtcdkbdkanjifeaaVAt
import Derived.Test.YtcdkbdkanjifeaaVEqStruct
import Derived.Test.YtcdkbdkanjifeaaVRepsOne
import Derived.Test.YtcdkbdkanjifeaaVInv
import Derived.Test.YtcdkbdkanjifeaaVInvWords
import Derived.Test.YtcdkbdkanjifeaaVGuard
import Derived.Test.YtcdkbdkanjifeaaVNEv
import Derived.Test.YtcdkbdkanjifeaaVMore
namespace Go.Proofs.Ytcdkbdkanjifeaa.SFnExactOpenSealed
open Go.RowKit Go.Proofs.YtcdkbdkanjifeaaW.PrintWords Go.Proofs.YtcdkbdkanjifeaaW.PrintLast Go.Proofs.YtcdkbdkanjifeaaW.PrintMore
attribute [local go_sem] max2_int min2_int max_two min_two max_three min_three max_four min_four   -- for this text's walks alone
set_option linter.unusedVariables false
set_option linter.unusedSimpArgs false



def errW : Option Int → Value
  | none => .nilIface
  | some c => .iface 0 (.int .i64 c)
theorem errW_none : errW none = .nilIface := rfl
theorem errW_some (c : Int) : errW (some c) = .iface 0 (.int .i64 c) := rfl

theorem info5 : (Try.prog.info? 5).map (fun i => (i.zero, i.size, i.bytes)) = some (some (.int .u8 0), 1, 1) := by kernel_rfl
-- the values' own types

end Go.Proofs.Ytcdkbdkanjifeaa.SFnExactOpenSealed
