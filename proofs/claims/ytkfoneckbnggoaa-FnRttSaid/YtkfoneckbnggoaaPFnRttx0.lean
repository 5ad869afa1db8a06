-- PRINTED BY print.sh 35421559b90ae4d0a3588c463048766b98c2df88dd9212a6774a882060cdf62d: not written by this session
import Derived.Test.YtkfoneckbnggoaaProg
import Derived.Below
import Derived.Deep.Draws
import Derived.Deep.AppendLies
import Derived.Maps.AppendAt
import Derived.OwnWalk
import Derived.Laws.BytesArg
import Derived.Laws.MakeOwn
import Derived.Laws.OwnMore
import Derived.Deep.OwnRows
import Derived.Tactics
import Derived.Lib.ConvBytes
import Derived.Laws.Slices
import Derived.WalkKit
import Derived.KernelRfl
import Derived.RowKit3
import Derived.Deep.LoopGhost
import Derived.Deep.QuietTactic
import Derived.BigQuiet
import Derived.WideLaws
import Derived.Deep.DeepCutAuto
import Derived.Deep.CutBlock
import Derived.Deep.RegionHeld3
import Derived.Laws.Rows
import Derived.Lib.AppendStr
import Derived.ArgAppend
import Derived.Laws.IdiomCopy
import Derived.OrdersHeld
import Derived.Laws.BitsLemmas
import Derived.RowKit
import Derived.Test.YtkfoneckbnggoaaWWords
import Derived.Test.YtkfoneckbnggoaaWLast
import Derived.Test.YtkfoneckbnggoaaWTab
import Derived.Test.YtkfoneckbnggoaaWFour
import Derived.Test.YtkfoneckbnggoaaWQPut
import Derived.Test.YtkfoneckbnggoaaWApart
import Derived.Test.YtkfoneckbnggoaaWArr
import Derived.Test.YtkfoneckbnggoaaWZeros
import Derived.Test.YtkfoneckbnggoaaWFoot
import Derived.Test.YtkfoneckbnggoaaWKept
import Derived.Test.YtkfoneckbnggoaaWShare
import Derived.Test.YtkfoneckbnggoaaWN
import Derived.Test.YtkfoneckbnggoaaWFootNe
import Derived.Test.YtkfoneckbnggoaaWAt
import Derived.Test.YtkfoneckbnggoaaWEqStruct
import Derived.Test.YtkfoneckbnggoaaWRepsOne
import Derived.Test.YtkfoneckbnggoaaWInv
import Derived.Test.YtkfoneckbnggoaaWInvWords
import Derived.Test.YtkfoneckbnggoaaWGuard
import Derived.Test.YtkfoneckbnggoaaWNEv
import Derived.Test.YtkfoneckbnggoaaWMore
namespace Go.Proofs.Ytkfoneckbnggoaa.PFnRtt
open Go.RowKit Go.Proofs.YtkfoneckbnggoaaW.PrintWords Go.Proofs.YtkfoneckbnggoaaW.PrintLast Go.Proofs.YtkfoneckbnggoaaW.PrintMore
attribute [local go_sem] max2_int min2_int max_two min_two max_three min_three max_four min_four   -- for this text's walks alone
set_option linter.unusedVariables false
set_option linter.unusedSimpArgs false



def errW : Option Int → Value
  | none => .nilIface
  | some c => .iface 0 (.int .i64 c)
theorem errW_none : errW none = .nilIface := rfl
theorem errW_some (c : Int) : errW (some c) = .iface 0 (.int .i64 c) := rfl

-- the values' own types

end Go.Proofs.Ytkfoneckbnggoaa.PFnRtt
