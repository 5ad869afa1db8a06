/- The walk of functions that the law FnExactProtectPacket uses, written by program. -/
import Derived.Test.YtcdkbdkanjifeaaProg
import Derived.Below
import Derived.Deep.Draws
import Derived.Deep.AppendLies
import Derived.Maps.AppendAt
import Derived.OwnWalk
import Derived.Laws.BytesArg
import Derived.Laws.MakeOwn
import Derived.Laws.OwnMore
import Derived.Deep.OwnRows
import Derived.Tactics
import Derived.Lib.ConvBytes
import Derived.Laws.Slices
import Derived.WalkKit
import Derived.KernelRfl
import Derived.RowKit3
import Derived.Deep.LoopGhost
import Derived.Deep.QuietTactic
import Derived.BigQuiet
import Derived.WideLaws
import Derived.Deep.DeepCutAuto
import Derived.Deep.CutBlock
import Derived.Deep.RegionHeld3
import Derived.Laws.Rows
import Derived.Lib.AppendStr
import Derived.ArgAppend
import Derived.Laws.IdiomCopy
import Derived.OrdersHeld
import Derived.Laws.BitsLemmas
import Derived.RowKit
import Derived.Test.YtcdkbdkanjifeaaBWords
import Derived.Test.YtcdkbdkanjifeaaBLast
import Derived.Test.YtcdkbdkanjifeaaBTab
import Derived.Test.YtcdkbdkanjifeaaBFour
import Derived.Test.YtcdkbdkanjifeaaBQPut
import Derived.Test.YtcdkbdkanjifeaaBApart
import Derived.Test.YtcdkbdkanjifeaaBArr
import Derived.Test.YtcdkbdkanjifeaaBZeros
import Derived.Test.YtcdkbdkanjifeaaBFoot
import Derived.Test.YtcdkbdkanjifeaaBKept
import Derived.Test.YtcdkbdkanjifeaaBShare
import Derived.Test.YtcdkbdkanjifeaaBN
import Derived.Test.YtcdkbdkanjifeaaBFootNe
import Derived.Test.YtcdkbdkanjifeaaBAt
import Derived.Test.YtcdkbdkanjifeaaBEqStruct
import Derived.Test.YtcdkbdkanjifeaaBRepsOne
import Derived.Test.YtcdkbdkanjifeaaBInv
import Derived.Test.YtcdkbdkanjifeaaBInvWords
import Derived.Test.YtcdkbdkanjifeaaBGuard
import Derived.Test.YtcdkbdkanjifeaaBNEv
import Derived.Test.YtcdkbdkanjifeaaBMore
import Derived.Test.YtcdkbdkanjifeaaSteps2
import Derived.Test.YtcdkbdkanjifeaaSteps3
namespace Go.Proofs.Ytcdkbdkanjifeaa.SFnExactProtectPacket
open Go.Proofs.Ytcdkbdkanjifeaa.Steps3 Go.Proofs.Ytcdkbdkanjifeaa.Steps2 Go.RowKit Go.Proofs.YtcdkbdkanjifeaaW.PrintWords Go.Proofs.YtcdkbdkanjifeaaW.PrintLast Go.Proofs.YtcdkbdkanjifeaaW.PrintMore
open Go.Proofs.YtcdkbdkanjifeaaW.PrintWords renaming blk_cell → qu
attribute [local go_sem] max2_int min2_int max_two min_two max_three min_three max_four min_four 
set_option linter.unusedVariables false
set_option linter.unusedSimpArgs false
def errW:Option Int→Value
 |none=> .nilIface
 |some c=> .iface 0 (.int .i64 c)
theorem errW_none:errW none = .nilIface:=rfl
theorem errW_some (c:Int):errW (some c) = .iface 0 (.int .i64 c):=rfl
theorem info5:(Try.prog.info? 5).map (fun i=>(i.zero,i.size,i.bytes))=some (some (.int .u8 0),1,1):=by kernel_rfl
-- the values' own types
theorem fc4 {W:World} {g:Nat} {t:TypeId} {v0 v1 v2 v3:Value} (H:W.heap[g]? =some (.cells #[v0,v1,v2,v3] t (0,0))):W.cell? ⟨g,0,none⟩=some v0∧W.cell? ⟨g,1,none⟩=some v1∧W.cell? ⟨g,2,none⟩=some v2∧W.cell? ⟨g,3,none⟩=some v3∧W.frozen? ⟨g,0,none⟩=false∧W.frozen? ⟨g,1,none⟩=false∧W.frozen? ⟨g,2,none⟩=false∧W.frozen? ⟨g,3,none⟩=false:=⟨(qu H 0).trans rfl,(qu H 1).trans rfl,(qu H 2).trans rfl,(qu H 3).trans rfl,blk_frozen H 0,blk_frozen H 1,blk_frozen H 2,blk_frozen H 3⟩
theorem fc8 {W:World} {g:Nat} {t:TypeId} {v0 v1 v2 v3 v4 v5 v6 v7:Value} (H:W.heap[g]? =some (.cells #[v0,v1,v2,v3,v4,v5,v6,v7] t (0,0))):W.cell? ⟨g,0,none⟩=some v0∧W.cell? ⟨g,1,none⟩=some v1∧W.cell? ⟨g,2,none⟩=some v2∧W.cell? ⟨g,3,none⟩=some v3∧W.cell? ⟨g,4,none⟩=some v4∧W.cell? ⟨g,5,none⟩=some v5∧W.cell? ⟨g,6,none⟩=some v6∧W.cell? ⟨g,7,none⟩=some v7∧W.frozen? ⟨g,0,none⟩=false∧W.frozen? ⟨g,1,none⟩=false∧W.frozen? ⟨g,2,none⟩=false∧W.frozen? ⟨g,3,none⟩=false∧W.frozen? ⟨g,4,none⟩=false∧W.frozen? ⟨g,5,none⟩=false∧W.frozen? ⟨g,6,none⟩=false∧W.frozen? ⟨g,7,none⟩=false:=⟨(qu H 0).trans rfl,(qu H 1).trans rfl,(qu H 2).trans rfl,(qu H 3).trans rfl,(qu H 4).trans rfl,(qu H 5).trans rfl,(qu H 6).trans rfl,(qu H 7).trans rfl,blk_frozen H 0,blk_frozen H 1,blk_frozen H 2,blk_frozen H 3,blk_frozen H 4,blk_frozen H 5,blk_frozen H 6,blk_frozen H 7⟩
end Go.Proofs.Ytcdkbdkanjifeaa.SFnExactProtectPacket
