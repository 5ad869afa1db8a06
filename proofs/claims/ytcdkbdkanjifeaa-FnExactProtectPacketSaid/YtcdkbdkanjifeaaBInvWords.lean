/- Words of the walks (those that the texts beside it use). -/
import Derived.Test.YtcdkbdkanjifeaaBInv
import Derived.Test.YtcdkbdkanjifeaaBFootNe
namespace Go.Proofs.YtcdkbdkanjifeaaW.PrintWords
open Go.RowKit
end Go.Proofs.YtcdkbdkanjifeaaW.PrintWords
namespace Go.Proofs.YtcdkbdkanjifeaaW.PrintLast
section
variable {ops : Array Oper} {a : Act} {o og : Oper} {g : Nat} {t : Tmp} {u : Bool}
end
end Go.Proofs.YtcdkbdkanjifeaaW.PrintLast
