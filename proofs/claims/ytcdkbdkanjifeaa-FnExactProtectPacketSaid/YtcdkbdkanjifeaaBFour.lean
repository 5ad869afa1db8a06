/- Words of the walks (those that the texts beside it use). -/
import Derived.Test.YtcdkbdkanjifeaaBTab
namespace Go.Proofs.YtcdkbdkanjifeaaW.PrintLast
section
variable {P : Program} {ops : Array Oper} {Q : Exit → Act → World → Prop} {md : Region.Mode} {S : World → Prop} {ds : List Nat} {T : Bool × List (List Nat × List Nat)}
end
end Go.Proofs.YtcdkbdkanjifeaaW.PrintLast
