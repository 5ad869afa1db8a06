/- Words of the walks (those that the texts beside it use). -/
import Derived.Test.YtcdkbdkanjifeaaBWords
import Derived.Laws.StructEq
namespace Go.Proofs.YtcdkbdkanjifeaaW.PrintWords
open Go.RowKit
section
variable {P : Program} {d : Nat} {xs ys : Array Value} {f : Field} {fs : List Field} {a b : Value} {r s : Bool} {w : World}
end
end Go.Proofs.YtcdkbdkanjifeaaW.PrintWords
