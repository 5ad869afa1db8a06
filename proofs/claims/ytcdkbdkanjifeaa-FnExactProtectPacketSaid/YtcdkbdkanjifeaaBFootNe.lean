/- Words of the walks (those that the texts beside it use). -/
import Derived.Test.YtcdkbdkanjifeaaBN
namespace Go.Proofs.YtcdkbdkanjifeaaW.PrintWords
open Go.RowKit
namespace Kd
section
variable {α : Type} {d : Kd α} {W : World} {g n : Nat} {S ok : Nat → Prop} {A : Option Addr} {ad : Addr} {xs : List α}
end
end Kd
end Go.Proofs.YtcdkbdkanjifeaaW.PrintWords
