/- Words of the walks (those that the texts beside it use). -/
import Derived.Test.YtdojcdhlcnlohaaBInv
import Derived.Test.YtdojcdhlcnlohaaBFootNe
namespace Go.Proofs.YtdojcdhlcnlohaaW.PrintWords
open Go.RowKit
end Go.Proofs.YtdojcdhlcnlohaaW.PrintWords
namespace Go.Proofs.YtdojcdhlcnlohaaW.PrintLast
section
variable {ops : Array Oper} {a : Act} {o og : Oper} {g : Nat} {t : Tmp} {u : Bool}
end
end Go.Proofs.YtdojcdhlcnlohaaW.PrintLast
