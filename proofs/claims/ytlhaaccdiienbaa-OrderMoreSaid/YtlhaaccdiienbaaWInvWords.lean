import Derived.Test.YtlhaaccdiienbaaWInv
import Derived.Test.YtlhaaccdiienbaaWFootNe
namespace Go.Proofs.YtlhaaccdiienbaaW.PrintWords
open Go.RowKit
end Go.Proofs.YtlhaaccdiienbaaW.PrintWords
namespace Go.Proofs.YtlhaaccdiienbaaW.PrintLast
section
variable {ops : Array Oper} {a : Act} {o og : Oper} {g : Nat} {t : Tmp} {u : Bool}
end
end Go.Proofs.YtlhaaccdiienbaaW.PrintLast
