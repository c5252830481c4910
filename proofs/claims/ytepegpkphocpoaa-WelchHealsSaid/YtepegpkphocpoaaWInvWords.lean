/- Words for the walks: of the kit's print's words those that this seat's texts use, as the print writes them. -/
import Derived.Test.YtepegpkphocpoaaWInv
import Derived.Test.YtepegpkphocpoaaWFootNe
namespace Go.Proofs.YtepegpkphocpoaaW.PrintWords
open Go.RowKit
end Go.Proofs.YtepegpkphocpoaaW.PrintWords
namespace Go.Proofs.YtepegpkphocpoaaW.PrintLast
section
variable {ops : Array Oper} {a : Act} {o og : Oper} {g : Nat} {t : Tmp} {u : Bool}
end
end Go.Proofs.YtepegpkphocpoaaW.PrintLast
