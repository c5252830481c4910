/- Words for the walks: of the kit's print's words those that this seat's texts use, as the print writes them. -/
import Derived.Test.YtfiijpfpibokaaaWInv
import Derived.Test.YtfiijpfpibokaaaWFootNe
namespace Go.Proofs.YtfiijpfpibokaaaW.PrintWords
open Go.RowKit
end Go.Proofs.YtfiijpfpibokaaaW.PrintWords
namespace Go.Proofs.YtfiijpfpibokaaaW.PrintLast
section
variable {ops : Array Oper} {a : Act} {o og : Oper} {g : Nat} {t : Tmp} {u : Bool}
end
end Go.Proofs.YtfiijpfpibokaaaW.PrintLast
