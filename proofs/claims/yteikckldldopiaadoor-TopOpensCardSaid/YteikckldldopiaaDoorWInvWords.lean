/- Words for the walks: of the kit's print's words those that this seat's texts use, as the print writes them. -/
import Derived.Test.YteikckldldopiaaDoorWInv
import Derived.Test.YteikckldldopiaaDoorWFootNe
namespace Go.Proofs.YteikckldldopiaaDoorW.PrintWords
open Go.RowKit
end Go.Proofs.YteikckldldopiaaDoorW.PrintWords
namespace Go.Proofs.YteikckldldopiaaDoorW.PrintLast
section
variable {ops : Array Oper} {a : Act} {o og : Oper} {g : Nat} {t : Tmp} {u : Bool}
end
end Go.Proofs.YteikckldldopiaaDoorW.PrintLast
