/- Words for the walks: of the kit's print's words those that this seat's texts use, as the print writes them. -/
import Derived.Test.YteikckldldopiaaDoorWWords
import Derived.Laws.StructEq
namespace Go.Proofs.YteikckldldopiaaDoorW.PrintWords
open Go.RowKit
section
variable {P : Program} {d : Nat} {xs ys : Array Value} {f : Field} {fs : List Field} {a b : Value} {r s : Bool} {w : World}
end
end Go.Proofs.YteikckldldopiaaDoorW.PrintWords
