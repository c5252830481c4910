/- Words for the walks: of the kit's print's words those that this seat's texts use, as the print writes them. -/
import Derived.Test.YteikckldldopiaaDoorWN
namespace Go.Proofs.YteikckldldopiaaDoorW.PrintWords
open Go.RowKit
namespace Kd
section
variable {α : Type} {d : Kd α} {e base n cap g : Nat} {ok ok' okp : Nat → Prop} {w w1 W : World} {v v1 : Value} {xs ys : List α}
end
section
variable {P : Program} {ops : Array Oper} {rest : List Oper} {o : Oper} {a : Act} {Q : Exit → Act → World → Prop} {Kc : Act → World → Prop} {α : Type}
end
end Kd
end Go.Proofs.YteikckldldopiaaDoorW.PrintWords
