/- Words for the walks: of the kit's print's words those that this seat's texts use, as the print writes them. -/
import Derived.Test.YteikckldldopiaaDoorWTab
namespace Go.Proofs.YteikckldldopiaaDoorW.PrintLast
/-- Number i is listed too. -/
def up (b : Nat → Bool) (i : Nat) : Nat → Bool := fun j => if j = i then true else b j
section
variable {P : Program} {ops : Array Oper} {Q : Exit → Act → World → Prop} {md : Region.Mode} {T : Bool × List (List Nat × List Nat)} {B : List Nat} {O : List Nat} {b : Nat → Bool} {i j n : Nat}
end
end Go.Proofs.YteikckldldopiaaDoorW.PrintLast
