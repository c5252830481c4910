/- Words for the walks: of the kit's print's words those that this seat's texts use, as the print writes them. -/
import Derived.Test.YteikckldldopiaaDoorWN
namespace Go.Proofs.YteikckldldopiaaDoorW.PrintWords
open Go.RowKit
namespace Kd
section
variable {α : Type} {d : Kd α} {W : World} {g n : Nat} {S ok : Nat → Prop} {A : Option Addr} {ad : Addr} {xs : List α}
end
end Kd
end Go.Proofs.YteikckldldopiaaDoorW.PrintWords
