/- Sums of polynomials of one length. -/
import Derived.Test.YteikckldldopiaaDoorWelch
namespace Shroud
open F
end Shroud
