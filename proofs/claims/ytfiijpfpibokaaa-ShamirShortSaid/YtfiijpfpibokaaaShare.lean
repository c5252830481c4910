/- Sums of polynomials of one length. -/
import Derived.Test.YtfiijpfpibokaaaWelch
namespace Shroud
open F
theorem vadd_eqv {l m : List F} (h : l.length = m.length) : Eqv (vadd l m) (padd l m) := fun i => by rw [co_vadd h, co_padd]
theorem ev_vadd {l m : List F} (h : l.length = m.length) (x : F) : ev (vadd l m) x = ev l x + ev m x := by rw [ev_congr (vadd_eqv h), ev_padd]
theorem ev_one (c x : F) : ev [c] x = c := by rw [ev_cons, ev_nil, F.mul_zero, F.add_zero]
theorem ev_two (c d x : F) : ev [c, d] x = c + x * d := by rw [ev_cons, ev_one]
end Shroud
