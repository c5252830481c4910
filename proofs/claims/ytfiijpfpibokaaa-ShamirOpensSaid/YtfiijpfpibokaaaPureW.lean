/- Plain laws: what the printed functions compute, in the field's own words. -/
import Derived.Test.YtfiijpfpibokaaaPAllx9
set_option linter.unusedVariables false
set_option linter.unusedSimpArgs false
namespace Go.Proofs.Ytfiijpfpibokaaa.Pure
open Go.RowKit Go.Proofs.Ytfiijpfpibokaaa.PAll Go.Proofs.YtfiijpfpibokaaaW.PrintWords Go.Proofs.YtfiijpfpibokaaaW.PrintLast Go.Proofs.YtfiijpfpibokaaaOwn Shroud

theorem awake_ev : Ev (fun k => shroudlaw05_awake.f k) true := Ev.of shroudlaw05_awake.mono shroudlaw05_awake.ran

end Go.Proofs.Ytfiijpfpibokaaa.Pure
