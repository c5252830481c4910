/- Contracts of Go functions that a law reaches: written by a program of this session (a changed copy of the kit's print: wip/tools). -/
import Derived.Test.YtepegpkphocpoaaPAllx0
namespace Go.Proofs.Ytepegpkphocpoaa.PAll
open Go.RowKit Go.Proofs.YtepegpkphocpoaaOwn Go.Proofs.YtepegpkphocpoaaW.PrintWords Go.Proofs.YtepegpkphocpoaaW.PrintLast Go.Proofs.YtepegpkphocpoaaW.PrintMore
attribute [local go_sem] max2_int min2_int max_two min_two max_three min_three max_four min_four   -- for this text's walks alone
set_option linter.unusedVariables false
set_option linter.unusedSimpArgs false

-- NOT PRINTED: function 17 (shroudlaw04_values)

-- NOT PRINTED: function 4 (shroudlaw04_WelchHeals)

-- NOT PRINTED: function 5 (shroudlaw04_WelchHonest)

end Go.Proofs.Ytepegpkphocpoaa.PAll
