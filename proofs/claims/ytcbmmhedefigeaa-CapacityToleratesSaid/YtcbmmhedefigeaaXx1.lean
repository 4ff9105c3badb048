-- Written by a program of this work, over the kit's print of the translation. Not trusted: Lean checks it.
import Derived.Test.YtcbmmhedefigeaaXx0
namespace Go.Proofs.Ytcbmmhedefigeaa.X
open Go.RowKit Go.Proofs.YtcbmmhedefigeaaW.PrintWords Go.Proofs.YtcbmmhedefigeaaW.PrintLast Go.Proofs.YtcbmmhedefigeaaW.PrintMore
attribute [local go_sem] max2_int min2_int max_two min_two max_three min_three max_four min_four   -- for this text's walks alone
set_option linter.unusedVariables false
set_option linter.unusedSimpArgs false

-- NOT PRINTED: function 55 (api_Point_55)

-- NOT PRINTED: function 46 (api_Point_46)

-- NOT PRINTED: function 49 (profile_staves)

end Go.Proofs.Ytcbmmhedefigeaa.X
