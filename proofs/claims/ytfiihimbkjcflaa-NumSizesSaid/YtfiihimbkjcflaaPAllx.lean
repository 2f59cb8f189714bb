-- Printed by this session's own program (wip/tools/pp.py): out of the translation. Lean checks it.
import Derived.Test.YtfiihimbkjcflaaPAllx0
import Derived.Test.YtfiihimbkjcflaaPAllx1
import Derived.Test.YtfiihimbkjcflaaPAllx2
import Derived.Test.YtfiihimbkjcflaaPAllx3
import Derived.Test.YtfiihimbkjcflaaPAllx4
import Derived.Test.YtfiihimbkjcflaaPAllx5
import Derived.Test.YtfiihimbkjcflaaPAllx6
namespace Go.Proofs.Ytfiihimbkjcflaa.PAll
open Go.Proofs.Ytfiihimbkjcflaa.Help
open Go.RowKit Go.Proofs.YtfiihimbkjcflaaW.PrintWords Go.Proofs.YtfiihimbkjcflaaW.PrintLast Go.Proofs.YtfiihimbkjcflaaW.PrintMore
attribute [local go_sem] max2_int min2_int max_two min_two max_three min_three max_four min_four   -- for this text's walks alone
set_option linter.unusedVariables false
set_option linter.unusedSimpArgs false

end Go.Proofs.Ytfiihimbkjcflaa.PAll
