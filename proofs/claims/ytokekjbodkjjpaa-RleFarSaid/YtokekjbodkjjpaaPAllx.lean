-- Printed by this session's own program (wip/tools/pp.py): out of the translation. Lean checks it.
import Derived.Test.YtokekjbodkjjpaaPAllx0
import Derived.Test.YtokekjbodkjjpaaPAllx1
import Derived.Test.YtokekjbodkjjpaaPAllx2
import Derived.Test.YtokekjbodkjjpaaPAllx3
import Derived.Test.YtokekjbodkjjpaaPAllx4
import Derived.Test.YtokekjbodkjjpaaPAllx5
import Derived.Test.YtokekjbodkjjpaaPAllx6
import Derived.Test.YtokekjbodkjjpaaPAllx7
namespace Go.Proofs.Ytokekjbodkjjpaa.PAll
open Go.Proofs.Ytokekjbodkjjpaa.Help
open Go.RowKit Go.Proofs.YtokekjbodkjjpaaW.PrintWords Go.Proofs.YtokekjbodkjjpaaW.PrintLast Go.Proofs.YtokekjbodkjjpaaW.PrintMore
attribute [local go_sem] max2_int min2_int max_two min_two max_three min_three max_four min_four   -- for this text's walks alone
set_option linter.unusedVariables false
set_option linter.unusedSimpArgs false

end Go.Proofs.Ytokekjbodkjjpaa.PAll
