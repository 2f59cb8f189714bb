-- Printed by this session's own program (wip/tools/pp.py): out of the translation. Lean checks it.
import Derived.Test.YtalgjhmehilioaaPAllx0
import Derived.Test.YtalgjhmehilioaaPAllx1
import Derived.Test.YtalgjhmehilioaaPAllx2
import Derived.Test.YtalgjhmehilioaaPAllx3
import Derived.Test.YtalgjhmehilioaaPAllx4
import Derived.Test.YtalgjhmehilioaaPAllx5
import Derived.Test.YtalgjhmehilioaaPAllx6
import Derived.Test.YtalgjhmehilioaaPAllx7
import Derived.Test.YtalgjhmehilioaaPAllx8
import Derived.Test.YtalgjhmehilioaaPAllx9
import Derived.Test.YtalgjhmehilioaaPAllx10
import Derived.Test.YtalgjhmehilioaaPAllx11
import Derived.Test.YtalgjhmehilioaaPAllx12
namespace Go.Proofs.Ytalgjhmehilioaa.PAll
open Go.Proofs.Ytalgjhmehilioaa.Help
open Go.RowKit Go.Proofs.YtalgjhmehilioaaW.PrintWords Go.Proofs.YtalgjhmehilioaaW.PrintLast Go.Proofs.YtalgjhmehilioaaW.PrintMore
attribute [local go_sem] max2_int min2_int max_two min_two max_three min_three max_four min_four   -- for this text's walks alone
set_option linter.unusedVariables false
set_option linter.unusedSimpArgs false

end Go.Proofs.Ytalgjhmehilioaa.PAll
