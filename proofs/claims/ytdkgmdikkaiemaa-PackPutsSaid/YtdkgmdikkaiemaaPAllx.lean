-- Printed by this session's own program (wip/tools/pp.py): out of the translation. Lean checks it.
import Derived.Test.YtdkgmdikkaiemaaPAllx0
import Derived.Test.YtdkgmdikkaiemaaPAllx1
import Derived.Test.YtdkgmdikkaiemaaPAllx2
import Derived.Test.YtdkgmdikkaiemaaPAllx3
import Derived.Test.YtdkgmdikkaiemaaPAllx4
import Derived.Test.YtdkgmdikkaiemaaPAllx5
import Derived.Test.YtdkgmdikkaiemaaPAllx6
import Derived.Test.YtdkgmdikkaiemaaPAllx7
namespace Go.Proofs.Ytdkgmdikkaiemaa.PAll
open Go.Proofs.Ytdkgmdikkaiemaa.Help
open Go.RowKit Go.Proofs.YtdkgmdikkaiemaaW.PrintWords Go.Proofs.YtdkgmdikkaiemaaW.PrintLast Go.Proofs.YtdkgmdikkaiemaaW.PrintMore
attribute [local go_sem] max2_int min2_int max_two min_two max_three min_three max_four min_four   -- for this text's walks alone
set_option linter.unusedVariables false
set_option linter.unusedSimpArgs false

end Go.Proofs.Ytdkgmdikkaiemaa.PAll
