-- Written by a program of this session (wip/pp: the kit's print, changed), out of the translation. Lean checks it.
import Derived.Test.YtcnjaeeghfmkfaaCx0
import Derived.Test.YtcnjaeeghfmkfaaCx1
import Derived.Test.YtcnjaeeghfmkfaaCx2
import Derived.Test.YtcnjaeeghfmkfaaCx3
import Derived.Test.YtcnjaeeghfmkfaaCx4
import Derived.Test.YtcnjaeeghfmkfaaCx5
import Derived.Test.YtcnjaeeghfmkfaaCx6
import Derived.Test.YtcnjaeeghfmkfaaCx7
import Derived.Test.YtcnjaeeghfmkfaaCx8
import Derived.Test.YtcnjaeeghfmkfaaCx9
import Derived.Test.YtcnjaeeghfmkfaaCx10
import Derived.Test.YtcnjaeeghfmkfaaCx11
import Derived.Test.YtcnjaeeghfmkfaaCx12
import Derived.Test.YtcnjaeeghfmkfaaCx13
import Derived.Test.YtcnjaeeghfmkfaaCx14
import Derived.Test.YtcnjaeeghfmkfaaCx15
import Derived.Test.YtcnjaeeghfmkfaaCx16
namespace Go.Proofs.Ytcnjaeeghfmkfaa.C
open Go.RowKit Go.Proofs.YtcnjaeeghfmkfaaW.PrintWords Go.Proofs.YtcnjaeeghfmkfaaW.PrintLast Go.Proofs.YtcnjaeeghfmkfaaW.PrintMore
attribute [local go_sem] max2_int min2_int max_two min_two max_three min_three max_four min_four   -- for this text's walks alone
set_option linter.unusedVariables false
set_option linter.unusedSimpArgs false

end Go.Proofs.Ytcnjaeeghfmkfaa.C
