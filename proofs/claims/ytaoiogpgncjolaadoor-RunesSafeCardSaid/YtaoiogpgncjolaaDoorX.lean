-- Written by this session's xprint.py (a variant of the kit's printer). Not trusted: Lean checks it.
import Derived.Test.YtaoiogpgncjolaaDoorX0
import Derived.Test.YtaoiogpgncjolaaDoorX1
import Derived.Test.YtaoiogpgncjolaaDoorX2
import Derived.Test.YtaoiogpgncjolaaDoorX3
import Derived.Test.YtaoiogpgncjolaaDoorX4
import Derived.Test.YtaoiogpgncjolaaDoorX5
import Derived.Test.YtaoiogpgncjolaaDoorX6
import Derived.Test.YtaoiogpgncjolaaDoorX7
import Derived.Test.YtaoiogpgncjolaaDoorX8
import Derived.Test.YtaoiogpgncjolaaDoorX9
import Derived.Test.YtaoiogpgncjolaaDoorX10
import Derived.Test.YtaoiogpgncjolaaDoorX11
import Derived.Test.YtaoiogpgncjolaaDoorX12
import Derived.Test.YtaoiogpgncjolaaDoorX13
import Derived.Test.YtaoiogpgncjolaaDoorX14
namespace Go.Proofs.YtaoiogpgncjolaaDoor.X
open Go.RowKit Go.Proofs.YtaoiogpgncjolaaDoorW.PrintWords Go.Proofs.YtaoiogpgncjolaaDoorW.PrintLast Go.Proofs.YtaoiogpgncjolaaDoorW.PrintMore
open Go.Proofs.YtaoiogpgncjolaaDoor.Hand
attribute [local go_sem] max2_int min2_int max_two min_two max_three min_three max_four min_four   -- for this text's walks alone
set_option linter.unusedVariables false
set_option linter.unusedSimpArgs false

end Go.Proofs.YtaoiogpgncjolaaDoor.X
