-- Printed by hprint.py (this session's program over the kit's print) out of the translation; the parts 'by hand' are the session's own.
import Derived.Test.YtpmiaaphmgoapaaHx0
import Derived.Test.YtpmiaaphmgoapaaHxf29
import Derived.Test.YtpmiaaphmgoapaaHxf26
import Derived.Test.YtpmiaaphmgoapaaHxf19
import Derived.Test.YtpmiaaphmgoapaaHxf20
import Derived.Test.YtpmiaaphmgoapaaHxf21
import Derived.Test.YtpmiaaphmgoapaaHxf10
import Derived.Test.YtpmiaaphmgoapaaHxf12
import Derived.Test.YtpmiaaphmgoapaaHxf9
import Derived.Test.YtpmiaaphmgoapaaHxf13
import Derived.Test.YtpmiaaphmgoapaaHxf22
import Derived.Test.YtpmiaaphmgoapaaHxf25
import Derived.Test.YtpmiaaphmgoapaaHxf14
import Derived.Test.YtpmiaaphmgoapaaHxf15
import Derived.Test.YtpmiaaphmgoapaaHxf16
import Derived.Test.YtpmiaaphmgoapaaHxf5
namespace Go.Proofs.Ytpmiaaphmgoapaa.H
open Go.RowKit Go.Proofs.YtpmiaaphmgoapaaW.PrintWords Go.Proofs.YtpmiaaphmgoapaaW.PrintLast Go.Proofs.YtpmiaaphmgoapaaW.PrintMore
attribute [local go_sem] max2_int min2_int max_two min_two max_three min_three max_four min_four   -- for this text's walks alone
set_option linter.unusedVariables false
set_option linter.unusedSimpArgs false

end Go.Proofs.Ytpmiaaphmgoapaa.H
