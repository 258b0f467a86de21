-- laid by a program of this session (pp.sh) out of the translation
import Derived.Test.YtdlkjcginamemaaDoorQScalarx0
import Derived.Test.YtdlkjcginamemaaDoorQScalarx1
import Derived.Test.YtdlkjcginamemaaDoorQScalarx2
import Derived.Test.YtdlkjcginamemaaDoorQScalarx3
import Derived.Test.YtdlkjcginamemaaDoorQScalarx4
import Derived.Test.YtdlkjcginamemaaDoorQScalarx5
namespace Go.Proofs.YtdlkjcginamemaaDoor.QScalar
open Go.RowKit Go.Proofs.YtdlkjcginamemaaDoorW.PrintWords Go.Proofs.YtdlkjcginamemaaDoorW.PrintLast Go.Proofs.YtdlkjcginamemaaDoorW.PrintMore
open Go.Proofs.YtdlkjcginamemaaDoor.Scalar (G gOf)
attribute [local go_sem] max2_int min2_int max_two min_two max_three min_three max_four min_four   -- for this text's walks alone
set_option linter.unusedVariables false
set_option linter.unusedSimpArgs false

end Go.Proofs.YtdlkjcginamemaaDoor.QScalar
