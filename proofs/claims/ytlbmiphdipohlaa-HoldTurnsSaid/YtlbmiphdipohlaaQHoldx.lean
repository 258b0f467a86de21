-- laid by a program of this session (pp.sh) out of the translation
import Derived.Test.YtlbmiphdipohlaaQHoldx0
import Derived.Test.YtlbmiphdipohlaaQHoldx1
import Derived.Test.YtlbmiphdipohlaaQHoldx2
import Derived.Test.YtlbmiphdipohlaaQHoldx3
import Derived.Test.YtlbmiphdipohlaaQHoldx4
import Derived.Test.YtlbmiphdipohlaaQHoldx5
namespace Go.Proofs.Ytlbmiphdipohlaa.QHold
open Go.RowKit Go.Proofs.YtlbmiphdipohlaaW.PrintWords Go.Proofs.YtlbmiphdipohlaaW.PrintLast Go.Proofs.YtlbmiphdipohlaaW.PrintMore
attribute [local go_sem] max2_int min2_int max_two min_two max_three min_three max_four min_four   -- for this text's walks alone
set_option linter.unusedVariables false
set_option linter.unusedSimpArgs false

end Go.Proofs.Ytlbmiphdipohlaa.QHold
