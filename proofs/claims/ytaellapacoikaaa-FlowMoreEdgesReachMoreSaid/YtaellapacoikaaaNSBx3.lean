import Derived.Test.YtaellapacoikaaaN0
import Derived.Test.YtaellapacoikaaaNSBx0
import Derived.Test.YtaellapacoikaaaNB12
namespace Go.Proofs.Ytaellapacoikaaa.PB
open Go.RowKit Go.Proofs.YtaellapacoikaaaW.PrintWords Go.Proofs.YtaellapacoikaaaW.PrintLast Go.Proofs.YtaellapacoikaaaW.PrintMore
attribute [local go_sem] max2_int min2_int max_two min_two max_three min_three max_four min_four   -- for this text's walks alone
set_option linter.unusedVariables false
set_option linter.unusedSimpArgs false

/-! ### flow_dominators: function 43 -/
-- HAND Derived.Test.YtaellapacoikaaaB12
-- walked by hand: the texts B1 .. B12

end Go.Proofs.Ytaellapacoikaaa.PB
