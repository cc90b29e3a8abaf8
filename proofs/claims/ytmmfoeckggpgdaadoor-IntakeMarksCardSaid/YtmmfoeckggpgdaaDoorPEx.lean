-- laid by print.py of the kit (own words), several laws in one
import Derived.Test.YtmmfoeckggpgdaaDoorPEx0
import Derived.Test.YtmmfoeckggpgdaaDoorPEx1
import Derived.Test.YtmmfoeckggpgdaaDoorPEx2
import Derived.Test.YtmmfoeckggpgdaaDoorPEx3
namespace Go.Proofs.YtmmfoeckggpgdaaDoor.PE
open Go.RowKit Go.Proofs.YtmmfoeckggpgdaaDoorW.PrintWords Go.Proofs.YtmmfoeckggpgdaaDoorW.PrintLast Go.Proofs.YtmmfoeckggpgdaaDoorW.PrintMore
attribute [local go_sem] max2_int min2_int max_two min_two max_three min_three max_four min_four   -- for this text's walks alone
set_option linter.unusedVariables false
set_option linter.unusedSimpArgs false

end Go.Proofs.YtmmfoeckggpgdaaDoor.PE
