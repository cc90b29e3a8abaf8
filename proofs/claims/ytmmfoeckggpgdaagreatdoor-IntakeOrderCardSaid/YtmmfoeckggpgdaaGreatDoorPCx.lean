-- laid by print.py of the kit (own words), several laws in one
import Derived.Test.YtmmfoeckggpgdaaGreatDoorPCx0
import Derived.Test.YtmmfoeckggpgdaaGreatDoorPCx1
namespace Go.Proofs.YtmmfoeckggpgdaaGreatDoor.PC
open Go.RowKit Go.Proofs.YtmmfoeckggpgdaaGreatDoorW.PrintWords Go.Proofs.YtmmfoeckggpgdaaGreatDoorW.PrintLast Go.Proofs.YtmmfoeckggpgdaaGreatDoorW.PrintMore
attribute [local go_sem] max2_int min2_int max_two min_two max_three min_three max_four min_four   -- for this text's walks alone
set_option linter.unusedVariables false
set_option linter.unusedSimpArgs false

end Go.Proofs.YtmmfoeckggpgdaaGreatDoor.PC
