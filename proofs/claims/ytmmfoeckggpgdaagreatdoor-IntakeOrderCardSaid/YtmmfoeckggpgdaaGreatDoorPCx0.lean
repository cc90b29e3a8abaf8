-- laid by print.py of the kit (own words), several laws in one
import Derived.Test.YtmmfoeckggpgdaaGreatDoorProg
import Derived.Below
import Derived.Deep.Draws
import Derived.Deep.AppendLies
import Derived.Maps.AppendAt
import Derived.OwnWalk
import Derived.Laws.BytesArg
import Derived.Laws.MakeOwn
import Derived.Laws.OwnMore
import Derived.Deep.OwnRows
import Derived.Tactics
import Derived.Lib.ConvBytes
import Derived.Laws.Slices
import Derived.WalkKit
import Derived.KernelRfl
import Derived.RowKit3
import Derived.Deep.LoopGhost
import Derived.Deep.QuietTactic
import Derived.BigQuiet
import Derived.WideLaws
import Derived.Deep.DeepCutAuto
import Derived.Deep.CutBlock
import Derived.Deep.RegionHeld3
import Derived.Laws.Rows
import Derived.Lib.AppendStr
import Derived.ArgAppend
import Derived.Laws.IdiomCopy
import Derived.OrdersHeld
import Derived.Laws.BitsLemmas
import Derived.RowKit
import Derived.Test.YtmmfoeckggpgdaaGreatDoorWWords
import Derived.Test.YtmmfoeckggpgdaaGreatDoorWLast
import Derived.Test.YtmmfoeckggpgdaaGreatDoorWTab
import Derived.Test.YtmmfoeckggpgdaaGreatDoorWFour
import Derived.Test.YtmmfoeckggpgdaaGreatDoorWQPut
import Derived.Test.YtmmfoeckggpgdaaGreatDoorWApart
import Derived.Test.YtmmfoeckggpgdaaGreatDoorWArr
import Derived.Test.YtmmfoeckggpgdaaGreatDoorWZeros
import Derived.Test.YtmmfoeckggpgdaaGreatDoorWFoot
import Derived.Test.YtmmfoeckggpgdaaGreatDoorWKept
import Derived.Test.YtmmfoeckggpgdaaGreatDoorWShare
import Derived.Test.YtmmfoeckggpgdaaGreatDoorWN
import Derived.Test.YtmmfoeckggpgdaaGreatDoorWFootNe
import Derived.Test.YtmmfoeckggpgdaaGreatDoorWAt
import Derived.Test.YtmmfoeckggpgdaaGreatDoorWEqStruct
import Derived.Test.YtmmfoeckggpgdaaGreatDoorWRepsOne
import Derived.Test.YtmmfoeckggpgdaaGreatDoorWInv
import Derived.Test.YtmmfoeckggpgdaaGreatDoorWInvWords
import Derived.Test.YtmmfoeckggpgdaaGreatDoorWGuard
import Derived.Test.YtmmfoeckggpgdaaGreatDoorWNEv
import Derived.Test.YtmmfoeckggpgdaaGreatDoorWMore
namespace Go.Proofs.YtmmfoeckggpgdaaGreatDoor.PC
open Go.RowKit Go.Proofs.YtmmfoeckggpgdaaGreatDoorW.PrintWords Go.Proofs.YtmmfoeckggpgdaaGreatDoorW.PrintLast Go.Proofs.YtmmfoeckggpgdaaGreatDoorW.PrintMore
attribute [local go_sem] max2_int min2_int max_two min_two max_three min_three max_four min_four   -- for this text's walks alone
set_option linter.unusedVariables false
set_option linter.unusedSimpArgs false



def errW : Option Int → Value
  | none => .nilIface
  | some c => .iface 0 (.int .i64 c)
theorem errW_none : errW none = .nilIface := rfl
theorem errW_some (c : Int) : errW (some c) = .iface 0 (.int .i64 c) := rfl

theorem info3 : (Tryz.prog.info? 3).map (fun i => (i.zero, i.size, i.bytes)) = some (some (.int .i64 0), 1, 8) := by kernel_rfl
-- the values' own types

end Go.Proofs.YtmmfoeckggpgdaaGreatDoor.PC
