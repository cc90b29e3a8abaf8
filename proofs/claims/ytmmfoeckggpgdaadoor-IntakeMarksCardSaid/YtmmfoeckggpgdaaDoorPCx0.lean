-- laid by print.py of the kit (own words), several laws in one
import Derived.Test.YtmmfoeckggpgdaaDoorProg
import Derived.Below
import Derived.Deep.Draws
import Derived.Deep.AppendLies
import Derived.Maps.AppendAt
import Derived.OwnWalk
import Derived.Laws.BytesArg
import Derived.Laws.MakeOwn
import Derived.Laws.OwnMore
import Derived.Deep.OwnRows
import Derived.Tactics
import Derived.Lib.ConvBytes
import Derived.Laws.Slices
import Derived.WalkKit
import Derived.KernelRfl
import Derived.RowKit3
import Derived.Deep.LoopGhost
import Derived.Deep.QuietTactic
import Derived.BigQuiet
import Derived.WideLaws
import Derived.Deep.DeepCutAuto
import Derived.Deep.CutBlock
import Derived.Deep.RegionHeld3
import Derived.Laws.Rows
import Derived.Lib.AppendStr
import Derived.ArgAppend
import Derived.Laws.IdiomCopy
import Derived.OrdersHeld
import Derived.Laws.BitsLemmas
import Derived.RowKit
import Derived.Test.YtmmfoeckggpgdaaDoorWWords
import Derived.Test.YtmmfoeckggpgdaaDoorWLast
import Derived.Test.YtmmfoeckggpgdaaDoorWTab
import Derived.Test.YtmmfoeckggpgdaaDoorWFour
import Derived.Test.YtmmfoeckggpgdaaDoorWQPut
import Derived.Test.YtmmfoeckggpgdaaDoorWApart
import Derived.Test.YtmmfoeckggpgdaaDoorWArr
import Derived.Test.YtmmfoeckggpgdaaDoorWZeros
import Derived.Test.YtmmfoeckggpgdaaDoorWFoot
import Derived.Test.YtmmfoeckggpgdaaDoorWKept
import Derived.Test.YtmmfoeckggpgdaaDoorWShare
import Derived.Test.YtmmfoeckggpgdaaDoorWN
import Derived.Test.YtmmfoeckggpgdaaDoorWFootNe
import Derived.Test.YtmmfoeckggpgdaaDoorWAt
import Derived.Test.YtmmfoeckggpgdaaDoorWEqStruct
import Derived.Test.YtmmfoeckggpgdaaDoorWRepsOne
import Derived.Test.YtmmfoeckggpgdaaDoorWInv
import Derived.Test.YtmmfoeckggpgdaaDoorWInvWords
import Derived.Test.YtmmfoeckggpgdaaDoorWGuard
import Derived.Test.YtmmfoeckggpgdaaDoorWNEv
import Derived.Test.YtmmfoeckggpgdaaDoorWMore
namespace Go.Proofs.YtmmfoeckggpgdaaDoor.PC
open Go.RowKit Go.Proofs.YtmmfoeckggpgdaaDoorW.PrintWords Go.Proofs.YtmmfoeckggpgdaaDoorW.PrintLast Go.Proofs.YtmmfoeckggpgdaaDoorW.PrintMore
attribute [local go_sem] max2_int min2_int max_two min_two max_three min_three max_four min_four   -- for this text's walks alone
set_option linter.unusedVariables false
set_option linter.unusedSimpArgs false



def errW : Option Int → Value
  | none => .nilIface
  | some c => .iface 0 (.int .i64 c)
theorem errW_none : errW none = .nilIface := rfl
theorem errW_some (c : Int) : errW (some c) = .iface 0 (.int .i64 c) := rfl

theorem info3 : (Tryd.prog.info? 3).map (fun i => (i.zero, i.size, i.bytes)) = some (some (.int .i64 0), 1, 8) := by kernel_rfl
-- the values' own types

end Go.Proofs.YtmmfoeckggpgdaaDoor.PC
