-- Written by a program of this session (wip/tools/xprint.py) over the kit's print.
import Derived.Test.YtdmgponiefhlnaaDoorExt
import Derived.Test.YtdmgponiefhlnaaDoorFUint
import Derived.Test.YtdmgponiefhlnaaDoorProg
import Derived.Below
import Derived.Deep.Draws
import Derived.Deep.AppendLies
import Derived.Maps.AppendAt
import Derived.OwnWalk
import Derived.Laws.BytesArg
import Derived.Laws.MakeOwn
import Derived.Laws.OwnMore
import Derived.Deep.OwnRows
import Derived.Tactics
import Derived.Lib.ConvBytes
import Derived.Laws.Slices
import Derived.WalkKit
import Derived.KernelRfl
import Derived.RowKit3
import Derived.Deep.LoopGhost
import Derived.Deep.QuietTactic
import Derived.BigQuiet
import Derived.WideLaws
import Derived.Deep.DeepCutAuto
import Derived.Deep.CutBlock
import Derived.Deep.RegionHeld3
import Derived.Laws.Rows
import Derived.Lib.AppendStr
import Derived.ArgAppend
import Derived.Laws.IdiomCopy
import Derived.OrdersHeld
import Derived.Laws.BitsLemmas
import Derived.RowKit
import Derived.Test.YtdmgponiefhlnaaDoorWWords
import Derived.Test.YtdmgponiefhlnaaDoorWLast
import Derived.Test.YtdmgponiefhlnaaDoorWTab
import Derived.Test.YtdmgponiefhlnaaDoorWFour
import Derived.Test.YtdmgponiefhlnaaDoorWQPut
import Derived.Test.YtdmgponiefhlnaaDoorWApart
import Derived.Test.YtdmgponiefhlnaaDoorWArr
import Derived.Test.YtdmgponiefhlnaaDoorWZeros
import Derived.Test.YtdmgponiefhlnaaDoorWFoot
import Derived.Test.YtdmgponiefhlnaaDoorWKept
import Derived.Test.YtdmgponiefhlnaaDoorWShare
import Derived.Test.YtdmgponiefhlnaaDoorWN
import Derived.Test.YtdmgponiefhlnaaDoorWFootNe
import Derived.Test.YtdmgponiefhlnaaDoorWAt
import Derived.Test.YtdmgponiefhlnaaDoorWEqStruct
import Derived.Test.YtdmgponiefhlnaaDoorWRepsOne
import Derived.Test.YtdmgponiefhlnaaDoorWInv
import Derived.Test.YtdmgponiefhlnaaDoorWInvWords
import Derived.Test.YtdmgponiefhlnaaDoorWGuard
import Derived.Test.YtdmgponiefhlnaaDoorWNEv
import Derived.Test.YtdmgponiefhlnaaDoorWMore
namespace Go.Proofs.YtdmgponiefhlnaaDoor.Q
open Go.RowKit Go.Proofs.YtdmgponiefhlnaaDoorW.PrintWords Go.Proofs.YtdmgponiefhlnaaDoorW.PrintLast Go.Proofs.YtdmgponiefhlnaaDoorW.PrintMore
attribute [local go_sem] max2_int min2_int max_two min_two max_three min_three max_four min_four   -- for this text's walks alone
set_option linter.unusedVariables false
set_option linter.unusedSimpArgs false



def errW : Option Int → Value
  | none => .nilIface
  | some c => .iface 0 (.int .i64 c)
theorem errW_none : errW none = .nilIface := rfl
theorem errW_some (c : Int) : errW (some c) = .iface 0 (.int .i64 c) := rfl

theorem info5 : (Tryd.prog.info? 5).map (fun i => (i.zero, i.size, i.bytes)) = some (some (.int .u8 0), 1, 1) := by kernel_rfl
theorem info22 : (Tryd.prog.info? 22).map (fun i => (i.zero, i.size, i.bytes)) = some (some (.int .u32 0), 1, 4) := by kernel_rfl
-- the values' own types

end Go.Proofs.YtdmgponiefhlnaaDoor.Q
