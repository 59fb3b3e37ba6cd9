-- Written by a program of this session (wip/tools/xprint.py) over the kit's print.
import Derived.Test.YtllnaagddpfclaaDoorExt
import Derived.Test.YtllnaagddpfclaaDoorItoa
import Derived.Test.YtllnaagddpfclaaDoorProg
import Derived.Below
import Derived.Deep.Draws
import Derived.Deep.AppendLies
import Derived.Maps.AppendAt
import Derived.OwnWalk
import Derived.Laws.BytesArg
import Derived.Laws.MakeOwn
import Derived.Laws.OwnMore
import Derived.Deep.OwnRows
import Derived.Tactics
import Derived.Lib.ConvBytes
import Derived.Laws.Slices
import Derived.WalkKit
import Derived.KernelRfl
import Derived.RowKit3
import Derived.Deep.LoopGhost
import Derived.Deep.QuietTactic
import Derived.BigQuiet
import Derived.WideLaws
import Derived.Deep.DeepCutAuto
import Derived.Deep.CutBlock
import Derived.Deep.RegionHeld3
import Derived.Laws.Rows
import Derived.Lib.AppendStr
import Derived.ArgAppend
import Derived.Laws.IdiomCopy
import Derived.OrdersHeld
import Derived.Laws.BitsLemmas
import Derived.RowKit
import Derived.Test.YtllnaagddpfclaaDoorWWords
import Derived.Test.YtllnaagddpfclaaDoorWLast
import Derived.Test.YtllnaagddpfclaaDoorWTab
import Derived.Test.YtllnaagddpfclaaDoorWFour
import Derived.Test.YtllnaagddpfclaaDoorWQPut
import Derived.Test.YtllnaagddpfclaaDoorWApart
import Derived.Test.YtllnaagddpfclaaDoorWArr
import Derived.Test.YtllnaagddpfclaaDoorWZeros
import Derived.Test.YtllnaagddpfclaaDoorWFoot
import Derived.Test.YtllnaagddpfclaaDoorWKept
import Derived.Test.YtllnaagddpfclaaDoorWShare
import Derived.Test.YtllnaagddpfclaaDoorWN
import Derived.Test.YtllnaagddpfclaaDoorWFootNe
import Derived.Test.YtllnaagddpfclaaDoorWAt
import Derived.Test.YtllnaagddpfclaaDoorWEqStruct
import Derived.Test.YtllnaagddpfclaaDoorWRepsOne
import Derived.Test.YtllnaagddpfclaaDoorWInv
import Derived.Test.YtllnaagddpfclaaDoorWInvWords
import Derived.Test.YtllnaagddpfclaaDoorWGuard
import Derived.Test.YtllnaagddpfclaaDoorWNEv
import Derived.Test.YtllnaagddpfclaaDoorWMore
namespace Go.Proofs.YtllnaagddpfclaaDoor.A
open Go.RowKit Go.Proofs.YtllnaagddpfclaaDoorW.PrintWords Go.Proofs.YtllnaagddpfclaaDoorW.PrintLast Go.Proofs.YtllnaagddpfclaaDoorW.PrintMore
attribute [local go_sem] max2_int min2_int max_two min_two max_three min_three max_four min_four   -- for this text's walks alone
set_option linter.unusedVariables false
set_option linter.unusedSimpArgs false



def errW : Option Int → Value
  | none => .nilIface
  | some c => .iface 0 (.int .i64 c)
theorem errW_none : errW none = .nilIface := rfl
theorem errW_some (c : Int) : errW (some c) = .iface 0 (.int .i64 c) := rfl

theorem info5 : (Tryd.prog.info? 5).map (fun i => (i.zero, i.size, i.bytes)) = some (some (.int .u8 0), 1, 1) := by kernel_rfl
theorem info9 : (Tryd.prog.info? 9).map (fun i => (i.zero, i.size, i.bytes)) = some (some (.string ⟨#[]⟩), 1, 16) := by kernel_rfl
-- the values' own types

end Go.Proofs.YtllnaagddpfclaaDoor.A
