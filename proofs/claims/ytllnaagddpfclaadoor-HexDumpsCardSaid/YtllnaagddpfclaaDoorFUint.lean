/- strconv.FormatUint at base 10: the decimal numeral of any word of 64 bits; its contract at this program. The table that it reads is a premise (TAB). -/
import Derived.Test.YtllnaagddpfclaaDoorShelf
import Derived.Lib.Walk
import Derived.Lib.ItoaMem
import Derived.WalkKit
import Derived.BigCall
import Derived.BigGuard
import Derived.Below
import Derived.Test.YtllnaagddpfclaaDoorWWords
namespace Go.Proofs.YtllnaagddpfclaaDoor.Ext
open Go.Shelf Go.RowKit Go.Sort Go.Lib Go.Proofs.YtllnaagddpfclaaDoorW.PrintWords

/-- The library's table of powers of 10 holds them. -/
def TAB (w : World) : Prop := Lib.TabIs Tryd.prog w "internal/strconv.uint64pow10" .u64 Lib.pow10Tab
theorem gPow : (Tryd.prog.globalNamed "internal/strconv.uint64pow10").isSome = true := by kernel_rfl
theorem TAB.below {w w' : World} (h : TAB w) (hb : Below w.heap.size w w') : TAB w' := by
  obtain ⟨g, hg⟩ := Option.isSome_iff_exists.mp gPow
  unfold TAB Lib.TabIs World.var? at h ⊢
  simp only [hg, Option.bind_some] at h ⊢
  by_cases hlt : g < w.heap.size
  · rw [hb.block g hlt]
    exact h
  · rw [Array.getElem?_eq_none (by omega)] at h
    cases h

end Go.Proofs.YtllnaagddpfclaaDoor.Ext
