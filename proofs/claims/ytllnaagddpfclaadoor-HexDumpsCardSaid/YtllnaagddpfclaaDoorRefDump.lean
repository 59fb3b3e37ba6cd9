/- The document's Dump: its printed walk (namespace D), under the name that the laws' print asks for. -/
import Derived.Test.YtllnaagddpfclaaDoorDx2
namespace Go.Proofs.YtllnaagddpfclaaDoor.Ext
open Go Go.RowKit Go.Proofs.YtllnaagddpfclaaDoor Go.Proofs.YtllnaagddpfclaaDoorW.PrintWords Go.Proofs.YtllnaagddpfclaaDoorW.PrintLast Go.Proofs.YtllnaagddpfclaaDoorW.PrintMore
abbrev seedcornref02_Dump.f := D.seedcornref02_Dump.f
theorem seedcornref02_Dump.mono : ∀ a0 k, LeO (seedcornref02_Dump.f k a0) (seedcornref02_Dump.f (k + 1) a0) := D.seedcornref02_Dump.mono
theorem seedcornref02_Dump.calls (k : Nat) (a0 : ByteArray) (r : ByteArray) (w : World) (h : seedcornref02_Dump.f k a0 = some r) :
    Calls Tryd.prog 19 #[.string a0] w fun e w' => e = .returned (.string r) ∧ Below w.heap.size w w' := D.seedcornref02_Dump.calls k a0 r w h
end Go.Proofs.YtllnaagddpfclaaDoor.Ext
