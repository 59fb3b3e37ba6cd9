/- HexReads, with no Go text in sight. -/
import Derived.Test.YtllnaagddpfclaaDoorQx11
import Derived.Test.YtllnaagddpfclaaDoorHexRef
import Derived.Test.YtllnaagddpfclaaDoorHexParse
namespace Go.Proofs.YtllnaagddpfclaaDoor.Pure
open Go Go.RowKit Go.Proofs.YtllnaagddpfclaaDoor Go.Proofs.YtllnaagddpfclaaDoor.Q Go.Proofs.YtllnaagddpfclaaDoor.Texts Go.Proofs.YtllnaagddpfclaaDoor.Hex Go.Proofs.YtllnaagddpfclaaDoorW.PrintWords Go.Proofs.YtllnaagddpfclaaDoorW.PrintLast Go.Proofs.YtllnaagddpfclaaDoorW.PrintMore
theorem HexReads : seedcornlaw02_HexReads.Pure := by
  intro s _
  apply Ev.rounds
  unfold seedcornlaw02_HexReads.f
  refine Ev.bind awake_ev ?_
  simp only [if_true]
  by_cases hs : (s.size : Int) > 3000
  · simp only [if_pos hs]; exact Ev.now _
  simp only [if_neg hs]
  refine Ev.bind (parse_ev s (by omega)) (Ev.bind (rparse_ev s (by omega)) ?_)
  simp only [beq_self_eq_true, if_true]
  exact Ev.now _
end Go.Proofs.YtllnaagddpfclaaDoor.Pure
