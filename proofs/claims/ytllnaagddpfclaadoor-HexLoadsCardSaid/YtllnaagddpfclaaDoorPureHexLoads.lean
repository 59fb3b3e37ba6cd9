/- HexLoads, with no Go text in sight. -/
import Derived.Test.YtllnaagddpfclaaDoorQx12
import Derived.Test.YtllnaagddpfclaaDoorHexRef
namespace Go.Proofs.YtllnaagddpfclaaDoor.Pure
open Go Go.RowKit Go.Proofs.YtllnaagddpfclaaDoor Go.Proofs.YtllnaagddpfclaaDoor.Q Go.Proofs.YtllnaagddpfclaaDoor.Texts Go.Proofs.YtllnaagddpfclaaDoor.Hex Go.Proofs.YtllnaagddpfclaaDoorW.PrintWords Go.Proofs.YtllnaagddpfclaaDoorW.PrintLast Go.Proofs.YtllnaagddpfclaaDoorW.PrintMore
theorem HexLoads : seedcornlaw02_HexLoads.Pure := by
  intro s _
  apply Ev.rounds
  unfold seedcornlaw02_HexLoads.f
  refine Ev.bind awake_ev ?_
  simp only [if_true]
  by_cases hs : (s.size : Int) > 3000
  · simp only [if_pos hs]; exact Ev.now _
  simp only [if_neg hs]
  refine Ev.bind (load_ev s (by omega)) (Ev.bind (rload_ev s (by omega)) ?_)
  simp only [beq_self_eq_true]
  exact Ev.now _
end Go.Proofs.YtllnaagddpfclaaDoor.Pure
