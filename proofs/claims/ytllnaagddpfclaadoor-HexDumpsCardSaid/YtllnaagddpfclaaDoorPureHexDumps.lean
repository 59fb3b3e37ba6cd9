/- HexDumps, with no Go text in sight. -/
import Derived.Test.YtllnaagddpfclaaDoorQx13
import Derived.Test.YtllnaagddpfclaaDoorHexRefD
namespace Go.Proofs.YtllnaagddpfclaaDoor.Pure
open Go Go.RowKit Go.Proofs.YtllnaagddpfclaaDoor Go.Proofs.YtllnaagddpfclaaDoor.Q Go.Proofs.YtllnaagddpfclaaDoor.Texts Go.Proofs.YtllnaagddpfclaaDoor.Hex Go.Proofs.YtllnaagddpfclaaDoorW.PrintWords Go.Proofs.YtllnaagddpfclaaDoorW.PrintLast Go.Proofs.YtllnaagddpfclaaDoorW.PrintMore
theorem HexDumps : seedcornlaw02_HexDumps.Pure := by
  intro s _
  apply Ev.rounds
  unfold seedcornlaw02_HexDumps.f
  refine Ev.bind awake_ev ?_
  simp only [if_true]
  by_cases hs : (s.size : Int) > 3000
  · simp only [if_pos hs]; exact Ev.now _
  simp only [if_neg hs]
  refine Ev.bind (dump_ev s (by omega)) (Ev.bind (rdump_ev s (by omega)) ?_)
  simp only [beq_self_eq_true]
  exact Ev.now _
end Go.Proofs.YtllnaagddpfclaaDoor.Pure
