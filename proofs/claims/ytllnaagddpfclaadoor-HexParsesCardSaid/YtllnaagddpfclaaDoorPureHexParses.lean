/- HexParses, with no Go text in sight. -/
import Derived.Test.YtllnaagddpfclaaDoorQx17
import Derived.Test.YtllnaagddpfclaaDoorHexParse
namespace Go.Proofs.YtllnaagddpfclaaDoor.Pure
open Go Go.RowKit Go.Proofs.YtllnaagddpfclaaDoor Go.Proofs.YtllnaagddpfclaaDoor.Q Go.Proofs.YtllnaagddpfclaaDoor.Texts Go.Proofs.YtllnaagddpfclaaDoor.Hex Go.Proofs.YtllnaagddpfclaaDoorW.PrintWords Go.Proofs.YtllnaagddpfclaaDoorW.PrintLast Go.Proofs.YtllnaagddpfclaaDoorW.PrintMore
theorem str_size (l : List Int) : (strOfNums l).size = l.length := by unfold strOfNums; simp [ByteArray.size]
theorem HexParses : seedcornlaw02_HexParses.Pure := by
  intro s _
  apply Ev.rounds
  unfold seedcornlaw02_HexParses.f
  refine Ev.bind awake_ev ?_
  simp only [if_true]
  by_cases hs : (s.size : Int) > 3000
  · simp only [if_pos hs]; exact Ev.now _
  simp only [if_neg hs]
  refine Ev.bind (parse_ev s (by omega)) (Ev.bind (load_ev s (by omega)) ?_)
  have hl := load_len (bytesOf s) none false
  simp only [Option.isSome_none, Bool.false_eq_true, if_false] at hl
  have hL := size_len s
  have hw : wrap64 ((s.size : Int) / 2) = ((s.size / 2 : Nat) : Int) := by unfold wrap64; omega
  rw [hw]
  have c1 : ((strOfNums (loadS (bytesOf s) none false)).size : Int) ≤ ((s.size / 2 : Nat) : Int) := by rw [str_size]; omega
  simp only [if_pos c1]
  cases hb : firstBad (bytesOf s) 0 with
  | some i =>
    have e : parseS (bytesOf s) = (⟨#[]⟩, (i : Int), 3) := by unfold parseS; rw [hb]
    rw [e]
    simp only [if_neg (show ¬ (3 : Int) = 0 by omega)]
    exact Ev.now _
  | none =>
    have ha := bad_none _ _ hb
    by_cases h2 : (bytesOf s).length % 2 = 1
    · have e : parseS (bytesOf s) = (⟨#[]⟩, ((bytesOf s).length : Int), 3) := by unfold parseS; rw [hb]; exact if_pos h2
      rw [e]
      simp only [if_neg (show ¬ (3 : Int) = 0 by omega)]
      exact Ev.now _
    · have e : parseS (bytesOf s) = (strOfNums (pairs (bytesOf s)), 0, 0) := by unfold parseS; rw [hb]; exact if_neg h2
      rw [e, load_digits _ _ (Nat.le_refl _) ha]
      have hp := pairs_len _ (bytesOf s) (Nat.le_refl _)
      have c2 : ((strOfNums (pairs (bytesOf s))).size : Int) = ((s.size / 2 : Nat) : Int) := by rw [str_size, hp, hL]
      simp only [if_true, c2, beq_self_eq_true]
      exact Ev.now _
end Go.Proofs.YtllnaagddpfclaaDoor.Pure
