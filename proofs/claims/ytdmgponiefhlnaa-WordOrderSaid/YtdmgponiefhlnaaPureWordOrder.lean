/- Of two words one is less, or both are alike, and the order is one of any three: the printed statement of WordOrder, for all words. -/
import Derived.Test.YtdmgponiefhlnaaQx15
import Derived.Test.YtdmgponiefhlnaaBase
namespace Go.Proofs.Ytdmgponiefhlnaa.Pure
open Go Go.RowKit Go.Proofs.Ytdmgponiefhlnaa.Q Go.Proofs.Ytdmgponiefhlnaa.Base Go.Proofs.YtdmgponiefhlnaaW.PrintWords Go.Proofs.YtdmgponiefhlnaaW.PrintLast

theorem of_lt (k : Nat) (a b : Int) : seedcornlaw01_of.f k 14 a b = some (if a < b then 1 else 0) := by unfold seedcornlaw01_of.f; rw [ap_lt]; rfl
theorem of_eq (k : Nat) (a b : Int) : seedcornlaw01_of.f k 15 a b = some (if a = b then 1 else 0) := by unfold seedcornlaw01_of.f; rw [ap_eq]; rfl
theorem WordOrder : seedcornlaw01_WordOrder.Pure := by
  intro a b c ha hb hc
  refine ⟨10, ?_⟩
  unfold seedcornlaw01_WordOrder.f
  rw [alive_at 10 (by omega)]
  simp only [Option.bind_some, if_true, of_lt, of_eq]
  rcases Int.lt_trichotomy a b with h | h | h
  · have h1 : ¬ b < a := by omega
    have h2 : a ≠ b := by omega
    by_cases h3 : b < c
    · have h4 : a < c := by omega
      simp [h, h1, h2, h3, h4, seedcornlaw01_WordOrder.j0, of_lt]
    · simp [h, h1, h2, h3, seedcornlaw01_WordOrder.j0, of_lt]
  · subst h
    simp [seedcornlaw01_WordOrder.j0]
  · have h1 : ¬ a < b := by omega
    have h2 : a ≠ b := by omega
    simp [h, h1, h2, seedcornlaw01_WordOrder.j0]
end Go.Proofs.Ytdmgponiefhlnaa.Pure
