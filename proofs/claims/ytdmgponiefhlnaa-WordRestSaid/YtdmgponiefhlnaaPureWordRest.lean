/- A word is the quotient times the divisor, and a rest that is less: the printed statement of WordRest, for all words. -/
import Derived.Test.YtdmgponiefhlnaaQx13
import Derived.Test.YtdmgponiefhlnaaBase
namespace Go.Proofs.Ytdmgponiefhlnaa.Pure
open Go Go.RowKit Go.Proofs.Ytdmgponiefhlnaa.Q Go.Proofs.Ytdmgponiefhlnaa.Base Go.Proofs.YtdmgponiefhlnaaW.PrintWords Go.Proofs.YtdmgponiefhlnaaW.PrintLast

theorem WordRest : seedcornlaw01_WordRest.Pure := by
  intro a b ha hb
  obtain ⟨a0, a1⟩ := u32_range ha
  obtain ⟨b0, b1⟩ := u32_range hb
  refine ⟨10, ?_⟩
  unfold seedcornlaw01_WordRest.f
  rw [alive_at 10 (by omega)]
  simp only [Option.bind_some, if_true]
  by_cases h : b = 0
  · subst h
    rw [ap_div0 9, ap_mod0 9]
    simp
  · rw [ap_div 9 a0 a1 (by omega), ap_mod 9 a0 (by omega)]
    have h1 : 0 ≤ a / b := Int.ediv_nonneg a0 b0
    have h2 : a / b ≤ a := Int.ediv_le_self _ a0
    have h3 : 0 ≤ a % b := Int.emod_nonneg _ h
    have h4 : a % b < b := Int.emod_lt_of_pos _ (by omega)
    have h5 : a / b * b + a % b = a := by rw [Int.mul_comm]; exact Int.mul_ediv_add_emod a b
    have h6 : 0 ≤ a / b * b := Int.mul_nonneg h1 b0
    simp only [Option.bind_some, if_neg h, if_true, if_pos h4]
    rw [u64_id h1 (by omega), u64_id b0 (by omega), u64_id h3 (by omega), u64_id a0 (by omega), u64_id h6 (by omega), u64_id (by omega) (by omega), h5]
    simp
end Go.Proofs.Ytdmgponiefhlnaa.Pure
