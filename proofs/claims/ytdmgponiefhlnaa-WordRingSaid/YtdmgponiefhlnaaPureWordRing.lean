/- Sums and products of words may be turned round and taken apart: the printed statement of WordRing, for all words. -/
import Derived.Test.YtdmgponiefhlnaaQx12
import Derived.Test.YtdmgponiefhlnaaBase
namespace Go.Proofs.Ytdmgponiefhlnaa.Pure
open Go Go.RowKit Go.Proofs.Ytdmgponiefhlnaa.Q Go.Proofs.Ytdmgponiefhlnaa.Base Go.Proofs.YtdmgponiefhlnaaW.PrintWords Go.Proofs.YtdmgponiefhlnaaW.PrintLast

theorem of_add (k : Nat) (a b : Int) : seedcornlaw01_of.f k 4 a b = some ((a + b) % 4294967296) := by unfold seedcornlaw01_of.f; rw [ap_add]; rfl
theorem of_sub (k : Nat) (a b : Int) : seedcornlaw01_of.f k 5 a b = some ((a - b) % 4294967296) := by unfold seedcornlaw01_of.f; rw [ap_sub]; rfl
theorem of_mul (k : Nat) (a b : Int) : seedcornlaw01_of.f k 6 a b = some ((a * b) % 4294967296) := by unfold seedcornlaw01_of.f; rw [ap_mul]; rfl
theorem mod_mul_l (a b M : Int) : (a % M * b) % M = (a * b) % M := by rw [Int.mul_emod, Int.emod_emod_of_dvd _ (Int.dvd_refl M), ← Int.mul_emod]
theorem mod_mul_r (a b M : Int) : (a * (b % M)) % M = (a * b) % M := by rw [Int.mul_emod, Int.emod_emod_of_dvd _ (Int.dvd_refl M), ← Int.mul_emod]
theorem WordRing : seedcornlaw01_WordRing.Pure := by
  intro a b c ha hb hc
  obtain ⟨a0, a1⟩ := u32_range ha
  obtain ⟨b0, b1⟩ := u32_range hb
  obtain ⟨c0, c1⟩ := u32_range hc
  refine ⟨10, ?_⟩
  unfold seedcornlaw01_WordRing.f
  rw [alive_at 10 (by omega)]
  simp only [Option.bind_some, if_true, of_add, of_sub, of_mul]
  rw [if_pos (by rw [Int.add_comm]), if_pos (by rw [Int.mul_comm]), if_pos (by omega)]
  have e1 : ((((a - b) % 4294967296 + b) % 4294967296) != a) = false := by
    rw [bne_eq_false_iff_eq]; omega
  rw [e1]
  simp only [seedcornlaw01_WordRing.j0, Bool.false_eq_true, if_false, of_add, of_mul, Option.bind_some]
  rw [if_pos (by omega), if_pos (by rw [mod_mul_l, mod_mul_r, Int.mul_assoc])]
  rw [mod_mul_l, ← Int.add_emod, Int.add_mul]
  simp
end Go.Proofs.Ytdmgponiefhlnaa.Pure
