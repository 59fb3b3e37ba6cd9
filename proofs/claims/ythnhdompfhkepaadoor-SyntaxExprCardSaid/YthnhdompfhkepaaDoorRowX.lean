/- An expression that came in: what the walk reads of it. -/
import Derived.Test.YthnhdompfhkepaaDoorRowOpen
namespace Go.Proofs.YthnhdompfhkepaaDoor.Pure
open Go Go.RowKit Go.Proofs.YthnhdompfhkepaaDoor.Q Go.Proofs.YthnhdompfhkepaaDoorW.PrintWords Go.Proofs.YthnhdompfhkepaaDoorW.PrintMore
variable {H : Type} {enc : TypeId × Value → H} {W : World}
theorem openX {v : Value} {d : DataW H} {ps : List MemPlace} (h : DataW.Trod enc Tryd.prog W 0 (fun _ => true) true 36 v d ps) (hw : W9 36 d) : ∃ x A c, v = vE x A c ∧ InE W x A c ∧ OkE x := by
  obtain ⟨m, h⟩ := h
  obtain ⟨x, hK, ok⟩ := openE (m + 1) m (Nat.lt_succ_self m) _ _ h hw
  obtain ⟨A, c, e, l4, g4⟩ := k36_open hK
  refine ⟨x, A, c, ?_, ⟨l4, g4⟩, ok⟩
  cases v <;> simp [Value.cells] at e
  rename_i cs
  obtain ⟨cs⟩ := cs
  simp only at e
  rw [e]
end Go.Proofs.YthnhdompfhkepaaDoor.Pure
