/- Functions with rounds, from some number of rounds on; lists by places. -/
import Derived.Test.YthnhdompfhkepaaDoorC0
namespace Go.Proofs.YthnhdompfhkepaaDoor.Pure
open Go Go.RowKit Go.Proofs.YthnhdompfhkepaaDoor.Q Go.Proofs.YthnhdompfhkepaaDoorW.PrintWords Go.Proofs.YthnhdompfhkepaaDoorW.PrintMore
def Ev {α : Type} (g : Nat → Option α) (r : α) : Prop := ∃ K, ∀ k, K ≤ k → g k = some r
theorem Ev.const {α : Type} {g : Nat → Option α} {r : α} (h : ∀ k, g k = some r) : Ev g r := ⟨0, fun k _ => h k⟩
theorem Ev.some {α : Type} (r : α) : Ev (fun _ => some r) r := ⟨0, fun _ _ => rfl⟩
theorem Ev.succ {α : Type} {g : Nat → Option α} {r : α} (h : Ev (fun k => g (k + 1)) r) : Ev g r := by
  obtain ⟨K, h⟩ := h
  refine ⟨K + 1, fun k hk => ?_⟩
  obtain ⟨m, rfl⟩ : ∃ m, k = m + 1 := ⟨k - 1, by omega⟩
  exact h m (by omega)
theorem Ev.bind {α β : Type} {g : Nat → Option α} {f : Nat → α → Option β} {x : α} {r : β} (h : Ev g x) (h2 : Ev (fun k => f k x) r) : Ev (fun k => (g k).bind (f k)) r := by
  obtain ⟨K, h⟩ := h
  obtain ⟨L, h2⟩ := h2
  refine ⟨K + L, fun k hk => ?_⟩
  show (g k).bind (f k) = _
  rw [h k (by omega)]
  exact h2 k (by omega)
theorem Ev.pos {α : Type} {c : Prop} [Decidable c] {a b : Nat → Option α} {r : α} (hc : c) (h : Ev a r) : Ev (fun k => if c then a k else b k) r := by
  simpa only [if_pos hc] using h
theorem Ev.neg {α : Type} {c : Prop} [Decidable c] {a b : Nat → Option α} {r : α} (hc : ¬ c) (h : Ev b r) : Ev (fun k => if c then a k else b k) r := by
  simpa only [if_neg hc] using h
theorem Ev.at {α : Type} {g : Nat → Option α} {r : α} (h : Ev g r) : ∃ k, g k = Option.some r := by
  obtain ⟨K, h⟩ := h
  exact ⟨K, h K (Nat.le_refl _)⟩
theorem w1 {i n : Nat} (h : i < n) (hn : n ≤ maxN) : wrap64 ((i : Int) + 1) = ((i + 1 : Nat) : Int) := by
  unfold maxN at hn
  unfold wrap64
  omega
theorem rd36 {l : List S36} {i : Nat} (h : i < l.length) : rd_T36 l (i : Int) = l[i] := by simp [rd_T36, List.getD_eq_getElem?_getD, h]
theorem rd43 {l : List S43} {i : Nat} (h : i < l.length) : rd_T43 l (i : Int) = l[i] := by simp [rd_T43, List.getD_eq_getElem?_getD, h]
theorem rd45 {l : List S45} {i : Nat} (h : i < l.length) : rd_T45 l (i : Int) = l[i] := by simp [rd_T45, List.getD_eq_getElem?_getD, h]
theorem rd59 {l : List S59} {i : Nat} (h : i < l.length) : rd_T59 l (i : Int) = l[i] := by simp [rd_T59, List.getD_eq_getElem?_getD, h]
theorem rdS {l : List ByteArray} {i : Nat} (h : i < l.length) : rdOf ByteArray.empty l (i : Int) = l[i] := by simp [rdOf, List.getD_eq_getElem?_getD, h]
end Go.Proofs.YthnhdompfhkepaaDoor.Pure
