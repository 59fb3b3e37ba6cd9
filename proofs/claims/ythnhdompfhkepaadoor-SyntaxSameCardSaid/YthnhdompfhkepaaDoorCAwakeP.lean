/- awake's fixed programs: what is so of them. -/
import Derived.Test.YthnhdompfhkepaaDoorCBridge
import Derived.Test.YthnhdompfhkepaaDoorCSame
import Derived.Test.YthnhdompfhkepaaDoorCSize
namespace Go.Proofs.YthnhdompfhkepaaDoor.Pure
open Go Go.RowKit Go.Proofs.YthnhdompfhkepaaDoor.Q Go.Proofs.YthnhdompfhkepaaDoorW.PrintWords Go.Proofs.YthnhdompfhkepaaDoorW.PrintLast Go.Proofs.YthnhdompfhkepaaDoorW.PrintMore
set_option linter.unusedSimpArgs false
set_option linter.unusedVariables false
abbrev xOne : S36 := ⟨1, 0, 1, ⟨#[]⟩, []⟩
abbrev xA : S36 := ⟨2, 0, 0, ⟨#[97]⟩, []⟩
abbrev xE : S36 := ⟨6, 4, 0, ⟨#[]⟩, [xOne, xA]⟩
abbrev xS : S43 := ⟨3, ⟨#[]⟩, [xE], [], []⟩
abbrev xM : S45 := ⟨⟨#[109, 97, 105, 110]⟩, [], [], false, [xS]⟩
abbrev xV : List ByteArray := [⟨#[97]⟩]
abbrev xW : List ByteArray := [⟨#[105, 102]⟩]
theorem nameA : NameOk ⟨#[97]⟩ := ⟨by decide, ⟨97, [], rfl, by decide⟩, by decide, by simp [reserved]⟩
theorem nameMain : NameOk ⟨#[109, 97, 105, 110]⟩ := ⟨by decide, ⟨109, [97, 105, 110], rfl, by decide⟩, by decide, by simp [reserved]⟩
theorem gpP : GP xV [] [xM] := by
  refine ⟨by simpa using nameA, by simp, by decide, by decide, ?_⟩
  intro x hx
  obtain rfl := List.mem_singleton.mp hx
  exact ⟨nameMain, by decide, by simp, by simp, by simp [GSs, GS, GEs, GE, FormS, nmS, arS, FormE, nmE, arE, nameA, noName]⟩
theorem gpQ : ¬ GP xW [] [xM] := fun h => (h.vars ⟨#[105, 102]⟩ (by simp)).free (by simp [reserved])
theorem gpN : ¬ GP [] [] [] := fun h => absurd h.some (by decide)
theorem okOne : OkE xOne := .mk _ (by decide) (by decide) (by decide) (by simp)
theorem okA : OkE xA := .mk _ (by decide) (by decide) (by decide) (by simp)
theorem okE : OkE xE := .mk _ (by decide) (by decide) (by decide) (by simp [okOne, okA])
theorem okS : OkS xS := .mk _ (by decide) (by simp [okE]) (by decide) (by simp) (by decide) (by simp)
theorem okF : OkF xM := ⟨by decide, by decide, by decide, by simp [okS]⟩
theorem okP (v : List ByteArray) (h : v.length ≤ 1) : OkP v [] [xM] := ⟨by omega, by decide, by decide, by simp [okF]⟩
theorem okN : OkP [] [] [] := ⟨by decide, by decide, by decide, by simp⟩
theorem sizeP : parts xV [] [xM] = 6 := by decide
theorem reE : RE xE := .op 4 _ _ (by decide) (by decide) (.num 1 (by decide) (by decide)) (.var _ nameA)
theorem textE : T (exT xE) = ⟨#[40, 49, 32, 43, 32, 97, 41]⟩ := by
  have : exT xE = [40, 49, 32, 43, 32, 97, 41] := by
    have h1 : Lib.decDigits 1 = [49] := by rw [Lib.decDigits_one (by decide)]; rfl
    simp [exT, exTs, h1, signT, Ext.signsL, B]
  rw [this]; rfl
theorem textP : T (progX xV [] [xM]) = ⟨#[118, 97, 114, 32, 97, 59, 10, 102, 117, 110, 99, 32, 109, 97, 105, 110, 40, 41, 32, 123, 10, 32, 32, 112, 117, 116, 40, 40, 49, 32, 43, 32, 97, 41, 41, 59, 10, 125, 10]⟩ := by
  have h1 : Lib.decDigits 1 = [49] := by rw [Lib.decDigits_one (by decide)]; rfl
  have he : exT xE = [40, 49, 32, 43, 32, 97, 41] := by simp [exT, exTs, h1, signT, Ext.signsL, B]
  have : progX xV [] [xM] = [118, 97, 114, 32, 97, 59, 10, 102, 117, 110, 99, 32, 109, 97, 105, 110, 40, 41, 32, 123, 10, 32, 32, 112, 117, 116, 40, 40, 49, 32, 43, 32, 97, 41, 41, 59, 10, 125, 10] := by
    simp [progX, varsX, arrsX, funsX, funX, headX, namesX, lineX, stsX, stX, he, joinT, Lib.join, Lib.joinTail, endX, B, Lib.repeatL]
  rw [this]; rfl
theorem notSame : ¬ (xV = xW ∧ ([] : List S59) = [] ∧ [xM] = [xM]) := fun h => absurd h.1 (by decide)
/-! the memory -/
theorem C_one {α : Type} {d : Kd α} {W : World} {g : Nat} {cs : Array Value} {t : TypeId} {fz : Nat × Nat} (hb : W.heap[g]? = some (.cells cs t fz)) (x : α) (hK : d.K W x cs.toList) (hz : cs.toList.length = d.sz) : Kd.C d W (some ⟨g, 0, none⟩) 1 [x] := by
  refine ⟨rfl, by decide, fun _ => ⟨_, rfl, fun j p hj => ?_⟩⟩
  have h0 : j = 0 := by have h1 : j < 1 := (List.getElem?_eq_some_iff.mp hj).1; omega
  subst h0
  obtain rfl : x = p := by simpa using hj
  refine ⟨cs.toList, hz, hK, fun i u hi => ?_⟩
  rw [Nat.zero_mul, Nat.zero_add, add_plain]
  simpa [World.cell?, hb] using hi
theorem C_two {α : Type} {d : Kd α} {W : World} {g : Nat} {cs : Array Value} {t : TypeId} {fz : Nat × Nat} (hb : W.heap[g]? = some (.cells cs t fz)) (x y : α) (c1 c2 : List Value) (hcs : cs.toList = c1 ++ c2) (h1 : d.K W x c1) (h2 : d.K W y c2) (z1 : c1.length = d.sz) (z2 : c2.length = d.sz) : Kd.C d W (some ⟨g, 0, none⟩) 2 [x, y] := by
  refine ⟨rfl, by decide, fun _ => ⟨_, rfl, fun j p hj => ?_⟩⟩
  have hj2 : j = 0 ∨ j = 1 := by have h2 : j < 2 := (List.getElem?_eq_some_iff.mp hj).1; omega
  have cell : ∀ i u, cs[i]? = some u → W.cell? ⟨g, i, none⟩ = some u := fun i u hi => by simpa [World.cell?, hb] using hi
  have at1 : ∀ i, cs[i]? = (c1 ++ c2)[i]? := fun i => by rw [← hcs, Array.getElem?_toList]
  rcases hj2 with rfl | rfl
  · obtain rfl : x = p := by simpa using hj
    refine ⟨c1, z1, h1, fun i u hi => ?_⟩
    rw [Nat.zero_mul, Nat.zero_add, add_plain]
    refine cell i u ?_
    rw [at1, List.getElem?_append_left (List.getElem?_eq_some_iff.mp hi).1]; exact hi
  · obtain rfl : y = p := by simpa using hj
    refine ⟨c2, z2, h2, fun i u hi => ?_⟩
    rw [Nat.one_mul, add_plain]
    refine cell _ u ?_
    rw [at1, List.getElem?_append_right (by omega), z1, Nat.add_sub_cancel_left]; exact hi
/-- awake's world: w, and what it has built -/
structure Aw (w W : World) : Prop where
  below : Below w.heap.size w W
  e0 : W.cell? ⟨w.heap.size + 1 + 1 + 1, 0, none⟩ = some (.int .i64 6)
  e1 : W.cell? ⟨w.heap.size + 1 + 1 + 1, 1, none⟩ = some (.int .i64 4)
  e2 : W.cell? ⟨w.heap.size + 1 + 1 + 1, 2, none⟩ = some (.int .u32 0)
  e3 : W.cell? ⟨w.heap.size + 1 + 1 + 1, 3, none⟩ = some (.string ⟨#[]⟩)
  e4 : W.cell? ⟨w.heap.size + 1 + 1 + 1, 4, none⟩ = some (.slice (some ⟨w.heap.size + 1 + 1, 0, none⟩) 2 2)
  p0 : W.cell? ⟨w.heap.size + 1 + 1 + 1 + 1 + 1 + 1 + 1 + 1, 0, none⟩ = some (.slice (some ⟨w.heap.size + 1 + 1 + 1 + 1, 0, none⟩) 1 1)
  p1 : W.cell? ⟨w.heap.size + 1 + 1 + 1 + 1 + 1 + 1 + 1 + 1, 1, none⟩ = some (.slice none 0 0)
  p2 : W.cell? ⟨w.heap.size + 1 + 1 + 1 + 1 + 1 + 1 + 1 + 1, 2, none⟩ = some (.slice (some ⟨w.heap.size + 1 + 1 + 1 + 1 + 1 + 1 + 1, 0, none⟩) 1 1)
  q0 : W.cell? ⟨w.heap.size + 1 + 1 + 1 + 1 + 1 + 1 + 1 + 1 + 1 + 1, 0, none⟩ = some (.slice (some ⟨w.heap.size + 1 + 1 + 1 + 1 + 1 + 1 + 1 + 1 + 1, 0, none⟩) 1 1)
  q1 : W.cell? ⟨w.heap.size + 1 + 1 + 1 + 1 + 1 + 1 + 1 + 1 + 1 + 1, 1, none⟩ = some (.slice none 0 0)
  q2 : W.cell? ⟨w.heap.size + 1 + 1 + 1 + 1 + 1 + 1 + 1 + 1 + 1 + 1, 2, none⟩ = some (.slice (some ⟨w.heap.size + 1 + 1 + 1 + 1 + 1 + 1 + 1, 0, none⟩) 1 1)
  inE : InE W xE (some ⟨w.heap.size + 1 + 1, 0, none⟩) 2
  inP : InP W xV [] [xM] (some ⟨w.heap.size + 1 + 1 + 1 + 1, 0, none⟩) 1 none 0 (some ⟨w.heap.size + 1 + 1 + 1 + 1 + 1 + 1 + 1, 0, none⟩) 1
  inQ : InP W xW [] [xM] (some ⟨w.heap.size + 1 + 1 + 1 + 1 + 1 + 1 + 1 + 1 + 1, 0, none⟩) 1 none 0 (some ⟨w.heap.size + 1 + 1 + 1 + 1 + 1 + 1 + 1, 0, none⟩) 1
theorem Aw.up {w W W' : World} (h : Aw w W) (hb : Below W.heap.size W W') : Aw w W' :=
  ⟨bstep h.below hb, cell_up hb h.e0, cell_up hb h.e1, cell_up hb h.e2, cell_up hb h.e3, cell_up hb h.e4, cell_up hb h.p0, cell_up hb h.p1, cell_up hb h.p2, cell_up hb h.q0, cell_up hb h.q1, cell_up hb h.q2, h.inE.up hb, h.inP.up hb, h.inQ.up hb⟩
/-- the blocks, by their numbers -/
theorem Aw.of {w W : World} (hB : Below w.heap.size w W)
    (b2 : W.heap[w.heap.size + 1 + 1]? = some (.cells #[.int .i64 1, .int .i64 0, .int .u32 1, .string ⟨#[]⟩, .slice none 0 0, .int .i64 2, .int .i64 0, .int .u32 0, .string ⟨#[97]⟩, .slice none 0 0] 36))
    (b3 : W.heap[w.heap.size + 1 + 1 + 1]? = some (.cells #[.int .i64 6, .int .i64 4, .int .u32 0, .string ⟨#[]⟩, .slice (some ⟨w.heap.size + 1 + 1, 0, none⟩) 2 2] 36))
    (b4 : W.heap[w.heap.size + 1 + 1 + 1 + 1]? = some (.cells #[.string ⟨#[97]⟩] 9))
    (b5 : W.heap[w.heap.size + 1 + 1 + 1 + 1 + 1]? = some (.cells #[.int .i64 6, .int .i64 4, .int .u32 0, .string ⟨#[]⟩, .slice (some ⟨w.heap.size + 1 + 1, 0, none⟩) 2 2] 36))
    (b6 : W.heap[w.heap.size + 1 + 1 + 1 + 1 + 1 + 1]? = some (.cells #[.int .i64 3, .string ⟨#[]⟩, .slice (some ⟨w.heap.size + 1 + 1 + 1 + 1 + 1, 0, none⟩) 1 1, .slice none 0 0, .slice none 0 0] 43))
    (b7 : W.heap[w.heap.size + 1 + 1 + 1 + 1 + 1 + 1 + 1]? = some (.cells #[.string ⟨#[109, 97, 105, 110]⟩, .slice none 0 0, .slice none 0 0, .bool false, .slice (some ⟨w.heap.size + 1 + 1 + 1 + 1 + 1 + 1, 0, none⟩) 1 1] 45))
    (b8 : W.heap[w.heap.size + 1 + 1 + 1 + 1 + 1 + 1 + 1 + 1]? = some (.cells #[.slice (some ⟨w.heap.size + 1 + 1 + 1 + 1, 0, none⟩) 1 1, .slice none 0 0, .slice (some ⟨w.heap.size + 1 + 1 + 1 + 1 + 1 + 1 + 1, 0, none⟩) 1 1] 26))
    (b9 : W.heap[w.heap.size + 1 + 1 + 1 + 1 + 1 + 1 + 1 + 1 + 1]? = some (.cells #[.string ⟨#[105, 102]⟩] 9))
    (b10 : W.heap[w.heap.size + 1 + 1 + 1 + 1 + 1 + 1 + 1 + 1 + 1 + 1]? = some (.cells #[.slice (some ⟨w.heap.size + 1 + 1 + 1 + 1 + 1 + 1 + 1 + 1 + 1, 0, none⟩) 1 1, .slice none 0 0, .slice (some ⟨w.heap.size + 1 + 1 + 1 + 1 + 1 + 1 + 1, 0, none⟩) 1 1] 26)) : Aw w W := by
  have cell : ∀ {g i : Nat} {cs : Array Value} {t : TypeId} {v : Value}, W.heap[g]? = some (.cells cs t) → cs[i]? = some v → W.cell? ⟨g, i, none⟩ = some v := fun h hv => by simpa [World.cell?, h] using hv
  have n36 : ∀ l : List S36, l = [] → Kd.C k36 W none l.length l := fun l h => by subst h; exact Kd.C_nil k36 W
  have n43 : ∀ l : List S43, l = [] → Kd.C k43 W none l.length l := fun l h => by subst h; exact Kd.C_nil k43 W
  have nS : ∀ l : List ByteArray, l = [] → Kd.C Kd.string W none l.length l := fun l h => by subst h; exact Kd.C_nil Kd.string W
  have cE : Kd.C k36 W (some ⟨w.heap.size + 1 + 1, 0, none⟩) 2 [xOne, xA] := C_two b2 xOne xA _ _ rfl (k36_mk W xOne (A4 := none) (c4 := 0) (Nat.le_refl _) (n36 _ rfl)) (k36_mk W xA (A4 := none) (c4 := 0) (Nat.le_refl _) (n36 _ rfl)) rfl rfl
  have cS : Kd.C k36 W (some ⟨w.heap.size + 1 + 1 + 1 + 1 + 1, 0, none⟩) 1 [xE] := C_one b5 xE (k36_mk W xE (c4 := 2) (Nat.le_refl _) cE) rfl
  have cM : Kd.C k43 W (some ⟨w.heap.size + 1 + 1 + 1 + 1 + 1 + 1, 0, none⟩) 1 [xS] := C_one b6 xS (k43_mk W xS (c2 := 1) (Nat.le_refl _) cS (A3 := none) (c3 := 0) (Nat.le_refl _) (n43 _ rfl) (A4 := none) (c4 := 0) (Nat.le_refl _) (n43 _ rfl)) rfl
  have cF : Kd.C k45 W (some ⟨w.heap.size + 1 + 1 + 1 + 1 + 1 + 1 + 1, 0, none⟩) 1 [xM] := C_one b7 xM (k45_mk W xM (A1 := none) (c1 := 0) (Nat.le_refl _) (nS _ rfl) (A2 := none) (c2 := 0) (Nat.le_refl _) (nS _ rfl) (c4 := 1) (Nat.le_refl _) cM) rfl
  have n59 : Kd.C k59 W none 0 [] := Kd.C_nil k59 W
  exact ⟨hB, cell b3 rfl, cell b3 rfl, cell b3 rfl, cell b3 rfl, cell b3 rfl, cell b8 rfl, cell b8 rfl, cell b8 rfl, cell b10 rfl, cell b10 rfl, cell b10 rfl, ⟨Nat.le_refl _, cE⟩, ⟨⟨Nat.le_refl _, C_one b4 _ rfl rfl⟩, ⟨Nat.le_refl _, n59⟩, Nat.le_refl _, cF⟩, ⟨⟨Nat.le_refl _, C_one b9 _ rfl rfl⟩, ⟨Nat.le_refl _, n59⟩, Nat.le_refl _, cF⟩⟩
end Go.Proofs.YthnhdompfhkepaaDoor.Pure
