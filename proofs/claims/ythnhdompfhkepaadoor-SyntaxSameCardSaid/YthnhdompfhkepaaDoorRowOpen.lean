/- A program tree that came in: what the walk reads of it. -/
import Derived.Test.YthnhdompfhkepaaDoorCEv
import Derived.ChangeArms
import Derived.DataElems
import Derived.SizedLaws
namespace Go.Proofs.YthnhdompfhkepaaDoor.Pure
open Go Go.RowKit Go.Proofs.YthnhdompfhkepaaDoor.Q Go.Proofs.YthnhdompfhkepaaDoorW.PrintWords Go.Proofs.YthnhdompfhkepaaDoorW.PrintMore
section
variable {H : Type} {enc : TypeId × Value → H} {W : World}
def W9 (t : TypeId) (d : DataW H) : Prop := ∀ q ∈ d.weights Tryd.prog t, q ≤ reachBytes
/-- each reading of type t, with fuel below n, is a value of the kind d, that is ok -/
def Opens {α : Type} (enc : TypeId × Value → H) (W : World) (n : Nat) (t : TypeId) (d : Kd α) (ok : α → Prop) : Prop :=
  ∀ m, m < n → ∀ cs x, DataW.trod enc Tryd.prog W 0 (fun _ => true) true m t cs = some x → W9 t x.1 → ∃ v, d.K W v cs ∧ ok v
theorem weights_all {P : Program} {e : TypeId} {l : List (DataW H)} {i : Nat} {d : DataW H} (h : l[i]? = some d) : ∀ q ∈ d.weights P e, q ∈ DataW.weightsAll P e l := by
  induction l generalizing i with
  | nil => simp at h
  | cons a l ih =>
    intro q hq
    simp only [DataW.weightsAll, List.mem_append]
    cases i with
    | zero => simp at h; subst h; exact .inl hq
    | succ i => exact .inr (ih (by simpa using h) q hq)
theorem open_sl {α : Type} {n : Nat} {st e : TypeId} {d : Kd α} {ok : α → Prop} (hst : Tryd.prog.underlying st = some (.slice e)) (hsz : Tryd.prog.cellsOf e = d.sz) (he : Opens enc W n e d ok)
    {cs : List Value} {x : DataW H × List MemPlace} {m : Nat} (hm : m < n + 1) (h : DataW.trod enc Tryd.prog W 0 (fun _ => true) true m st cs = some x) (hw : W9 st x.1) :
    ∃ A c, ∃ l : List α, cs = [.slice A l.length c] ∧ l.length ≤ c ∧ Kd.C d W A l.length l ∧ (∀ v ∈ l, ok v) ∧ l.length * Tryd.prog.bytesOf e ≤ reachBytes := by
  rcases DataW.trod_slice hst h with ⟨rfl, _⟩ | ⟨a, len, cap, elems, rest, k, hk, rfl, rfl, _, hl, hmx, hel, hget, _, _⟩
  · exact ⟨none, 0, [], rfl, Nat.le_refl _, Kd.C_nil d W, by simp, by simp⟩
  · have hwt : (elems.length + rest.length) * Tryd.prog.bytesOf e ≤ reachBytes := by
      have := hw ((elems.length + rest.length) * Tryd.prog.bytesOf e) (by simp [DataW.weights, hst])
      exact this
    have each : ∀ i : Fin len, ∃ v : α, (∃ c, W.cells? 0 (a.add (i.1 * Tryd.prog.cellsOf e)) (Tryd.prog.cellsOf e) = some c ∧ d.K W v c) ∧ ok v := fun i => by
      have h1 := hget i.1 i.2
      have hlt : i.1 < elems.length := by rw [hel]; exact i.2
      rw [List.getElem?_eq_getElem hlt, Option.bind_eq_some_iff] at h1
      obtain ⟨c, hc, hy⟩ := h1
      obtain ⟨v, hv, ho⟩ := he k (by omega) c _ hy (fun q hq => hw q (by
        simp only [DataW.weights, hst, List.mem_cons, List.mem_append]
        exact .inr (.inl (weights_all (i := i.1) (by simp [hlt]) q hq))))
      exact ⟨v, ⟨c, hc, hv⟩, ho⟩
    refine ⟨some a, cap, List.ofFn fun i => (each i).choose, by simp, by simpa using hl, ⟨rfl, by have : cap ≤ 9223372036854775807 := hmx; simp; omega, fun _ => ⟨a, rfl, fun j p hj => ?_⟩⟩, ?_, ?_⟩
    · obtain ⟨hj', hp⟩ := List.getElem?_eq_some_iff.mp hj
      rw [List.length_ofFn] at hj'
      rw [List.getElem_ofFn] at hp
      obtain ⟨⟨c, hc, hv⟩, _⟩ := (each ⟨j, hj'⟩).choose_spec
      rw [hp] at hv
      obtain ⟨_, hcl, hcc⟩ := World.cells?_some hc
      refine ⟨c, d.K_len hv, hv, fun i u hu => ?_⟩
      have hi : i < c.length := (List.getElem?_eq_some_iff.mp hu).1
      rw [← hu, ← hcc i (by omega), Addr.add_add, hsz]
    · intro v hv
      obtain ⟨i, hi, rfl⟩ := List.getElem_of_mem hv
      rw [List.getElem_ofFn]
      exact (each _).choose_spec.2
    · rw [List.length_ofFn, ← hel]
      exact Nat.le_trans (Nat.mul_le_mul_right _ (Nat.le_add_right _ _)) hwt
theorem weights_each {P : Program} : ∀ {ts : List TypeId} {ds : List (DataW H)} {i : Nat} {t : TypeId} {d : DataW H}, ts[i]? = some t → ds[i]? = some d → ∀ q ∈ d.weights P t, q ∈ DataW.weightsEach P ts ds :=
  fun ht hd q hq => DataW.weights_mem_each ht hd q hq
/-- a struct's cells -/
theorem cells_len {m : Nat} {t : TypeId} {fs : Array Field} {cs : List Value} {x : DataW H × List MemPlace} (ht : Tryd.prog.underlying t = some (.struct fs)) (h : DataW.trod enc Tryd.prog W 0 (fun _ => true) true m t cs = some x) : cs.length = Tryd.prog.cellsOf t := by
  obtain ⟨xs, k, hk, rfl, hl, hx, hf⟩ := DataW.trod_struct ht h
  exact hl
/-- a struct's field i: of type u, from cell o on, z cells -/
theorem field {n m : Nat} {t : TypeId} {fs : Array Field} {cs : List Value} {x : DataW H × List MemPlace} (ht : Tryd.prog.underlying t = some (.struct fs)) (h : DataW.trod enc Tryd.prog W 0 (fun _ => true) true m t cs = some x) (hw : W9 t x.1) (hm : m < n + 1)
    (i u o z : Nat) (hi : (fs[i]?).map (fun f => (f.type, f.offset)) = some (u, o)) (hz : Tryd.prog.cellsOf u = z) : ∃ k y, k < n ∧ DataW.trod enc Tryd.prog W 0 (fun _ => true) true k u ((cs.drop o).take z) = some y ∧ W9 u y.1 := by
  obtain ⟨xs, k, hk, rfl, hl, hx, hf⟩ := DataW.trod_struct ht h
  obtain ⟨f, hif, he⟩ := Option.map_eq_some_iff.mp hi
  clear hi
  cases he
  subst hz
  have h1 := hf i f hif
  have hlt : i < xs.length := by rw [hx]; exact (Array.getElem?_eq_some_iff.mp hif).1
  rw [List.getElem?_eq_getElem hlt] at h1
  refine ⟨k, _, by omega, h1, fun q hq => hw q ?_⟩
  simp only [DataW.weights, ht]
  exact weights_each (i := i) (by simp [hif]) (by simp [hlt]) q hq
theorem openStr (n : Nat) : Opens enc W n 9 Kd.string (fun _ => True) := fun m _ cs x h _ => by
  obtain ⟨s, rfl, _⟩ := DataW.trod_string Tryd.underlying9 h
  exact ⟨s, rfl, trivial⟩
set_option maxRecDepth 100000 in
theorem openE : ∀ n, Opens enc W n 36 k36 OkE
  | 0 => fun m hm => absurd hm (Nat.not_lt_zero m)
  | n + 1 => fun m hm cs x h hw => by
    have hl := cells_len Tryd.underlying36 h
    rw [show Tryd.prog.cellsOf 36 = 5 by kernel_rfl] at hl
    match cs, hl with
    | [c0, c1, c2, c3, c4], _ =>
      obtain ⟨_, _, _, h0, _⟩ := field (n := n) Tryd.underlying36 h hw hm 0 3 0 1 rfl (by kernel_rfl)
      obtain ⟨_, _, _, h1, _⟩ := field (n := n) Tryd.underlying36 h hw hm 1 3 1 1 rfl (by kernel_rfl)
      obtain ⟨_, _, _, h2, _⟩ := field (n := n) Tryd.underlying36 h hw hm 2 33 2 1 rfl (by kernel_rfl)
      obtain ⟨_, _, _, h3, _⟩ := field (n := n) Tryd.underlying36 h hw hm 3 9 3 1 rfl (by kernel_rfl)
      obtain ⟨_, _, k4_, h4, w4⟩ := field (n := n) Tryd.underlying36 h hw hm 4 34 4 1 rfl (by kernel_rfl)
      simp only [List.drop_zero, List.drop_succ_cons, List.take_succ_cons, List.take_zero] at h0 h1 h2 h3 h4
      obtain ⟨f0, e0, _, _⟩ := DataW.trod_int Tryd.underlying3 h0
      obtain ⟨f1, e1, _, _⟩ := DataW.trod_int Tryd.underlying3 h1
      obtain ⟨f2, e2, _, wf⟩ := DataW.trod_int Tryd.underlying33 h2
      obtain ⟨f3, e3, _, _⟩ := DataW.trod_string Tryd.underlying9 h3
      obtain ⟨A, c, l, e4, hlc, hC, hok, _⟩ := open_sl (n := n) Tryd.underlying34 (show Tryd.prog.cellsOf 36 = k36.sz by kernel_rfl) (openE n) (Nat.lt_succ_of_lt k4_) h4 w4
      simp only [List.cons.injEq, and_true] at e0 e1 e2 e3 e4
      subst e0 e1 e2 e3 e4
      refine ⟨⟨f0, f1, f2, f3, l⟩, k36_mk W ⟨f0, f1, f2, f3, l⟩ hlc hC, .mk _ ?_ ?_ (Kd.C_max hC) hok⟩
      · have m0 : IntKind.u32.min = 0 := by decide
        simp [Lit.wf] at wf; show 0 ≤ f2; omega
      · have m1 : IntKind.u32.max = 4294967295 := by decide
        simp [Lit.wf] at wf; show f2 < _; omega
set_option maxRecDepth 100000 in
theorem openS : ∀ n, Opens enc W n 43 k43 OkS
  | 0 => fun m hm => absurd hm (Nat.not_lt_zero m)
  | n + 1 => fun m hm cs x h hw => by
    have hl := cells_len Tryd.underlying43 h
    rw [show Tryd.prog.cellsOf 43 = 5 by kernel_rfl] at hl
    match cs, hl with
    | [c0, c1, c2, c3, c4], _ =>
      obtain ⟨_, _, _, h0, _⟩ := field (n := n) Tryd.underlying43 h hw hm 0 3 0 1 rfl (by kernel_rfl)
      obtain ⟨_, _, _, h1, _⟩ := field (n := n) Tryd.underlying43 h hw hm 1 9 1 1 rfl (by kernel_rfl)
      obtain ⟨_, _, k2_, h2, w2⟩ := field (n := n) Tryd.underlying43 h hw hm 2 34 2 1 rfl (by kernel_rfl)
      obtain ⟨_, _, k3_, h3, w3⟩ := field (n := n) Tryd.underlying43 h hw hm 3 41 3 1 rfl (by kernel_rfl)
      obtain ⟨_, _, k4_, h4, w4⟩ := field (n := n) Tryd.underlying43 h hw hm 4 41 4 1 rfl (by kernel_rfl)
      simp only [List.drop_zero, List.drop_succ_cons, List.take_succ_cons, List.take_zero] at h0 h1 h2 h3 h4
      obtain ⟨f0, e0, _, _⟩ := DataW.trod_int Tryd.underlying3 h0
      obtain ⟨f1, e1, _, _⟩ := DataW.trod_string Tryd.underlying9 h1
      obtain ⟨A2, c2', l2, e2, hlc2, hC2, hok2, _⟩ := open_sl (n := n) Tryd.underlying34 (show Tryd.prog.cellsOf 36 = k36.sz by kernel_rfl) (openE n) (Nat.lt_succ_of_lt k2_) h2 w2
      obtain ⟨A3, c3', l3, e3, hlc3, hC3, hok3, _⟩ := open_sl (n := n) Tryd.underlying41 (show Tryd.prog.cellsOf 43 = k43.sz by kernel_rfl) (openS n) (Nat.lt_succ_of_lt k3_) h3 w3
      obtain ⟨A4, c4', l4, e4, hlc4, hC4, hok4, _⟩ := open_sl (n := n) Tryd.underlying41 (show Tryd.prog.cellsOf 43 = k43.sz by kernel_rfl) (openS n) (Nat.lt_succ_of_lt k4_) h4 w4
      simp only [List.cons.injEq, and_true] at e0 e1 e2 e3 e4
      subst e0 e1 e2 e3 e4
      exact ⟨⟨f0, f1, l2, l3, l4⟩, k43_mk W ⟨f0, f1, l2, l3, l4⟩ hlc2 hC2 hlc3 hC3 hlc4 hC4, .mk _ (Kd.C_max hC2) hok2 (Kd.C_max hC3) hok3 (Kd.C_max hC4) hok4⟩
set_option maxRecDepth 100000 in
theorem openA (n : Nat) : Opens enc W n 59 k59 (fun _ => True) := fun m hm cs x h hw => by
    have hl := cells_len Tryd.underlying59 h
    rw [show Tryd.prog.cellsOf 59 = 2 by kernel_rfl] at hl
    match cs, hl with
    | [c0, c1], _ =>
      obtain ⟨_, _, _, h0, _⟩ := field (n := n) Tryd.underlying59 h hw (by omega) 0 9 0 1 rfl (by kernel_rfl)
      obtain ⟨_, _, _, h1, _⟩ := field (n := n) Tryd.underlying59 h hw (by omega) 1 3 1 1 rfl (by kernel_rfl)
      simp only [List.drop_zero, List.drop_succ_cons, List.take_succ_cons, List.take_zero] at h0 h1
      obtain ⟨f0, e0, _, _⟩ := DataW.trod_string Tryd.underlying9 h0
      obtain ⟨f1, e1, _, _⟩ := DataW.trod_int Tryd.underlying3 h1
      simp only [List.cons.injEq, and_true] at e0 e1
      subst e0 e1
      exact ⟨⟨f0, f1⟩, k59_mk W ⟨f0, f1⟩, trivial⟩
set_option maxRecDepth 100000 in
theorem openF (n : Nat) : Opens enc W n 45 k45 OkF := fun m hm cs x h hw => by
    have hl := cells_len Tryd.underlying45 h
    rw [show Tryd.prog.cellsOf 45 = 5 by kernel_rfl] at hl
    match cs, hl with
    | [c0, c1, c2, c3, c4], _ =>
      obtain ⟨_, _, _, h0, _⟩ := field (n := n) Tryd.underlying45 h hw (by omega) 0 9 0 1 rfl (by kernel_rfl)
      obtain ⟨_, _, k1_, h1, w1⟩ := field (n := n) Tryd.underlying45 h hw (by omega) 1 22 1 1 rfl (by kernel_rfl)
      obtain ⟨_, _, k2_, h2, w2⟩ := field (n := n) Tryd.underlying45 h hw (by omega) 2 22 2 1 rfl (by kernel_rfl)
      obtain ⟨_, _, _, h3, _⟩ := field (n := n) Tryd.underlying45 h hw (by omega) 3 4 3 1 rfl (by kernel_rfl)
      obtain ⟨_, _, k4_, h4, w4⟩ := field (n := n) Tryd.underlying45 h hw (by omega) 4 41 4 1 rfl (by kernel_rfl)
      simp only [List.drop_zero, List.drop_succ_cons, List.take_succ_cons, List.take_zero] at h0 h1 h2 h3 h4
      obtain ⟨f0, e0, _, _⟩ := DataW.trod_string Tryd.underlying9 h0
      obtain ⟨A1, c1', l1, e1, hlc1, hC1, _, q1⟩ := open_sl (n := n) Tryd.underlying22 (show Tryd.prog.cellsOf 9 = Kd.string.sz by kernel_rfl) (openStr n) (Nat.lt_succ_of_lt k1_) h1 w1
      obtain ⟨A2, c2', l2, e2, hlc2, hC2, _, q2⟩ := open_sl (n := n) Tryd.underlying22 (show Tryd.prog.cellsOf 9 = Kd.string.sz by kernel_rfl) (openStr n) (Nat.lt_succ_of_lt k2_) h2 w2
      obtain ⟨f3, e3, _⟩ := DataW.trod_bool Tryd.underlying4 h3
      obtain ⟨A4, c4', l4, e4, hlc4, hC4, hok4, _⟩ := open_sl (n := n) Tryd.underlying41 (show Tryd.prog.cellsOf 43 = k43.sz by kernel_rfl) (openS n) (Nat.lt_succ_of_lt k4_) h4 w4
      simp only [List.cons.injEq, and_true] at e0 e1 e2 e3 e4
      subst e0 e1 e2 e3 e4
      rw [show Tryd.prog.bytesOf 9 = 16 by kernel_rfl] at q1 q2
      unfold reachBytes at q1 q2
      exact ⟨⟨f0, l1, l2, f3, l4⟩, k45_mk W ⟨f0, l1, l2, f3, l4⟩ hlc1 hC1 hlc2 hC2 hlc4 hC4, ⟨by show l1.length ≤ _; omega, by show l2.length ≤ _; omega, Kd.C_max hC4, hok4⟩⟩
set_option maxRecDepth 100000 in
/-- a program that came in -/
theorem openP {v : Value} {d : DataW H} {ps : List MemPlace} (h : DataW.Trod enc Tryd.prog W 0 (fun _ => true) true 26 v d ps) (hw : W9 26 d) :
    ∃ A0 c0 l0 A1 c1 l1 A2 c2 l2, v = .agg #[.slice A0 (List.length l0) c0, .slice A1 (List.length l1) c1, .slice A2 (List.length l2) c2] ∧ l0.length ≤ c0 ∧ Kd.C Kd.string W A0 l0.length l0 ∧ l1.length ≤ c1 ∧ Kd.C k59 W A1 l1.length l1 ∧ l2.length ≤ c2 ∧ Kd.C k45 W A2 l2.length l2 ∧ OkP l0 l1 l2 := by
  obtain ⟨m, h⟩ := h
  have hl := cells_len Tryd.underlying26 h
  rw [show Tryd.prog.cellsOf 26 = 3 by kernel_rfl] at hl
  obtain ⟨_, _, k0_, h0, w0⟩ := field (n := m) Tryd.underlying26 h hw (by omega) 0 22 0 1 rfl (by kernel_rfl)
  obtain ⟨_, _, k1_, h1, w1⟩ := field (n := m) Tryd.underlying26 h hw (by omega) 1 23 1 1 rfl (by kernel_rfl)
  obtain ⟨_, _, k2_, h2, w2⟩ := field (n := m) Tryd.underlying26 h hw (by omega) 2 24 2 1 rfl (by kernel_rfl)
  have hv : ∃ cs : Array Value, v = .agg cs := by
    cases v <;> simp [Value.cells] at hl
    exact ⟨_, rfl⟩
  obtain ⟨cs, rfl⟩ := hv
  simp only [Value.cells] at hl h0 h1 h2
  obtain ⟨cs⟩ := cs
  match cs, hl with
  | [c0, c1, c2], _ =>
    simp only [List.drop_zero, List.drop_succ_cons, List.take_succ_cons, List.take_zero] at h0 h1 h2
    obtain ⟨A0, n0, l0, e0, hlc0, hC0, _, q0⟩ := open_sl (n := m) Tryd.underlying22 (show Tryd.prog.cellsOf 9 = Kd.string.sz by kernel_rfl) (openStr m) (Nat.lt_succ_of_lt k0_) h0 w0
    obtain ⟨A1, n1, l1, e1, hlc1, hC1, _, q1⟩ := open_sl (n := m) Tryd.underlying23 (show Tryd.prog.cellsOf 59 = k59.sz by kernel_rfl) (openA m) (Nat.lt_succ_of_lt k1_) h1 w1
    obtain ⟨A2, n2, l2, e2, hlc2, hC2, hok, q2⟩ := open_sl (n := m) Tryd.underlying24 (show Tryd.prog.cellsOf 45 = k45.sz by kernel_rfl) (openF m) (Nat.lt_succ_of_lt k2_) h2 w2
    simp only [List.cons.injEq, and_true] at e0 e1 e2
    subst e0 e1 e2
    have b1 : 1 ≤ Tryd.prog.bytesOf 59 := of_decide_eq_true (by kernel_rfl)
    have b2 : 1 ≤ Tryd.prog.bytesOf 45 := of_decide_eq_true (by kernel_rfl)
    rw [show Tryd.prog.bytesOf 9 = 16 by kernel_rfl] at q0
    have g1 := Nat.le_trans (Nat.le_mul_of_pos_right l1.length b1) q1
    have g2 := Nat.le_trans (Nat.le_mul_of_pos_right l2.length b2) q2
    unfold reachBytes at q0 g1 g2
    exact ⟨A0, n0, l0, A1, n1, l1, A2, n2, l2, rfl, hlc0, hC0, hlc1, hC1, hlc2, hC2, ⟨by omega, by omega, by omega, hok⟩⟩
end
end Go.Proofs.YthnhdompfhkepaaDoor.Pure
