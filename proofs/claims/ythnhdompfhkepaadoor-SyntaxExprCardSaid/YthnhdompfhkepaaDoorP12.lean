/- Of a text of an expression, and what follows it, the expression is told. -/
import Derived.Test.YthnhdompfhkepaaDoorP6
namespace Go.Proofs.YthnhdompfhkepaaDoor.Pure
open Go Go.RowKit Go.Proofs.YthnhdompfhkepaaDoor.Q Go.Proofs.YthnhdompfhkepaaDoorW.PrintWords Go.Proofs.YthnhdompfhkepaaDoorW.PrintMore
/-- what may stand behind a run of bytes that are so -/
def Ends (p : UInt8 → Bool) (r : List UInt8) : Prop := ∀ c t, r = c :: t → p c = false
theorem Ends.nil (p : UInt8 → Bool) : Ends p [] := fun _ _ h => by cases h
theorem Ends.cons {p : UInt8 → Bool} {c : UInt8} (h : p c = false) (t : List UInt8) : Ends p (c :: t) := fun _ _ e => by cases e; exact h
theorem span_dec {p : UInt8 → Bool} : ∀ {a b r r' : List UInt8}, (∀ c ∈ a, p c = true) → (∀ c ∈ b, p c = true) → Ends p r → Ends p r' → a ++ r = b ++ r' → a = b ∧ r = r'
  | [], [], _, _, _, _, _, _, e => ⟨rfl, e⟩
  | [], c :: b, r, r', _, hb, hr, _, e => by
    have := hr c (b ++ r') e
    rw [hb c (by simp)] at this
    cases this
  | c :: a, [], r, r', ha, _, _, hr', e => by
    have := hr' c (a ++ r) e.symm
    rw [ha c (by simp)] at this
    cases this
  | c :: a, d :: b, r, r', ha, hb, hr, hr', e => by
    simp only [List.cons_append, List.cons.injEq] at e
    obtain ⟨h1, h2⟩ := span_dec (fun c hc => ha c (by simp [hc])) (fun c hc => hb c (by simp [hc])) hr hr' e.2
    exact ⟨by rw [e.1, h1], h2⟩
def valD (l : List UInt8) : Nat := l.foldl (fun v c => 10 * v + (c.toNat - 48)) 0
theorem dig_toNat {i : Nat} (h : i < 10) : (UInt8.ofNat (48 + i)).toNat = 48 + i := by
  rw [UInt8.toNat_ofNat']
  omega
theorem dec_rec {u : Nat} (h : ¬ u < 10) : Lib.decDigits u = Lib.decDigits (u / 10) ++ [UInt8.ofNat (48 + u % 10)] := by
  rw [Lib.decDigits, dif_neg h]
theorem val_dec (u : Nat) : valD (Lib.decDigits u) = u := by
  induction u using Nat.strongRecOn with
  | _ u ih =>
    by_cases h : u < 10
    · rw [Lib.decDigits_one h]
      simp only [valD, List.foldl_cons, List.foldl_nil]
      rw [dig_toNat h]
      omega
    · rw [dec_rec h]
      have := ih (u / 10) (by omega)
      unfold valD at this ⊢
      rw [List.foldl_append, this]
      simp only [List.foldl_cons, List.foldl_nil]
      rw [dig_toNat (by omega)]
      omega
theorem isD_dig {i : Nat} (h : i < 10) : isD (UInt8.ofNat (48 + i)) = true := by
  unfold isD
  rw [dig_toNat h]
  simp
  omega
theorem dec_isD (u : Nat) : ∀ c ∈ Lib.decDigits u, isD c = true := by
  induction u using Nat.strongRecOn with
  | _ u ih =>
    by_cases h : u < 10
    · rw [Lib.decDigits_one h]
      intro c hc
      rw [List.mem_singleton.mp hc]
      exact isD_dig h
    · rw [dec_rec h]
      intro c hc
      rcases List.mem_append.mp hc with hc | hc
      · exact ih (u / 10) (by omega) c hc
      · rw [List.mem_singleton.mp hc]
        exact isD_dig (by omega)
theorem dec_head (u : Nat) : ∃ c t, Lib.decDigits u = c :: t ∧ isD c = true := by
  cases h : Lib.decDigits u with
  | nil =>
    have := Lib.decDigits_length u
    have := Lib.nDigits_pos u
    rw [h] at *
    simp at *
    omega
  | cons c t => exact ⟨c, t, rfl, dec_isD u c (by rw [h]; simp)⟩
/-- what may stand behind an expression -/
def Stop (r : List UInt8) : Prop := ∀ c t, r = c :: t → isN c = false ∧ c ≠ 40 ∧ c ≠ 91
theorem Stop.ends {r : List UInt8} (h : Stop r) : Ends isN r := fun c t e => (h c t e).1
theorem Stop.cons {c : UInt8} (h : isN c = false) (h1 : c ≠ 40) (h2 : c ≠ 91) (t : List UInt8) : Stop (c :: t) := fun _ _ e => by cases e; exact ⟨h, h1, h2⟩
theorem isD_N {c : UInt8} (h : isD c = true) : isN c = true := by simp [isN, h]
theorem isL_N {c : UInt8} (h : isL c = true) : isN c = true := by simp [isN, h]
theorem Ends.dig {r : List UInt8} (h : Ends isN r) : Ends isD r := fun c t e => by
  have := h c t e
  cases hd : isD c with
  | false => rfl
  | true => rw [isD_N hd] at this; cases this
/-- the items' texts, each behind a comma and a blank, then e -/
theorem tails_dec {α : Type} (f : α → List UInt8) (P : α → Prop) (e : UInt8) (he : e ≠ 44) (S : List UInt8 → Prop) (h44 : ∀ r, S (44 :: r)) (hSe : ∀ r, S (e :: r)) :
    ∀ t : List α, (∀ x ∈ t, ∀ y, P y → ∀ r r', S r → S r' → f x ++ r = f y ++ r' → x = y ∧ r = r') → ∀ t' : List α, (∀ y ∈ t', P y) → ∀ r r', Lib.joinTail [44, 32] (t.map f) ++ e :: r = Lib.joinTail [44, 32] (t'.map f) ++ e :: r' → t = t' ∧ r = r'
  | [], _, [], _, r, r', h => by
    simp [Lib.joinTail] at h
    exact ⟨rfl, h⟩
  | [], _, y :: t', _, r, r', h => by
    simp [Lib.joinTail] at h
    exact absurd h.1 he
  | x :: t, _, [], _, r, r', h => by
    simp [Lib.joinTail] at h
    exact absurd h.1.symm he
  | x :: t, hx, y :: t', hy, r, r', h => by
    have ex : ∀ (z : α) (l : List α), Lib.joinTail [44, 32] ((z :: l).map f) = [44, 32] ++ (f z ++ Lib.joinTail [44, 32] (l.map f)) := fun z l => by simp [Lib.joinTail]
    have st : ∀ (l : List α) (r : List UInt8), S (Lib.joinTail [44, 32] (l.map f) ++ e :: r) := fun l r => by
      cases l with
      | nil => exact hSe r
      | cons z l => rw [ex]; exact h44 _
    rw [ex, ex] at h
    simp only [List.append_assoc] at h
    have h := List.append_cancel_left h
    obtain ⟨rfl, h2⟩ := hx x (by simp) y (hy y (by simp)) _ _ (st _ _) (st _ _) h
    obtain ⟨rfl, h3⟩ := tails_dec f P e he S h44 hSe t (fun z hz => hx z (by simp [hz])) t' (fun z hz => hy z (by simp [hz])) r r' h2
    exact ⟨rfl, h3⟩
theorem joins_dec {α : Type} (f : α → List UInt8) (P : α → Prop) (e : UInt8) (he : e ≠ 44) (S : List UInt8 → Prop) (h44 : ∀ r, S (44 :: r)) (hSe : ∀ r, S (e :: r)) (hne : ∀ y, P y → ∃ c s, f y = c :: s ∧ c ≠ e)
    (t : List α) (ht : ∀ x ∈ t, P x ∧ ∀ y, P y → ∀ r r', S r → S r' → f x ++ r = f y ++ r' → x = y ∧ r = r') (t' : List α) (ht' : ∀ y ∈ t', P y) (r r' : List UInt8) (h : joinT (t.map f) ++ e :: r = joinT (t'.map f) ++ e :: r') : t = t' ∧ r = r' := by
  unfold joinT at h
  have ex : ∀ (z : α) (l : List α), Lib.joinTail [44, 32] ((z :: l).map f) = [44, 32] ++ (f z ++ Lib.joinTail [44, 32] (l.map f)) := fun z l => by simp [Lib.joinTail]
  have st : ∀ (l : List α) (r : List UInt8), S (Lib.joinTail [44, 32] (l.map f) ++ e :: r) := fun l r => by
    cases l with
    | nil => exact hSe r
    | cons z l => rw [ex]; exact h44 _
  cases t with
  | nil =>
    cases t' with
    | nil => simp [Lib.join_nil] at h; exact ⟨rfl, h⟩
    | cons y t' =>
      obtain ⟨c, s, e1, e2⟩ := hne y (ht' y (by simp))
      rw [List.map_nil, Lib.join_nil, List.map_cons, Lib.join_cons, e1] at h
      simp at h
      exact absurd h.1.symm e2
  | cons x t =>
    cases t' with
    | nil =>
      obtain ⟨c, s, e1, e2⟩ := hne x (ht x (by simp)).1
      rw [List.map_nil, Lib.join_nil, List.map_cons, Lib.join_cons, e1] at h
      simp at h
      exact absurd h.1 e2
    | cons y t' =>
      rw [List.map_cons, List.map_cons, Lib.join_cons, Lib.join_cons, List.append_assoc, List.append_assoc] at h
      obtain ⟨rfl, h2⟩ := (ht x (by simp)).2 y (ht' y (by simp)) _ _ (st _ _) (st _ _) h
      obtain ⟨rfl, h3⟩ := tails_dec f P e he S h44 hSe t (fun z hz => (ht z (by simp [hz])).2) t' (fun z hz => ht' z (by simp [hz])) r r' h2
      exact ⟨rfl, h3⟩
theorem B_inj {a b : ByteArray} (h : B a = B b) : a = b := by rw [← T_B a, h, T_B]
theorem name_dec {a b : ByteArray} (ha : NameOk a) (hb : NameOk b) {r r' : List UInt8} (hr : Ends isN r) (hr' : Ends isN r') (h : B a ++ r = B b ++ r') : a = b ∧ r = r' := by
  obtain ⟨h1, h2⟩ := span_dec ha.all hb.all hr hr' h
  exact ⟨B_inj h1, h2⟩
theorem name_head {a : ByteArray} (h : NameOk a) : ∃ c s, B a = c :: s ∧ isL c = true := h.head
theorem not_res {s r : ByteArray} (h : NameOk s) (hr : r ∈ reserved) (e : B s = B r) : False := h.free (B_inj e ▸ hr)
end Go.Proofs.YthnhdompfhkepaaDoor.Pure
