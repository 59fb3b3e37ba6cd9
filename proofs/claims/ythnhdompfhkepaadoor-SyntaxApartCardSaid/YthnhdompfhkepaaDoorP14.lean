/- Two statements that may be, of one level, with one text (and what follows), are one. -/
import Derived.Test.YthnhdompfhkepaaDoorP8
import Derived.Test.YthnhdompfhkepaaDoorP13
set_option linter.unusedSimpArgs false
namespace Go.Proofs.YthnhdompfhkepaaDoor.Pure
open Go Go.RowKit Go.Proofs.YthnhdompfhkepaaDoor.Q Go.Proofs.YthnhdompfhkepaaDoorW.PrintWords Go.Proofs.YthnhdompfhkepaaDoorW.PrintMore
def rep (n : Nat) : List UInt8 := Lib.repeatL [32, 32] n
theorem rep_succ (n : Nat) : rep (n + 1) = rep n ++ [32, 32] := by
  unfold rep
  have : ∀ n, (Lib.repeatL [32, 32] n : List UInt8) = List.replicate (2 * n) 32 := fun n => by
    induction n with
    | zero => rfl
    | succ n ih =>
      have e : (Lib.repeatL [32, 32] (n + 1) : List UInt8) = [32, 32] ++ Lib.repeatL [32, 32] n := by simp [Lib.repeatL, List.replicate_succ]
      rw [e, ih, show 2 * (n + 1) = 2 + 2 * n by omega, ← List.replicate_append_replicate]
      rfl
  rw [this, this, show 2 * (n + 1) = 2 * n + 2 by omega, ← List.replicate_append_replicate]
  rfl
theorem line_form (n : Nat) (parts : List (List UInt8)) (r : List UInt8) : lineX n parts ++ r = rep n ++ (parts.flatten ++ 10 :: r) := by
  unfold lineX rep
  simp only [List.append_assoc, List.cons_append, List.nil_append]
def kS (x : S43) : Int := if x.f0 = 1 ∨ x.f0 = 2 ∨ x.f0 = 6 then 0 else x.f0
def putW : ByteArray := ⟨#[112, 117, 116]⟩
def ifW : ByteArray := ⟨#[105, 102]⟩
def whileW : ByteArray := ⟨#[119, 104, 105, 108, 101]⟩
def returnW : ByteArray := ⟨#[114, 101, 116, 117, 114, 110]⟩
/-- a statement's text: its blanks, a word, and what follows -/
theorem st_form {lv : Int} {x : S43} (h : RS lv x) (n : Nat) : ∃ w tl, stX n x = rep n ++ (w ++ tl) ∧ (∀ r, Ends isN (tl ++ r)) ∧ (∀ c ∈ w, isN c = true) ∧ (∃ c t, w = c :: t ∧ isL c = true) ∧
    ((kS x = 0 ∧ ∃ s, NameOk s ∧ w = B s) ∨ (kS x = 3 ∧ w = B putW) ∨ (kS x = 4 ∧ w = B ifW) ∨ (kS x = 5 ∧ w = B whileW) ∨ (kS x = 7 ∧ w = B returnW)) := by
  have nm : ∀ {s : ByteArray}, NameOk s → (∀ c ∈ B s, isN c = true) ∧ ∃ c t, B s = c :: t ∧ isL c = true := fun h => ⟨h.all, name_head h⟩
  have lf : ∀ (n : Nat) (p : List (List UInt8)), lineX n p = rep n ++ (p.flatten ++ [10]) := fun n p => by
    have := line_form n p []
    simpa using this
  cases h with
  | set lv s e h0 h1 hs he =>
    refine ⟨B s, [32, 61, 32] ++ exT e ++ [59, 10], by rw [stX_set, lf]; simp, fun r => Ends.cons (by decide) _, (nm hs).1, (nm hs).2, .inl ⟨by simp [kS], s, hs, rfl⟩⟩
  | store lv s a b h0 h1 hs ha hb =>
    refine ⟨B s, [91] ++ exT a ++ [93, 32, 61, 32] ++ exT b ++ [59, 10], by rw [stX_store, lf]; simp, fun r => Ends.cons (by decide) _, (nm hs).1, (nm hs).2, .inl ⟨by simp [kS], s, hs, rfl⟩⟩
  | call lv s l h0 h1 hs hl he =>
    refine ⟨B s, [40] ++ joinT (l.map exT) ++ [41, 59, 10], by rw [stX_call, lf]; simp, fun r => Ends.cons (by decide) _, (nm hs).1, (nm hs).2, .inl ⟨by simp [kS], s, hs, rfl⟩⟩
  | put lv e h0 h1 he =>
    refine ⟨B putW, [40] ++ exT e ++ [41, 59, 10], by rw [stX_put, lf]; simp [putW, B], fun r => Ends.cons (by decide) _, by decide, ⟨112, [117, 116], rfl, by decide⟩, .inr (.inl ⟨by simp [kS], rfl⟩)⟩
  | cond lv e t f h0 h1 he ht hf =>
    refine ⟨B ifW, [32, 40] ++ exT e ++ [41, 32, 123, 10] ++ stsX (n + 1) t ++ (if f = [] then [] else lineX n [[125, 32, 101, 108, 115, 101, 32, 123]] ++ stsX (n + 1) f) ++ lineX n [[125]], by rw [stX_cond, lf n [[105, 102, 32, 40], exT e, [41, 32, 123]]]; simp [ifW, B], fun r => Ends.cons (by decide) _, by decide, ⟨105, [102], rfl, by decide⟩, .inr (.inr (.inl ⟨by simp [kS], rfl⟩))⟩
  | loop lv e t h0 h1 he ht =>
    refine ⟨B whileW, [32, 40] ++ exT e ++ [41, 32, 123, 10] ++ stsX (n + 1) t ++ lineX n [[125]], by rw [stX_loop, lf n [[119, 104, 105, 108, 101, 32, 40], exT e, [41, 32, 123]]]; simp [whileW, B], fun r => Ends.cons (by decide) _, by decide, ⟨119, [104, 105, 108, 101], rfl, by decide⟩, .inr (.inr (.inr (.inl ⟨by simp [kS], rfl⟩)))⟩
  | ret0 lv h0 h1 =>
    refine ⟨B returnW, [59, 10], by rw [stX_ret0, lf]; simp [returnW, B], fun r => Ends.cons (by decide) _, by decide, ⟨114, [101, 116, 117, 114, 110], rfl, by decide⟩, .inr (.inr (.inr (.inr ⟨by simp [kS], rfl⟩)))⟩
  | ret lv e h0 h1 he =>
    refine ⟨B returnW, [32] ++ exT e ++ [59, 10], by rw [stX_ret, lf]; simp [returnW, B], fun r => Ends.cons (by decide) _, by decide, ⟨114, [101, 116, 117, 114, 110], rfl, by decide⟩, .inr (.inr (.inr (.inr ⟨by simp [kS], rfl⟩)))⟩
theorem res4 : putW ∈ reserved ∧ ifW ∈ reserved ∧ whileW ∈ reserved ∧ returnW ∈ reserved := by simp [reserved, putW, ifW, whileW, returnW]
theorem k_eq {lv lv' : Int} {x y : S43} (hx : RS lv x) (hy : RS lv' y) {n : Nat} {r r' : List UInt8} (e : stX n x ++ r = stX n y ++ r') : kS x = kS y := by
  obtain ⟨w, tl, e1, he, ha, _, hk⟩ := st_form hx n
  obtain ⟨w', tl', e1', he', ha', _, hk'⟩ := st_form hy n
  rw [e1, e1'] at e
  simp only [List.append_assoc] at e
  have e := List.append_cancel_left e
  obtain ⟨hw, _⟩ := span_dec ha ha' (he r) (he' r') e
  have ne : ∀ {s u : ByteArray}, NameOk s → u ∈ reserved → B s = B u → False := fun h hr e => not_res h hr e
  obtain ⟨r1, r2, r3, r4⟩ := res4
  rcases hk with ⟨k, s, hs, rfl⟩ | ⟨k, rfl⟩ | ⟨k, rfl⟩ | ⟨k, rfl⟩ | ⟨k, rfl⟩ <;> rcases hk' with ⟨k', s', hs', rfl⟩ | ⟨k', rfl⟩ | ⟨k', rfl⟩ | ⟨k', rfl⟩ | ⟨k', rfl⟩ <;>
    first
      | (rw [k, k']; done)
      | exact absurd hw (by decide)
      | exact (ne hs r1 hw).elim
      | exact (ne hs r2 hw).elim
      | exact (ne hs r3 hw).elim
      | exact (ne hs r4 hw).elim
      | exact (ne hs' r1 hw.symm).elim
      | exact (ne hs' r2 hw.symm).elim
      | exact (ne hs' r3 hw.symm).elim
      | exact (ne hs' r4 hw.symm).elim
/-- the end of a list of statements of level n + 1 -/
def EndAt (n : Nat) (r : List UInt8) : Prop := ∃ t, r = rep n ++ 125 :: t
def ToldS (n : Nat) (x : S43) : Prop := ∀ y, RS (n : Int) y → ∀ r r', stX n x ++ r = stX n y ++ r' → x = y ∧ r = r'
theorem end_no {lv : Int} {y : S43} (hy : RS lv y) {n : Nat} {r s : List UInt8} (h : EndAt n r) : ¬ (r = stX (n + 1) y ++ s) := by
  obtain ⟨t, rfl⟩ := h
  obtain ⟨w, tl, e1, _⟩ := st_form hy (n + 1)
  rw [e1, rep_succ]
  simp only [List.append_assoc]
  intro e
  have e := List.append_cancel_left e
  simp at e
theorem list_dec (n : Nat) : ∀ l : List S43, (∀ x ∈ l, ToldS (n + 1) x ∧ RS ((n + 1 : Nat) : Int) x) → ∀ l' : List S43, (∀ y ∈ l', RS ((n + 1 : Nat) : Int) y) → ∀ r r', EndAt n r → EndAt n r' → stsX (n + 1) l ++ r = stsX (n + 1) l' ++ r' → l = l' ∧ r = r'
  | [], _, [], _, r, r', _, _, e => ⟨rfl, e⟩
  | [], _, y :: l', hl', r, r', hr, _, e => by
    simp only [stsX, List.nil_append, List.append_assoc] at e
    exact absurd e (end_no (hl' y (by simp)) hr)
  | x :: l, hl, [], _, r, r', _, hr', e => by
    simp only [stsX, List.nil_append, List.append_assoc] at e
    exact absurd e.symm (end_no (hl x (by simp)).2 hr')
  | x :: l, hl, y :: l', hl', r, r', hr, hr', e => by
    simp only [stsX, List.append_assoc] at e
    obtain ⟨rfl, e2⟩ := (hl x (by simp)).1 y (hl' y (by simp)) _ _ e
    obtain ⟨rfl, e3⟩ := list_dec n l (fun z hz => hl z (by simp [hz])) l' (fun z hz => hl' z (by simp [hz])) r r' hr hr' e2
    exact ⟨rfl, e3⟩
theorem endAt_line (n : Nat) (p : List UInt8) (r : List UInt8) : EndAt n (lineX n [125 :: p] ++ r) := ⟨p ++ 10 :: r, by rw [line_form]; simp⟩
theorem endAt_else (n : Nat) (f : List S43) (r : List UInt8) : EndAt n ((if f = [] then [] else lineX n [[125, 32, 101, 108, 115, 101, 32, 123]] ++ stsX (n + 1) f) ++ (lineX n [[125]] ++ r)) := by
  split
  · exact endAt_line n [] r
  · rw [List.append_assoc]
    exact endAt_line n [32, 101, 108, 115, 101, 32, 123] _
theorem stop41 (t : List UInt8) : Stop (41 :: t) := Stop.cons (by decide) (by decide) (by decide) t
theorem stop59 (t : List UInt8) : Stop (59 :: t) := Stop.cons (by decide) (by decide) (by decide) t
theorem stop93 (t : List UInt8) : Stop (93 :: t) := Stop.cons (by decide) (by decide) (by decide) t
end Go.Proofs.YthnhdompfhkepaaDoor.Pure
