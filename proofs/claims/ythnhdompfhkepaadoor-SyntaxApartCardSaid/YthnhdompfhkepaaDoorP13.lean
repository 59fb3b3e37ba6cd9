/- Two expressions that may be, with one text (and what follows), are one. -/
import Derived.Test.YthnhdompfhkepaaDoorP12
set_option linter.unusedSimpArgs false
namespace Go.Proofs.YthnhdompfhkepaaDoor.Pure
open Go Go.RowKit Go.Proofs.YthnhdompfhkepaaDoor.Q Go.Proofs.YthnhdompfhkepaaDoorW.PrintWords Go.Proofs.YthnhdompfhkepaaDoorW.PrintMore
def chC (c : UInt8) : Nat := if isD c = true then 0 else if c = 40 then 2 else if c = 33 then 3 else 1
def cls (x : S36) : Nat := if x.f0 = 1 then 0 else if x.f0 = 7 then 3 else if x.f0 = 6 ∨ x.f0 = 8 ∨ x.f0 = 9 then 2 else 1
theorem chC_L {c : UInt8} (h : isL c = true) : chC c = 1 := by
  have hd : ¬ isD c = true := by
    intro hd
    simp only [isD, isL, Bool.and_eq_true, Bool.or_eq_true, decide_eq_true_eq] at *
    omega
  have h40 : c ≠ 40 := by rintro rfl; revert h; decide
  have h33 : c ≠ 33 := by rintro rfl; revert h; decide
  simp [chC, hd, h40, h33]
theorem ex_head {x : S36} (h : RE x) : ∃ c t, exT x = c :: t ∧ chC c = cls x ∧ c ≠ 41 := by
  have hL : ∀ {c : UInt8}, isL c = true → c ≠ 41 := fun h => by rintro rfl; revert h; decide
  cases h with
  | num n h0 h1 =>
    obtain ⟨c, t, e, hd⟩ := dec_head n.toNat
    exact ⟨c, t, by rw [exT_num, e], by simp [chC, cls, hd], by rintro rfl; revert hd; decide⟩
  | var s h =>
    obtain ⟨c, t, e, hl⟩ := name_head h
    exact ⟨c, t, by rw [exT_var, e], by rw [chC_L hl]; simp [cls], hL hl⟩
  | index s a h =>
    obtain ⟨c, t, e, hl⟩ := name_head h
    exact ⟨c, t ++ [91] ++ exT a ++ [93], by rw [exT_index, e]; simp, by rw [chC_L hl]; simp [cls], hL hl⟩
  | call s l h =>
    obtain ⟨c, t, e, hl⟩ := name_head h
    exact ⟨c, t ++ [40] ++ joinT (l.map exT) ++ [41], by rw [exT_call, e]; simp, by rw [chC_L hl]; simp [cls], hL hl⟩
  | get => exact ⟨103, [101, 116, 40, 41], exT_get, by decide, by decide⟩
  | op o a b => exact ⟨40, _, by rw [exT_op]; simp only [List.append_assoc, List.cons_append, List.nil_append]; rfl, by simp [cls, chC, isD], by decide⟩
  | not a => exact ⟨33, _, by rw [exT_not]; rfl, by simp [cls, chC, isD], by decide⟩
  | and a b => exact ⟨40, _, by rw [exT_and]; simp only [List.append_assoc, List.cons_append, List.nil_append]; rfl, by simp [cls, chC, isD], by decide⟩
  | or a b => exact ⟨40, _, by rw [exT_or]; simp only [List.append_assoc, List.cons_append, List.nil_append]; rfl, by simp [cls, chC, isD], by decide⟩
theorem cls_eq {a b : S36} (ha : RE a) (hb : RE b) {r r' : List UInt8} (h : exT a ++ r = exT b ++ r') : cls a = cls b := by
  obtain ⟨c, t, e, hc, _⟩ := ex_head ha
  obtain ⟨d, u, e', hd, _⟩ := ex_head hb
  rw [e, e'] at h
  simp only [List.cons_append, List.cons.injEq] at h
  rw [← hc, ← hd, h.1]
def Told (a : S36) : Prop := ∀ b, RE b → ∀ r r', Stop r → Stop r' → exT a ++ r = exT b ++ r' → a = b ∧ r = r'
theorem signs_ok {o : Int} (h : 4 ≤ o) (h' : o ≤ 15) : (∀ c ∈ signT o, (c != 32) = true) ∧ signT o ≠ [38, 38] ∧ signT o ≠ [124, 124] ∧ ∀ o', 4 ≤ o' → o' ≤ 15 → signT o = signT o' → o = o' := by
  have key : ∀ o : Int, 4 ≤ o → o ≤ 15 → o = 4 ∨ o = 5 ∨ o = 6 ∨ o = 7 ∨ o = 8 ∨ o = 9 ∨ o = 10 ∨ o = 11 ∨ o = 12 ∨ o = 13 ∨ o = 14 ∨ o = 15 := by intros; omega
  refine ⟨?_, ?_, ?_, fun o' g g' => ?_⟩
  · rcases key o h h' with rfl | rfl | rfl | rfl | rfl | rfl | rfl | rfl | rfl | rfl | rfl | rfl <;> decide
  · rcases key o h h' with rfl | rfl | rfl | rfl | rfl | rfl | rfl | rfl | rfl | rfl | rfl | rfl <;> decide
  · rcases key o h h' with rfl | rfl | rfl | rfl | rfl | rfl | rfl | rfl | rfl | rfl | rfl | rfl <;> decide
  · rcases key o h h' with rfl | rfl | rfl | rfl | rfl | rfl | rfl | rfl | rfl | rfl | rfl | rfl <;> rcases key o' g g' with rfl | rfl | rfl | rfl | rfl | rfl | rfl | rfl | rfl | rfl | rfl | rfl <;> decide
/-- the three forms with two parts -/
theorem two_dec {a a' b b' : S36} {s s' r r' : List UInt8} (ta : Told a) (tb : Told b) (ra : RE a') (rb : RE b') (hs : ∀ c ∈ s, (c != 32) = true) (hs' : ∀ c ∈ s', (c != 32) = true)
    (h : [40] ++ exT a ++ [32] ++ s ++ [32] ++ exT b ++ [41] ++ r = [40] ++ exT a' ++ [32] ++ s' ++ [32] ++ exT b' ++ [41] ++ r') : a = a' ∧ s = s' ∧ b = b' ∧ r = r' := by
  simp only [List.append_assoc, List.cons_append, List.nil_append, List.cons.injEq, true_and] at h
  obtain ⟨e1, h2⟩ := ta a' ra _ _ (Stop.cons (by decide) (by decide) (by decide) _) (Stop.cons (by decide) (by decide) (by decide) _) h
  simp only [List.cons.injEq, true_and] at h2
  obtain ⟨e2, h3⟩ := span_dec hs hs' (Ends.cons (by decide) _) (Ends.cons (by decide) _) h2
  simp only [List.cons.injEq, true_and] at h3
  obtain ⟨e3, h4⟩ := tb b' rb _ _ (Stop.cons (by decide) (by decide) (by decide) _) (Stop.cons (by decide) (by decide) (by decide) _) h3
  exact ⟨e1, e2, e3, by simpa using h4⟩
theorem getN : (⟨#[103, 101, 116]⟩ : ByteArray) ∈ reserved := by simp [reserved]
theorem get_all : ∀ c ∈ ([103, 101, 116] : List UInt8), isN c = true := by decide
theorem no_get {s : ByteArray} (h : NameOk s) {r r' : List UInt8} (hr : Ends isN r) (hr' : Ends isN r') : ¬ (B s ++ r = [103, 101, 116] ++ r') := fun e => by
  obtain ⟨h1, _⟩ := span_dec h.all get_all hr hr' e
  exact not_res h getN h1
theorem e91 (t : List UInt8) : Ends isN (91 :: t) := Ends.cons (by decide) t
theorem e40 (t : List UInt8) : Ends isN (40 :: t) := Ends.cons (by decide) t
theorem told {a : S36} (ha : RE a) : Told a := by
  induction ha with
  | num n h0 h1 =>
    intro b hb r r' hr hr' e
    have hc := cls_eq (.num n h0 h1) hb e
    cases hb <;> simp [cls] at hc
    rename_i m g0 g1
    rw [exT_num, exT_num] at e
    obtain ⟨e1, e2⟩ := span_dec (dec_isD _) (dec_isD _) hr.ends.dig hr'.ends.dig e
    have := congrArg valD e1
    rw [val_dec, val_dec] at this
    obtain rfl : n = m := by omega
    exact ⟨rfl, e2⟩
  | var s h =>
    intro b hb r r' hr hr' e
    have hc := cls_eq (.var s h) hb e
    cases hb <;> simp [cls] at hc
    · rename_i s' h'
      rw [exT_var, exT_var] at e
      obtain ⟨rfl, e2⟩ := name_dec h h' hr.ends hr'.ends e
      exact ⟨rfl, e2⟩
    · rename_i s' x h' _
      rw [exT_var, exT_index] at e
      simp only [List.append_assoc] at e
      obtain ⟨_, e2⟩ := name_dec h h' hr.ends (e91 _) e
      exact absurd rfl (hr _ _ e2).2.2
    · rename_i s' l h' _ _
      rw [exT_var, exT_call] at e
      simp only [List.append_assoc] at e
      obtain ⟨_, e2⟩ := name_dec h h' hr.ends (e40 _) e
      exact absurd rfl (hr _ _ e2).2.1
    · rw [exT_var, exT_get] at e
      exact absurd e (no_get h hr.ends (e40 (41 :: r')))
  | index s a h ra ih =>
    intro b hb r r' hr hr' e
    have hc := cls_eq (.index s a h ra) hb e
    cases hb <;> simp [cls] at hc
    · rename_i s' h'
      rw [exT_index, exT_var] at e
      simp only [List.append_assoc] at e
      obtain ⟨_, e2⟩ := name_dec h h' (e91 _) hr'.ends e
      exact absurd rfl (hr' _ _ e2.symm).2.2
    · rename_i s' x h' rx
      rw [exT_index, exT_index] at e
      simp only [List.append_assoc] at e
      obtain ⟨rfl, e2⟩ := name_dec h h' (e91 _) (e91 _) e
      simp only [List.cons_append, List.nil_append, List.cons.injEq, true_and] at e2
      obtain ⟨rfl, e3⟩ := ih x rx _ _ (Stop.cons (by decide) (by decide) (by decide) _) (Stop.cons (by decide) (by decide) (by decide) _) e2
      simp only [List.cons.injEq, true_and] at e3
      exact ⟨rfl, e3⟩
    · rename_i s' l h' _ _
      rw [exT_index, exT_call] at e
      simp only [List.append_assoc] at e
      obtain ⟨_, e2⟩ := name_dec h h' (e91 _) (e40 _) e
      simp at e2
    · rw [exT_index, exT_get] at e
      simp only [List.append_assoc] at e
      exact absurd e (no_get h (e91 _) (e40 (41 :: r')))
  | call s l h hl ra ih =>
    intro b hb r r' hr hr' e
    have hc := cls_eq (.call s l h hl ra) hb e
    cases hb <;> simp [cls] at hc
    · rename_i s' h'
      rw [exT_call, exT_var] at e
      simp only [List.append_assoc] at e
      obtain ⟨_, e2⟩ := name_dec h h' (e40 _) hr'.ends e
      exact absurd rfl (hr' _ _ e2.symm).2.1
    · rename_i s' x h' rx
      rw [exT_call, exT_index] at e
      simp only [List.append_assoc] at e
      obtain ⟨_, e2⟩ := name_dec h h' (e40 _) (e91 _) e
      simp at e2
    · rename_i s' l' h' hl' rl'
      rw [exT_call, exT_call] at e
      simp only [List.append_assoc] at e
      obtain ⟨rfl, e2⟩ := name_dec h h' (e40 _) (e40 _) e
      simp only [List.cons_append, List.nil_append, List.cons.injEq, true_and] at e2
      obtain ⟨rfl, e3⟩ := joins_dec exT RE 41 (by decide) Stop (fun _ => Stop.cons (by decide) (by decide) (by decide) _) (fun _ => Stop.cons (by decide) (by decide) (by decide) _) (fun y hy => by
        obtain ⟨c, t, e1, _, e3⟩ := ex_head hy
        exact ⟨c, t, e1, e3⟩) l (fun x hx => ⟨ra x hx, ih x hx⟩) l' rl' r r' e2
      exact ⟨rfl, e3⟩
    · rw [exT_call, exT_get] at e
      simp only [List.append_assoc] at e
      exact absurd e (no_get h (e40 _) (e40 (41 :: r')))
  | get =>
    intro b hb r r' hr hr' e
    have hc := cls_eq .get hb e
    cases hb <;> simp [cls] at hc
    · rename_i s' h'
      rw [exT_get, exT_var] at e
      exact absurd e.symm (no_get h' hr'.ends (e40 (41 :: r)))
    · rename_i s' x h' rx
      rw [exT_get, exT_index] at e
      simp only [List.append_assoc (B s')] at e
      exact absurd e.symm (no_get h' (e91 _) (e40 (41 :: r)))
    · rename_i s' l' h' hl' rl'
      rw [exT_get, exT_call] at e
      simp only [List.append_assoc (B s')] at e
      exact absurd e.symm (no_get h' (e40 _) (e40 (41 :: r)))
    · exact ⟨rfl, List.append_cancel_left e⟩
  | not a ra ih =>
    intro b hb r r' hr hr' e
    have hc := cls_eq (.not a ra) hb e
    cases hb <;> simp [cls] at hc
    rename_i x rx
    rw [exT_not, exT_not] at e
    simp only [List.append_assoc, List.cons_append, List.nil_append, List.cons.injEq, true_and] at e
    obtain ⟨rfl, e3⟩ := ih x rx _ _ hr hr' e
    exact ⟨rfl, e3⟩
  | op o a b h0 h1 ra rb ia ib =>
    intro y hy r r' hr hr' e
    obtain ⟨s1, s2, s3, s4⟩ := signs_ok h0 h1
    have hc := cls_eq (.op o a b h0 h1 ra rb) hy e
    cases hy <;> simp [cls] at hc
    · rename_i o' a' b' g0 g1 ra' rb'
      rw [exT_op, exT_op] at e
      obtain ⟨rfl, hs, rfl, e2⟩ := two_dec ia ib ra' rb' s1 (signs_ok g0 g1).1 e
      obtain rfl := s4 o' g0 g1 hs
      exact ⟨rfl, e2⟩
    · rename_i a' b' ra' rb'
      rw [exT_op, exT_and] at e
      exact absurd (two_dec ia ib ra' rb' s1 (by decide) e).2.1 s2
    · rename_i a' b' ra' rb'
      rw [exT_op, exT_or] at e
      exact absurd (two_dec ia ib ra' rb' s1 (by decide) e).2.1 s3
  | and a b ra rb ia ib =>
    intro y hy r r' hr hr' e
    have hc := cls_eq (.and a b ra rb) hy e
    cases hy <;> simp [cls] at hc
    · rename_i o' a' b' g0 g1 ra' rb'
      rw [exT_and, exT_op] at e
      exact absurd (two_dec ia ib ra' rb' (by decide) (signs_ok g0 g1).1 e).2.1.symm (signs_ok g0 g1).2.1
    · rename_i a' b' ra' rb'
      rw [exT_and, exT_and] at e
      obtain ⟨rfl, _, rfl, e2⟩ := two_dec ia ib ra' rb' (by decide) (by decide) e
      exact ⟨rfl, e2⟩
    · rename_i a' b' ra' rb'
      rw [exT_and, exT_or] at e
      exact absurd (two_dec ia ib ra' rb' (by decide) (by decide) e).2.1 (by decide)
  | or a b ra rb ia ib =>
    intro y hy r r' hr hr' e
    have hc := cls_eq (.or a b ra rb) hy e
    cases hy <;> simp [cls] at hc
    · rename_i o' a' b' g0 g1 ra' rb'
      rw [exT_or, exT_op] at e
      exact absurd (two_dec ia ib ra' rb' (by decide) (signs_ok g0 g1).1 e).2.1.symm (signs_ok g0 g1).2.2.1
    · rename_i a' b' ra' rb'
      rw [exT_or, exT_and] at e
      exact absurd (two_dec ia ib ra' rb' (by decide) (by decide) e).2.1 (by decide)
    · rename_i a' b' ra' rb'
      rw [exT_or, exT_or] at e
      obtain ⟨rfl, _, rfl, e2⟩ := two_dec ia ib ra' rb' (by decide) (by decide) e
      exact ⟨rfl, e2⟩
end Go.Proofs.YthnhdompfhkepaaDoor.Pure
