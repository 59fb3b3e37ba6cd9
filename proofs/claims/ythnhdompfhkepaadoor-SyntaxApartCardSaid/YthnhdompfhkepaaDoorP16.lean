/- Two programs that may be, with one text, are one. -/
import Derived.Test.YthnhdompfhkepaaDoorP15
import Derived.Test.YthnhdompfhkepaaDoorP10
set_option linter.unusedSimpArgs false
namespace Go.Proofs.YthnhdompfhkepaaDoor.Pure
open Go Go.RowKit Go.Proofs.YthnhdompfhkepaaDoor.Q Go.Proofs.YthnhdompfhkepaaDoorW.PrintWords Go.Proofs.YthnhdompfhkepaaDoorW.PrintMore
theorem line0 (parts : List (List UInt8)) (r : List UInt8) : lineX 0 parts ++ r = parts.flatten ++ 10 :: r := by
  rw [line_form]
  rfl
theorem names_dec {e : UInt8} (he : e ≠ 44) (hN : isN e = false) {l l' : List ByteArray} (h : ∀ s ∈ l, NameOk s) (h' : ∀ s ∈ l', NameOk s) {r r' : List UInt8} (e1 : namesX l ++ e :: r = namesX l' ++ e :: r') : l = l' ∧ r = r' :=
  joins_dec B NameOk e he (Ends isN) (fun r => Ends.cons (by decide) r) (fun r => Ends.cons hN r) (fun y hy => by
    obtain ⟨c, t, e1, hl⟩ := name_head hy
    refine ⟨c, t, e1, ?_⟩
    rintro rfl
    rw [isL_N hl] at hN
    cases hN) l (fun x hx => ⟨h x hx, fun y hy r r' hr hr' e => name_dec (h x hx) hy hr hr' e⟩) l' h' r r' e1
theorem end_dec {w w' : Bool} {r r' : List UInt8} (e : endX w ++ 10 :: r = endX w' ++ 10 :: r') : w = w' ∧ r = r' := by
  cases w <;> cases w' <;> simp [endX] at e ⊢ <;> exact e
def varW : ByteArray := ⟨#[118, 97, 114]⟩
theorem vars_form (n : Nat) {l : List ByteArray} (h : l ≠ []) (r : List UInt8) : varsX n l ++ r = rep n ++ (B varW ++ (32 :: (namesX l ++ 59 :: 10 :: r))) := by
  unfold varsX
  rw [if_neg h, line_form]
  simp [varW, B]
theorem no_var {lv : Int} {x : S43} (h : RS lv x) {r s : List UInt8} : ¬ (stX 1 x ++ r = rep 1 ++ (B varW ++ 32 :: s)) := by
  obtain ⟨w, tl, e1, he, ha, _, hk⟩ := st_form h 1
  rw [e1]
  simp only [List.append_assoc]
  intro e
  replace e := List.append_cancel_left e
  obtain ⟨hw, _⟩ := span_dec ha (show ∀ c ∈ B varW, isN c = true by decide) (he r) (e32 s) e
  have hv : varW ∈ reserved := by simp [reserved, varW]
  rcases hk with ⟨_, s, hs, rfl⟩ | ⟨_, rfl⟩ | ⟨_, rfl⟩ | ⟨_, rfl⟩ | ⟨_, rfl⟩
  · exact not_res hs hv hw
  all_goals exact absurd hw (by decide)
theorem body_no_var {l : List S43} (h : ∀ x ∈ l, RS 1 x) {r s : List UInt8} : ¬ (stsX 1 l ++ (lineX 0 [[125]] ++ r) = rep 1 ++ (B varW ++ 32 :: s)) := by
  cases l with
  | nil =>
    rw [line0]
    intro e
    rw [show rep 1 = [32, 32] from rfl] at e
    simp [stsX] at e
  | cons x l =>
    simp only [stsX, List.append_assoc]
    exact no_var (h x (by simp))
theorem fun_dec {f g : S45} (hf : RF f) (hg : RF g) {r r' : List UInt8} (e : funX f ++ r = funX g ++ r') : f = g ∧ r = r' := by
  obtain ⟨f0, f1, f2, f3, f4⟩ := f
  obtain ⟨g0, g1, g2, g3, g4⟩ := g
  have hfn := hf.name
  have hfp := hf.params
  have hfl := hf.locals
  have hfb := hf.body
  have hgn := hg.name
  have hgp := hg.params
  have hgl := hg.locals
  have hgb := hg.body
  simp only at hfn hfp hfl hfb hgn hgp hgl hgb
  unfold funX headX at e
  simp only [List.append_assoc] at e
  rw [line0 [[102, 117, 110, 99, 32], B f0, [40], namesX f1, endX f3], line0 [[102, 117, 110, 99, 32], B g0, [40], namesX g1, endX g3]] at e
  simp only [List.flatten_cons, List.flatten_nil, List.append_assoc, List.append_nil, List.cons_append, List.nil_append, List.cons.injEq, true_and] at e
  obtain ⟨q0, u1⟩ := name_dec hfn hgn (e40 _) (e40 _) e
  clear e
  have u2 := tl_inj u1
  clear u1
  subst q0
  have ex : ∀ w : Bool, ∃ t, endX w = 41 :: t := fun w => by cases w <;> exact ⟨_, rfl⟩
  obtain ⟨t1, x1⟩ := ex f3
  obtain ⟨t2, x2⟩ := ex g3
  rw [x1, x2] at u2
  obtain ⟨q1, u3⟩ := names_dec (e := 41) (by decide) (by decide) hfp hgp u2
  clear u2
  subst q1
  have e' : endX f3 ++ 10 :: (varsX 1 f2 ++ (stsX 1 f4 ++ (lineX 0 [[125]] ++ r))) = endX g3 ++ 10 :: (varsX 1 g2 ++ (stsX 1 g4 ++ (lineX 0 [[125]] ++ r'))) := by
    rw [x1, x2, List.cons_append, List.cons_append]; exact congrArg (41 :: ·) u3
  obtain ⟨q2, e⟩ := end_dec e'
  clear u3 x1 x2 e'
  subst q2
  have body : ∀ {r r' : List UInt8}, stsX 1 f4 ++ (lineX 0 [[125]] ++ r) = stsX 1 g4 ++ (lineX 0 [[125]] ++ r') → f4 = g4 ∧ r = r' := fun {r r'} e => by
    obtain ⟨q, e⟩ := list_dec 0 f4 (fun x hx => ⟨stold (hfb x hx) 1 rfl, hfb x hx⟩) g4 hgb _ _ (endAt_line 0 [] r) (endAt_line 0 [] r') e
    exact ⟨q, List.append_cancel_left e⟩
  by_cases hz : f2 = [] <;> by_cases hz' : g2 = []
  · subst hz; subst hz'
    simp only [varsX, if_true, List.nil_append] at e
    obtain ⟨q, u⟩ := body e
    subst q
    exact ⟨rfl, u⟩
  · subst hz
    rw [vars_form 1 hz'] at e
    simp only [varsX, if_true, List.nil_append] at e
    exact absurd e (body_no_var hfb)
  · subst hz'
    rw [vars_form 1 hz] at e
    simp only [varsX, if_true, List.nil_append] at e
    exact absurd e.symm (body_no_var hgb)
  · rw [vars_form 1 hz, vars_form 1 hz'] at e
    replace e := tl_inj (List.append_cancel_left (List.append_cancel_left e))
    obtain ⟨q, u⟩ := names_dec (e := 59) (by decide) (by decide) hfl hgl e
    obtain ⟨q', u'⟩ := body (tl_inj u)
    subst q
    subst q'
    exact ⟨rfl, u'⟩
theorem fun_head (f : S45) : ∃ t, funX f = 102 :: t := by
  unfold funX headX
  simp only [List.append_assoc]
  rw [line0]
  exact ⟨_, rfl⟩
theorem funs_dec : ∀ l l' : List S45, (∀ f ∈ l, RF f) → (∀ f ∈ l', RF f) → funsX l = funsX l' → l = l'
  | [], [], _, _, _ => rfl
  | [], g :: l', _, _, e => by
    obtain ⟨t, h⟩ := fun_head g
    simp [funsX, h] at e
  | f :: l, [], _, _, e => by
    obtain ⟨t, h⟩ := fun_head f
    simp [funsX, h] at e
  | f :: l, g :: l', h, h', e => by
    have e1 : ∀ (f : S45) (l : List S45), funsX (f :: l) = funX f ++ funsX l := fun f l => by simp [funsX]
    rw [e1, e1] at e
    obtain ⟨q, e⟩ := fun_dec (h f (by simp)) (h' g (by simp)) e
    rw [q, funs_dec l l' (fun x hx => h x (by simp [hx])) (fun x hx => h' x (by simp [hx])) e]
def ArrOk (a : S59) : Prop := NameOk a.f0 ∧ 1 ≤ a.f1 ∧ a.f1 ≤ 4096
theorem arr_form (a : S59) (r : List UInt8) : arrX a ++ r = [97, 114, 114, 97, 121, 32] ++ (B a.f0 ++ (91 :: (Lib.decDigits a.f1.toNat ++ (93 :: 59 :: 10 :: r)))) := by
  unfold arrX
  rw [line0]
  simp
theorem arrs_dec : ∀ l l' : List S59, (∀ a ∈ l, ArrOk a) → (∀ a ∈ l', ArrOk a) → ∀ t t' : List UInt8, arrsX l ++ 102 :: t = arrsX l' ++ 102 :: t' → l = l' ∧ t = t'
  | [], [], _, _, _, _, e => by
    simp [arrsX] at e
    exact ⟨rfl, e⟩
  | [], b :: l', _, _, _, _, e => by
    have e1 : ∀ (f : S59) (l : List S59), arrsX (f :: l) = arrX f ++ arrsX l := fun f l => by simp [arrsX]
    rw [e1, List.append_assoc, arr_form] at e
    simp [arrsX] at e
  | a :: l, [], _, _, _, _, e => by
    have e1 : ∀ (f : S59) (l : List S59), arrsX (f :: l) = arrX f ++ arrsX l := fun f l => by simp [arrsX]
    rw [e1, List.append_assoc, arr_form] at e
    simp [arrsX] at e
  | a :: l, b :: l', h, h', t, t', e => by
    have e1 : ∀ (f : S59) (l : List S59), arrsX (f :: l) = arrX f ++ arrsX l := fun f l => by simp [arrsX]
    rw [e1, e1, List.append_assoc, List.append_assoc, arr_form, arr_form] at e
    replace e := List.append_cancel_left e
    obtain ⟨n1, n2, n3⟩ := h a (by simp)
    obtain ⟨m1, m2, m3⟩ := h' b (by simp)
    obtain ⟨q0, e⟩ := name_dec n1 m1 (e91 _) (e91 _) e
    obtain ⟨q1, e⟩ := span_dec (dec_isD _) (dec_isD _) (Ends.cons (by decide) _) (Ends.cons (by decide) _) (tl_inj e)
    have q2 := congrArg valD q1
    rw [val_dec, val_dec] at q2
    obtain ⟨q3, e⟩ := arrs_dec l l' (fun x hx => h x (by simp [hx])) (fun x hx => h' x (by simp [hx])) t t' (tl_inj (tl_inj (tl_inj e)))
    refine ⟨?_, e⟩
    rw [q3]
    congr 1
    exact (by cases a; cases b; simp only at q0 q2 n2 m2; subst q0; congr 1; omega)
theorem prog_dec {v v' : List ByteArray} {a a' : List S59} {f f' : List S45} (h : RP v a f) (h' : RP v' a' f') (e : progX v a f = progX v' a' f') : v = v' ∧ a = a' ∧ f = f' := by
  have hd : ∀ {f : List S45}, f ≠ [] → ∃ t, funsX f = 102 :: t := fun {f} hf => by
    cases f with
    | nil => exact absurd rfl hf
    | cons g l =>
      obtain ⟨t, ht⟩ := fun_head g
      exact ⟨t ++ funsX l, by simp [funsX, ht]⟩
  obtain ⟨t, ht⟩ := hd h.some
  obtain ⟨t', ht'⟩ := hd h'.some
  have rest : arrsX a ++ funsX f = arrsX a' ++ funsX f' → a = a' ∧ f = f' := fun e => by
    rw [ht, ht'] at e
    obtain ⟨q, e⟩ := arrs_dec a a' h.rarrs h'.rarrs t t' e
    exact ⟨q, funs_dec f f' h.rfuncs h'.rfuncs (by rw [ht, ht', e])⟩
  have no : ∀ (a : List S59) (t s : List UInt8), arrsX a ++ 102 :: t = 118 :: s → False := fun a t s e => by
    cases a with
    | nil => simp [arrsX] at e
    | cons x l =>
      have e1 : arrsX (x :: l) = arrX x ++ arrsX l := by simp [arrsX]
      rw [e1, List.append_assoc, arr_form] at e
      simp at e
  have vf : ∀ {l : List ByteArray}, l ≠ [] → ∀ r, varsX 0 l ++ r = 118 :: 97 :: 114 :: 32 :: (namesX l ++ 59 :: 10 :: r) := fun hl r => vars_form 0 hl r
  unfold progX at e
  simp only [List.append_assoc] at e
  by_cases hz : v = [] <;> by_cases hz' : v' = []
  · subst hz; subst hz'
    simp only [varsX, if_true, List.nil_append] at e
    exact ⟨rfl, rest e⟩
  · subst hz
    rw [vf hz'] at e
    simp only [varsX, if_true, List.nil_append] at e
    rw [ht] at e
    exact (no _ _ _ e).elim
  · subst hz'
    rw [vf hz] at e
    simp only [varsX, if_true, List.nil_append] at e
    rw [ht'] at e
    exact (no _ _ _ e.symm).elim
  · rw [vf hz, vf hz'] at e
    replace e := tl_inj (tl_inj (tl_inj (tl_inj e)))
    obtain ⟨q, e⟩ := names_dec (e := 59) (by decide) (by decide) h.rvars h'.rvars e
    exact ⟨q, rest (tl_inj e)⟩
end Go.Proofs.YthnhdompfhkepaaDoor.Pure
