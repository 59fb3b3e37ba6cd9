/- Two statements that may be, of one level, with one text (and what follows), are one. -/
import Derived.Test.YthnhdompfhkepaaDoorP14
set_option linter.unusedSimpArgs false
namespace Go.Proofs.YthnhdompfhkepaaDoor.Pure
open Go Go.RowKit Go.Proofs.YthnhdompfhkepaaDoor.Q Go.Proofs.YthnhdompfhkepaaDoorW.PrintWords Go.Proofs.YthnhdompfhkepaaDoorW.PrintMore
theorem e32 (t : List UInt8) : Ends isN (32 :: t) := Ends.cons (by decide) t
theorem tl_inj {c d : UInt8} {t u : List UInt8} (h : c :: t = d :: u) : t = u := by injection h
theorem stold {lv : Int} {x : S43} (h : RS lv x) : ∀ n : Nat, lv = n → ToldS n x := by
  induction h with
  | set lv s a h0 h1 hs he =>
    intro n hn y hy r r' e
    subst hn
    have hk := k_eq (.set _ s a h0 h1 hs he) hy e
    cases hy <;> simp [kS] at hk
    · rename_i s' a' hs' he' _ _
      rw [stX_set, stX_set, line_form, line_form] at e
      replace e := List.append_cancel_left e
      simp only [List.flatten_cons, List.flatten_nil, List.append_assoc, List.append_nil, List.cons_append, List.nil_append] at e
      obtain ⟨e1, e2⟩ := name_dec hs hs' (e32 _) (e32 _) e
      obtain ⟨e3, e4⟩ := told he _ he' _ _ (stop59 _) (stop59 _) (tl_inj (tl_inj (tl_inj e2)))
      exact ⟨by rw [e1, e3], tl_inj (tl_inj e4)⟩
    · rename_i s' a' b' hs' ha' hb' _ _
      rw [stX_set, stX_store, line_form, line_form] at e
      replace e := List.append_cancel_left e
      simp only [List.flatten_cons, List.flatten_nil, List.append_assoc, List.append_nil, List.cons_append, List.nil_append] at e
      obtain ⟨_, e2⟩ := name_dec hs hs' (e32 _) (e91 _) e
      simp at e2
    · rename_i s' l' hs' hl' he' _ _
      rw [stX_set, stX_call, line_form, line_form] at e
      replace e := List.append_cancel_left e
      simp only [List.flatten_cons, List.flatten_nil, List.append_assoc, List.append_nil, List.cons_append, List.nil_append] at e
      obtain ⟨_, e2⟩ := name_dec hs hs' (e32 _) (e40 _) e
      simp at e2
  | store lv s a b h0 h1 hs ha hb =>
    intro n hn y hy r r' e
    subst hn
    have hk := k_eq (.store _ s a b h0 h1 hs ha hb) hy e
    cases hy <;> simp [kS] at hk
    · rename_i s' a' hs' he' _ _
      rw [stX_store, stX_set, line_form, line_form] at e
      replace e := List.append_cancel_left e
      simp only [List.flatten_cons, List.flatten_nil, List.append_assoc, List.append_nil, List.cons_append, List.nil_append] at e
      obtain ⟨_, e2⟩ := name_dec hs hs' (e91 _) (e32 _) e
      simp at e2
    · rename_i s' a' b' hs' ha' hb' _ _
      rw [stX_store, stX_store, line_form, line_form] at e
      replace e := List.append_cancel_left e
      simp only [List.flatten_cons, List.flatten_nil, List.append_assoc, List.append_nil, List.cons_append, List.nil_append] at e
      obtain ⟨e1, e2⟩ := name_dec hs hs' (e91 _) (e91 _) e
      obtain ⟨e3, e4⟩ := told ha _ ha' _ _ (stop93 _) (stop93 _) (tl_inj e2)
      obtain ⟨e5, e6⟩ := told hb _ hb' _ _ (stop59 _) (stop59 _) (tl_inj (tl_inj (tl_inj (tl_inj e4))))
      exact ⟨by rw [e1, e3, e5], tl_inj (tl_inj e6)⟩
    · rename_i s' l' hs' hl' he' _ _
      rw [stX_store, stX_call, line_form, line_form] at e
      replace e := List.append_cancel_left e
      simp only [List.flatten_cons, List.flatten_nil, List.append_assoc, List.append_nil, List.cons_append, List.nil_append] at e
      obtain ⟨_, e2⟩ := name_dec hs hs' (e91 _) (e40 _) e
      simp at e2
  | call lv s l h0 h1 hs hl he =>
    intro n hn y hy r r' e
    subst hn
    have hk := k_eq (.call _ s l h0 h1 hs hl he) hy e
    cases hy <;> simp [kS] at hk
    · rename_i s' a' hs' he' _ _
      rw [stX_call, stX_set, line_form, line_form] at e
      replace e := List.append_cancel_left e
      simp only [List.flatten_cons, List.flatten_nil, List.append_assoc, List.append_nil, List.cons_append, List.nil_append] at e
      obtain ⟨_, e2⟩ := name_dec hs hs' (e40 _) (e32 _) e
      simp at e2
    · rename_i s' a' b' hs' ha' hb' _ _
      rw [stX_call, stX_store, line_form, line_form] at e
      replace e := List.append_cancel_left e
      simp only [List.flatten_cons, List.flatten_nil, List.append_assoc, List.append_nil, List.cons_append, List.nil_append] at e
      obtain ⟨_, e2⟩ := name_dec hs hs' (e40 _) (e91 _) e
      simp at e2
    · rename_i s' l' hs' hl' he' _ _
      rw [stX_call, stX_call, line_form, line_form] at e
      replace e := List.append_cancel_left e
      simp only [List.flatten_cons, List.flatten_nil, List.append_assoc, List.append_nil, List.cons_append, List.nil_append] at e
      obtain ⟨e1, e2⟩ := name_dec hs hs' (e40 _) (e40 _) e
      obtain ⟨e3, e4⟩ := joins_dec exT RE 41 (by decide) Stop (fun _ => Stop.cons (by decide) (by decide) (by decide) _) (fun _ => stop41 _) (fun y hy => by
        obtain ⟨c, t, e1, _, e3⟩ := ex_head hy
        exact ⟨c, t, e1, e3⟩) l (fun x hx => ⟨he x hx, told (he x hx)⟩) l' he' _ _ (tl_inj e2)
      exact ⟨by rw [e1, e3], tl_inj (tl_inj e4)⟩
  | put lv a h0 h1 he =>
    intro n hn y hy r r' e
    subst hn
    have hk := k_eq (.put _ a h0 h1 he) hy e
    cases hy <;> simp [kS] at hk
    rename_i a' he' _ _
    rw [stX_put, stX_put, line_form, line_form] at e
    replace e := List.append_cancel_left e
    simp only [List.flatten_cons, List.flatten_nil, List.append_assoc, List.append_nil, List.cons_append, List.nil_append, List.cons.injEq, true_and] at e
    obtain ⟨e3, e4⟩ := told he _ he' _ _ (stop41 _) (stop41 _) e
    exact ⟨by rw [e3], tl_inj (tl_inj (tl_inj e4))⟩
  | ret0 lv h0 h1 =>
    intro n hn y hy r r' e
    subst hn
    have hk := k_eq (.ret0 _ h0 h1) hy e
    cases hy <;> simp [kS] at hk
    · exact ⟨rfl, List.append_cancel_left e⟩
    · rename_i a' he' _ _
      rw [stX_ret0, stX_ret, line_form, line_form] at e
      replace e := List.append_cancel_left e
      simp at e
  | ret lv a h0 h1 he =>
    intro n hn y hy r r' e
    subst hn
    have hk := k_eq (.ret _ a h0 h1 he) hy e
    cases hy <;> simp [kS] at hk
    · rw [stX_ret0, stX_ret, line_form, line_form] at e
      replace e := List.append_cancel_left e
      simp at e
    · rename_i a' he' _ _
      rw [stX_ret, stX_ret, line_form, line_form] at e
      replace e := List.append_cancel_left e
      simp only [List.flatten_cons, List.flatten_nil, List.append_assoc, List.append_nil, List.cons_append, List.nil_append, List.cons.injEq, true_and] at e
      obtain ⟨e3, e4⟩ := told he _ he' _ _ (stop59 _) (stop59 _) e
      exact ⟨by rw [e3], tl_inj (tl_inj e4)⟩
  | loop lv a t h0 h1 he ht it =>
    intro n hn y hy r r' e
    subst hn
    have hk := k_eq (.loop _ a t h0 h1 he ht) hy e
    have c1 : (n : Int) + 1 = ((n + 1 : Nat) : Int) := by omega
    rw [c1] at ht it
    cases hy <;> simp [kS] at hk
    rename_i a' t' he' _ _ ht'
    rw [c1] at ht'
    rw [stX_loop, stX_loop] at e
    simp only [List.append_assoc] at e
    rw [line_form n [[119, 104, 105, 108, 101, 32, 40], exT a, [41, 32, 123]], line_form n [[119, 104, 105, 108, 101, 32, 40], exT a', [41, 32, 123]]] at e
    replace e := List.append_cancel_left e
    simp only [List.flatten_cons, List.flatten_nil, List.append_assoc, List.append_nil, List.cons_append, List.nil_append, List.cons.injEq, true_and] at e
    obtain ⟨e3, e4⟩ := told he _ he' _ _ (stop41 _) (stop41 _) e
    obtain ⟨e5, e6⟩ := list_dec n t (fun x hx => ⟨it x hx (n + 1) rfl, ht x hx⟩) t' ht' _ _ (endAt_line n [] r) (endAt_line n [] r') (tl_inj (tl_inj (tl_inj (tl_inj e4))))
    exact ⟨by rw [e3, e5], List.append_cancel_left e6⟩
  | cond lv a t f h0 h1 he ht hf it jf =>
    intro n hn y hy r r' e
    subst hn
    have hk := k_eq (.cond _ a t f h0 h1 he ht hf) hy e
    have c1 : (n : Int) + 1 = ((n + 1 : Nat) : Int) := by omega
    rw [c1] at ht it hf jf
    cases hy <;> simp [kS] at hk
    rename_i a' t' f' he' _ _ ht' hf'
    rw [c1] at ht' hf'
    rw [stX_cond, stX_cond] at e
    simp only [List.append_assoc] at e
    rw [line_form n [[105, 102, 32, 40], exT a, [41, 32, 123]], line_form n [[105, 102, 32, 40], exT a', [41, 32, 123]]] at e
    replace e := List.append_cancel_left e
    simp only [List.flatten_cons, List.flatten_nil, List.append_assoc, List.append_nil, List.cons_append, List.nil_append, List.cons.injEq, true_and] at e
    obtain ⟨e3, e4⟩ := told he _ he' _ _ (stop41 _) (stop41 _) e
    obtain ⟨e5, e6⟩ := list_dec n t (fun x hx => ⟨it x hx (n + 1) rfl, ht x hx⟩) t' ht' _ _ (endAt_else n f r) (endAt_else n f' r') (tl_inj (tl_inj (tl_inj (tl_inj e4))))
    have no : ∀ (g : List S43) (r r' : List UInt8), lineX n [[125]] ++ r = (lineX n [[125, 32, 101, 108, 115, 101, 32, 123]] ++ stsX (n + 1) g) ++ (lineX n [[125]] ++ r') → False := fun g r r' h => by
      rw [List.append_assoc, line_form n [[125]] r, line_form n [[125, 32, 101, 108, 115, 101, 32, 123]]] at h
      replace h := List.append_cancel_left h
      simp at h
    by_cases hz : f = [] <;> by_cases hz' : f' = []
    · subst hz; subst hz'
      simp only [if_true, List.nil_append] at e6
      exact ⟨by rw [e3, e5], List.append_cancel_left e6⟩
    · subst hz
      rw [if_pos rfl, if_neg hz', List.nil_append] at e6
      exact (no _ _ _ e6).elim
    · subst hz'
      rw [if_neg hz, if_pos rfl, List.nil_append] at e6
      exact (no _ _ _ e6.symm).elim
    · rw [if_neg hz, if_neg hz', List.append_assoc, List.append_assoc] at e6
      obtain ⟨e7, e8⟩ := list_dec n f (fun x hx => ⟨jf x hx (n + 1) rfl, hf x hx⟩) f' hf' _ _ (endAt_line n [] r) (endAt_line n [] r') (List.append_cancel_left e6)
      exact ⟨by rw [e3, e5, e7], List.append_cancel_left e8⟩
end Go.Proofs.YthnhdompfhkepaaDoor.Pure
