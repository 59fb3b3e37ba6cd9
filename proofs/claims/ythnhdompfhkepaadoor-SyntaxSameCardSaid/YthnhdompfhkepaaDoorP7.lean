/- What syntax.Expr answers of an expression that may be: its text. -/
import Derived.Test.YthnhdompfhkepaaDoorP6
namespace Go.Proofs.YthnhdompfhkepaaDoor.Pure
open Go Go.RowKit Go.Proofs.YthnhdompfhkepaaDoor.Q Go.Proofs.YthnhdompfhkepaaDoorW.PrintWords Go.Proofs.YthnhdompfhkepaaDoorW.PrintMore
/-- what Expr answers of x -/
def EvE (x : S36) : Prop := Ev (fun k => syntax_Expr.f k x.f0 x.f1 x.f2 x.f3 x.f4) (T (exT x))
theorem Ev.cast {α : Type} {g : Nat → Option α} {r s : α} (h : Ev g r) (e : r = s) : Ev g s := e ▸ h
theorem args_l0 (l : List S36) (hl : l.length ≤ 100) (ih : ∀ y ∈ l, EvE y) (hj : (joinT (l.map exT)).length ≤ 1000000) :
    ∀ d i, i + d = l.length → Ev (fun k => syntax_args.l0 k ((l.take i).map fun y => T (exT y)) l (l.length : Int) (i : Int)) (T (joinT (l.map exT)))
  | 0, i, h => by
    refine Ev.succ ?_
    simp only [syntax_args.l0]
    refine Ev.neg (by omega) ?_
    have hi : i = l.length := by omega
    subst hi
    rw [List.take_length]
    have := join_f (l.map exT) (by rw [List.length_map]; omega) hj
    rw [List.map_map] at this
    have e : (l.map fun y => T (exT y)) = l.map (T ∘ exT) := rfl
    rw [e]
    refine Ev.const fun k => ?_
    rw [this]
    rfl
  | d + 1, i, h => by
    refine Ev.succ ?_
    have hi : i < l.length := by omega
    simp only [syntax_args.l0, rd36 hi, w1 hi (show l.length ≤ maxN by unfold maxN; omega)]
    refine Ev.pos (by omega) (Ev.pos (by omega) (Ev.pos (by omega) (Ev.bind (ih _ (List.getElem_mem hi)) (Ev.pos (by rw [List.length_map, List.length_take]; omega) ?_))))
    have e : ((l.take i).map fun y => T (exT y)) ++ [T (exT (l[i]'hi))] = (l.take (i + 1)).map fun y => T (exT y) := by
      rw [List.take_succ_eq_append_getElem hi, List.map_append]
      rfl
    rw [e]
    exact args_l0 l hl ih hj d (i + 1) (by omega)
theorem args_f (l : List S36) (hl : l.length ≤ 100) (ih : ∀ y ∈ l, EvE y) (hj : (joinT (l.map exT)).length ≤ 1000000) : Ev (fun k => syntax_args.f k l) (T (joinT (l.map exT))) := by
  refine Ev.succ ?_
  simp only [syntax_args.f]
  exact args_l0 l hl ih hj l.length 0 (by omega)
theorem lit_T : (⟨#[40]⟩ : ByteArray) = T [40] ∧ (⟨#[41]⟩ : ByteArray) = T [41] ∧ (⟨#[32]⟩ : ByteArray) = T [32] ∧ (⟨#[91]⟩ : ByteArray) = T [91] ∧ (⟨#[93]⟩ : ByteArray) = T [93] ∧ (⟨#[33]⟩ : ByteArray) = T [33] := ⟨rfl, rfl, rfl, rfl, rfl, rfl⟩
theorem two_f (f0 f1 f2 : Int) (f3 : ByteArray) (a b : S36) (s : List UInt8) (ha : EvE a) (hb : EvE b) (la : (exT a).length ≤ 100000) (lb : (exT b).length ≤ 100000) (ls : s.length ≤ 100) :
    Ev (fun k => syntax_two.f k f0 f1 f2 f3 [a, b] (T s)) (T ([40] ++ exT a ++ [32] ++ s ++ [32] ++ exT b ++ [41])) := by
  refine Ev.succ ?_
  have r0 : rd_T36 [a, b] 0 = a := rfl
  have r1 : rd_T36 [a, b] 1 = b := rfl
  simp only [syntax_two.f, r0, r1]
  refine Ev.pos (by simp) (Ev.bind ha ?_)
  obtain ⟨e1, e2, e3, _⟩ := lit_T
  simp only [e1, e2, e3, T_app, T_size]
  refine Ev.pos (by (try simp only [List.length_append, List.length_cons, List.length_nil]); omega) (Ev.pos (by (try simp only [List.length_append, List.length_cons, List.length_nil]); omega) (Ev.pos (by (try simp only [List.length_append, List.length_cons, List.length_nil]); omega) (Ev.pos (by (try simp only [List.length_append, List.length_cons, List.length_nil]); omega) (Ev.pos (by simp) (Ev.bind hb ?_)))))
  simp only [T_app, T_size]
  exact Ev.pos (by (try simp only [List.length_append, List.length_cons, List.length_nil]); omega) (Ev.pos (by (try simp only [List.length_append, List.length_cons, List.length_nil]); omega) (Ev.some _))
theorem le_sum {α : Type} (f : α → Nat) {x : α} : ∀ {l : List α}, x ∈ l → f x ≤ (l.map f).sum
  | y :: l, h => by
    rcases List.mem_cons.mp h with rfl | h
    · simp
    · have := le_sum f h
      simp
      omega
theorem expr_ev {x : S36} (h : RE x) (hc : cE x ≤ 1000) : EvE x := by
  induction h with
  | num n h0 h1 =>
    refine Ev.succ ?_
    simp only [syntax_Expr.f, exT_num]
    refine Ev.pos (by decide) (Ev.const fun k => ?_)
    rw [text_f h0 h1]
    rfl
  | var s h =>
    refine Ev.succ ?_
    simp only [syntax_Expr.f, exT_var, T_B]
    exact Ev.neg (by decide) (Ev.pos (by decide) (Ev.some _))
  | index s a h hr ih =>
    have ha := ih (by simp [cE, cEs] at hc; omega)
    have la := exT_len hr
    have hn := name_len h
    have hs := h.size
    refine Ev.succ ?_
    have r0 : rd_T36 [a] 0 = a := rfl
    simp only [syntax_Expr.f, exT_index, r0]
    refine Ev.neg (by decide) (Ev.neg (by decide) (Ev.pos (by decide) (Ev.pos (by omega) (Ev.pos (by simp) (Ev.bind ha ?_)))))
    obtain ⟨e1, e2, e3, e4, e5, e6⟩ := lit_T
    have es : s = T (B s) := (T_B s).symm
    rw [es]
    simp only [e4, e5, T_app, T_size, B_T]
    simp only [cE, cEs] at hc
    exact Ev.pos (by (try simp only [List.length_append, List.length_cons, List.length_nil]); omega) (Ev.pos (by (try simp only [List.length_append, List.length_cons, List.length_nil]); omega) (Ev.some _))
  | call s l h hl hr ih =>
    have hn := name_len h
    have hs := h.size
    simp only [cE] at hc
    have each : ∀ y ∈ l, cE y ≤ cEs l := fun y hy => by
      rw [cEs_sum]
      exact le_sum cE hy
    have hx : RE ⟨4, 0, 0, s, l⟩ := .call s l h hl hr
    have lx := exT_len hx
    rw [exT_call] at lx
    simp only [cE, List.length_append] at lx
    have ha := args_f l (by omega) (fun y hy => ih y hy (by have := each y hy; omega)) (by omega)
    refine Ev.succ ?_
    simp only [syntax_Expr.f, exT_call]
    refine Ev.neg (by decide) (Ev.neg (by decide) (Ev.neg (by decide) (Ev.pos (by decide) (Ev.pos (by omega) (Ev.bind ha ?_)))))
    obtain ⟨e1, e2, e3, e4, e5, e6⟩ := lit_T
    have es : s = T (B s) := (T_B s).symm
    rw [es]
    simp only [e1, e2, T_app, T_size, B_T]
    exact Ev.pos (by (try simp only [List.length_append, List.length_cons, List.length_nil]); omega) (Ev.pos (by (try simp only [List.length_append, List.length_cons, List.length_nil]); omega) (Ev.some _))
  | get =>
    refine Ev.succ ?_
    simp only [syntax_Expr.f, exT_get]
    exact Ev.neg (by decide) (Ev.neg (by decide) (Ev.neg (by decide) (Ev.neg (by decide) (Ev.pos (by decide) (Ev.some _)))))
  | op o a b h0 h1 ra rb ia ib =>
    simp only [cE, cEs] at hc
    have ha := ia (by omega)
    have hb := ib (by omega)
    have la := exT_len ra
    have lb := exT_len rb
    have ls := sign_len h0 h1
    refine Ev.succ ?_
    have hw : wrap64 (o - 4) = o - 4 := by unfold wrap64; omega
    have hsg : rdOf ByteArray.empty Ext.signsL (o - 4) = T (signT o) := by
      unfold signT rdOf
      rw [T_B]
    simp only [syntax_Expr.f, exT_op, hw, hsg]
    refine Ev.neg (by decide) (Ev.neg (by decide) (Ev.neg (by decide) (Ev.neg (by decide) (Ev.neg (by decide) (Ev.pos (by decide) (Ev.pos (by omega) (Ev.pos (by omega) ?_)))))))
    exact Ev.bind (two_f _ _ _ _ a b (signT o) ha hb (by omega) (by omega) (by omega)) (Ev.some _)
  | not a ra ih =>
    simp only [cE, cEs] at hc
    have ha := ih (by omega)
    have la := exT_len ra
    refine Ev.succ ?_
    have r0 : rd_T36 [a] 0 = a := rfl
    simp only [syntax_Expr.f, exT_not, r0]
    refine Ev.neg (by decide) (Ev.neg (by decide) (Ev.neg (by decide) (Ev.neg (by decide) (Ev.neg (by decide) (Ev.neg (by decide) (Ev.pos (by decide) (Ev.pos (by simp) (Ev.bind ha ?_))))))))
    obtain ⟨e1, e2, e3, e4, e5, e6⟩ := lit_T
    simp only [e6, T_app, T_size]
    exact Ev.pos (by omega) (Ev.some _)
  | and a b ra rb ia ib =>
    simp only [cE, cEs] at hc
    have la := exT_len ra
    have lb := exT_len rb
    refine Ev.succ ?_
    simp only [syntax_Expr.f, exT_and]
    refine Ev.neg (by decide) (Ev.neg (by decide) (Ev.neg (by decide) (Ev.neg (by decide) (Ev.neg (by decide) (Ev.neg (by decide) (Ev.neg (by decide) (Ev.pos (by decide) ?_)))))))
    exact Ev.bind (two_f _ _ _ _ a b [38, 38] (ia (by omega)) (ib (by omega)) (by omega) (by omega) (by decide)) (Ev.some _)
  | or a b ra rb ia ib =>
    simp only [cE, cEs] at hc
    have la := exT_len ra
    have lb := exT_len rb
    refine Ev.succ ?_
    simp only [syntax_Expr.f, exT_or]
    refine Ev.neg (by decide) (Ev.neg (by decide) (Ev.neg (by decide) (Ev.neg (by decide) (Ev.neg (by decide) (Ev.neg (by decide) (Ev.neg (by decide) (Ev.neg (by decide) ?_)))))))
    exact Ev.bind (two_f _ _ _ _ a b [124, 124] (ia (by omega)) (ib (by omega)) (by omega) (by omega) (by decide)) (Ev.some _)
end Go.Proofs.YthnhdompfhkepaaDoor.Pure
