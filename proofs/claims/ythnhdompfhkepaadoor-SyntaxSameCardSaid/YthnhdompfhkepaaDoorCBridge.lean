/- What may be (with levels) may be (without); what syntax.Expr and syntax.Print answer, as contracts. -/
import Derived.Test.YthnhdompfhkepaaDoorCRight
import Derived.Test.YthnhdompfhkepaaDoorP10
namespace Go.Proofs.YthnhdompfhkepaaDoor.Pure
open Go Go.RowKit Go.Proofs.YthnhdompfhkepaaDoor.Q Go.Proofs.YthnhdompfhkepaaDoorW.PrintWords Go.Proofs.YthnhdompfhkepaaDoorW.PrintMore
theorem two_of {α : Type} {l : List α} (h : l.length = 2) : ∃ a b, l = [a, b] := by
  match l, h with
  | [a, b], _ => exact ⟨a, b, rfl⟩
theorem one_of {α : Type} {l : List α} (h : l.length = 1) : ∃ a, l = [a] := by
  match l, h with
  | [a], _ => exact ⟨a, rfl⟩
theorem RE_of (x : S36) (hx : OkE x) : ∀ lv, GE x lv → RE x := by
  induction hx with
  | mk x h0 h1 _ _ ih =>
    intro lv hg
    obtain ⟨_, ⟨hnum, hop, hn, ha⟩, hk⟩ := (GE_eq x lv).mp hg
    have all := fun y hy => ih y hy (lv + 1) ((GEs_iff _ _).mp hk y hy)
    clear ih hk hg
    obtain ⟨f0, f1, f2, f3, l⟩ := x
    simp only at *
    have nn : ¬ (f0 = 2 ∨ f0 = 3 ∨ f0 = 4) → f3 = noName := fun h => by
      rcases hn with h' | h'
      · exact absurd h'.1 h
      · exact h'.2
    have nk : (f0 = 2 ∨ f0 = 3 ∨ f0 = 4) → NameOk f3 := fun h => by
      rcases hn with h' | h'
      · exact h'.2
      · exact absurd h h'.1
    clear hn
    rcases ha with ⟨rfl | rfl | rfl, hl⟩ | ⟨rfl | rfl, hl⟩ | ⟨rfl, hl⟩ | ⟨rfl, ho, ho', hl⟩ | ⟨rfl | rfl, hl⟩
    · obtain rfl : l = [] := List.length_eq_zero_iff.mp hl
      obtain rfl : f1 = 0 := by omega
      obtain rfl : f3 = noName := nn (by omega)
      exact .num _ h0 h1
    · obtain rfl : l = [] := List.length_eq_zero_iff.mp hl
      obtain rfl : f1 = 0 := by omega
      obtain rfl : f2 = 0 := by omega
      exact .var _ (nk (by omega))
    · obtain rfl : l = [] := List.length_eq_zero_iff.mp hl
      obtain rfl : f1 = 0 := by omega
      obtain rfl : f2 = 0 := by omega
      obtain rfl : f3 = noName := nn (by omega)
      exact .get
    · obtain ⟨a, rfl⟩ := one_of hl
      obtain rfl : f1 = 0 := by omega
      obtain rfl : f2 = 0 := by omega
      exact .index _ _ (nk (by omega)) (all _ (by simp))
    · obtain ⟨a, rfl⟩ := one_of hl
      obtain rfl : f1 = 0 := by omega
      obtain rfl : f2 = 0 := by omega
      obtain rfl : f3 = noName := nn (by omega)
      exact .not _ (all _ (by simp))
    · obtain rfl : f1 = 0 := by omega
      obtain rfl : f2 = 0 := by omega
      exact .call _ _ (nk (by omega)) hl all
    · obtain ⟨a, b, rfl⟩ := two_of hl
      obtain rfl : f2 = 0 := by omega
      obtain rfl : f3 = noName := nn (by omega)
      exact .op _ _ _ ho ho' (all _ (by simp)) (all _ (by simp))
    · obtain ⟨a, b, rfl⟩ := two_of hl
      obtain rfl : f1 = 0 := by omega
      obtain rfl : f2 = 0 := by omega
      obtain rfl : f3 = noName := nn (by omega)
      exact .and _ _ (all _ (by simp)) (all _ (by simp))
    · obtain ⟨a, b, rfl⟩ := two_of hl
      obtain rfl : f1 = 0 := by omega
      obtain rfl : f2 = 0 := by omega
      obtain rfl : f3 = noName := nn (by omega)
      exact .or _ _ (all _ (by simp)) (all _ (by simp))
theorem RS_of (x : S43) (hx : OkS x) : ∀ lv, 0 ≤ lv → GS x lv → RS lv x := by
  induction hx with
  | mk x _ hE _ _ _ _ ihT ihF =>
    intro lv h0 hg
    obtain ⟨h24, ⟨hf, ht, hn, ha⟩, he, h3, h4⟩ := (GS_eq x lv).mp hg
    have allE := fun y hy => RE_of y (hE y hy) (lv + 1) ((GEs_iff _ _).mp he y hy)
    have allT := fun y hy => ihT y hy (lv + 1) (by omega) ((GSs_iff _ _).mp h3 y hy)
    have allF := fun y hy => ihF y hy (lv + 1) (by omega) ((GSs_iff _ _).mp h4 y hy)
    clear ihT ihF he h3 h4 hg hE
    obtain ⟨f0, f1, l, t, f⟩ := x
    simp only at *
    have nn : ¬ (f0 = 1 ∨ f0 = 2 ∨ f0 = 6) → f1 = noName := fun h => by
      rcases hn with h' | h'
      · exact absurd h'.1 h
      · exact h'.2
    have nk : (f0 = 1 ∨ f0 = 2 ∨ f0 = 6) → NameOk f1 := fun h => by
      rcases hn with h' | h'
      · exact h'.2
      · exact absurd h h'.1
    clear hn
    have ef : f0 ≠ 4 → f = [] := fun h => List.length_eq_zero_iff.mp (hf.resolve_left h)
    have et : f0 ≠ 4 → f0 ≠ 5 → t = [] := fun h h5 => List.length_eq_zero_iff.mp ((ht.resolve_left h).resolve_left h5)
    rcases ha with ⟨rfl | rfl | rfl | rfl, hl⟩ | ⟨rfl, hl⟩ | ⟨rfl, hl⟩ | ⟨rfl, hl⟩
    · obtain ⟨a, rfl⟩ := one_of hl
      obtain rfl := ef (by omega)
      obtain rfl := et (by omega) (by omega)
      exact .set _ _ _ h0 h24 (nk (by omega)) (allE _ (by simp))
    · obtain ⟨a, rfl⟩ := one_of hl
      obtain rfl := ef (by omega)
      obtain rfl := et (by omega) (by omega)
      obtain rfl := nn (by omega)
      exact .put _ _ h0 h24 (allE _ (by simp))
    · obtain ⟨a, rfl⟩ := one_of hl
      obtain rfl := nn (by omega)
      exact .cond _ _ _ _ h0 h24 (allE _ (by simp)) allT allF
    · obtain ⟨a, rfl⟩ := one_of hl
      obtain rfl := ef (by omega)
      obtain rfl := nn (by omega)
      exact .loop _ _ _ h0 h24 (allE _ (by simp)) allT
    · obtain ⟨a, b, rfl⟩ := two_of hl
      obtain rfl := ef (by omega)
      obtain rfl := et (by omega) (by omega)
      exact .store _ _ _ _ h0 h24 (nk (by omega)) (allE _ (by simp)) (allE _ (by simp))
    · obtain rfl := ef (by omega)
      obtain rfl := et (by omega) (by omega)
      exact .call _ _ _ h0 h24 (nk (by omega)) hl allE
    · obtain rfl := ef (by omega)
      obtain rfl := et (by omega) (by omega)
      obtain rfl := nn (by omega)
      match l, hl, allE with
      | [], _, _ => exact .ret0 _ h0 h24
      | [a], _, he => exact .ret _ _ h0 h24 (he _ (by simp))
theorem RP_of {v : List ByteArray} {a : List S59} {f : List S45} (hp : OkP v a f) (h : GP v a f) : RP v a f :=
  ⟨h.vars, h.arrs, fun e => by have := h.some; rw [e] at this; exact absurd this (by decide), fun x hx => ⟨(h.funcs x hx).name, (h.funcs x hx).params, (h.funcs x hx).locals, fun s hs => RS_of s ((hp.each x hx).stmts s hs) 1 (by decide) ((GSs_iff _ _).mp (h.funcs x hx).body s hs)⟩⟩
theorem exprT_c (x : S36) (h : RE x) (hc : cE x ≤ 1000) (A : Option Addr) (c : Nat) (w : World) (hI : InE w x A c) (hT : Ext.TAB w) : Calls Tryd.prog 24 #[vE x A c] w (RetS (T (exT x)) w) := by
  obtain ⟨k, hk⟩ := Ev.at (show Ev (fun k => syntax_Expr.f k x.f0 x.f1 x.f2 x.f3 x.f4) (T (exT x)) from expr_ev h hc)
  exact syntax_Expr.calls k _ _ _ _ _ _ _ _ w hT hI.2 hI.1 hk
theorem print_c {v : List ByteArray} {a : List S59} {f : List S45} (h : RP v a f) (hc : parts v a f < 400) (A0 : Option Addr) (c0 : Nat) (A1 : Option Addr) (c1 : Nat) (A2 : Option Addr) (c2 : Nat) (w : World) (hI : InP w v a f A0 c0 A1 c1 A2 c2) (hT : Ext.TAB w) :
    Calls Tryd.prog 12 #[vP v a f A0 c0 A1 c1 A2 c2] w (RetS (T (progX v a f)) w) := by
  obtain ⟨k, hk⟩ := Ev.at (print_ev h hc)
  exact Ext.syntax_Print.calls k _ _ _ _ _ _ _ _ _ _ w hT hI.1.2 hI.1.1 hI.2.1.2 hI.2.1.1 hI.2.2.2 hI.2.2.1 hk
end Go.Proofs.YthnhdompfhkepaaDoor.Pure
