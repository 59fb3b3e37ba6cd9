/- syntax.Print answers a program's text. -/
import Derived.Test.YthnhdompfhkepaaDoorP8
namespace Go.Proofs.YthnhdompfhkepaaDoor.Pure
open Go Go.RowKit Go.Proofs.YthnhdompfhkepaaDoor.Q Go.Proofs.YthnhdompfhkepaaDoorW.PrintWords Go.Proofs.YthnhdompfhkepaaDoorW.PrintMore
theorem line_at {n : Nat} {parts : List ByteArray} {P : List (List UInt8)} {acc : List UInt8} (e : parts.map B = P) (hn : n ≤ 1000) (h : acc.length + (lineX n P).length ≤ 1000000000) : Ev (fun _ => Ext.lineT (n : Int) parts acc) (acc ++ lineX n P) := by
  subst e
  exact Ev.const fun _ => line_ev n parts acc hn h
theorem cSs_sum (t : List S43) : cSs t = (t.map cS).sum := by
  induction t with
  | nil => rfl
  | cons a l ih => simp [cSs, ih]
theorem stmt_ev {lv : Int} {x : S43} (h : RS lv x) : ∀ n : Nat, lv = n → cS x ≤ 1000 → EvS n x := by
  induction h with
  | set lv s e h0 h1 hs he =>
    intro n hn hc acc hacc
    simp only [cS, cEs, cSs] at hc hacc
    have hl := exT_len he
    have hz := hs.size
    refine Ev.succ ?_
    rw [stX_set]
    simp only [Ext.stmtT]
    refine Ev.pos (by simp) (Ev.bind (exAt0 (expr_ev he (by omega))) (line_at (by simp [B_T]) (by omega) ?_))
    rw [lineX_len]
    simp
    omega
  | store lv s a b h0 h1 hs ha hb =>
    intro n hn hc acc hacc
    simp only [cS, cEs, cSs] at hc hacc
    have hl := exT_len ha
    have hl' := exT_len hb
    have hz := hs.size
    refine Ev.succ ?_
    rw [stX_store]
    simp only [Ext.stmtT]
    refine Ev.neg (by decide) (Ev.pos (by simp) (Ev.bind (exAt0 (expr_ev ha (by omega))) (Ev.bind (exAt1 (expr_ev hb (by omega))) (line_at (by simp [B_T]) (by omega) ?_))))
    rw [lineX_len]
    simp
    omega
  | put lv e h0 h1 he =>
    intro n hn hc acc hacc
    simp only [cS, cEs, cSs] at hc hacc
    have hl := exT_len he
    refine Ev.succ ?_
    rw [stX_put]
    simp only [Ext.stmtT]
    refine Ev.neg (by decide) (Ev.neg (by decide) (Ev.pos (by simp) (Ev.bind (exAt0 (expr_ev he (by omega))) (line_at (by simp [B_T]) (by omega) ?_))))
    rw [lineX_len]
    simp
    omega
  | call lv s l h0 h1 hs hl he =>
    intro n hn hc acc hacc
    simp only [cS, cSs] at hc hacc
    have hx : RE ⟨4, 0, 0, s, l⟩ := .call s l hs hl he
    have lx := exT_len hx
    rw [exT_call] at lx
    simp only [cE, List.length_append, List.length_cons, List.length_nil] at lx
    have each : ∀ y ∈ l, cE y ≤ cEs l := fun y hy => by
      rw [cEs_sum]
      exact le_sum cE hy
    refine Ev.succ ?_
    rw [stX_call]
    simp only [Ext.stmtT]
    refine Ev.neg (by decide) (Ev.neg (by decide) (Ev.neg (by decide) (Ev.pos (by simp) (Ev.bind (args_f l (by omega) (fun y hy => expr_ev (he y hy) (by have := each y hy; omega)) (by omega)) (line_at (by simp [B_T]) (by omega) ?_)))))
    rw [lineX_len]
    simp only [List.map_cons, List.map_nil, List.sum_cons, List.sum_nil, List.length_cons, List.length_nil]
    omega
  | ret0 lv h0 h1 =>
    intro n hn hc acc hacc
    simp only [cS, cSs, cEs] at hc hacc
    refine Ev.succ ?_
    rw [stX_ret0]
    simp only [Ext.stmtT]
    refine Ev.neg (by decide) (Ev.neg (by decide) (Ev.neg (by decide) (Ev.neg (by decide) (Ev.pos (by simp) (Ev.pos (by simp) (line_at (by simp) (by omega) ?_))))))
    rw [lineX_len]
    simp
    omega
  | ret lv e h0 h1 he =>
    intro n hn hc acc hacc
    simp only [cS, cEs, cSs] at hc hacc
    have hl := exT_len he
    refine Ev.succ ?_
    rw [stX_ret]
    simp only [Ext.stmtT]
    refine Ev.neg (by decide) (Ev.neg (by decide) (Ev.neg (by decide) (Ev.neg (by decide) (Ev.pos (by simp) (Ev.neg (by simp) (Ev.bind (exAt0 (expr_ev he (by omega))) (line_at (by simp [B_T]) (by omega) ?_)))))))
    rw [lineX_len]
    simp
    omega
  | loop lv e t h0 h1 he ht it =>
    intro n hn hc acc hacc
    simp only [cS, cEs, cSs] at hc hacc
    have hl := exT_len he
    have each : ∀ y ∈ t, cS y ≤ cSs t := fun y hy => by rw [cSs_sum]; exact le_sum cS hy
    have hlen := stsX_len (n := n + 1) fun x hx => stX_len (ht x hx) (n + 1) (by omega)
    refine Ev.succ ?_
    rw [stX_loop]
    have el : (n : Int) + 1 = ((n + 1 : Nat) : Int) := by omega
    simp only [Ext.stmtT, el]
    refine Ev.neg (by decide) (Ev.neg (by decide) (Ev.neg (by decide) (Ev.neg (by decide) (Ev.neg (by decide) (Ev.pos (by simp) (Ev.bind (exAt0 (expr_ev he (by omega))) (Ev.bind (line_at (P := [[119, 104, 105, 108, 101, 32, 40], exT e, [41, 32, 123]]) (by simp [B_T]) (by omega) ?_) (Ev.bind (stmts_ev (fun x hx => it x hx (n + 1) (by omega) (by have := each x hx; omega)) (fun x hx => stX_len (ht x hx) (n + 1) (by omega)) _ ?_) ((line_at (P := [[125]]) (by simp) (by omega) ?_).cast (by simp only [List.append_assoc]))))))))))
    · rw [lineX_len]; simp; omega
    · rw [List.length_append, lineX_len]; simp; omega
    · rw [List.length_append, List.length_append, lineX_len, lineX_len]; simp; omega
  | cond lv e t f h0 h1 he ht hf it jf =>
    intro n hn hc acc hacc
    simp only [cS, cEs] at hc hacc
    have hl := exT_len he
    have eachT : ∀ y ∈ t, cS y ≤ cSs t := fun y hy => by rw [cSs_sum]; exact le_sum cS hy
    have eachF : ∀ y ∈ f, cS y ≤ cSs f := fun y hy => by rw [cSs_sum]; exact le_sum cS hy
    have lenT := stsX_len (n := n + 1) fun x hx => stX_len (ht x hx) (n + 1) (by omega)
    have lenF := stsX_len (n := n + 1) fun x hx => stX_len (hf x hx) (n + 1) (by omega)
    refine Ev.succ ?_
    rw [stX_cond]
    have el : (n : Int) + 1 = ((n + 1 : Nat) : Int) := by omega
    simp only [Ext.stmtT, el]
    refine Ev.neg (by decide) (Ev.neg (by decide) (Ev.neg (by decide) (Ev.neg (by decide) (Ev.neg (by decide) (Ev.neg (by decide) (Ev.bind (exAt0 (expr_ev he (by omega))) (Ev.bind (line_at (P := [[105, 102, 32, 40], exT e, [41, 32, 123]]) (by simp [B_T]) (by omega) ?_) (Ev.bind (stmts_ev (fun x hx => it x hx (n + 1) (by omega) (by have := eachT x hx; omega)) (fun x hx => stX_len (ht x hx) (n + 1) (by omega)) _ ?_) ?_))))))))
    · rw [lineX_len]; simp; omega
    · rw [List.length_append, lineX_len]; simp; omega
    · by_cases hz : f = []
      · subst hz
        refine Ev.neg (by simp) ((line_at (P := [[125]]) (by simp) (by omega) ?_).cast (by simp))
        rw [List.length_append, List.length_append, lineX_len, lineX_len]; simp; omega
      · have : 0 < f.length := List.length_pos_iff.mpr hz
        refine Ev.pos (by omega) (Ev.bind (line_at (P := [[125, 32, 101, 108, 115, 101, 32, 123]]) (by simp) (by omega) ?_) (Ev.bind (stmts_ev (fun x hx => jf x hx (n + 1) (by omega) (by have := eachF x hx; omega)) (fun x hx => stX_len (hf x hx) (n + 1) (by omega)) _ ?_) ((line_at (P := [[125]]) (by simp) (by omega) ?_).cast (by rw [if_neg hz]; simp only [List.append_assoc]))))
        · rw [List.length_append, List.length_append, lineX_len, lineX_len]; simp; omega
        · rw [List.length_append, List.length_append, List.length_append, lineX_len, lineX_len]; simp; omega
        · rw [List.length_append, List.length_append, List.length_append, List.length_append, lineX_len, lineX_len, lineX_len]; simp; omega
end Go.Proofs.YthnhdompfhkepaaDoor.Pure
