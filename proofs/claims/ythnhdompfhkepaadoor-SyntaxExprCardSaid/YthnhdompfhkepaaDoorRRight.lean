/- The document's RightExpr, RightStmt, Right. -/
import Derived.Test.YthnhdompfhkepaaDoorRName
import Derived.Test.YthnhdompfhkepaaDoorCPred
namespace Go.Proofs.YthnhdompfhkepaaDoor.Pure
open Go Go.RowKit Go.Proofs.YthnhdompfhkepaaDoor.Q Go.Proofs.YthnhdompfhkepaaDoorW.PrintWords Go.Proofs.YthnhdompfhkepaaDoorW.PrintLast Go.Proofs.YthnhdompfhkepaaDoorW.PrintMore
set_option linter.unusedSimpArgs false
set_option linter.unusedVariables false
set_option maxHeartbeats 8000000
set_option maxRecDepth 100000
abbrev RxC (x : S36) : Prop := ∀ (lv : Int) (A : Option Addr) (c : Nat) (w : World), 0 ≤ lv → lv ≤ 25 → InE w x A c → Calls Tryd.prog 23 #[vE x A c, .int .i64 lv] w (RetB (GE x lv) w)
theorem rexprs_l (l : List S36) (ih : ∀ y ∈ l, RxC y) (lv : Int) (A : Option Addr) (c : Nat) (w : World) (h0 : 0 ≤ lv) (h25 : lv ≤ 25) (hR : Kd.C k36 w A l.length l) : Calls Tryd.prog 52 #[.slice A l.length c, .int .i64 lv] w (RetB (GEs l lv) w) := by
  obtain ⟨P, E⟩ := name_it (GEs l lv)
  refine Calls.mono (R := RetB P w) ?_ fun e w' h => h.iff E.out
  replace E := Aside0.mk (E.out.trans (GEs_iff l lv))
  have HR := Aside0.mk hR
  have IH := Aside0.mk ih
  clear hR ih
  go_enter Tryd.func52, Tryd.ntmps52
  go_wp2
  go_loopg [5] l.length (fun n v5 wr => ∃ j : Nat, v5 = .int .i64 j ∧ Aside0 (n + j = l.length ∧ ∀ s ∈ l.take j, GE s lv) ∧ Aside0 (Below w.heap.size w wr))
  case atStart => exact ⟨0, rfl, ⟨by simp, by simp⟩, ⟨brefl _⟩⟩
  case round =>
    obtain ⟨j, rfl, HJ, HB⟩ := hrel
    by_cases hj : j < l.length
    · obtain ⟨ad, pb, po, A4, c4, x, rfl, ea, hlt, x0, x1, x2, x3, x4, hx, p0, q0, ej⟩ := el36 (Kd.C_below HR.out HB.out) hj
      go_wp2_with (go_at_call 23; go_loud (refine (IH.out x (mem_of hx.out.1) lv A4 c4 _ h0 h25 hx.out.2).mono ?_); rintro e w' ⟨b, rfl, hb, hB⟩; have HB' := Aside0.mk (bstep HB.out hB); have HE := Aside0.mk hb; clear hB hb; cases b)
      · go_ret
        exact RetB.no (fun p => absurd (HE.out.mpr (E.out.mp p x (mem_of hx.out.1))) (by decide)) HB'.out
      · go_roundg (l.length - (j + 1))
        case measure => have := HJ.out; omega
        case rel => exact ⟨j + 1, (by first | exact congrArg _ ej | rfl), ⟨by omega, all_more hx.out.1 HJ.out.2 (HE.out.mp (by trivial))⟩, HB'⟩
    · go_wp2
      go_ret
      exact RetB.yes (E.out.mpr (all_end hj HJ.out.2)) HB.out
theorem rexpr_c (x : S36) (hx : OkE x) : RxC x := by
  induction hx with
  | mk x _ _ hl _ ih =>
    intro lv A c w h0 h25 hI
    obtain ⟨P, E⟩ := name_it (GE x lv)
    refine Calls.mono (R := RetB P w) ?_ fun e w' h => h.iff E.out
    replace E := Aside0.mk (E.out.trans (GE_eq x lv))
    obtain ⟨f0, f1, f2, f3, l⟩ := x
    have IH := Aside0.mk ih
    have HR : Aside0 (Kd.C k36 w A l.length l) := ⟨hI.2⟩
    clear ih hI hl
    by_cases h24 : lv ≤ 24
    · have K := Aside0.mk (fun w' => isName_c f3 w')
      have X := Aside0.mk (fun w' (h : Below w.heap.size w w') => rexprs_l l IH.out (lv + 1) A c w' (by omega) (by omega) (Kd.C_below HR.out h))
      clear IH
      by_cases k : 1 ≤ f0 ∧ f0 ≤ 9
      · have : f0 = 1 ∨ f0 = 2 ∨ f0 = 3 ∨ f0 = 4 ∨ f0 = 5 ∨ f0 = 6 ∨ f0 = 7 ∨ f0 = 8 ∨ f0 = 9 := by omega
        clear k
        rcases this with rfl | rfl | rfl | rfl | rfl | rfl | rfl | rfl | rfl
        all_goals (go_enter Tryd.func23, Tryd.ntmps23)
        all_goals go_wp2_with (first | (go_at_call 43; refine (K.out _).mono ?_; rintro e w1 ⟨b, rfl, hb, hB⟩; have HB := Aside0.mk (bstep (balloc (brefl w) _) hB); have HE := Aside0.mk hb; have q0 := box_up hB 0 _ rfl; have q1 := box_up hB 1 _ rfl; have q4 := box_up hB 4 _ rfl; clear hB hb; cases b) | (go_at_call 52; (with_reducible refine (X.out _ HB.out).mono ?_); rintro e w2 ⟨b, rfl, hb, hB⟩; have HB2 := Aside0.mk (bstep HB.out hB); have HE2 := Aside0.mk hb; clear hB hb) | (go_at_call 52; (with_reducible refine (X.out _ (balloc (brefl _) _)).mono ?_); rintro e w2 ⟨b, rfl, hb, hB⟩; have HB2 := Aside0.mk (bstep (balloc (brefl w) _) hB); have HE2 := Aside0.mk hb; clear hB hb))
        all_goals go_ret
        all_goals refine ⟨_, rfl, ?_, by first | exact HB2.out | exact HB.out | exact balloc (brefl _) _⟩
        all_goals (rw [E.out]; (try have he := HE.out); (try simp at he); (try have he2 := HE2.out); (try clear q0 q1 q4); (try clear HE HB); (try clear HE2 HB2); clear E K X HR; simp_all [FormE, nmE, arE, noName_iff, GEs_nil])
        all_goals first | omega | (intro h; have := nameNe h; simp_all)
      · have e1 : ∀ i : Int, 1 ≤ i → i ≤ 9 → (f0 == i) = false := fun i h h' => beqI (by omega)
        have n1 : (f0 != 1) = true := by simp; omega
        have n6 : (f0 != 6) = true := by simp; omega
        have g1 := e1 1 (by decide) (by decide)
        have g2 := e1 2 (by decide) (by decide)
        have g3 := e1 3 (by decide) (by decide)
        have g4 := e1 4 (by decide) (by decide)
        have g5 := e1 5 (by decide) (by decide)
        have g6 := e1 6 (by decide) (by decide)
        have g7 := e1 7 (by decide) (by decide)
        have g8 := e1 8 (by decide) (by decide)
        have g9 := e1 9 (by decide) (by decide)
        have HN := Aside0.mk (show ¬ P from fun p => by have h : arE f0 f1 l.length := (E.out.mp p).2.1.2.2.2; unfold arE at h; omega)
        clear e1 k
        go_enter Tryd.func23, Tryd.ntmps23
        go_wp2
        all_goals go_ret
        all_goals exact RetB.no HN.out (balloc (brefl _) _)
    · go_enter Tryd.func23, Tryd.ntmps23
      go_wp2
      go_ret
      exact RetB.no (fun p => by have := (E.out.mp p).1; omega) (balloc (brefl _) _)
abbrev RsC (x : S43) : Prop := ∀ (lv : Int) (A2 : Option Addr) (c2 : Nat) (A3 : Option Addr) (c3 : Nat) (A4 : Option Addr) (c4 : Nat) (w : World), 0 ≤ lv → lv ≤ 25 → InS w x A2 c2 A3 c3 A4 c4 → Calls Tryd.prog 73 #[vS x A2 c2 A3 c3 A4 c4, .int .i64 lv] w (RetB (GS x lv) w)
theorem rstmts_l (l : List S43) (ih : ∀ y ∈ l, RsC y) (lv : Int) (A : Option Addr) (c : Nat) (w : World) (h0 : 0 ≤ lv) (h25 : lv ≤ 25) (hR : Kd.C k43 w A l.length l) : Calls Tryd.prog 44 #[.slice A l.length c, .int .i64 lv] w (RetB (GSs l lv) w) := by
  obtain ⟨P, E⟩ := name_it (GSs l lv)
  refine Calls.mono (R := RetB P w) ?_ fun e w' h => h.iff E.out
  replace E := Aside0.mk (E.out.trans (GSs_iff l lv))
  have HR := Aside0.mk hR
  have IH := Aside0.mk ih
  clear hR ih
  go_enter Tryd.func44, Tryd.ntmps44
  go_wp2
  go_loopg [5] l.length (fun n v5 wr => ∃ j : Nat, v5 = .int .i64 j ∧ Aside0 (n + j = l.length ∧ ∀ s ∈ l.take j, GS s lv) ∧ Aside0 (Below w.heap.size w wr))
  case atStart => exact ⟨0, rfl, ⟨by simp, by simp⟩, ⟨brefl _⟩⟩
  case round =>
    obtain ⟨j, rfl, HJ, HB⟩ := hrel
    by_cases hj : j < l.length
    · obtain ⟨ad, pb, po, A2, c2, A3, c3, A4, c4, x, rfl, ea, hlt, x0, x1, x2, x3, x4, hx, p0, q0, ej⟩ := el43 (Kd.C_below HR.out HB.out) hj
      go_wp2_with (go_at_call 73; go_loud (refine (IH.out x (mem_of hx.out.1) lv A2 c2 A3 c3 A4 c4 _ h0 h25 hx.out.2).mono ?_); rintro e w' ⟨b, rfl, hb, hB⟩; have HB' := Aside0.mk (bstep HB.out hB); have HE := Aside0.mk hb; clear hB hb; cases b)
      · go_ret
        exact RetB.no (fun p => absurd (HE.out.mpr (E.out.mp p x (mem_of hx.out.1))) (by decide)) HB'.out
      · go_roundg (l.length - (j + 1))
        case measure => have := HJ.out; omega
        case rel => exact ⟨j + 1, (by first | exact congrArg _ ej | rfl), ⟨by omega, all_more hx.out.1 HJ.out.2 (HE.out.mp (by trivial))⟩, HB'⟩
    · go_wp2
      go_ret
      exact RetB.yes (E.out.mpr (all_end hj HJ.out.2)) HB.out
theorem rstmt_c (x : S43) (hx : OkS x) : RsC x := by
  induction hx with
  | mk x _ hE _ _ _ _ ih3 ih4 =>
    intro lv A2 c2 A3 c3 A4 c4 w h0 h25 hI
    obtain ⟨P, E⟩ := name_it (GS x lv)
    refine Calls.mono (R := RetB P w) ?_ fun e w' h => h.iff E.out
    replace E := Aside0.mk (E.out.trans (GS_eq x lv))
    obtain ⟨f0, f1, l, t, f⟩ := x
    obtain ⟨n3, h3⟩ : ∃ n, n = t.length := ⟨_, rfl⟩
    obtain ⟨n4, h4⟩ : ∃ n, n = f.length := ⟨_, rfl⟩
    show Calls Tryd.prog 73 #[.agg #[.int .i64 f0, .string f1, .slice A2 l.length c2, .slice A3 t.length c3, .slice A4 f.length c4], .int .i64 lv] w (RetB P w)
    replace E : Aside0 (P ↔ lv ≤ 24 ∧ FormS f0 f1 l.length t.length f.length ∧ GEs l (lv + 1) ∧ GSs t (lv + 1) ∧ GSs f (lv + 1)) := E
    rw [← h3, ← h4]
    rw [← h3, ← h4] at E
    have Z3 : Aside0 (n3 = 0 → GSs t (lv + 1)) := ⟨fun h => by rw [List.length_eq_zero_iff.mp (h3.symm.trans h)]; simp [GSs]⟩
    have Z4 : Aside0 (n4 = 0 → GSs f (lv + 1)) := ⟨fun h => by rw [List.length_eq_zero_iff.mp (h4.symm.trans h)]; simp [GSs]⟩
    by_cases h24 : lv ≤ 24
    · have K := Aside0.mk (fun w' => isName_c f1 w')
      have X2 : Aside0 (∀ w', Below w.heap.size w w' → Calls Tryd.prog 52 #[.slice A2 l.length c2, .int .i64 (lv + 1)] w' (RetB (GEs l (lv + 1)) w')) := ⟨fun w' h => rexprs_l l (fun y hy => rexpr_c y (hE y hy)) (lv + 1) A2 c2 w' (by omega) (by omega) (Kd.C_below hI.1.2 h)⟩
      have X3 : Aside0 (∀ w', Below w.heap.size w w' → ∀ n, n = n3 → Calls Tryd.prog 44 #[.slice A3 n c3, .int .i64 (lv + 1)] w' (RetB (GSs t (lv + 1)) w')) := ⟨fun w' h n hn => by subst hn; rw [h3]; exact rstmts_l t ih3 (lv + 1) A3 c3 w' (by omega) (by omega) (Kd.C_below hI.2.1.2 h)⟩
      have X4 : Aside0 (∀ w', Below w.heap.size w w' → ∀ n, n = n4 → Calls Tryd.prog 44 #[.slice A4 n c4, .int .i64 (lv + 1)] w' (RetB (GSs f (lv + 1)) w')) := ⟨fun w' h n hn => by subst hn; rw [h4]; exact rstmts_l f ih4 (lv + 1) A4 c4 w' (by omega) (by omega) (Kd.C_below hI.2.2.2 h)⟩
      have l24 : (24 < lv) = False := eq_false (by omega)
      clear ih3 ih4 hE hI h3 h4
      by_cases k : 1 ≤ f0 ∧ f0 ≤ 7
      · have : f0 = 1 ∨ f0 = 2 ∨ f0 = 3 ∨ f0 = 4 ∨ f0 = 5 ∨ f0 = 6 ∨ f0 = 7 := by omega
        clear k
        rcases this with rfl | rfl | rfl | rfl | rfl | rfl | rfl
        all_goals (go_enter Tryd.func73, Tryd.ntmps73)
        all_goals go_wp2_with (first | (go_at_call 43; refine (K.out _).mono ?_; rintro e w1 ⟨b, rfl, hb, hB⟩; have HB := Aside0.mk (bstep (balloc (brefl w) _) hB); have HE := Aside0.mk hb; have q0 := box_up hB 0 _ rfl; have q2 := box_up hB 2 _ rfl; have q3 := box_up hB 3 _ rfl; have q4 := box_up hB 4 _ rfl; clear hB hb; cases b) | (go_at_call 52; (with_reducible refine (X2.out _ HB.out).mono ?_); rintro e w2 ⟨b, rfl, hb, hB⟩; have HB2 := Aside0.mk (bstep HB.out hB); have HE2 := Aside0.mk hb; have r3 := cell_up hB q3; have r4 := cell_up hB q4; clear hB hb; cases b) | (go_at_call 52; (with_reducible refine (X2.out _ (balloc (brefl _) _)).mono ?_); rintro e w2 ⟨b, rfl, hb, hB⟩; have HB2 := Aside0.mk (bstep (balloc (brefl w) _) hB); have HE2 := Aside0.mk hb; have r3 := box_up hB 3 _ rfl; have r4 := box_up hB 4 _ rfl; clear hB hb; cases b) | (go_at_call 44; (with_reducible refine (X3.out _ HB2.out _ (by omega)).mono ?_); rintro e w3 ⟨b, rfl, hb, hB⟩; have HB3 := Aside0.mk (bstep HB2.out hB); have HE3 := Aside0.mk hb; have s4 := cell_up hB r4; clear hB hb; cases b) | (go_at_call 44; (with_reducible refine (X4.out _ HB3.out _ (by omega)).mono ?_); rintro e w4 ⟨b, rfl, hb, hB⟩; have HB4 := Aside0.mk (bstep HB3.out hB); have HE4 := Aside0.mk hb; clear hB hb))
        all_goals go_ret
        all_goals refine ⟨_, rfl, ?_, by first | exact HB4.out | exact HB3.out | exact HB2.out | exact HB.out | exact balloc (brefl _) _⟩
        all_goals (rw [E.out]; (try have he := HE.out); (try simp at he); (try have he2 := HE2.out); (try simp at he2); (try have he3 := HE3.out); (try simp at he3); (try have he4 := HE4.out); (try clear q0 q2 q3 q4); (try clear r3 r4); (try clear s4); (try clear HE HB); (try clear HE2 HB2); (try clear HE3 HB3); (try clear HE4 HB4); have z3 := Z3.out; have z4 := Z4.out; clear E K X2 X3 X4 Z3 Z4; simp_all [FormS, nmS, arS, noName_iff, GEs_nil, GSs_nil])
        all_goals first | omega | (intro h; have := nameNe h; simp_all)
      · have e1 : ∀ i : Int, 1 ≤ i → i ≤ 7 → (f0 == i) = false := fun i h h' => beqI (by omega)
        have n1 : (f0 != 4) = true := by simp; omega
        have n6 : (f0 != 5) = true := by simp; omega
        have g1 := e1 1 (by decide) (by decide)
        have g2 := e1 2 (by decide) (by decide)
        have g3 := e1 3 (by decide) (by decide)
        have g4 := e1 4 (by decide) (by decide)
        have g5 := e1 5 (by decide) (by decide)
        have g6 := e1 6 (by decide) (by decide)
        have g7 := e1 7 (by decide) (by decide)
        have HN := Aside0.mk (show ¬ P from fun p => by have h : arS f0 l.length := (E.out.mp p).2.1.2.2.2; unfold arS at h; omega)
        clear e1 k
        go_enter Tryd.func73, Tryd.ntmps73
        go_wp2
        all_goals go_ret
        all_goals exact RetB.no HN.out (balloc (brefl _) _)
    · have l24 : (24 < lv) = True := eq_true (by omega)
      clear ih3 ih4 hE hI h3 h4
      go_enter Tryd.func73, Tryd.ntmps73
      go_wp2
      go_ret
      exact RetB.no (fun p => by have := (E.out.mp p).1; omega) (balloc (brefl _) _)
end Go.Proofs.YthnhdompfhkepaaDoor.Pure
