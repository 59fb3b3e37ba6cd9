/- syntax.exprForm, stmtForm: forms of expressions and statements. -/
import Derived.Test.YthnhdompfhkepaaDoorCName
import Derived.Test.YthnhdompfhkepaaDoorCPred
namespace Go.Proofs.YthnhdompfhkepaaDoor.Pure
open Go Go.RowKit Go.Proofs.YthnhdompfhkepaaDoor.Q Go.Proofs.YthnhdompfhkepaaDoorW.PrintWords Go.Proofs.YthnhdompfhkepaaDoorW.PrintLast Go.Proofs.YthnhdompfhkepaaDoorW.PrintMore
set_option linter.unusedSimpArgs false
set_option linter.unusedVariables false
set_option maxHeartbeats 8000000
set_option maxRecDepth 100000
theorem exprForm_c (f0 f1 f2 : Int) (f3 : ByteArray) (n : Nat) (A : Option Addr) (c : Nat) (w : World) (hT : Ext.TAB w) :
    Calls Tryd.prog 90 #[.agg #[.int .i64 f0, .int .i64 f1, .int .u32 f2, .string f3, .slice A n c]] w (RetB (FormE f0 f1 f2 f3 n) w) := by
  obtain ⟨P, E⟩ := name_it (FormE f0 f1 f2 f3 n)
  refine Calls.mono (R := RetB P w) ?_ fun e w' h => h.iff E.out
  have K : Aside0 (∀ w', Below w.heap.size w w' → Calls Tryd.prog 40 #[.string f3] w' (RetB (NameOk f3) w')) := ⟨fun w' h => name_c f3 w' (Ext.TAB.below hT h)⟩
  clear hT
  by_cases k : 1 ≤ f0 ∧ f0 ≤ 9
  · have : f0 = 1 ∨ f0 = 2 ∨ f0 = 3 ∨ f0 = 4 ∨ f0 = 5 ∨ f0 = 6 ∨ f0 = 7 ∨ f0 = 8 ∨ f0 = 9 := by omega
    clear k
    rcases this with rfl | rfl | rfl | rfl | rfl | rfl | rfl | rfl | rfl
    all_goals (go_enter Tryd.func90, Tryd.ntmps90)
    all_goals go_wp2_with (go_at_call 40; refine (K.out _ (balloc (brefl _) _)).mono ?_; rintro e w' ⟨b, rfl, hb, hB⟩; have HB := Aside0.mk (bstep (balloc (brefl w) _) hB); have HE := Aside0.mk hb; have q0 := box_up hB 0 _ rfl; have q1 := box_up hB 1 _ rfl; clear hB hb; cases b)
    all_goals go_ret
    all_goals refine ⟨_, rfl, ?_, by first | exact HB.out | exact balloc (brefl _) _⟩
    all_goals (rw [E.out]; (try have he := HE.out); (try simp at he); (try clear HE HB q0 q1); clear E K; simp_all [FormE, nmE, arE, noName_iff])
    all_goals try omega
  · have e1 : ∀ i : Int, 1 ≤ i → i ≤ 9 → (f0 == i) = false := fun i h h' => beqI (by omega)
    have n1 : (f0 != 1) = true := by simp; omega
    have n6 : (f0 != 6) = true := by simp; omega
    have g1 := e1 1 (by decide) (by decide)
    have g2 := e1 2 (by decide) (by decide)
    have g3 := e1 3 (by decide) (by decide)
    have g4 := e1 4 (by decide) (by decide)
    have g5 := e1 5 (by decide) (by decide)
    have g6 := e1 6 (by decide) (by decide)
    have g7 := e1 7 (by decide) (by decide)
    have g8 := e1 8 (by decide) (by decide)
    have g9 := e1 9 (by decide) (by decide)
    have HN := Aside0.mk (show ¬ P from fun p => by have h := (E.out.mp p).2.2.2; unfold arE at h; omega)
    clear e1 k
    go_enter Tryd.func90, Tryd.ntmps90
    go_wp2
    all_goals go_ret
    all_goals exact RetB.no HN.out (balloc (brefl _) _)
theorem stmtForm_c (f0 : Int) (f1 : ByteArray) (n2 n3 n4 : Nat) (A2 : Option Addr) (c2 : Nat) (A3 : Option Addr) (c3 : Nat) (A4 : Option Addr) (c4 : Nat) (w : World) (hT : Ext.TAB w) :
    Calls Tryd.prog 69 #[.agg #[.int .i64 f0, .string f1, .slice A2 n2 c2, .slice A3 n3 c3, .slice A4 n4 c4]] w (RetB (FormS f0 f1 n2 n3 n4) w) := by
  obtain ⟨P, E⟩ := name_it (FormS f0 f1 n2 n3 n4)
  refine Calls.mono (R := RetB P w) ?_ fun e w' h => h.iff E.out
  have K : Aside0 (∀ w', Below w.heap.size w w' → Calls Tryd.prog 40 #[.string f1] w' (RetB (NameOk f1) w')) := ⟨fun w' h => name_c f1 w' (Ext.TAB.below hT h)⟩
  clear hT
  by_cases k : 1 ≤ f0 ∧ f0 ≤ 7
  · have : f0 = 1 ∨ f0 = 2 ∨ f0 = 3 ∨ f0 = 4 ∨ f0 = 5 ∨ f0 = 6 ∨ f0 = 7 := by omega
    clear k
    rcases this with rfl | rfl | rfl | rfl | rfl | rfl | rfl
    all_goals (go_enter Tryd.func69, Tryd.ntmps69)
    all_goals go_wp2_with (go_at_call 40; refine (K.out _ (balloc (brefl _) _)).mono ?_; rintro e w' ⟨b, rfl, hb, hB⟩; have HB := Aside0.mk (bstep (balloc (brefl w) _) hB); have HE := Aside0.mk hb; have q0 := box_up hB 0 _ rfl; have q3 := box_up hB 3 _ rfl; have q4 := box_up hB 4 _ rfl; clear hB hb; cases b)
    all_goals go_ret
    all_goals refine ⟨_, rfl, ?_, by first | exact HB.out | exact balloc (brefl _) _⟩
    all_goals (rw [E.out]; (try have he := HE.out); (try simp at he); (try clear HE HB q0 q3 q4); clear E K; simp_all [FormS, nmS, arS, noName_iff])
    all_goals try omega
  · have e1 : ∀ i : Int, 1 ≤ i → i ≤ 7 → (f0 == i) = false := fun i h h' => beqI (by omega)
    have n1 : (f0 != 4) = true := by simp; omega
    have n6 : (f0 != 5) = true := by simp; omega
    have g1 := e1 1 (by decide) (by decide)
    have g2 := e1 2 (by decide) (by decide)
    have g3 := e1 3 (by decide) (by decide)
    have g4 := e1 4 (by decide) (by decide)
    have g5 := e1 5 (by decide) (by decide)
    have g6 := e1 6 (by decide) (by decide)
    have g7 := e1 7 (by decide) (by decide)
    have HN := Aside0.mk (show ¬ P from fun p => by have h := (E.out.mp p).2.2.2; unfold arS at h; omega)
    clear e1 k
    go_enter Tryd.func69, Tryd.ntmps69
    go_wp2
    all_goals go_ret
    all_goals exact RetB.no HN.out (balloc (brefl _) _)
end Go.Proofs.YthnhdompfhkepaaDoor.Pure
