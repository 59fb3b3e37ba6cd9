/- SyntaxSame: the law function answers true. -/
import Derived.Test.YthnhdompfhkepaaDoorCAwake
import Derived.Test.YthnhdompfhkepaaDoorRSameP
import Derived.Test.YthnhdompfhkepaaDoorRFew
namespace Go.Proofs.YthnhdompfhkepaaDoor.Pure
open Go Go.RowKit Go.Proofs.YthnhdompfhkepaaDoor.Q Go.Proofs.YthnhdompfhkepaaDoorW.PrintWords Go.Proofs.YthnhdompfhkepaaDoorW.PrintLast Go.Proofs.YthnhdompfhkepaaDoorW.PrintMore
set_option linter.unusedSimpArgs false
set_option linter.unusedVariables false
set_option maxHeartbeats 8000000
set_option maxRecDepth 100000
theorem RetB.fixS {p : Prop} {b : Bool} (h : b = true ↔ p) {w w' : World} {e : Ending} (k : RetB p w e w') : e = .returned (.bool b) ∧ Below w.heap.size w w' := by
  obtain ⟨c, e1, e2, e3⟩ := k
  have : c = b := by rw [Bool.eq_iff_iff, e2, h]
  exact ⟨by rw [e1, this], e3⟩
theorem six_upS {B w w1 : World} {p q r p' q' r' : Addr} {u v x u' v' x' : Value} (h : w.cell? p = some u ∧ w.cell? q = some v ∧ w.cell? r = some x ∧ w.cell? p' = some u' ∧ w.cell? q' = some v' ∧ w.cell? r' = some x' ∧ Aside0 (Below B.heap.size B w)) (k : Aside0 (Below w.heap.size w w1)) : w1.cell? p = some u ∧ w1.cell? q = some v ∧ w1.cell? r = some x ∧ w1.cell? p' = some u' ∧ w1.cell? q' = some v' ∧ w1.cell? r' = some x' ∧ Aside0 (Below B.heap.size B w1) := ⟨cell_up k.out h.1, cell_up k.out h.2.1, cell_up k.out h.2.2.1, cell_up k.out h.2.2.2.1, cell_up k.out h.2.2.2.2.1, cell_up k.out h.2.2.2.2.2.1, ⟨bstep h.2.2.2.2.2.2.out k.out⟩⟩
theorem syntaxSame_c {v : List ByteArray} {a : List S59} {f : List S45} (hp : OkP v a f) (A0 : Option Addr) (c0 : Nat) (A1 : Option Addr) (c1 : Nat) (A2 : Option Addr) (c2 : Nat) {v' : List ByteArray} {a' : List S59} {f' : List S45} (hq : OkP v' a' f') (B0 : Option Addr) (d0 : Nat) (B1 : Option Addr) (d1 : Nat) (B2 : Option Addr) (d2 : Nat) (w : World) (hI : InP w v a f A0 c0 A1 c1 A2 c2) (hJ : InP w v' a' f' B0 d0 B1 d1 B2 d2) (hT : Ext.TAB w) :
    Calls Tryd.prog 5 #[vP v a f A0 c0 A1 c1 A2 c2, vP v' a' f' B0 d0 B1 d1 B2 d2] w (fun e w' => e = .returned (.bool true) ∧ Below w.heap.size w w') := by
  obtain ⟨s, hs⟩ := bool_is (v = v' ∧ a = a' ∧ f = f')
  have hs' : s = true ↔ (v' = v ∧ a' = a ∧ f' = f) := by rw [hs]; constructor <;> (rintro ⟨h1, h2, h3⟩; exact ⟨h1.symm, h2.symm, h3.symm⟩)
  have F1 := Aside0.mk (fun w' (h : Below w.heap.size w w') => few_c hp 400 (by decide) (by decide) A0 c0 A1 c1 A2 c2 w' (hI.up h))
  have F2 := Aside0.mk (fun w' (h : Below w.heap.size w w') => few_c hq 400 (by decide) (by decide) B0 d0 B1 d1 B2 d2 w' (hJ.up h))
  have S1 := Aside0.mk (fun w' (h : Below w.heap.size w w') => (same_c hp v' a' f' A0 c0 A1 c1 A2 c2 B0 d0 B1 d1 B2 d2 w' (hI.up h) (hJ.up h)).mono fun e w'' k => k.fixS hs)
  have S2 := Aside0.mk (fun w' (h : Below w.heap.size w w') => (rsame_c hp v' a' f' A0 c0 A1 c1 A2 c2 B0 d0 B1 d1 B2 d2 w' (hI.up h) (hJ.up h)).mono fun e w'' k => k.fixS hs)
  have S3 := Aside0.mk (fun w' (h : Below w.heap.size w w') => (same_c hq v a f B0 d0 B1 d1 B2 d2 A0 c0 A1 c1 A2 c2 w' (hJ.up h) (hI.up h)).mono fun e w'' k => k.fixS hs')
  have S5 := Aside0.mk (fun w' (h : Below w.heap.size w w') => (same_c hp v a f A0 c0 A1 c1 A2 c2 A0 c0 A1 c1 A2 c2 w' (hI.up h) (hI.up h)).mono fun e w'' k => k.fixS (b := true) (by simp))
  have HT := Aside0.mk hT
  clear hp hq hI hJ hT hs hs'
  go_enter Tryd.func5, Tryd.ntmps5
  go_wp2_with (first | (go_at_call 14; go_loud (refine (awake_c _ (Ext.TAB.below HT.out (balloc (balloc (brefl _) _) _))).mono ?_); rintro e w1 ⟨rfl, hB⟩; have HB1 := Aside0.mk hB; have q0 := box1_up hB 0 _ rfl; have q1 := box1_up hB 1 _ rfl; have q2 := box1_up hB 2 _ rfl; have r0 := box2_up hB 0 _ rfl; have r1 := box2_up hB 1 _ rfl; have r2 := box2_up hB 2 _ rfl; clear hB) | (go_at_call 15; (with_reducible refine (F1.out _ (bstep (balloc (balloc (brefl _) _) _) HB1.out)).mono ?_); rintro e w2 ⟨b, rfl, hb, hB⟩; have HB2 := Aside0.mk (bstep HB1.out hB); replace q0 := cell_up hB q0; replace q1 := cell_up hB q1; replace q2 := cell_up hB q2; replace r0 := cell_up hB r0; replace r1 := cell_up hB r1; replace r2 := cell_up hB r2; clear hB hb; cases b) | (go_at_call 15; (with_reducible refine (F2.out _ (bstep (balloc (balloc (brefl _) _) _) HB2.out)).mono ?_); rintro e w3 ⟨b, rfl, hb, hB⟩; have HB3 := Aside0.mk (bstep HB2.out hB); replace q0 := cell_up hB q0; replace q1 := cell_up hB q1; replace q2 := cell_up hB q2; replace r0 := cell_up hB r0; replace r1 := cell_up hB r1; replace r2 := cell_up hB r2; clear hB hb; cases b) | fail)
  · go_ret
    exact ⟨rfl, bstep (balloc (balloc (brefl _) _) _) HB2.out⟩
  · go_ret
    exact ⟨rfl, bstep (balloc (balloc (brefl _) _) _) HB3.out⟩
  · have HW := Aside0.mk (bdrew (bstep (balloc (balloc (brefl w) _) _) HB3.out))
    clear F1 F2 HB1 HB2 HB3
    cases s
    all_goals go_region_held3 (fun w' => w'.cell? ⟨w.heap.size, 0, none⟩ = some (.slice A0 v.length c0) ∧ w'.cell? ⟨w.heap.size, 1, none⟩ = some (.slice A1 a.length c1) ∧ w'.cell? ⟨w.heap.size, 2, none⟩ = some (.slice A2 f.length c2) ∧ w'.cell? ⟨w.heap.size + 1, 0, none⟩ = some (.slice B0 v'.length d0) ∧ w'.cell? ⟨w.heap.size + 1, 1, none⟩ = some (.slice B1 a'.length d1) ∧ w'.cell? ⟨w.heap.size + 1, 2, none⟩ = some (.slice B2 f'.length d2) ∧ Aside0 (Below w.heap.size w w')) (first | exact ⟨q0, q1, q2, r0, r1, r2, HW⟩ | exact six_upS (by assumption) (by assumption)) (first | (go_at_call 13; (with_reducible refine (S1.out _ HW.out).mono ?_); rintro e w6 ⟨rfl, hB⟩; have HX6 := Aside0.mk hB; have HW6 := Aside0.mk (bstep HW.out hB); clear hB) | (go_at_call 18; (with_reducible refine (S2.out _ HW6.out).mono ?_); rintro e w7 ⟨rfl, hB⟩; have HX7 := Aside0.mk hB; have HW7 := Aside0.mk (bstep HW6.out hB); clear hB) | (go_at_call 13; (with_reducible refine (S3.out _ HW7.out).mono ?_); rintro e w8 ⟨rfl, hB⟩; have HX8 := Aside0.mk hB; have HW8 := Aside0.mk (bstep HW7.out hB); clear hB) | (go_at_call 18; (with_reducible refine (S2.out _ HW8.out).mono ?_); rintro e w9 ⟨rfl, hB⟩; have HX9 := Aside0.mk hB; have HW9 := Aside0.mk (bstep HW8.out hB); clear hB) | (go_at_call 13; (with_reducible refine (S5.out _ HW9.out).mono ?_); rintro e w10 ⟨rfl, hB⟩; have HX10 := Aside0.mk hB; have HW10 := Aside0.mk (bstep HW9.out hB); clear hB) | fail)
    all_goals (go_wp2; go_ret; exact ⟨by first | rfl | simp, HW10.out⟩)
end Go.Proofs.YthnhdompfhkepaaDoor.Pure
