/- SyntaxRight: the law function answers true. -/
import Derived.Test.YthnhdompfhkepaaDoorCAwake
import Derived.Test.YthnhdompfhkepaaDoorRRightP
import Derived.Test.YthnhdompfhkepaaDoorRFew
namespace Go.Proofs.YthnhdompfhkepaaDoor.Pure
open Go Go.RowKit Go.Proofs.YthnhdompfhkepaaDoor.Q Go.Proofs.YthnhdompfhkepaaDoorW.PrintWords Go.Proofs.YthnhdompfhkepaaDoorW.PrintLast Go.Proofs.YthnhdompfhkepaaDoorW.PrintMore
set_option linter.unusedSimpArgs false
set_option linter.unusedVariables false
set_option maxHeartbeats 8000000
set_option maxRecDepth 100000
theorem bool_of (p : Prop) : ∃ b : Bool, b = true ↔ p := by
  by_cases h : p
  · exact ⟨true, by simp [h]⟩
  · exact ⟨false, by simp [h]⟩
theorem RetB.fix {p : Prop} {b : Bool} (h : b = true ↔ p) {w w' : World} {e : Ending} (k : RetB p w e w') : e = .returned (.bool b) ∧ Below w.heap.size w w' := by
  obtain ⟨c, e1, e2, e3⟩ := k
  have : c = b := by rw [Bool.eq_iff_iff, e2, h]
  exact ⟨by rw [e1, this], e3⟩
theorem three_up {B w w1 : World} {p q r : Addr} {u v x : Value} (h : w.cell? p = some u ∧ w.cell? q = some v ∧ w.cell? r = some x ∧ Aside0 (Below B.heap.size B w)) (k : Aside0 (Below w.heap.size w w1)) : w1.cell? p = some u ∧ w1.cell? q = some v ∧ w1.cell? r = some x ∧ Aside0 (Below B.heap.size B w1) := ⟨cell_up k.out h.1, cell_up k.out h.2.1, cell_up k.out h.2.2.1, ⟨bstep h.2.2.2.out k.out⟩⟩
theorem syntaxRight_c {v : List ByteArray} {a : List S59} {f : List S45} (hp : OkP v a f) (A0 : Option Addr) (c0 : Nat) (A1 : Option Addr) (c1 : Nat) (A2 : Option Addr) (c2 : Nat) (w : World) (hI : InP w v a f A0 c0 A1 c1 A2 c2) (hT : Ext.TAB w) :
    Calls Tryd.prog 4 #[vP v a f A0 c0 A1 c1 A2 c2] w (fun e w' => e = .returned (.bool true) ∧ Below w.heap.size w w') := by
  obtain ⟨b0, hb0⟩ := bool_of (GP v a f)
  have F := Aside0.mk (fun w' (h : Below w.heap.size w w') => few_c hp 400 (by decide) (by decide) A0 c0 A1 c1 A2 c2 w' (hI.up h))
  have R1 := Aside0.mk (fun w' (h : Below w.heap.size w w') => (right_c hp A0 c0 A1 c1 A2 c2 w' (hI.up h) (Ext.TAB.below hT h)).mono fun e w'' k => k.fix hb0)
  have R2 := Aside0.mk (fun w' (h : Below w.heap.size w w') => (rright_c hp A0 c0 A1 c1 A2 c2 w' (hI.up h)).mono fun e w'' k => k.fix hb0)
  have HT := Aside0.mk hT
  clear hp hI hT hb0
  go_enter Tryd.func4, Tryd.ntmps4
  go_wp2_with (first | (go_at_call 14; go_loud (refine (awake_c _ (Ext.TAB.below HT.out (balloc (brefl _) _))).mono ?_); rintro e w1 ⟨rfl, hB⟩; have HB1 := Aside0.mk hB; have q0 := box_up hB 0 _ rfl; have q1 := box_up hB 1 _ rfl; have q2 := box_up hB 2 _ rfl; clear hB) | (go_at_call 15; go_loud (refine (F.out _ (bstep (balloc (brefl _) _) HB1.out)).mono ?_); rintro e w2 ⟨b, rfl, hb, hB⟩; have HB2 := Aside0.mk (bstep HB1.out hB); replace q0 := cell_up hB q0; replace q1 := cell_up hB q1; replace q2 := cell_up hB q2; clear hB hb; cases b))
  · go_ret
    exact ⟨rfl, bstep (balloc (brefl _) _) HB2.out⟩
  · have HW := Aside0.mk (bdrew (bstep (balloc (brefl w) _) HB2.out))
    go_region_held3 (fun w' => w'.cell? ⟨w.heap.size, 0, none⟩ = some (.slice A0 v.length c0) ∧ w'.cell? ⟨w.heap.size, 1, none⟩ = some (.slice A1 a.length c1) ∧ w'.cell? ⟨w.heap.size, 2, none⟩ = some (.slice A2 f.length c2) ∧ Aside0 (Below w.heap.size w w')) (first | exact ⟨q0, q1, q2, HW⟩ | exact three_up (by assumption) (by assumption))
      (first | (go_at_call 16; (with_reducible refine (R1.out _ HW.out).mono ?_); rintro e w3 ⟨rfl, hB⟩; have HK := Aside0.mk hB; have HW3 := Aside0.mk (bstep HW.out hB); clear hB) | (go_at_call 17; (with_reducible refine (R2.out _ HW3.out).mono ?_); rintro e w4 ⟨rfl, hB⟩; have HK4 := Aside0.mk hB; have HW4 := Aside0.mk (bstep HW3.out hB); clear hB))
    go_wp2
    go_ret
    exact ⟨by simp, HW4.out⟩
end Go.Proofs.YthnhdompfhkepaaDoor.Pure
