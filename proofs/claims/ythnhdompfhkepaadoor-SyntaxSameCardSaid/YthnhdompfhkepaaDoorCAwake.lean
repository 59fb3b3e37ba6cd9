/- awake answers true. -/
import Derived.Test.YthnhdompfhkepaaDoorCAwakeP
namespace Go.Proofs.YthnhdompfhkepaaDoor.Pure
open Go Go.RowKit Go.Proofs.YthnhdompfhkepaaDoor.Q Go.Proofs.YthnhdompfhkepaaDoorW.PrintWords Go.Proofs.YthnhdompfhkepaaDoorW.PrintLast Go.Proofs.YthnhdompfhkepaaDoorW.PrintMore
set_option linter.unusedSimpArgs false
set_option linter.unusedVariables false
set_option maxHeartbeats 8000000
set_option maxRecDepth 100000
theorem gen_world {P : Program} {f : FuncId} {args : Array Value} {w0 : World} {R : Ending → World → Prop} {Fa : World → Prop} (h0 : Fa w0) (h : ∀ W, Fa W → Calls P f args W R) : Calls P f args w0 R := h _ h0
theorem alloc_at {w : World} {o : Obj} {n : Nat} (h : n = w.heap.size) : (w.alloc o).heap[n]? = some o := by subst h; exact blk_new _ _
theorem alloc_past {w : World} {o o' : Obj} {n : Nat} (h : w.heap[n]? = some o) : (w.alloc o').heap[n]? = some o := by
  rw [Below.heap_alloc _ _ _ (Array.getElem?_eq_some_iff.1 h).1]; exact h
theorem awake_c (w : World) (hT : Ext.TAB w) : Calls Tryd.prog 14 #[] w (fun e w' => e = .returned (.bool true) ∧ Below w.heap.size w w') := by
  have HT := Aside0.mk hT
  clear hT
  go_enter Tryd.func14, Tryd.ntmps14
  go_wp2_with fail
  refine gen_world (Fa := Aw w) ?_ fun W hA => ?_
  · refine Aw.of (by repeat (first | exact brefl _ | apply balloc)) ?_ ?_ ?_ ?_ ?_ ?_ ?_ ?_ ?_
    all_goals (repeat (first | (refine alloc_at ?_; simp; done) | apply alloc_past))
  have tr : ∀ {p : Prop} {w' w''} {e : Ending}, p → RetB p w' e w'' → e = .returned (.bool true) ∧ Below w'.heap.size w' w'' := fun hp ⟨b, h1, h2, h3⟩ => ⟨by rw [h1, h2.mpr hp], h3⟩
  have fa : ∀ {p : Prop} {w' w''} {e : Ending}, ¬ p → RetB p w' e w'' → e = .returned (.bool false) ∧ Below w'.heap.size w' w'' := fun hp ⟨b, h1, h2, h3⟩ => ⟨by rw [h1, Bool.eq_false_iff.mpr fun hb => hp (h2.mp hb)], h3⟩
  have R1 : Aside0 (∀ w', Aw w w' → Calls Tryd.prog 16 #[.agg #[.slice (some ⟨w.heap.size + 1 + 1 + 1 + 1, 0, none⟩) 1 1, .slice none 0 0, .slice (some ⟨w.heap.size + 1 + 1 + 1 + 1 + 1 + 1 + 1, 0, none⟩) 1 1]] w' fun e w'' => e = Ending.returned (.bool true) ∧ Below w'.heap.size w' w'') := ⟨fun w' h => (right_c (okP xV (by decide)) _ _ _ _ _ _ w' h.inP (Ext.TAB.below HT.out h.below)).mono fun e w'' => tr gpP⟩
  have R2 : Aside0 (∀ w', Aw w w' → Calls Tryd.prog 16 #[.agg #[.slice (some ⟨w.heap.size + 1 + 1 + 1 + 1 + 1 + 1 + 1 + 1 + 1, 0, none⟩) 1 1, .slice none 0 0, .slice (some ⟨w.heap.size + 1 + 1 + 1 + 1 + 1 + 1 + 1, 0, none⟩) 1 1]] w' fun e w'' => e = Ending.returned (.bool false) ∧ Below w'.heap.size w' w'') := ⟨fun w' h => (right_c (okP xW (by decide)) _ _ _ _ _ _ w' h.inQ (Ext.TAB.below HT.out h.below)).mono fun e w'' => fa gpQ⟩
  have R3 : Aside0 (∀ w', Aw w w' → Calls Tryd.prog 16 #[.agg #[.slice none 0 0, .slice none 0 0, .slice none 0 0]] w' fun e w'' => e = Ending.returned (.bool false) ∧ Below w'.heap.size w' w'') := ⟨fun w' h => (right_c okN none 0 none 0 none 0 w' ⟨⟨Nat.le_refl _, Kd.C_nil _ _⟩, ⟨Nat.le_refl _, Kd.C_nil _ _⟩, Nat.le_refl _, Kd.C_nil _ _⟩ (Ext.TAB.below HT.out h.below)).mono fun e w'' => fa gpN⟩
  have R4 : Aside0 (∀ w', Aw w w' → Calls Tryd.prog 19 #[.agg #[.slice (some ⟨w.heap.size + 1 + 1 + 1 + 1, 0, none⟩) 1 1, .slice none 0 0, .slice (some ⟨w.heap.size + 1 + 1 + 1 + 1 + 1 + 1 + 1, 0, none⟩) 1 1]] w' fun e w'' => e = Ending.returned (.int .i64 6) ∧ Below w'.heap.size w' w'') := ⟨fun w' h => (size_c (okP xV (by decide)) (by rw [sizeP]; decide) _ _ _ _ _ _ w' h.inP).mono fun e w'' h => ⟨by rw [h.1, sizeP]; rfl, h.2⟩⟩
  have R5 : Aside0 (∀ w', Aw w w' → Calls Tryd.prog 24 #[.agg #[.int .i64 6, .int .i64 4, .int .u32 0, .string ⟨#[]⟩, .slice (some ⟨w.heap.size + 1 + 1, 0, none⟩) 2 2]] w' fun e w'' => e = Ending.returned (.string ⟨#[40, 49, 32, 43, 32, 97, 41]⟩) ∧ Below w'.heap.size w' w'') := ⟨fun w' h => (exprT_c xE reE (by decide) _ _ w' h.inE (Ext.TAB.below HT.out h.below)).mono fun e w'' h => ⟨by rw [h.1, textE], h.2⟩⟩
  have R6 : Aside0 (∀ w', Aw w w' → Calls Tryd.prog 12 #[.agg #[.slice (some ⟨w.heap.size + 1 + 1 + 1 + 1, 0, none⟩) 1 1, .slice none 0 0, .slice (some ⟨w.heap.size + 1 + 1 + 1 + 1 + 1 + 1 + 1, 0, none⟩) 1 1]] w' fun e w'' => e = Ending.returned (.string ⟨#[118, 97, 114, 32, 97, 59, 10, 102, 117, 110, 99, 32, 109, 97, 105, 110, 40, 41, 32, 123, 10, 32, 32, 112, 117, 116, 40, 40, 49, 32, 43, 32, 97, 41, 41, 59, 10, 125, 10]⟩) ∧ Below w'.heap.size w' w'') := ⟨fun w' h => (print_c (RP_of (okP xV (by decide)) gpP) (by rw [sizeP]; decide) _ _ _ _ _ _ w' h.inP (Ext.TAB.below HT.out h.below)).mono fun e w'' h => ⟨by rw [h.1, textP], h.2⟩⟩
  have R7 : Aside0 (∀ w', Aw w w' → Calls Tryd.prog 13 #[.agg #[.slice (some ⟨w.heap.size + 1 + 1 + 1 + 1, 0, none⟩) 1 1, .slice none 0 0, .slice (some ⟨w.heap.size + 1 + 1 + 1 + 1 + 1 + 1 + 1, 0, none⟩) 1 1], .agg #[.slice (some ⟨w.heap.size + 1 + 1 + 1 + 1 + 1 + 1 + 1 + 1 + 1, 0, none⟩) 1 1, .slice none 0 0, .slice (some ⟨w.heap.size + 1 + 1 + 1 + 1 + 1 + 1 + 1, 0, none⟩) 1 1]] w' fun e w'' => e = Ending.returned (.bool false) ∧ Below w'.heap.size w' w'') := ⟨fun w' h => (same_c (okP xV (by decide)) _ _ _ _ _ _ _ _ _ _ _ _ _ _ _ w' h.inP h.inQ).mono fun e w'' => fa notSame⟩
  clear tr fa
  have H0 := Aside0.mk hA
  have q0 := hA.q0
  have q1 := hA.q1
  have q2 := hA.q2
  clear hA
  have HT' := HT
  go_at_call 16
  refine (R1.out _ H0.out).mono ?_
  rintro e w1 ⟨rfl, hB⟩
  have H1 := Aside0.mk (H0.out.up hB)
  replace q0 := H1.out.q0
  replace q1 := H1.out.q1
  replace q2 := H1.out.q2
  clear hB
  go_wp2_with (first | (go_at_call 16; (with_reducible refine (R2.out _ H1.out).mono ?_); rintro e w2 ⟨rfl, hB⟩; have H2 := Aside0.mk (H1.out.up hB); clear hB) | (go_at_call 16; (with_reducible refine (R3.out _ H2.out).mono ?_); rintro e w3 ⟨rfl, hB⟩; have H3 := Aside0.mk (H2.out.up hB); have p0 := H3.out.p0; have p1 := H3.out.p1; have p2 := H3.out.p2; clear hB) | (go_at_call 19; (with_reducible refine (R4.out _ H3.out).mono ?_); rintro e w4 ⟨rfl, hB⟩; have H4 := Aside0.mk (H3.out.up hB); have e0 := H4.out.e0; have e1 := H4.out.e1; have e2 := H4.out.e2; have e3 := H4.out.e3; have e4 := H4.out.e4; clear hB) | (go_at_call 24; (with_reducible refine (R5.out _ H4.out).mono ?_); rintro e w5 ⟨rfl, hB⟩; have H5 := Aside0.mk (H4.out.up hB); have p0 := H5.out.p0; have p1 := H5.out.p1; have p2 := H5.out.p2; clear hB) | (go_at_call 12; (with_reducible refine (R6.out _ H5.out).mono ?_); rintro e w6 ⟨rfl, hB⟩; have H6 := Aside0.mk (H5.out.up hB); have p0 := H6.out.p0; have p1 := H6.out.p1; have p2 := H6.out.p2; have q0 := H6.out.q0; have q1 := H6.out.q1; have q2 := H6.out.q2; clear hB) | (go_at_call 13; (with_reducible refine (R7.out _ H6.out).mono ?_); rintro e w7 ⟨rfl, hB⟩; have H7 := Aside0.mk (H6.out.up hB); clear hB))
  go_ret
  exact ⟨rfl, H7.out.below⟩
end Go.Proofs.YthnhdompfhkepaaDoor.Pure
