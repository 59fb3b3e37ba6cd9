/- SyntaxExpr: the law function answers true. -/
import Derived.Test.YthnhdompfhkepaaDoorCAwake
import Derived.Test.YthnhdompfhkepaaDoorRRight
import Derived.Test.YthnhdompfhkepaaDoorRFew
import Derived.Test.YthnhdompfhkepaaDoorRExpr
namespace Go.Proofs.YthnhdompfhkepaaDoor.Pure
open Go Go.RowKit Go.Proofs.YthnhdompfhkepaaDoor.Q Go.Proofs.YthnhdompfhkepaaDoorW.PrintWords Go.Proofs.YthnhdompfhkepaaDoorW.PrintLast Go.Proofs.YthnhdompfhkepaaDoorW.PrintMore
set_option linter.unusedSimpArgs false
set_option linter.unusedVariables false
set_option maxHeartbeats 8000000
set_option maxRecDepth 100000
theorem up5x {B w w1 : World} {p0 p1 p2 p3 p4 : Addr} {u0 u1 u2 u3 u4 : Value} (h : w.cell? p0 = some u0 ∧ w.cell? p1 = some u1 ∧ w.cell? p2 = some u2 ∧ w.cell? p3 = some u3 ∧ w.cell? p4 = some u4 ∧ Aside0 (Below B.heap.size B w)) (k : Aside0 (Below w.heap.size w w1)) : w1.cell? p0 = some u0 ∧ w1.cell? p1 = some u1 ∧ w1.cell? p2 = some u2 ∧ w1.cell? p3 = some u3 ∧ w1.cell? p4 = some u4 ∧ Aside0 (Below B.heap.size B w1) := ⟨cell_up k.out h.1, cell_up k.out h.2.1, cell_up k.out h.2.2.1, cell_up k.out h.2.2.2.1, cell_up k.out h.2.2.2.2.1, ⟨bstep h.2.2.2.2.2.out k.out⟩⟩
theorem one36 {w w1 : World} {x : S36} {A : Option Addr} {c : Nat} (hI : InE w x A c) (h : Below w.heap.size w w1) : Kd.C k36 (w1.alloc (.cells #[.int .i64 x.f0, .int .i64 x.f1, .int .u32 x.f2, .string x.f3, .slice A x.f4.length c] 36)) (some ⟨w1.heap.size, 0, none⟩) 1 [x] := by
  have hx := hI.up (h.alloc h.size (.cells #[.int .i64 x.f0, .int .i64 x.f1, .int .u32 x.f2, .string x.f3, .slice A x.f4.length c] 36))
  exact C_one (alloc_at rfl) x (k36_mk _ x hx.1 hx.2) rfl
theorem syntaxExpr_c {x : S36} (hx : OkE x) (A : Option Addr) (c : Nat) (w : World) (hI : InE w x A c) (hT : Ext.TAB w) :
    Calls Tryd.prog 7 #[vE x A c] w (fun e w' => e = .returned (.bool true) ∧ Below w.heap.size w w') := by
  have L := Aside0.mk (fun w' (h : Below w.heap.size w w') => leE [x] (by simpa using hx) 200 60 (some ⟨w'.heap.size, 0, none⟩) 1 _ (by decide) (by decide) (by decide) (by decide) (one36 hI h))
  have R := Aside0.mk (fun w' (h : Below w.heap.size w w') => rexpr_c x hx 1 A c w' (by decide) (by decide) (hI.up h))
  have hl : ∀ (h : GE x 1) (hc : cE x ≤ 200), (exT x).length ≤ 1000000 := fun h hc => by have := exT_len (RE_of x hx 1 h); omega
  have P1 := Aside0.mk (fun w' (h : Below w.heap.size w w') (hG : GE x 1) (hc : cE x ≤ 200) => exprT_c x (RE_of x hx 1 hG) (by omega) A c w' (hI.up h) (Ext.TAB.below hT h))
  have P2 := Aside0.mk (fun w' (h : Below w.heap.size w w') (hG : GE x 1) (hc : cE x ≤ 200) => texpr_c x (RE_of x hx 1 hG) (hl hG hc) A c w' (hI.up h))
  have HT := Aside0.mk hT
  have HC := Aside0.mk (show cEs [x] = cE x by simp [cEs])
  clear hx hI hT hl
  go_enter Tryd.func7, Tryd.ntmps7
  go_wp2_with (first | (go_at_call 14; go_loud (refine (awake_c _ (Ext.TAB.below HT.out (balloc (brefl _) _))).mono ?_); rintro e w1 ⟨rfl, hB⟩; have HB1 := Aside0.mk (bstep (balloc (brefl w) _) hB); have q0 := box_up hB 0 _ rfl; have q1 := box_up hB 1 _ rfl; have q2 := box_up hB 2 _ rfl; have q3 := box_up hB 3 _ rfl; have q4 := box_up hB 4 _ rfl; clear hB) | (go_at_call 22; go_loud (refine (L.out _ HB1.out).mono ?_; rintro e w2 ⟨⟨r, rfl, hr⟩, hB⟩; have HB2 := Aside0.mk (bstep HB1.out (bstep (balloc (brefl _) _) hB)); have HR := hr; have q0 := cell_up (bstep (balloc (brefl w1) _) hB) q0; have q1 := cell_up (bstep (balloc (brefl w1) _) hB) q1; have q2 := cell_up (bstep (balloc (brefl w1) _) hB) q2; have q3 := cell_up (bstep (balloc (brefl w1) _) hB) q3; have q4 := cell_up (bstep (balloc (brefl w1) _) hB) q4; clear hB hr; by_cases hr0 : r < 0; all_goals first | (have t1 : (r < 0) = True := eq_true hr0) | (have t1 : (r < 0) = False := eq_false hr0))) | (go_at_call 23; (with_reducible refine (R.out _ HB2.out).mono ?_); rintro e w3 ⟨b, rfl, hb, hB⟩; have HB3 := Aside0.mk (bstep HB2.out hB); have HG := Aside0.mk hb; have q0 := cell_up hB q0; have q1 := cell_up hB q1; have q2 := cell_up hB q2; have q3 := cell_up hB q3; have q4 := cell_up hB q4; clear hB hb; cases b))
  · go_ret
    exact ⟨rfl, HB2.out⟩
  · go_ret
    exact ⟨rfl, HB3.out⟩
  · have hc : cE x ≤ 200 := by have h1 := HR.out; have h2 := HC.out; unfold LeftR at h1; omega
    have K1 := Aside0.mk (fun w' h => P1.out w' h (HG.out.mp (by trivial)) hc)
    have K2 := Aside0.mk (fun w' h => P2.out w' h (HG.out.mp (by trivial)) hc)
    have HW := Aside0.mk (bdrew HB3.out)
    clear P1 P2 L R HB1 HB2 HR HG HC hc
    generalize T (exT x) = t at *
    go_region_held3 (fun w' => w'.cell? ⟨w.heap.size, 0, none⟩ = some (.int .i64 x.f0) ∧ w'.cell? ⟨w.heap.size, 1, none⟩ = some (.int .i64 x.f1) ∧ w'.cell? ⟨w.heap.size, 2, none⟩ = some (.int .u32 x.f2) ∧ w'.cell? ⟨w.heap.size, 3, none⟩ = some (.string x.f3) ∧ w'.cell? ⟨w.heap.size, 4, none⟩ = some (.slice A x.f4.length c) ∧ Aside0 (Below w.heap.size w w')) (first | exact ⟨q0, q1, q2, q3, q4, HW⟩ | exact up5x (by assumption) (by assumption))
      (first | (go_at_call 24; (with_reducible refine (K1.out _ HW.out).mono ?_); rintro e w4 ⟨rfl, hB⟩; have HK := Aside0.mk hB; have HW4 := Aside0.mk (bstep HW.out hB); clear hB) | (go_at_call 25; (with_reducible refine (K2.out _ HW4.out).mono ?_); rintro e w5 ⟨rfl, hB⟩; have HK2 := Aside0.mk hB; have HW5 := Aside0.mk (bstep HW4.out hB); clear hB) | fail)
    go_wp2
    go_ret
    exact ⟨by simp, HW5.out⟩
end Go.Proofs.YthnhdompfhkepaaDoor.Pure
