import Derived.Test.YthnhdompfhkepaaDoorQx0
namespace Go.Proofs.YthnhdompfhkepaaDoor.Q
open Go.RowKit Go.Proofs.YthnhdompfhkepaaDoorW.PrintWords Go.Proofs.YthnhdompfhkepaaDoorW.PrintLast Go.Proofs.YthnhdompfhkepaaDoorW.PrintMore
attribute [local go_sem] max2_int min2_int max_two min_two max_three min_three max_four min_four
set_option linter.unusedVariables false
set_option linter.unusedSimpArgs false
mutual
def qexprs.l0 : Nat → List (S36) → Int → Int → Int → Option (Int)
 | 0, _, _, _, _ => none
 | k + 1, x0, x1, x2, x7 => if x7 < (x0.length : Int) then (if x1 > 0 then (if 0 ≤ x7 then ((qexprs.f k ((kn x0 x7).f4) x1 (wrap64 (x2 - 1))).bind fun t163 => (qexprs.l0 k x0 t163 x2 (wrap64 (x7 + 1)))) else (none)) else (some x1)) else (some x1)
def qexprs.f : Nat → List (S36) → Int → Int → Option (Int)
 | 0, _, _, _ => none
 | k + 1, l0, a1, a2 => if a2 = 0 then (some 0) else (qexprs.l0 k l0 (wrap64 (a1 - (l0.length : Int))) a2 0)
end
theorem qexprs.mono_l : ∀ k, (∀ y0 y1 y2, LeO (qexprs.f k y0 y1 y2) (qexprs.f (k + 1) y0 y1 y2)) ∧ (∀ y0 y1 y2 y3, LeO (qexprs.l0 k y0 y1 y2 y3) (qexprs.l0 (k + 1) y0 y1 y2 y3))
 | 0 => ⟨fun _ _ _ r h => by simp [qexprs.f] at h, fun _ _ _ _ r h => by simp [qexprs.l0] at h⟩
 | k + 1 => by
  obtain ⟨ih0, ih1⟩ := qexprs.mono_l k
  refine ⟨?_, ?_⟩
  all_goals intros
  all_goals first | unfold qexprs.f | unfold qexprs.l0
  all_goals repeat' first
   | (with_reducible exact ih0 _ _ _)
   | (with_reducible exact ih1 _ _ _ _)
   | (with_reducible exact LeO.refl _)
   | (with_reducible exact LeO.none _)
   | (with_reducible refine LeO.ite ?_ ?_)
   | (with_reducible refine LeO.bind ?_ (fun _ => ?_))
   | exact ih0 _ _ _
   | exact ih1 _ _ _ _
   | exact LeO.none _
   | refine LeO.ite ?_ ?_
   | refine LeO.bind ?_ (fun _ => ?_)
theorem qexprs.mono : ∀ a0 a1 a2 k, LeO (qexprs.f k a0 a1 a2) (qexprs.f (k + 1) a0 a1 a2) := by
 intro a0 a1 a2 k
 obtain ⟨ih0, ih1⟩ := qexprs.mono_l k
 exact ih0 a0 a1 a2
set_option maxHeartbeats 8000000 in
set_option maxRecDepth 100000 in
theorem qexprs.calls (k : Nat) : ∀ (A0 : Option Addr) (c0 : Nat) (l0 : List (S36)) (a1 : Int) (a2 : Int) (r : Int) (w : World) (hr0 : Kd.C k36 w A0 l0.length l0) (hc0 : l0.length ≤ c0) (h : qexprs.f k l0 a1 a2 = some r),
 Calls Tryd.prog 76 #[.slice A0 l0.length c0, .int .i64 a1, .int .i64 a2] w fun e w' => e = .returned (.int .i64 r) ∧ jg w w' := by
 induction k using Nat.strongRecOn with
 | _ k ih =>
 intro A0 c0 l0 a1 a2 r w hr0 hc0 h
 cases k with
 | zero => exact absurd h (by simp [qexprs.f])
 | succ k =>
 simp only [qexprs.f] at h
 have HR0 := kd.mk hr0
 have HC0 := kd.mk hc0
 clear hr0 hc0
 have H : (if a2 = 0 then (some 0) else (qexprs.l0 k l0 (wrap64 (a1 - (l0.length : Int))) a2 0)) = some r := h
 clear h
 by_cases c4 : a2 = 0
 ·rw [if_pos c4] at H
  have c4b0 : (a2 == 0) = true := beq_iff_eq.mpr c4
  have c4b1 : (a2 != 0) = false := bne_eq_false_iff_eq.mpr c4
  clear c4
  obtain rfl := Option.some.inj H
  go_enter Tryd.func76, Tryd.ntmps76
  go_wp2
  go_ret
  exact ⟨by first | rfl | (simp; done) | (simp [*]; done), by repeat (first | exact jg.refl _ | apply jg.step)⟩
 ·rw [if_neg c4] at H
  have c4b0 : (a2 == 0) = false := beq_eq_false_iff_ne.mpr c4
  have c4b1 : (a2 != 0) = true := bne_iff_ne.mpr c4
  have H' := kd.mk H
  clear H
  go_enter Tryd.func76, Tryd.ntmps76
  go_wp2
  go_loopg [1, 7] k (fun kq v1 v7 w' => ∃ (x1_1 : Int) (x7_1 : Int), v1 = .int .i64 x1_1 ∧ v7 = .int .i64 x7_1 ∧ kd (qexprs.l0 kq l0 x1_1 a2 x7_1 = some r) ∧ kd (kq ≤ k) ∧ jg w w')
  case atStart => exact ⟨(wrap64 (a1 - (l0.length : Int))), (0), (by first | rfl | (simp; done) | (simp [*]; done)), (by first | rfl | (simp; done) | (simp [*]; done)), H', ⟨Nat.le_refl _⟩, by repeat (first | exact jg.refl _ | apply jg.step)⟩
  case round =>
   clear H'
   try clear p2
   try clear c4
   try clear c4b0
   try clear c4b1
   obtain ⟨x1_1, x7_1, rfl, rfl, HA, HK1, ⟨m1, rfl⟩⟩ := hrel
   cases gk with
   | zero => exact absurd HA.out (by simp [qexprs.l0])
   | succ k1 =>
    have H := HA.out
    clear HA
    simp only [qexprs.l0] at H
    by_cases c5 : x7_1 < (l0.length : Int)
    ·rw [if_pos c5] at H
     have c5b0 : decide (x7_1 < (l0.length : Int)) = true := decide_eq_true c5
     clear c5
     by_cases c6 : x1_1 > 0
     ·rw [if_pos c6] at H
      have c6b0 : decide (0 < x1_1) = true := decide_eq_true c6
      clear c6
      by_cases c7 : 0 ≤ x7_1
      ·rw [if_pos c7] at H
       have c7b0 : decide (0 ≤ x7_1) = true := decide_eq_true c7
       clear c7
       replace H := Option.bind_eq_some_iff.mp H
       obtain ⟨t163, A80, H⟩ := H
       replace H : (qexprs.l0 k1 l0 t163 a2 (wrap64 (x7_1 + 1))) = some r := H
       have A8 := kd.mk A80
       clear A80
       have H' := kd.mk H
       clear H
       have p162 : 0 ≤ (x7_1 : Int) := of_decide_eq_true (by first | (with_reducible assumption) | assumption)
       have q162 : x7_1 < (l0.length : Int) := of_decide_eq_true (by first | (with_reducible assumption) | assumption)
       obtain ⟨ad162, A162_4, c162_4, e162, hx162_0, hx162_1, hx162_2, hx162_3, hx162_4, hl162_4, hi162_4⟩ := at_T36 HR0.out x7_1 p162 q162
       cases e162
       have HR162_4 := kd.mk hi162_4
       have HC162_4 := kd.mk hl162_4
       clear hi162_4 hl162_4
       replace p162 := eq_true p162
       replace q162 := eq_true q162
       go_wp2_with (first | ((with_reducible refine jb (f := 76) rfl ?_); refine jo (some 32) rfl rfl Tryd.func76 (by kernel_rfl) rfl #[.slice A162_4 ((kn l0 x7_1).f4).length c162_4, .int .i64 x1_1, .int .i64 (wrap64 (a2 - 1))] rfl (by (try simp only [List.map_toArray, List.map_cons, List.map_nil]); first | done | rfl | (simp only [List.length_drop, List.length_take]; rfl)) ?_; (with_reducible refine (ih k1 (by have := HK1.out; omega) _ _ ((kn l0 x7_1).f4) x1_1 (wrap64 (a2 - 1)) t163 _ ?side1 ?side2 A8.out).mono ?_); (case side1 => repeat (first | exact HR162_4.out | (with_reducible refine Kd.C_alloc ?_ _) | (with_reducible refine Kd.C_drewN ?_ _) | (with_reducible refine Kd.C_drew ?_))); (case side2 => exact HC162_4.out); rintro e w' ⟨rfl, ⟨nd, rfl⟩⟩; refine ⟨_, rfl, ?_⟩))
       go_roundg k1
       case measure => have := HK1.out; omega
       case rel => exact ⟨(t163), (wrap64 (x7_1 + 1)), (by first | rfl | (simp; done) | (simp [*]; done)), (by first | rfl | (simp; done) | (simp [*]; done)), H', ⟨by have := HK1.out; omega⟩, by repeat (first | exact jg.refl _ | apply jg.step)⟩
      ·rw [if_neg c7] at H
       exact absurd H (by simp)
     ·rw [if_neg c6] at H
      have c6b0 : decide (0 < x1_1) = false := decide_eq_false c6
      clear c6
      obtain rfl := Option.some.inj H
      go_wp2
      go_ret
      exact ⟨by first | rfl | (simp; done) | (simp [*]; done), by repeat (first | exact jg.refl _ | apply jg.step)⟩
    ·rw [if_neg c5] at H
     have c5b0 : decide (x7_1 < (l0.length : Int)) = false := decide_eq_false c5
     clear c5
     obtain rfl := Option.some.inj H
     go_wp2
     go_ret
     exact ⟨by first | rfl | (simp; done) | (simp [*]; done), by repeat (first | exact jg.refl _ | apply jg.step)⟩
end Go.Proofs.YthnhdompfhkepaaDoor.Q
