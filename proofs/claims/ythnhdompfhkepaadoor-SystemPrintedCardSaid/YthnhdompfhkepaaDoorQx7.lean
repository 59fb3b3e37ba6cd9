import Derived.Test.YthnhdompfhkepaaDoorQx0
import Derived.Test.YthnhdompfhkepaaDoorQx5
namespace Go.Proofs.YthnhdompfhkepaaDoor.Q
open Go.RowKit Go.Proofs.YthnhdompfhkepaaDoorW.PrintWords Go.Proofs.YthnhdompfhkepaaDoorW.PrintLast Go.Proofs.YthnhdompfhkepaaDoorW.PrintMore
attribute [local go_sem] max2_int min2_int max_two min_two max_three min_three max_four min_four
set_option linter.unusedVariables false
set_option linter.unusedSimpArgs false
mutual
def rRightExprs.l0 : Nat → List (S36) → Int → Int → Option (Bool)
 | 0, _, _, _ => none
 | k + 1, x0, x1, x5 => if x5 < (x0.length : Int) then (if 0 ≤ x5 then ((rRightExpr.f k ((kn x0 x5).f0) ((kn x0 x5).f1) ((kn x0 x5).f2) ((kn x0 x5).f3) ((kn x0 x5).f4) x1).bind fun t130 => (if t130 = true then (rRightExprs.l0 k x0 x1 (wrap64 (x5 + 1))) else (some false))) else (none)) else (some true)
def rRightExprs.f : Nat → List (S36) → Int → Option (Bool)
 | 0, _, _ => none
 | k + 1, l0, a1 => rRightExprs.l0 k l0 a1 0
def rRightExpr.j0 : Nat → Int → Bool → Int → Int → Int → ByteArray → List (S36) → Option (Bool)
 | 0, _, _, _, _, _, _, _ => none
 | k + 1, x1, x28, x123000, x123001, x123002, x123003, x123004 => if x28 = true then (some false) else (if x123000 = 2 then (rRightExpr.j1 k x1 true x123000 x123001 x123002 x123003 x123004) else (if x123000 = 3 then (rRightExpr.j1 k x1 true x123000 x123001 x123002 x123003 x123004) else (rRightExpr.j1 k x1 (x123000 == 4) x123000 x123001 x123002 x123003 x123004)))
def rRightExpr.j1 : Nat → Int → Bool → Int → Int → Int → ByteArray → List (S36) → Option (Bool)
 | 0, _, _, _, _, _, _, _ => none
 | k + 1, x1, x5, x123000, x123001, x123002, x123003, x123004 => if (x5 != (x123003.toList != ([] : List UInt8))) = true then (rRightExpr.j2 k x1 true x123000 x123001 x123002 x123003 x123004) else (if x5 = true then ((rIsName.f k x123003).bind fun t123 => (rRightExpr.j2 k x1 (!t123) x123000 x123001 x123002 x123003 x123004)) else (rRightExpr.j2 k x1 false x123000 x123001 x123002 x123003 x123004))
def rRightExpr.j2 : Nat → Int → Bool → Int → Int → Int → ByteArray → List (S36) → Option (Bool)
 | 0, _, _, _, _, _, _, _ => none
 | k + 1, x1, x55, x123000, x123001, x123002, x123003, x123004 => if x55 = true then (some false) else (if x123000 = 1 then (rRightExpr.j3 k x1 (x123004.length : Int) x123000 (x123000 == 1) x123000 x123001 x123002 x123003 x123004) else (if x123000 = 2 then (rRightExpr.j3 k x1 (x123004.length : Int) x123000 (x123000 == 2) x123000 x123001 x123002 x123003 x123004) else (rRightExpr.j3 k x1 (x123004.length : Int) x123000 (x123000 == 5) x123000 x123001 x123002 x123003 x123004)))
def rRightExpr.j3 : Nat → Int → Int → Int → Bool → Int → Int → Int → ByteArray → List (S36) → Option (Bool)
 | 0, _, _, _, _, _, _, _, _, _ => none
 | k + 1, x1, x6, x60, x61, x123000, x123001, x123002, x123003, x123004 => if x61 = true then (some (x6 == 0)) else (if x60 = 3 then (rRightExpr.j4 k x1 x6 x60 (x60 == 3) x123000 x123001 x123002 x123003 x123004) else (rRightExpr.j4 k x1 x6 x60 (x60 == 7) x123000 x123001 x123002 x123003 x123004))
def rRightExpr.j4 : Nat → Int → Int → Int → Bool → Int → Int → Int → ByteArray → List (S36) → Option (Bool)
 | 0, _, _, _, _, _, _, _, _, _ => none
 | k + 1, x1, x6, x60, x67, x123000, x123001, x123002, x123003, x123004 => if x67 = true then (if x6 = 1 then ((rRightExprs.f k x123004 (wrap64 (x1 + 1))).bind fun t124 => (some t124)) else (some false)) else (if x60 = 4 then (if x6 ≤ 6 then ((rRightExprs.f k x123004 (wrap64 (x1 + 1))).bind fun t125 => (some t125)) else (some false)) else (if x60 = 6 then (if x123001 ≥ 4 then (if x123001 ≤ 15 then (if x6 = 2 then ((rRightExprs.f k x123004 (wrap64 (x1 + 1))).bind fun t126 => (some t126)) else (some false)) else (some false)) else (some false)) else (if x60 = 8 then (if x6 = 2 then ((rRightExprs.f k x123004 (wrap64 (x1 + 1))).bind fun t127 => (some t127)) else (some false)) else (if x60 = 9 then (if x6 = 2 then ((rRightExprs.f k x123004 (wrap64 (x1 + 1))).bind fun t128 => (some t128)) else (some false)) else (some false)))))
def rRightExpr.f : Nat → Int → Int → Int → ByteArray → List (S36) → Int → Option (Bool)
 | 0, _, _, _, _, _, _ => none
 | k + 1, a0_0, a0_1, a0_2, a0_3, l0_4, a1 => if a1 > 24 then (rRightExpr.j0 k a1 true a0_0 a0_1 a0_2 a0_3 l0_4) else (if a0_0 = 6 then (if a0_0 = 1 then (rRightExpr.j0 k a1 false a0_0 a0_1 a0_2 a0_3 l0_4) else (rRightExpr.j0 k a1 (a0_2 != 0) a0_0 a0_1 a0_2 a0_3 l0_4)) else (if a0_1 = 0 then (if a0_0 = 1 then (rRightExpr.j0 k a1 false a0_0 a0_1 a0_2 a0_3 l0_4) else (rRightExpr.j0 k a1 (a0_2 != 0) a0_0 a0_1 a0_2 a0_3 l0_4)) else (rRightExpr.j0 k a1 true a0_0 a0_1 a0_2 a0_3 l0_4)))
end
theorem rRightExprs.mono_l : ∀ k, (∀ y0 y1, LeO (rRightExprs.f k y0 y1) (rRightExprs.f (k + 1) y0 y1)) ∧ (∀ y0 y1 y2, LeO (rRightExprs.l0 k y0 y1 y2) (rRightExprs.l0 (k + 1) y0 y1 y2)) ∧ (∀ y0 y1 y2 y3 y4 y5, LeO (rRightExpr.f k y0 y1 y2 y3 y4 y5) (rRightExpr.f (k + 1) y0 y1 y2 y3 y4 y5)) ∧ (∀ y0 y1 y2 y3 y4 y5 y6, LeO (rRightExpr.j0 k y0 y1 y2 y3 y4 y5 y6) (rRightExpr.j0 (k + 1) y0 y1 y2 y3 y4 y5 y6)) ∧ (∀ y0 y1 y2 y3 y4 y5 y6, LeO (rRightExpr.j1 k y0 y1 y2 y3 y4 y5 y6) (rRightExpr.j1 (k + 1) y0 y1 y2 y3 y4 y5 y6)) ∧ (∀ y0 y1 y2 y3 y4 y5 y6, LeO (rRightExpr.j2 k y0 y1 y2 y3 y4 y5 y6) (rRightExpr.j2 (k + 1) y0 y1 y2 y3 y4 y5 y6)) ∧ (∀ y0 y1 y2 y3 y4 y5 y6 y7 y8, LeO (rRightExpr.j3 k y0 y1 y2 y3 y4 y5 y6 y7 y8) (rRightExpr.j3 (k + 1) y0 y1 y2 y3 y4 y5 y6 y7 y8)) ∧ (∀ y0 y1 y2 y3 y4 y5 y6 y7 y8, LeO (rRightExpr.j4 k y0 y1 y2 y3 y4 y5 y6 y7 y8) (rRightExpr.j4 (k + 1) y0 y1 y2 y3 y4 y5 y6 y7 y8))
 | 0 => ⟨fun _ _ r h => by simp [rRightExprs.f] at h, fun _ _ _ r h => by simp [rRightExprs.l0] at h, fun _ _ _ _ _ _ r h => by simp [rRightExpr.f] at h, fun _ _ _ _ _ _ _ r h => by simp [rRightExpr.j0] at h, fun _ _ _ _ _ _ _ r h => by simp [rRightExpr.j1] at h, fun _ _ _ _ _ _ _ r h => by simp [rRightExpr.j2] at h, fun _ _ _ _ _ _ _ _ _ r h => by simp [rRightExpr.j3] at h, fun _ _ _ _ _ _ _ _ _ r h => by simp [rRightExpr.j4] at h⟩
 | k + 1 => by
  obtain ⟨ih0, ih1, ih2, ih3, ih4, ih5, ih6, ih7⟩ := rRightExprs.mono_l k
  refine ⟨?_, ?_, ?_, ?_, ?_, ?_, ?_, ?_⟩
  all_goals intros
  all_goals first | unfold rRightExprs.f | unfold rRightExprs.l0 | unfold rRightExpr.f | unfold rRightExpr.j0 | unfold rRightExpr.j1 | unfold rRightExpr.j2 | unfold rRightExpr.j3 | unfold rRightExpr.j4
  all_goals repeat' first
   | (with_reducible exact ih0 _ _)
   | (with_reducible exact ih1 _ _ _)
   | (with_reducible exact ih2 _ _ _ _ _ _)
   | (with_reducible exact ih3 _ _ _ _ _ _ _)
   | (with_reducible exact ih4 _ _ _ _ _ _ _)
   | (with_reducible exact ih5 _ _ _ _ _ _ _)
   | (with_reducible exact ih6 _ _ _ _ _ _ _ _ _)
   | (with_reducible exact ih7 _ _ _ _ _ _ _ _ _)
   | (with_reducible exact rIsName.mono _ _)
   | (with_reducible exact LeO.refl _)
   | (with_reducible exact LeO.none _)
   | (with_reducible refine LeO.ite ?_ ?_)
   | (with_reducible refine LeO.bind ?_ (fun _ => ?_))
   | exact ih0 _ _
   | exact ih1 _ _ _
   | exact ih2 _ _ _ _ _ _
   | exact ih3 _ _ _ _ _ _ _
   | exact ih4 _ _ _ _ _ _ _
   | exact ih5 _ _ _ _ _ _ _
   | exact ih6 _ _ _ _ _ _ _ _ _
   | exact ih7 _ _ _ _ _ _ _ _ _
   | exact rIsName.mono _ _
   | exact LeO.none _
   | refine LeO.ite ?_ ?_
   | refine LeO.bind ?_ (fun _ => ?_)
theorem rRightExprs.mono : ∀ a0 a1 k, LeO (rRightExprs.f k a0 a1) (rRightExprs.f (k + 1) a0 a1) := by
 intro a0 a1 k
 obtain ⟨ih0, ih1, ih2, ih3, ih4, ih5, ih6, ih7⟩ := rRightExprs.mono_l k
 exact ih0 a0 a1
theorem rRightExpr.mono : ∀ a0 a1 a2 a3 a4 a5 k, LeO (rRightExpr.f k a0 a1 a2 a3 a4 a5) (rRightExpr.f (k + 1) a0 a1 a2 a3 a4 a5) := by
 intro a0 a1 a2 a3 a4 a5 k
 obtain ⟨ih0, ih1, ih2, ih3, ih4, ih5, ih6, ih7⟩ := rRightExprs.mono_l k
 exact ih2 a0 a1 a2 a3 a4 a5
set_option maxHeartbeats 8000000 in
set_option maxRecDepth 100000 in
theorem rRightExprs.calls_of (k : Nat) (ihrRightExprs : ∀ j_, j_ < k → ∀ (A0 : Option Addr) (c0 : Nat) (l0 : List (S36)) (a1 : Int) (r : Bool) (w : World) (hr0 : Kd.C k36 w A0 l0.length l0) (hc0 : l0.length ≤ c0) (h : rRightExprs.f j_ l0 a1 = some r), Calls Tryd.prog 52 #[.slice A0 l0.length c0, .int .i64 a1] w fun e w' => e = .returned (.bool r) ∧ Below w.heap.size w w') (ihrRightExpr : ∀ j_, j_ < k → ∀ (a0_0 : Int) (a0_1 : Int) (a0_2 : Int) (a0_3 : ByteArray) (A0_4 : Option Addr) (c0_4 : Nat) (l0_4 : List (S36)) (a1 : Int) (r : Bool) (w : World) (hr0_4 : Kd.C k36 w A0_4 l0_4.length l0_4) (hc0_4 : l0_4.length ≤ c0_4) (h : rRightExpr.f j_ a0_0 a0_1 a0_2 a0_3 l0_4 a1 = some r), Calls Tryd.prog 23 #[.agg #[.int .i64 a0_0, .int .i64 a0_1, .int .u32 a0_2, .string a0_3, .slice A0_4 l0_4.length c0_4], .int .i64 a1] w fun e w' => e = .returned (.bool r) ∧ Below w.heap.size w w') : ∀ (A0 : Option Addr) (c0 : Nat) (l0 : List (S36)) (a1 : Int) (r : Bool) (w : World) (hr0 : Kd.C k36 w A0 l0.length l0) (hc0 : l0.length ≤ c0) (h : rRightExprs.f k l0 a1 = some r), Calls Tryd.prog 52 #[.slice A0 l0.length c0, .int .i64 a1] w fun e w' => e = .returned (.bool r) ∧ Below w.heap.size w w' := by
 intro A0 c0 l0 a1 r w hr0 hc0 h
 cases k with
 | zero => exact absurd h (by simp [rRightExprs.f])
 | succ k =>
 simp only [rRightExprs.f] at h
 have hu36 := Tryd.underlying36
 have HR0 := kd.mk hr0
 have HC0 := kd.mk hc0
 clear hr0 hc0
 have HB := kd.mk (Below.refl w.heap.size w)
 have H : (rRightExprs.l0 k l0 a1 0) = some r := h
 clear h
 have H' := kd.mk H
 clear H
 go_enter Tryd.func52, Tryd.ntmps52
 go_wp2
 go_loopg [5] k (fun kq v5 w' => ∃ (x5_1 : Int), v5 = .int .i64 x5_1 ∧ kd (rRightExprs.l0 kq l0 a1 x5_1 = some r) ∧ kd (kq ≤ k) ∧ kd (Below w.heap.size w w'))
 case atStart => exact ⟨(0), (by first | rfl | (simp; done) | (simp [*]; done)), H', ⟨Nat.le_refl _⟩, ⟨by repeat (first | (with_reducible first | exact HB.out | apply ke | apply ka | apply kf) | exact HB.out)⟩⟩
 case round =>
  clear H'
  try clear p2
  obtain ⟨x5_1, rfl, HA, HK1, HB⟩ := hrel
  cases gk with
  | zero => exact absurd HA.out (by simp [rRightExprs.l0])
  | succ k1 =>
   have H := HA.out
   clear HA
   simp only [rRightExprs.l0] at H
   by_cases c3 : x5_1 < (l0.length : Int)
   ·rw [if_pos c3] at H
    have c3b0 : decide (x5_1 < (l0.length : Int)) = true := decide_eq_true c3
    clear c3
    by_cases c4 : 0 ≤ x5_1
    ·rw [if_pos c4] at H
     have c4b0 : decide (0 ≤ x5_1) = true := decide_eq_true c4
     clear c4
     replace H := Option.bind_eq_some_iff.mp H
     obtain ⟨t130, A50, H⟩ := H
     replace H : (if t130 = true then (rRightExprs.l0 k1 l0 a1 (wrap64 (x5_1 + 1))) else (some false)) = some r := H
     have A5 := kd.mk A50
     clear A50
     by_cases c6 : t130 = true
     ·subst c6
      replace H : (rRightExprs.l0 k1 l0 a1 (wrap64 (x5_1 + 1))) = some r := by rw [if_pos rfl] at H; exact H
      have H' := kd.mk H
      clear H
      have p129 : 0 ≤ (x5_1 : Int) := of_decide_eq_true (by first | (with_reducible assumption) | assumption)
      have q129 : x5_1 < (l0.length : Int) := of_decide_eq_true (by first | (with_reducible assumption) | assumption)
      obtain ⟨ad129, A129_4, c129_4, e129, hx129_0, hx129_1, hx129_2, hx129_3, hx129_4, hl129_4, hi129_4⟩ := at_T36 HR0.out x5_1 p129 q129
      cases e129
      replace hx129_0 := (HB.out.cell (World.block_lt_of_cell? w _ hx129_0)).trans hx129_0
      replace hx129_1 := (HB.out.cell (World.block_lt_of_cell? w _ hx129_1)).trans hx129_1
      replace hx129_2 := (HB.out.cell (World.block_lt_of_cell? w _ hx129_2)).trans hx129_2
      replace hx129_3 := (HB.out.cell (World.block_lt_of_cell? w _ hx129_3)).trans hx129_3
      replace hx129_4 := (HB.out.cell (World.block_lt_of_cell? w _ hx129_4)).trans hx129_4
      have HR129_4 := kd.mk hi129_4
      have HC129_4 := kd.mk hl129_4
      clear hi129_4 hl129_4
      replace p129 := eq_true p129
      replace q129 := eq_true q129
      go_wp2_with (first | ((with_reducible refine jb (f := 23) rfl ?_); refine jo (some 17) rfl rfl Tryd.func23 (by kernel_rfl) rfl #[.agg #[.int .i64 ((kn l0 x5_1).f0), .int .i64 ((kn l0 x5_1).f1), .int .u32 ((kn l0 x5_1).f2), .string ((kn l0 x5_1).f3), .slice A129_4 ((kn l0 x5_1).f4).length c129_4], .int .i64 a1] rfl (by (try simp only [List.map_toArray, List.map_cons, List.map_nil]); first | done | rfl | (simp only [List.length_drop, List.length_take]; rfl)) ?_; (with_reducible refine (ihrRightExpr k1 (by have := HK1.out; omega) ((kn l0 x5_1).f0) ((kn l0 x5_1).f1) ((kn l0 x5_1).f2) ((kn l0 x5_1).f3) _ _ ((kn l0 x5_1).f4) a1 true _ ?side1 ?side2 A5.out).mono ?_); (case side1 => exact Kd.kx HR129_4.out HB.out); (case side2 => exact HC129_4.out); rintro e w7 ⟨rfl, hb⟩; refine ⟨_, rfl, ?_⟩; have n0_ := kd.mk (kr (by repeat (first | (with_reducible first | exact HB.out | apply ke | apply ka | apply kf) | exact HB.out)) hb); clear HB; have HB := n0_; clear n0_; (try clear hb)))
      go_roundg k1
      case measure => have := HK1.out; omega
      case rel => exact ⟨(wrap64 (x5_1 + 1)), (by first | rfl | (simp; done) | (simp [*]; done)), H', ⟨by have := HK1.out; omega⟩, ⟨by repeat (first | (with_reducible first | exact HB.out | apply ke | apply ka | apply kf) | exact HB.out)⟩⟩
     ·replace c6 := Bool.eq_false_iff.mpr c6
      subst c6
      replace H : (some false) = some r := by rw [if_neg (show ¬ (false = true) by decide)] at H; exact H
      obtain rfl := Option.some.inj H
      have p129 : 0 ≤ (x5_1 : Int) := of_decide_eq_true (by first | (with_reducible assumption) | assumption)
      have q129 : x5_1 < (l0.length : Int) := of_decide_eq_true (by first | (with_reducible assumption) | assumption)
      obtain ⟨ad129, A129_4, c129_4, e129, hx129_0, hx129_1, hx129_2, hx129_3, hx129_4, hl129_4, hi129_4⟩ := at_T36 HR0.out x5_1 p129 q129
      cases e129
      replace hx129_0 := (HB.out.cell (World.block_lt_of_cell? w _ hx129_0)).trans hx129_0
      replace hx129_1 := (HB.out.cell (World.block_lt_of_cell? w _ hx129_1)).trans hx129_1
      replace hx129_2 := (HB.out.cell (World.block_lt_of_cell? w _ hx129_2)).trans hx129_2
      replace hx129_3 := (HB.out.cell (World.block_lt_of_cell? w _ hx129_3)).trans hx129_3
      replace hx129_4 := (HB.out.cell (World.block_lt_of_cell? w _ hx129_4)).trans hx129_4
      have HR129_4 := kd.mk hi129_4
      have HC129_4 := kd.mk hl129_4
      clear hi129_4 hl129_4
      replace p129 := eq_true p129
      replace q129 := eq_true q129
      go_wp2_with (first | ((with_reducible refine jb (f := 23) rfl ?_); refine jo (some 17) rfl rfl Tryd.func23 (by kernel_rfl) rfl #[.agg #[.int .i64 ((kn l0 x5_1).f0), .int .i64 ((kn l0 x5_1).f1), .int .u32 ((kn l0 x5_1).f2), .string ((kn l0 x5_1).f3), .slice A129_4 ((kn l0 x5_1).f4).length c129_4], .int .i64 a1] rfl (by (try simp only [List.map_toArray, List.map_cons, List.map_nil]); first | done | rfl | (simp only [List.length_drop, List.length_take]; rfl)) ?_; (with_reducible refine (ihrRightExpr k1 (by have := HK1.out; omega) ((kn l0 x5_1).f0) ((kn l0 x5_1).f1) ((kn l0 x5_1).f2) ((kn l0 x5_1).f3) _ _ ((kn l0 x5_1).f4) a1 false _ ?side1 ?side2 A5.out).mono ?_); (case side1 => exact Kd.kx HR129_4.out HB.out); (case side2 => exact HC129_4.out); rintro e w8 ⟨rfl, hb⟩; refine ⟨_, rfl, ?_⟩; have n0_ := kd.mk (kr (by repeat (first | (with_reducible first | exact HB.out | apply ke | apply ka | apply kf) | exact HB.out)) hb); clear HB; have HB := n0_; clear n0_; (try clear hb)))
      go_ret
      exact ⟨by first | rfl | (simp [kp, ko] <;> rfl) | (simp [*, kp, ko] <;> rfl), by repeat (first | (with_reducible first | exact HB.out | apply ke | apply ka | apply kf) | exact HB.out)⟩
    ·rw [if_neg c4] at H
     exact absurd H (by simp)
   ·rw [if_neg c3] at H
    have c3b0 : decide (x5_1 < (l0.length : Int)) = false := decide_eq_false c3
    clear c3
    obtain rfl := Option.some.inj H
    go_wp2
    go_ret
    exact ⟨by first | rfl | (simp [kp, ko] <;> rfl) | (simp [*, kp, ko] <;> rfl), by repeat (first | (with_reducible first | exact HB.out | apply ke | apply ka | apply kf) | exact HB.out)⟩
set_option maxHeartbeats 8000000 in
set_option maxRecDepth 100000 in
theorem rRightExpr.calls_of (k : Nat) (ihrRightExprs : ∀ j_, j_ < k → ∀ (A0 : Option Addr) (c0 : Nat) (l0 : List (S36)) (a1 : Int) (r : Bool) (w : World) (hr0 : Kd.C k36 w A0 l0.length l0) (hc0 : l0.length ≤ c0) (h : rRightExprs.f j_ l0 a1 = some r), Calls Tryd.prog 52 #[.slice A0 l0.length c0, .int .i64 a1] w fun e w' => e = .returned (.bool r) ∧ Below w.heap.size w w') (ihrRightExpr : ∀ j_, j_ < k → ∀ (a0_0 : Int) (a0_1 : Int) (a0_2 : Int) (a0_3 : ByteArray) (A0_4 : Option Addr) (c0_4 : Nat) (l0_4 : List (S36)) (a1 : Int) (r : Bool) (w : World) (hr0_4 : Kd.C k36 w A0_4 l0_4.length l0_4) (hc0_4 : l0_4.length ≤ c0_4) (h : rRightExpr.f j_ a0_0 a0_1 a0_2 a0_3 l0_4 a1 = some r), Calls Tryd.prog 23 #[.agg #[.int .i64 a0_0, .int .i64 a0_1, .int .u32 a0_2, .string a0_3, .slice A0_4 l0_4.length c0_4], .int .i64 a1] w fun e w' => e = .returned (.bool r) ∧ Below w.heap.size w w') : ∀ (a0_0 : Int) (a0_1 : Int) (a0_2 : Int) (a0_3 : ByteArray) (A0_4 : Option Addr) (c0_4 : Nat) (l0_4 : List (S36)) (a1 : Int) (r : Bool) (w : World) (hr0_4 : Kd.C k36 w A0_4 l0_4.length l0_4) (hc0_4 : l0_4.length ≤ c0_4) (h : rRightExpr.f k a0_0 a0_1 a0_2 a0_3 l0_4 a1 = some r), Calls Tryd.prog 23 #[.agg #[.int .i64 a0_0, .int .i64 a0_1, .int .u32 a0_2, .string a0_3, .slice A0_4 l0_4.length c0_4], .int .i64 a1] w fun e w' => e = .returned (.bool r) ∧ Below w.heap.size w w' := by
 intro a0_0 a0_1 a0_2 a0_3 A0_4 c0_4 l0_4 a1 r w hr0_4 hc0_4 h
 cases k with
 | zero => exact absurd h (by simp [rRightExpr.f])
 | succ k =>
 simp only [rRightExpr.f] at h
 have hu36 := Tryd.underlying36
 have HR0_4 := kd.mk hr0_4
 have HC0_4 := kd.mk hc0_4
 clear hr0_4 hc0_4
 have HB := kd.mk (Below.refl w.heap.size w)
 have H : (if a1 > 24 then (rRightExpr.j0 k a1 true a0_0 a0_1 a0_2 a0_3 l0_4) else (if a0_0 = 6 then (if a0_0 = 1 then (rRightExpr.j0 k a1 false a0_0 a0_1 a0_2 a0_3 l0_4) else (rRightExpr.j0 k a1 (a0_2 != 0) a0_0 a0_1 a0_2 a0_3 l0_4)) else (if a0_1 = 0 then (if a0_0 = 1 then (rRightExpr.j0 k a1 false a0_0 a0_1 a0_2 a0_3 l0_4) else (rRightExpr.j0 k a1 (a0_2 != 0) a0_0 a0_1 a0_2 a0_3 l0_4)) else (rRightExpr.j0 k a1 true a0_0 a0_1 a0_2 a0_3 l0_4)))) = some r := h
 clear h
 have HC3 := kd.mk H
 clear H
 go_enter Tryd.func23, Tryd.ntmps23
 go_upto_region 1 with (first | ((with_reducible refine ja (N := 2) rfl ?_); refine kz ?hg (N := 2) ?hd (cs := #[.int .i64 a0_0, .int .i64 a0_1, .int .u32 a0_2, .string a0_3, .slice A0_4 l0_4.length c0_4]) (t := 36) ?hr ?_; (case hd => rfl); (case hg => rfl); (case hr => first | (go_simp; done) | (go_simp; rfl)); intro gb122 hg w4 hbox hb; have n0_ := kd.mk (kr (by repeat (first | (with_reducible first | exact HB.out | apply ke | apply ka | apply kf) | exact HB.out)) hb); have n1_ := kd.mk (hbox); have n2_ := kd.mk ((by rw [hg]; exact (ks (by repeat (first | (with_reducible first | exact HB.out | apply ke | apply ka | apply kf) | exact HB.out))) : w.heap.size ≤ gb122)); have n3_ := kd.mk ((by rw [hg]; exact (ks (by repeat (first | (with_reducible first | exact HB.out | apply ke | apply ka | apply kf) | exact HB.out))) : w.heap.size ≤ gb122)); clear HB; have HB := n0_; have BK122 := n1_; have GW122 := n2_; have GE122 := n3_; clear n0_ n1_ n2_ n3_; clear hb hbox hg))
 (try simp only [Act.put, List.setIfInBounds_toArray, List.set_cons_zero, List.set_cons_succ])
 go_cut [28] (fun v28 wc => ∃ (kq : Nat) (x28_2 : Bool), v28 = .bool x28_2 ∧ kd (rRightExpr.j0 kq a1 x28_2 a0_0 a0_1 a0_2 a0_3 l0_4 = some r) ∧ kd (kq ≤ k) ∧ kd (wc.heap[gb122]? = some (.cells #[.int .i64 a0_0, .int .i64 a0_1, .int .u32 a0_2, .string a0_3, (.slice A0_4 l0_4.length c0_4)] 36 (0, 0))) ∧ kd (Below w.heap.size w wc))
 case first =>
  have H := HC3.out
  clear HC3
  by_cases c5 : a1 > 24
  ·rw [if_pos c5] at H
   have c5b0 : decide (24 < a1) = true := decide_eq_true c5
   clear c5
   (first | rw [c5b0] | (simp only [jc, jd]; rw [c5b0]) | skip)
   have H' := kd.mk H
   clear H
   go_wp2
   go_meet
   case rel => exact ⟨_, (true), (by first | rfl | (simp; done) | (simp [Ext.ne_nil]; done) | (simp [*]; done)), H', ⟨by first | omega | exact Nat.le_refl _⟩, ⟨by (with_reducible repeat (first | refine kg ?_ _ | refine kk ?_ | refine ki ?_ _)); exact BK122.out⟩, ⟨by repeat (first | (with_reducible first | exact HB.out | apply ke | apply ka | apply kf | refine kj ?_ GE122.out) | exact HB.out)⟩⟩
  ·rw [if_neg c5] at H
   have c5b0 : decide (24 < a1) = false := decide_eq_false c5
   clear c5
   (first | rw [c5b0] | (simp only [jc, jd]; rw [c5b0]) | skip)
   by_cases c6 : a0_0 = 6
   ·rw [if_pos c6] at H
    have c6b0 : (a0_0 == 6) = true := beq_iff_eq.mpr c6
    have c6b1 : (a0_0 != 6) = false := bne_eq_false_iff_eq.mpr c6
    clear c6
    by_cases c7 : a0_0 = 1
    ·rw [if_pos c7] at H
     have c7b0 : (a0_0 == 1) = true := beq_iff_eq.mpr c7
     have c7b1 : (a0_0 != 1) = false := bne_eq_false_iff_eq.mpr c7
     clear c7
     have H' := kd.mk H
     clear H
     have hcz8_0 : w4.cell? ⟨gb122, 0, none⟩ = some (.int .i64 a0_0) := (kc BK122.out 0).trans rfl
     have hcz8_1 : w4.cell? ⟨gb122, 1, none⟩ = some (.int .i64 a0_1) := (kc BK122.out 1).trans rfl
     have hcz8_2 : w4.cell? ⟨gb122, 2, none⟩ = some (.int .u32 a0_2) := (kc BK122.out 2).trans rfl
     have hcz8_3 : w4.cell? ⟨gb122, 3, none⟩ = some (.string a0_3) := (kc BK122.out 3).trans rfl
     have hcz8_4 : w4.cell? ⟨gb122, 4, none⟩ = some (.slice A0_4 l0_4.length c0_4) := (kc BK122.out 4).trans rfl
     have hfz8_0 := kb BK122.out 0
     have hfz8_1 := kb BK122.out 1
     have hfz8_2 := kb BK122.out 2
     have hfz8_3 := kb BK122.out 3
     have hfz8_4 := kb BK122.out 4
     go_wp2
     go_meet
     case rel => exact ⟨_, (false), (by first | rfl | (simp; done) | (simp [Ext.ne_nil]; done) | (simp [*]; done)), H', ⟨by first | omega | exact Nat.le_refl _⟩, ⟨by (with_reducible repeat (first | refine kg ?_ _ | refine kk ?_ | refine ki ?_ _)); exact BK122.out⟩, ⟨by repeat (first | (with_reducible first | exact HB.out | apply ke | apply ka | apply kf | refine kj ?_ GE122.out) | exact HB.out)⟩⟩
    ·rw [if_neg c7] at H
     have c7b0 : (a0_0 == 1) = false := beq_eq_false_iff_ne.mpr c7
     have c7b1 : (a0_0 != 1) = true := bne_iff_ne.mpr c7
     have H' := kd.mk H
     clear H
     have hcz9_0 : w4.cell? ⟨gb122, 0, none⟩ = some (.int .i64 a0_0) := (kc BK122.out 0).trans rfl
     have hcz9_1 : w4.cell? ⟨gb122, 1, none⟩ = some (.int .i64 a0_1) := (kc BK122.out 1).trans rfl
     have hcz9_2 : w4.cell? ⟨gb122, 2, none⟩ = some (.int .u32 a0_2) := (kc BK122.out 2).trans rfl
     have hcz9_3 : w4.cell? ⟨gb122, 3, none⟩ = some (.string a0_3) := (kc BK122.out 3).trans rfl
     have hcz9_4 : w4.cell? ⟨gb122, 4, none⟩ = some (.slice A0_4 l0_4.length c0_4) := (kc BK122.out 4).trans rfl
     have hfz9_0 := kb BK122.out 0
     have hfz9_1 := kb BK122.out 1
     have hfz9_2 := kb BK122.out 2
     have hfz9_3 := kb BK122.out 3
     have hfz9_4 := kb BK122.out 4
     go_wp2
     go_meet
     case rel => exact ⟨_, ((a0_2 != 0)), (by first | rfl | (simp; done) | (simp [Ext.ne_nil]; done) | (simp [*]; done)), H', ⟨by first | omega | exact Nat.le_refl _⟩, ⟨by (with_reducible repeat (first | refine kg ?_ _ | refine kk ?_ | refine ki ?_ _)); exact BK122.out⟩, ⟨by repeat (first | (with_reducible first | exact HB.out | apply ke | apply ka | apply kf | refine kj ?_ GE122.out) | exact HB.out)⟩⟩
   ·rw [if_neg c6] at H
    have c6b0 : (a0_0 == 6) = false := beq_eq_false_iff_ne.mpr c6
    have c6b1 : (a0_0 != 6) = true := bne_iff_ne.mpr c6
    by_cases c10 : a0_1 = 0
    ·rw [if_pos c10] at H
     have c10b0 : (a0_1 == 0) = true := beq_iff_eq.mpr c10
     have c10b1 : (a0_1 != 0) = false := bne_eq_false_iff_eq.mpr c10
     clear c10
     by_cases c11 : a0_0 = 1
     ·rw [if_pos c11] at H
      have c11b0 : (a0_0 == 1) = true := beq_iff_eq.mpr c11
      have c11b1 : (a0_0 != 1) = false := bne_eq_false_iff_eq.mpr c11
      clear c11
      have H' := kd.mk H
      clear H
      have hcz12_0 : w4.cell? ⟨gb122, 0, none⟩ = some (.int .i64 a0_0) := (kc BK122.out 0).trans rfl
      have hcz12_1 : w4.cell? ⟨gb122, 1, none⟩ = some (.int .i64 a0_1) := (kc BK122.out 1).trans rfl
      have hcz12_2 : w4.cell? ⟨gb122, 2, none⟩ = some (.int .u32 a0_2) := (kc BK122.out 2).trans rfl
      have hcz12_3 : w4.cell? ⟨gb122, 3, none⟩ = some (.string a0_3) := (kc BK122.out 3).trans rfl
      have hcz12_4 : w4.cell? ⟨gb122, 4, none⟩ = some (.slice A0_4 l0_4.length c0_4) := (kc BK122.out 4).trans rfl
      have hfz12_0 := kb BK122.out 0
      have hfz12_1 := kb BK122.out 1
      have hfz12_2 := kb BK122.out 2
      have hfz12_3 := kb BK122.out 3
      have hfz12_4 := kb BK122.out 4
      go_wp2
      go_meet
      case rel => exact ⟨_, (false), (by first | rfl | (simp; done) | (simp [Ext.ne_nil]; done) | (simp [*]; done)), H', ⟨by first | omega | exact Nat.le_refl _⟩, ⟨by (with_reducible repeat (first | refine kg ?_ _ | refine kk ?_ | refine ki ?_ _)); exact BK122.out⟩, ⟨by repeat (first | (with_reducible first | exact HB.out | apply ke | apply ka | apply kf | refine kj ?_ GE122.out) | exact HB.out)⟩⟩
     ·rw [if_neg c11] at H
      have c11b0 : (a0_0 == 1) = false := beq_eq_false_iff_ne.mpr c11
      have c11b1 : (a0_0 != 1) = true := bne_iff_ne.mpr c11
      have H' := kd.mk H
      clear H
      have hcz13_0 : w4.cell? ⟨gb122, 0, none⟩ = some (.int .i64 a0_0) := (kc BK122.out 0).trans rfl
      have hcz13_1 : w4.cell? ⟨gb122, 1, none⟩ = some (.int .i64 a0_1) := (kc BK122.out 1).trans rfl
      have hcz13_2 : w4.cell? ⟨gb122, 2, none⟩ = some (.int .u32 a0_2) := (kc BK122.out 2).trans rfl
      have hcz13_3 : w4.cell? ⟨gb122, 3, none⟩ = some (.string a0_3) := (kc BK122.out 3).trans rfl
      have hcz13_4 : w4.cell? ⟨gb122, 4, none⟩ = some (.slice A0_4 l0_4.length c0_4) := (kc BK122.out 4).trans rfl
      have hfz13_0 := kb BK122.out 0
      have hfz13_1 := kb BK122.out 1
      have hfz13_2 := kb BK122.out 2
      have hfz13_3 := kb BK122.out 3
      have hfz13_4 := kb BK122.out 4
      go_wp2
      go_meet
      case rel => exact ⟨_, ((a0_2 != 0)), (by first | rfl | (simp; done) | (simp [Ext.ne_nil]; done) | (simp [*]; done)), H', ⟨by first | omega | exact Nat.le_refl _⟩, ⟨by (with_reducible repeat (first | refine kg ?_ _ | refine kk ?_ | refine ki ?_ _)); exact BK122.out⟩, ⟨by repeat (first | (with_reducible first | exact HB.out | apply ke | apply ka | apply kf | refine kj ?_ GE122.out) | exact HB.out)⟩⟩
    ·rw [if_neg c10] at H
     have c10b0 : (a0_1 == 0) = false := beq_eq_false_iff_ne.mpr c10
     have c10b1 : (a0_1 != 0) = true := bne_iff_ne.mpr c10
     have H' := kd.mk H
     clear H
     have hcz14_0 : w4.cell? ⟨gb122, 0, none⟩ = some (.int .i64 a0_0) := (kc BK122.out 0).trans rfl
     have hcz14_1 : w4.cell? ⟨gb122, 1, none⟩ = some (.int .i64 a0_1) := (kc BK122.out 1).trans rfl
     have hcz14_2 : w4.cell? ⟨gb122, 2, none⟩ = some (.int .u32 a0_2) := (kc BK122.out 2).trans rfl
     have hcz14_3 : w4.cell? ⟨gb122, 3, none⟩ = some (.string a0_3) := (kc BK122.out 3).trans rfl
     have hcz14_4 : w4.cell? ⟨gb122, 4, none⟩ = some (.slice A0_4 l0_4.length c0_4) := (kc BK122.out 4).trans rfl
     have hfz14_0 := kb BK122.out 0
     have hfz14_1 := kb BK122.out 1
     have hfz14_2 := kb BK122.out 2
     have hfz14_3 := kb BK122.out 3
     have hfz14_4 := kb BK122.out 4
     go_wp2
     go_meet
     case rel => exact ⟨_, (true), (by first | rfl | (simp; done) | (simp [Ext.ne_nil]; done) | (simp [*]; done)), H', ⟨by first | omega | exact Nat.le_refl _⟩, ⟨by (with_reducible repeat (first | refine kg ?_ _ | refine kk ?_ | refine ki ?_ _)); exact BK122.out⟩, ⟨by repeat (first | (with_reducible first | exact HB.out | apply ke | apply ka | apply kf | refine kj ?_ GE122.out) | exact HB.out)⟩⟩
 case rest =>
  clear HC3
  try clear c1
  try clear c2
  try clear p2
  try clear c5
  try clear c5b0
  try clear c6
  try clear c6b0
  try clear c6b1
  try clear c7
  try clear c7b0
  try clear c7b1
  try clear c10
  try clear c10b0
  try clear c10b1
  try clear c11
  try clear c11b0
  try clear c11b1
  try clear hcz12_0
  try clear hcz12_1
  try clear hcz12_2
  try clear hcz12_3
  try clear hcz12_4
  try clear hcz13_0
  try clear hcz13_1
  try clear hcz13_2
  try clear hcz13_3
  try clear hcz13_4
  try clear hcz14_0
  try clear hcz14_1
  try clear hcz14_2
  try clear hcz14_3
  try clear hcz14_4
  try clear hcz8_0
  try clear hcz8_1
  try clear hcz8_2
  try clear hcz8_3
  try clear hcz8_4
  try clear hcz9_0
  try clear hcz9_1
  try clear hcz9_2
  try clear hcz9_3
  try clear hcz9_4
  try clear hfz12_0
  try clear hfz12_1
  try clear hfz12_2
  try clear hfz12_3
  try clear hfz12_4
  try clear hfz13_0
  try clear hfz13_1
  try clear hfz13_2
  try clear hfz13_3
  try clear hfz13_4
  try clear hfz14_0
  try clear hfz14_1
  try clear hfz14_2
  try clear hfz14_3
  try clear hfz14_4
  try clear hfz8_0
  try clear hfz8_1
  try clear hfz8_2
  try clear hfz8_3
  try clear hfz8_4
  try clear hfz9_0
  try clear hfz9_1
  try clear hfz9_2
  try clear hfz9_3
  try clear hfz9_4
  obtain ⟨kq, x28_2, rfl, HA, HJ2, BK122, HB⟩ := hcut
  cases kq with
  | zero => exact absurd HA.out (by simp [rRightExpr.j0])
  | succ kj2 =>
   have H := HA.out
   clear HA
   simp only [rRightExpr.j0] at H
   by_cases c15 : x28_2 = true
   ·subst c15
    replace H : (some false) = some r := by rw [if_pos rfl] at H; exact H
    obtain rfl := Option.some.inj H
    go_wp2
    go_ret
    exact ⟨by first | rfl | (simp [kp, ko] <;> rfl) | (simp [*, kp, ko] <;> rfl), by repeat (first | (with_reducible first | exact HB.out | apply ke | apply ka | apply kf | refine kj ?_ GE122.out) | exact HB.out)⟩
   ·replace c15 := Bool.eq_false_iff.mpr c15
    subst c15
    replace H : (if a0_0 = 2 then (rRightExpr.j1 kj2 a1 true a0_0 a0_1 a0_2 a0_3 l0_4) else (if a0_0 = 3 then (rRightExpr.j1 kj2 a1 true a0_0 a0_1 a0_2 a0_3 l0_4) else (rRightExpr.j1 kj2 a1 (a0_0 == 4) a0_0 a0_1 a0_2 a0_3 l0_4))) = some r := by rw [if_neg (show ¬ (false = true) by decide)] at H; exact H
    have HC16 := kd.mk H
    clear H
    go_upto_region 3 with (fail)
    go_cut [5] (fun v5 wc => ∃ (kq : Nat) (x5_15 : Bool), v5 = .bool x5_15 ∧ kd (rRightExpr.j1 kq a1 x5_15 a0_0 a0_1 a0_2 a0_3 l0_4 = some r) ∧ kd (kq ≤ kj2) ∧ kd (wc.heap[gb122]? = some (.cells #[.int .i64 a0_0, .int .i64 a0_1, .int .u32 a0_2, .string a0_3, (.slice A0_4 l0_4.length c0_4)] 36 (0, 0))) ∧ kd (Below w.heap.size w wc))
    case first =>
     have H := HC16.out
     clear HC16
     by_cases c17 : a0_0 = 2
     ·rw [if_pos c17] at H
      have c17b0 : (a0_0 == 2) = true := beq_iff_eq.mpr c17
      have c17b1 : (a0_0 != 2) = false := bne_eq_false_iff_eq.mpr c17
      clear c17
      (first | rw [c17b0] | (simp only [jc, jd]; rw [c17b0]) | skip)
      have H' := kd.mk H
      clear H
      have hcz18_0 : wc.cell? ⟨gb122, 0, none⟩ = some (.int .i64 a0_0) := (kc BK122.out 0).trans rfl
      have hcz18_1 : wc.cell? ⟨gb122, 1, none⟩ = some (.int .i64 a0_1) := (kc BK122.out 1).trans rfl
      have hcz18_2 : wc.cell? ⟨gb122, 2, none⟩ = some (.int .u32 a0_2) := (kc BK122.out 2).trans rfl
      have hcz18_3 : wc.cell? ⟨gb122, 3, none⟩ = some (.string a0_3) := (kc BK122.out 3).trans rfl
      have hcz18_4 : wc.cell? ⟨gb122, 4, none⟩ = some (.slice A0_4 l0_4.length c0_4) := (kc BK122.out 4).trans rfl
      have hfz18_0 := kb BK122.out 0
      have hfz18_1 := kb BK122.out 1
      have hfz18_2 := kb BK122.out 2
      have hfz18_3 := kb BK122.out 3
      have hfz18_4 := kb BK122.out 4
      go_wp2
      go_meet
      case rel => exact ⟨_, (true), (by first | rfl | (simp; done) | (simp [Ext.ne_nil]; done) | (simp [*]; done)), H', ⟨by have := HJ2.out; first | omega | exact Nat.le_refl _⟩, ⟨by (with_reducible repeat (first | refine kg ?_ _ | refine kk ?_ | refine ki ?_ _)); exact BK122.out⟩, ⟨by repeat (first | (with_reducible first | exact HB.out | apply ke | apply ka | apply kf | refine kj ?_ GE122.out) | exact HB.out)⟩⟩
     ·rw [if_neg c17] at H
      have c17b0 : (a0_0 == 2) = false := beq_eq_false_iff_ne.mpr c17
      have c17b1 : (a0_0 != 2) = true := bne_iff_ne.mpr c17
      (first | rw [c17b0] | (simp only [jc, jd]; rw [c17b0]) | skip)
      by_cases c19 : a0_0 = 3
      ·rw [if_pos c19] at H
       have c19b0 : (a0_0 == 3) = true := beq_iff_eq.mpr c19
       have c19b1 : (a0_0 != 3) = false := bne_eq_false_iff_eq.mpr c19
       clear c19
       have H' := kd.mk H
       clear H
       have hcz20_0 : wc.cell? ⟨gb122, 0, none⟩ = some (.int .i64 a0_0) := (kc BK122.out 0).trans rfl
       have hcz20_1 : wc.cell? ⟨gb122, 1, none⟩ = some (.int .i64 a0_1) := (kc BK122.out 1).trans rfl
       have hcz20_2 : wc.cell? ⟨gb122, 2, none⟩ = some (.int .u32 a0_2) := (kc BK122.out 2).trans rfl
       have hcz20_3 : wc.cell? ⟨gb122, 3, none⟩ = some (.string a0_3) := (kc BK122.out 3).trans rfl
       have hcz20_4 : wc.cell? ⟨gb122, 4, none⟩ = some (.slice A0_4 l0_4.length c0_4) := (kc BK122.out 4).trans rfl
       have hfz20_0 := kb BK122.out 0
       have hfz20_1 := kb BK122.out 1
       have hfz20_2 := kb BK122.out 2
       have hfz20_3 := kb BK122.out 3
       have hfz20_4 := kb BK122.out 4
       go_wp2
       go_meet
       case rel => exact ⟨_, (true), (by first | rfl | (simp; done) | (simp [Ext.ne_nil]; done) | (simp [*]; done)), H', ⟨by have := HJ2.out; first | omega | exact Nat.le_refl _⟩, ⟨by (with_reducible repeat (first | refine kg ?_ _ | refine kk ?_ | refine ki ?_ _)); exact BK122.out⟩, ⟨by repeat (first | (with_reducible first | exact HB.out | apply ke | apply ka | apply kf | refine kj ?_ GE122.out) | exact HB.out)⟩⟩
      ·rw [if_neg c19] at H
       have c19b0 : (a0_0 == 3) = false := beq_eq_false_iff_ne.mpr c19
       have c19b1 : (a0_0 != 3) = true := bne_iff_ne.mpr c19
       have H' := kd.mk H
       clear H
       have hcz21_0 : wc.cell? ⟨gb122, 0, none⟩ = some (.int .i64 a0_0) := (kc BK122.out 0).trans rfl
       have hcz21_1 : wc.cell? ⟨gb122, 1, none⟩ = some (.int .i64 a0_1) := (kc BK122.out 1).trans rfl
       have hcz21_2 : wc.cell? ⟨gb122, 2, none⟩ = some (.int .u32 a0_2) := (kc BK122.out 2).trans rfl
       have hcz21_3 : wc.cell? ⟨gb122, 3, none⟩ = some (.string a0_3) := (kc BK122.out 3).trans rfl
       have hcz21_4 : wc.cell? ⟨gb122, 4, none⟩ = some (.slice A0_4 l0_4.length c0_4) := (kc BK122.out 4).trans rfl
       have hfz21_0 := kb BK122.out 0
       have hfz21_1 := kb BK122.out 1
       have hfz21_2 := kb BK122.out 2
       have hfz21_3 := kb BK122.out 3
       have hfz21_4 := kb BK122.out 4
       go_wp2
       go_meet
       case rel => exact ⟨_, ((a0_0 == 4)), (by first | rfl | (simp; done) | (simp [Ext.ne_nil]; done) | (simp [*]; done)), H', ⟨by have := HJ2.out; first | omega | exact Nat.le_refl _⟩, ⟨by (with_reducible repeat (first | refine kg ?_ _ | refine kk ?_ | refine ki ?_ _)); exact BK122.out⟩, ⟨by repeat (first | (with_reducible first | exact HB.out | apply ke | apply ka | apply kf | refine kj ?_ GE122.out) | exact HB.out)⟩⟩
    case rest =>
     clear HC16
     try clear c1
     try clear c2
     try clear p2
     try clear c5
     try clear c5b0
     try clear c6
     try clear c6b0
     try clear c6b1
     try clear c7
     try clear c7b0
     try clear c7b1
     try clear c10
     try clear c10b0
     try clear c10b1
     try clear c11
     try clear c11b0
     try clear c11b1
     try clear c15
     try clear c17
     try clear c17b0
     try clear c17b1
     try clear c19
     try clear c19b0
     try clear c19b1
     try clear hcz12_0
     try clear hcz12_1
     try clear hcz12_2
     try clear hcz12_3
     try clear hcz12_4
     try clear hcz13_0
     try clear hcz13_1
     try clear hcz13_2
     try clear hcz13_3
     try clear hcz13_4
     try clear hcz14_0
     try clear hcz14_1
     try clear hcz14_2
     try clear hcz14_3
     try clear hcz14_4
     try clear hcz18_0
     try clear hcz18_1
     try clear hcz18_2
     try clear hcz18_3
     try clear hcz18_4
     try clear hcz20_0
     try clear hcz20_1
     try clear hcz20_2
     try clear hcz20_3
     try clear hcz20_4
     try clear hcz21_0
     try clear hcz21_1
     try clear hcz21_2
     try clear hcz21_3
     try clear hcz21_4
     try clear hcz8_0
     try clear hcz8_1
     try clear hcz8_2
     try clear hcz8_3
     try clear hcz8_4
     try clear hcz9_0
     try clear hcz9_1
     try clear hcz9_2
     try clear hcz9_3
     try clear hcz9_4
     try clear hfz12_0
     try clear hfz12_1
     try clear hfz12_2
     try clear hfz12_3
     try clear hfz12_4
     try clear hfz13_0
     try clear hfz13_1
     try clear hfz13_2
     try clear hfz13_3
     try clear hfz13_4
     try clear hfz14_0
     try clear hfz14_1
     try clear hfz14_2
     try clear hfz14_3
     try clear hfz14_4
     try clear hfz18_0
     try clear hfz18_1
     try clear hfz18_2
     try clear hfz18_3
     try clear hfz18_4
     try clear hfz20_0
     try clear hfz20_1
     try clear hfz20_2
     try clear hfz20_3
     try clear hfz20_4
     try clear hfz21_0
     try clear hfz21_1
     try clear hfz21_2
     try clear hfz21_3
     try clear hfz21_4
     try clear hfz8_0
     try clear hfz8_1
     try clear hfz8_2
     try clear hfz8_3
     try clear hfz8_4
     try clear hfz9_0
     try clear hfz9_1
     try clear hfz9_2
     try clear hfz9_3
     try clear hfz9_4
     try clear p2
     obtain ⟨kq, x5_15, rfl, HA, HJ15, BK122, HB⟩ := hcut
     cases kq with
     | zero => exact absurd HA.out (by simp [rRightExpr.j1])
     | succ kj15 =>
      have H := HA.out
      clear HA
      simp only [rRightExpr.j1] at H
      have HC22 := kd.mk H
      clear H
      go_upto_region 4 with (fail)
      go_cut [55] (fun v55 wc => ∃ (kq : Nat) (x55_21 : Bool), v55 = .bool x55_21 ∧ kd (rRightExpr.j2 kq a1 x55_21 a0_0 a0_1 a0_2 a0_3 l0_4 = some r) ∧ kd (kq ≤ kj15) ∧ kd (wc.heap[gb122]? = some (.cells #[.int .i64 a0_0, .int .i64 a0_1, .int .u32 a0_2, .string a0_3, (.slice A0_4 l0_4.length c0_4)] 36 (0, 0))) ∧ kd (Below w.heap.size w wc))
      case first =>
       have H := HC22.out
       clear HC22
       by_cases c23 : (x5_15 != (a0_3.toList != ([] : List UInt8))) = true
       ·rw [if_pos c23] at H
        have c23b0 : (x5_15 != (a0_3.toList != ([] : List UInt8))) = true := c23
        have c23w : (x5_15 = !a0_3.toList.isEmpty) = False := eq_false (by intro h_; rw [h_] at c23b0; revert c23b0; cases a0_3.toList <;> simp)
        (try (have c23b1 : decide (x5_15 = (a0_3.toList != ([] : List UInt8))) = false := by simpa using c23))
        (try (have c23b2 : (x5_15 == (a0_3.toList != ([] : List UInt8))) = false := by simpa using c23))
        (try (have c23b3 : ¬ (x5_15 = (a0_3.toList != ([] : List UInt8))) := by simpa using c23))
        clear c23
        (first | rw [c23b0] | (simp only [jc, jd]; rw [c23b0]) | skip)
        have H' := kd.mk H
        clear H
        have hcz24_0 : wc.cell? ⟨gb122, 0, none⟩ = some (.int .i64 a0_0) := (kc BK122.out 0).trans rfl
        have hcz24_1 : wc.cell? ⟨gb122, 1, none⟩ = some (.int .i64 a0_1) := (kc BK122.out 1).trans rfl
        have hcz24_2 : wc.cell? ⟨gb122, 2, none⟩ = some (.int .u32 a0_2) := (kc BK122.out 2).trans rfl
        have hcz24_3 : wc.cell? ⟨gb122, 3, none⟩ = some (.string a0_3) := (kc BK122.out 3).trans rfl
        have hcz24_4 : wc.cell? ⟨gb122, 4, none⟩ = some (.slice A0_4 l0_4.length c0_4) := (kc BK122.out 4).trans rfl
        have hfz24_0 := kb BK122.out 0
        have hfz24_1 := kb BK122.out 1
        have hfz24_2 := kb BK122.out 2
        have hfz24_3 := kb BK122.out 3
        have hfz24_4 := kb BK122.out 4
        go_wp2
        go_meet
        case rel => exact ⟨_, (true), (by first | rfl | (simp; done) | (simp [Ext.ne_nil]; done) | (simp [*]; done)), H', ⟨by have := HJ2.out; have := HJ15.out; first | omega | exact Nat.le_refl _⟩, ⟨by (with_reducible repeat (first | refine kg ?_ _ | refine kk ?_ | refine ki ?_ _)); exact BK122.out⟩, ⟨by repeat (first | (with_reducible first | exact HB.out | apply ke | apply ka | apply kf | refine kj ?_ GE122.out) | exact HB.out)⟩⟩
       ·rw [if_neg c23] at H
        have c23b0 : (x5_15 != (a0_3.toList != ([] : List UInt8))) = false := by simpa using c23
        have c23w : (x5_15 = !a0_3.toList.isEmpty) = True := eq_true (by have h_ := c23b0; revert h_; cases x5_15 <;> cases a0_3.toList <;> simp)
        (try (have c23b1 : decide (x5_15 = (a0_3.toList != ([] : List UInt8))) = true := by simpa using c23))
        (try (have c23b2 : (x5_15 == (a0_3.toList != ([] : List UInt8))) = true := by simpa using c23))
        clear c23
        (first | rw [c23b0] | (simp only [jc, jd]; rw [c23b0]) | skip)
        by_cases c25 : x5_15 = true
        ·subst c25
         (try (have cs_ := Ext.w_tt c23w))
         (try (have cs_ := Ext.w_ft c23w))
         (try (have cs_ := Ext.w_tf c23w))
         (try (have cs_ := Ext.w_ff c23w))
         replace H : ((rIsName.f kj15 a0_3).bind fun t123 => (rRightExpr.j2 kj15 a1 (!t123) a0_0 a0_1 a0_2 a0_3 l0_4)) = some r := by rw [if_pos rfl] at H; exact H
         replace H := Option.bind_eq_some_iff.mp H
         obtain ⟨t123, A260, H⟩ := H
         replace H : (rRightExpr.j2 kj15 a1 (!t123) a0_0 a0_1 a0_2 a0_3 l0_4) = some r := H
         have A26 := kd.mk A260
         clear A260
         have H' := kd.mk H
         clear H
         have hcz27_0 : wc.cell? ⟨gb122, 0, none⟩ = some (.int .i64 a0_0) := (kc BK122.out 0).trans rfl
         have hcz27_1 : wc.cell? ⟨gb122, 1, none⟩ = some (.int .i64 a0_1) := (kc BK122.out 1).trans rfl
         have hcz27_2 : wc.cell? ⟨gb122, 2, none⟩ = some (.int .u32 a0_2) := (kc BK122.out 2).trans rfl
         have hcz27_3 : wc.cell? ⟨gb122, 3, none⟩ = some (.string a0_3) := (kc BK122.out 3).trans rfl
         have hcz27_4 : wc.cell? ⟨gb122, 4, none⟩ = some (.slice A0_4 l0_4.length c0_4) := (kc BK122.out 4).trans rfl
         have hfz27_0 := kb BK122.out 0
         have hfz27_1 := kb BK122.out 1
         have hfz27_2 := kb BK122.out 2
         have hfz27_3 := kb BK122.out 3
         have hfz27_4 := kb BK122.out 4
         go_wp2_with (first | (go_at_call 43; (with_reducible refine (rIsName.calls kj15 a0_3 t123 _ A26.out).mono ?_); rintro e w28 ⟨rfl, hb⟩; have n0_ := kd.mk (ku (g := gb122) (o := .cells #[.int .i64 a0_0, .int .i64 a0_1, .int .u32 a0_2, .string a0_3, .slice A0_4 l0_4.length c0_4] 36 (0, 0)) (by (with_reducible repeat (first | refine kg ?_ _ | refine kk ?_ | refine ki ?_ _)); exact BK122.out) hb); have n1_ := kd.mk (kr (by repeat (first | (with_reducible first | exact HB.out | apply ke | apply ka | apply kf | refine kj ?_ GE122.out) | exact HB.out)) hb); clear BK122; clear HB; have BK122 := n0_; have HB := n1_; clear n0_ n1_; (try clear hb)))
         go_meet
         case rel => exact ⟨_, (!t123), (by first | rfl | (simp; done) | (simp [Ext.ne_nil]; done) | (simp [*]; done)), H', ⟨by have := HJ2.out; have := HJ15.out; first | omega | exact Nat.le_refl _⟩, ⟨by (with_reducible repeat (first | refine kg ?_ _ | refine kk ?_ | refine ki ?_ _)); exact BK122.out⟩, ⟨by repeat (first | (with_reducible first | exact HB.out | apply ke | apply ka | apply kf | refine kj ?_ GE122.out) | exact HB.out)⟩⟩
        ·replace c25 := Bool.eq_false_iff.mpr c25
         subst c25
         (try (have cs_ := Ext.w_tt c23w))
         (try (have cs_ := Ext.w_ft c23w))
         (try (have cs_ := Ext.w_tf c23w))
         (try (have cs_ := Ext.w_ff c23w))
         replace H : (rRightExpr.j2 kj15 a1 false a0_0 a0_1 a0_2 a0_3 l0_4) = some r := by rw [if_neg (show ¬ (false = true) by decide)] at H; exact H
         have H' := kd.mk H
         clear H
         have hcz29_0 : wc.cell? ⟨gb122, 0, none⟩ = some (.int .i64 a0_0) := (kc BK122.out 0).trans rfl
         have hcz29_1 : wc.cell? ⟨gb122, 1, none⟩ = some (.int .i64 a0_1) := (kc BK122.out 1).trans rfl
         have hcz29_2 : wc.cell? ⟨gb122, 2, none⟩ = some (.int .u32 a0_2) := (kc BK122.out 2).trans rfl
         have hcz29_3 : wc.cell? ⟨gb122, 3, none⟩ = some (.string a0_3) := (kc BK122.out 3).trans rfl
         have hcz29_4 : wc.cell? ⟨gb122, 4, none⟩ = some (.slice A0_4 l0_4.length c0_4) := (kc BK122.out 4).trans rfl
         have hfz29_0 := kb BK122.out 0
         have hfz29_1 := kb BK122.out 1
         have hfz29_2 := kb BK122.out 2
         have hfz29_3 := kb BK122.out 3
         have hfz29_4 := kb BK122.out 4
         go_wp2
         go_meet
         case rel => exact ⟨_, (false), (by first | rfl | (simp; done) | (simp [Ext.ne_nil]; done) | (simp [*]; done)), H', ⟨by have := HJ2.out; have := HJ15.out; first | omega | exact Nat.le_refl _⟩, ⟨by (with_reducible repeat (first | refine kg ?_ _ | refine kk ?_ | refine ki ?_ _)); exact BK122.out⟩, ⟨by repeat (first | (with_reducible first | exact HB.out | apply ke | apply ka | apply kf | refine kj ?_ GE122.out) | exact HB.out)⟩⟩
      case rest =>
       clear HC22
       try clear c1
       try clear c2
       try clear p2
       try clear c5
       try clear c5b0
       try clear c6
       try clear c6b0
       try clear c6b1
       try clear c7
       try clear c7b0
       try clear c7b1
       try clear c10
       try clear c10b0
       try clear c10b1
       try clear c11
       try clear c11b0
       try clear c11b1
       try clear c15
       try clear c17
       try clear c17b0
       try clear c17b1
       try clear c19
       try clear c19b0
       try clear c19b1
       try clear c23
       try clear c23b0
       try clear c23b1
       try clear c23b2
       try clear c25
       try clear hcz12_0
       try clear hcz12_1
       try clear hcz12_2
       try clear hcz12_3
       try clear hcz12_4
       try clear hcz13_0
       try clear hcz13_1
       try clear hcz13_2
       try clear hcz13_3
       try clear hcz13_4
       try clear hcz14_0
       try clear hcz14_1
       try clear hcz14_2
       try clear hcz14_3
       try clear hcz14_4
       try clear hcz18_0
       try clear hcz18_1
       try clear hcz18_2
       try clear hcz18_3
       try clear hcz18_4
       try clear hcz20_0
       try clear hcz20_1
       try clear hcz20_2
       try clear hcz20_3
       try clear hcz20_4
       try clear hcz21_0
       try clear hcz21_1
       try clear hcz21_2
       try clear hcz21_3
       try clear hcz21_4
       try clear hcz24_0
       try clear hcz24_1
       try clear hcz24_2
       try clear hcz24_3
       try clear hcz24_4
       try clear hcz27_0
       try clear hcz27_1
       try clear hcz27_2
       try clear hcz27_3
       try clear hcz27_4
       try clear hcz29_0
       try clear hcz29_1
       try clear hcz29_2
       try clear hcz29_3
       try clear hcz29_4
       try clear hcz8_0
       try clear hcz8_1
       try clear hcz8_2
       try clear hcz8_3
       try clear hcz8_4
       try clear hcz9_0
       try clear hcz9_1
       try clear hcz9_2
       try clear hcz9_3
       try clear hcz9_4
       try clear hfz12_0
       try clear hfz12_1
       try clear hfz12_2
       try clear hfz12_3
       try clear hfz12_4
       try clear hfz13_0
       try clear hfz13_1
       try clear hfz13_2
       try clear hfz13_3
       try clear hfz13_4
       try clear hfz14_0
       try clear hfz14_1
       try clear hfz14_2
       try clear hfz14_3
       try clear hfz14_4
       try clear hfz18_0
       try clear hfz18_1
       try clear hfz18_2
       try clear hfz18_3
       try clear hfz18_4
       try clear hfz20_0
       try clear hfz20_1
       try clear hfz20_2
       try clear hfz20_3
       try clear hfz20_4
       try clear hfz21_0
       try clear hfz21_1
       try clear hfz21_2
       try clear hfz21_3
       try clear hfz21_4
       try clear hfz24_0
       try clear hfz24_1
       try clear hfz24_2
       try clear hfz24_3
       try clear hfz24_4
       try clear hfz27_0
       try clear hfz27_1
       try clear hfz27_2
       try clear hfz27_3
       try clear hfz27_4
       try clear hfz29_0
       try clear hfz29_1
       try clear hfz29_2
       try clear hfz29_3
       try clear hfz29_4
       try clear hfz8_0
       try clear hfz8_1
       try clear hfz8_2
       try clear hfz8_3
       try clear hfz8_4
       try clear hfz9_0
       try clear hfz9_1
       try clear hfz9_2
       try clear hfz9_3
       try clear hfz9_4
       try clear p2
       obtain ⟨kq, x55_21, rfl, HA, HJ21, BK122, HB⟩ := hcut
       cases kq with
       | zero => exact absurd HA.out (by simp [rRightExpr.j2])
       | succ kj21 =>
        have H := HA.out
        clear HA
        simp only [rRightExpr.j2] at H
        by_cases c30 : x55_21 = true
        ·subst c30
         (try (have cs_ := Ext.w_tt c23w))
         (try (have cs_ := Ext.w_ft c23w))
         (try (have cs_ := Ext.w_tf c23w))
         (try (have cs_ := Ext.w_ff c23w))
         replace H : (some false) = some r := by rw [if_pos rfl] at H; exact H
         obtain rfl := Option.some.inj H
         go_wp2
         go_ret
         exact ⟨by first | rfl | (simp [kp, ko] <;> rfl) | (simp [*, kp, ko] <;> rfl), by repeat (first | (with_reducible first | exact HB.out | apply ke | apply ka | apply kf | refine kj ?_ GE122.out) | exact HB.out)⟩
        ·replace c30 := Bool.eq_false_iff.mpr c30
         subst c30
         (try (have cs_ := Ext.w_tt c23w))
         (try (have cs_ := Ext.w_ft c23w))
         (try (have cs_ := Ext.w_tf c23w))
         (try (have cs_ := Ext.w_ff c23w))
         replace H : (if a0_0 = 1 then (rRightExpr.j3 kj21 a1 (l0_4.length : Int) a0_0 (a0_0 == 1) a0_0 a0_1 a0_2 a0_3 l0_4) else (if a0_0 = 2 then (rRightExpr.j3 kj21 a1 (l0_4.length : Int) a0_0 (a0_0 == 2) a0_0 a0_1 a0_2 a0_3 l0_4) else (rRightExpr.j3 kj21 a1 (l0_4.length : Int) a0_0 (a0_0 == 5) a0_0 a0_1 a0_2 a0_3 l0_4))) = some r := by rw [if_neg (show ¬ (false = true) by decide)] at H; exact H
         have HC31 := kd.mk H
         clear H
         have hcz32_0 : wc.cell? ⟨gb122, 0, none⟩ = some (.int .i64 a0_0) := (kc BK122.out 0).trans rfl
         have hcz32_1 : wc.cell? ⟨gb122, 1, none⟩ = some (.int .i64 a0_1) := (kc BK122.out 1).trans rfl
         have hcz32_2 : wc.cell? ⟨gb122, 2, none⟩ = some (.int .u32 a0_2) := (kc BK122.out 2).trans rfl
         have hcz32_3 : wc.cell? ⟨gb122, 3, none⟩ = some (.string a0_3) := (kc BK122.out 3).trans rfl
         have hcz32_4 : wc.cell? ⟨gb122, 4, none⟩ = some (.slice A0_4 l0_4.length c0_4) := (kc BK122.out 4).trans rfl
         have hfz32_0 := kb BK122.out 0
         have hfz32_1 := kb BK122.out 1
         have hfz32_2 := kb BK122.out 2
         have hfz32_3 := kb BK122.out 3
         have hfz32_4 := kb BK122.out 4
         go_upto_if 61 with (fail)
         go_cut [61] (fun v61 wc => ∃ (kq : Nat) (x61_30 : Bool), v61 = .bool x61_30 ∧ kd (rRightExpr.j3 kq a1 (l0_4.length : Int) a0_0 x61_30 a0_0 a0_1 a0_2 a0_3 l0_4 = some r) ∧ kd (kq ≤ kj21) ∧ kd (wc.heap[gb122]? = some (.cells #[.int .i64 a0_0, .int .i64 a0_1, .int .u32 a0_2, .string a0_3, (.slice A0_4 l0_4.length c0_4)] 36 (0, 0))) ∧ kd (Below w.heap.size w wc))
         case first =>
          have H := HC31.out
          clear HC31
          by_cases c33 : a0_0 = 1
          ·rw [if_pos c33] at H
           have c33b0 : (a0_0 == 1) = true := beq_iff_eq.mpr c33
           have c33b1 : (a0_0 != 1) = false := bne_eq_false_iff_eq.mpr c33
           clear c33
           (first | rw [c33b0] | (simp only [jc, jd]; rw [c33b0]) | skip)
           have H' := kd.mk H
           clear H
           go_wp2
           go_meet
           case rel => exact ⟨_, ((a0_0 == 1)), (by first | rfl | (simp; done) | (simp [Ext.ne_nil]; done) | (simp [*]; done)), H', ⟨by have := HJ2.out; have := HJ15.out; have := HJ21.out; first | omega | exact Nat.le_refl _⟩, ⟨by (with_reducible repeat (first | refine kg ?_ _ | refine kk ?_ | refine ki ?_ _)); exact BK122.out⟩, ⟨by repeat (first | (with_reducible first | exact HB.out | apply ke | apply ka | apply kf | refine kj ?_ GE122.out) | exact HB.out)⟩⟩
          ·rw [if_neg c33] at H
           have c33b0 : (a0_0 == 1) = false := beq_eq_false_iff_ne.mpr c33
           have c33b1 : (a0_0 != 1) = true := bne_iff_ne.mpr c33
           (first | rw [c33b0] | (simp only [jc, jd]; rw [c33b0]) | skip)
           by_cases c34 : a0_0 = 2
           ·rw [if_pos c34] at H
            have c34b0 : (a0_0 == 2) = true := beq_iff_eq.mpr c34
            have c34b1 : (a0_0 != 2) = false := bne_eq_false_iff_eq.mpr c34
            clear c34
            have H' := kd.mk H
            clear H
            go_wp2
            go_meet
            case rel => exact ⟨_, ((a0_0 == 2)), (by first | rfl | (simp; done) | (simp [Ext.ne_nil]; done) | (simp [*]; done)), H', ⟨by have := HJ2.out; have := HJ15.out; have := HJ21.out; first | omega | exact Nat.le_refl _⟩, ⟨by (with_reducible repeat (first | refine kg ?_ _ | refine kk ?_ | refine ki ?_ _)); exact BK122.out⟩, ⟨by repeat (first | (with_reducible first | exact HB.out | apply ke | apply ka | apply kf | refine kj ?_ GE122.out) | exact HB.out)⟩⟩
           ·rw [if_neg c34] at H
            have c34b0 : (a0_0 == 2) = false := beq_eq_false_iff_ne.mpr c34
            have c34b1 : (a0_0 != 2) = true := bne_iff_ne.mpr c34
            have H' := kd.mk H
            clear H
            go_wp2
            go_meet
            case rel => exact ⟨_, ((a0_0 == 5)), (by first | rfl | (simp; done) | (simp [Ext.ne_nil]; done) | (simp [*]; done)), H', ⟨by have := HJ2.out; have := HJ15.out; have := HJ21.out; first | omega | exact Nat.le_refl _⟩, ⟨by (with_reducible repeat (first | refine kg ?_ _ | refine kk ?_ | refine ki ?_ _)); exact BK122.out⟩, ⟨by repeat (first | (with_reducible first | exact HB.out | apply ke | apply ka | apply kf | refine kj ?_ GE122.out) | exact HB.out)⟩⟩
         case rest =>
          clear HC31
          try clear c1
          try clear c2
          try clear p2
          try clear c3
          try clear c5
          try clear c5b0
          try clear c6
          try clear c6b0
          try clear c6b1
          try clear c7
          try clear c7b0
          try clear c7b1
          try clear c10
          try clear c10b0
          try clear c10b1
          try clear c11
          try clear c11b0
          try clear c11b1
          try clear c15
          try clear c17
          try clear c17b0
          try clear c17b1
          try clear c19
          try clear c19b0
          try clear c19b1
          try clear c23
          try clear c23b0
          try clear c23b1
          try clear c23b2
          try clear c25
          try clear c30
          try clear c33
          try clear c33b0
          try clear c33b1
          try clear c34
          try clear c34b0
          try clear c34b1
          try clear hcz12_0
          try clear hcz12_1
          try clear hcz12_2
          try clear hcz12_3
          try clear hcz12_4
          try clear hcz13_0
          try clear hcz13_1
          try clear hcz13_2
          try clear hcz13_3
          try clear hcz13_4
          try clear hcz14_0
          try clear hcz14_1
          try clear hcz14_2
          try clear hcz14_3
          try clear hcz14_4
          try clear hcz18_0
          try clear hcz18_1
          try clear hcz18_2
          try clear hcz18_3
          try clear hcz18_4
          try clear hcz20_0
          try clear hcz20_1
          try clear hcz20_2
          try clear hcz20_3
          try clear hcz20_4
          try clear hcz21_0
          try clear hcz21_1
          try clear hcz21_2
          try clear hcz21_3
          try clear hcz21_4
          try clear hcz24_0
          try clear hcz24_1
          try clear hcz24_2
          try clear hcz24_3
          try clear hcz24_4
          try clear hcz27_0
          try clear hcz27_1
          try clear hcz27_2
          try clear hcz27_3
          try clear hcz27_4
          try clear hcz29_0
          try clear hcz29_1
          try clear hcz29_2
          try clear hcz29_3
          try clear hcz29_4
          try clear hcz32_0
          try clear hcz32_1
          try clear hcz32_2
          try clear hcz32_3
          try clear hcz32_4
          try clear hcz8_0
          try clear hcz8_1
          try clear hcz8_2
          try clear hcz8_3
          try clear hcz8_4
          try clear hcz9_0
          try clear hcz9_1
          try clear hcz9_2
          try clear hcz9_3
          try clear hcz9_4
          try clear hfz12_0
          try clear hfz12_1
          try clear hfz12_2
          try clear hfz12_3
          try clear hfz12_4
          try clear hfz13_0
          try clear hfz13_1
          try clear hfz13_2
          try clear hfz13_3
          try clear hfz13_4
          try clear hfz14_0
          try clear hfz14_1
          try clear hfz14_2
          try clear hfz14_3
          try clear hfz14_4
          try clear hfz18_0
          try clear hfz18_1
          try clear hfz18_2
          try clear hfz18_3
          try clear hfz18_4
          try clear hfz20_0
          try clear hfz20_1
          try clear hfz20_2
          try clear hfz20_3
          try clear hfz20_4
          try clear hfz21_0
          try clear hfz21_1
          try clear hfz21_2
          try clear hfz21_3
          try clear hfz21_4
          try clear hfz24_0
          try clear hfz24_1
          try clear hfz24_2
          try clear hfz24_3
          try clear hfz24_4
          try clear hfz27_0
          try clear hfz27_1
          try clear hfz27_2
          try clear hfz27_3
          try clear hfz27_4
          try clear hfz29_0
          try clear hfz29_1
          try clear hfz29_2
          try clear hfz29_3
          try clear hfz29_4
          try clear hfz32_0
          try clear hfz32_1
          try clear hfz32_2
          try clear hfz32_3
          try clear hfz32_4
          try clear hfz8_0
          try clear hfz8_1
          try clear hfz8_2
          try clear hfz8_3
          try clear hfz8_4
          try clear hfz9_0
          try clear hfz9_1
          try clear hfz9_2
          try clear hfz9_3
          try clear hfz9_4
          try clear p2
          obtain ⟨kq, x61_30, rfl, HA, HJ30, BK122, HB⟩ := hcut
          cases kq with
          | zero => exact absurd HA.out (by simp [rRightExpr.j3])
          | succ kj30 =>
           have H := HA.out
           clear HA
           simp only [rRightExpr.j3] at H
           by_cases c35 : x61_30 = true
           ·subst c35
            (try (have cs_ := Ext.w_tt c23w))
            (try (have cs_ := Ext.w_ft c23w))
            (try (have cs_ := Ext.w_tf c23w))
            (try (have cs_ := Ext.w_ff c23w))
            replace H : (some ((l0_4.length : Int) == 0)) = some r := by rw [if_pos rfl] at H; exact H
            obtain rfl := Option.some.inj H
            go_wp2
            go_ret
            exact ⟨by first | rfl | (simp [kp, ko] <;> rfl) | (simp [*, kp, ko] <;> rfl), by repeat (first | (with_reducible first | exact HB.out | apply ke | apply ka | apply kf | refine kj ?_ GE122.out) | exact HB.out)⟩
           ·replace c35 := Bool.eq_false_iff.mpr c35
            subst c35
            (try (have cs_ := Ext.w_tt c23w))
            (try (have cs_ := Ext.w_ft c23w))
            (try (have cs_ := Ext.w_tf c23w))
            (try (have cs_ := Ext.w_ff c23w))
            replace H : (if a0_0 = 3 then (rRightExpr.j4 kj30 a1 (l0_4.length : Int) a0_0 (a0_0 == 3) a0_0 a0_1 a0_2 a0_3 l0_4) else (rRightExpr.j4 kj30 a1 (l0_4.length : Int) a0_0 (a0_0 == 7) a0_0 a0_1 a0_2 a0_3 l0_4)) = some r := by rw [if_neg (show ¬ (false = true) by decide)] at H; exact H
            have HC36 := kd.mk H
            clear H
            go_upto_if 67 with (fail)
            go_cut [67] (fun v67 wc => ∃ (kq : Nat) (x67_35 : Bool), v67 = .bool x67_35 ∧ kd (rRightExpr.j4 kq a1 (l0_4.length : Int) a0_0 x67_35 a0_0 a0_1 a0_2 a0_3 l0_4 = some r) ∧ kd (kq ≤ kj30) ∧ kd (wc.heap[gb122]? = some (.cells #[.int .i64 a0_0, .int .i64 a0_1, .int .u32 a0_2, .string a0_3, (.slice A0_4 l0_4.length c0_4)] 36 (0, 0))) ∧ kd (Below w.heap.size w wc))
            case first =>
             have H := HC36.out
             clear HC36
             by_cases c37 : a0_0 = 3
             ·rw [if_pos c37] at H
              have c37b0 : (a0_0 == 3) = true := beq_iff_eq.mpr c37
              have c37b1 : (a0_0 != 3) = false := bne_eq_false_iff_eq.mpr c37
              clear c37
              (first | rw [c37b0] | (simp only [jc, jd]; rw [c37b0]) | skip)
              have H' := kd.mk H
              clear H
              go_wp2
              go_meet
              case rel => exact ⟨_, ((a0_0 == 3)), (by first | rfl | (simp; done) | (simp [Ext.ne_nil]; done) | (simp [*]; done)), H', ⟨by have := HJ2.out; have := HJ15.out; have := HJ21.out; have := HJ30.out; first | omega | exact Nat.le_refl _⟩, ⟨by (with_reducible repeat (first | refine kg ?_ _ | refine kk ?_ | refine ki ?_ _)); exact BK122.out⟩, ⟨by repeat (first | (with_reducible first | exact HB.out | apply ke | apply ka | apply kf | refine kj ?_ GE122.out) | exact HB.out)⟩⟩
             ·rw [if_neg c37] at H
              have c37b0 : (a0_0 == 3) = false := beq_eq_false_iff_ne.mpr c37
              have c37b1 : (a0_0 != 3) = true := bne_iff_ne.mpr c37
              (first | rw [c37b0] | (simp only [jc, jd]; rw [c37b0]) | skip)
              have H' := kd.mk H
              clear H
              go_wp2
              go_meet
              case rel => exact ⟨_, ((a0_0 == 7)), (by first | rfl | (simp; done) | (simp [Ext.ne_nil]; done) | (simp [*]; done)), H', ⟨by have := HJ2.out; have := HJ15.out; have := HJ21.out; have := HJ30.out; first | omega | exact Nat.le_refl _⟩, ⟨by (with_reducible repeat (first | refine kg ?_ _ | refine kk ?_ | refine ki ?_ _)); exact BK122.out⟩, ⟨by repeat (first | (with_reducible first | exact HB.out | apply ke | apply ka | apply kf | refine kj ?_ GE122.out) | exact HB.out)⟩⟩
            case rest =>
             clear HC36
             try clear c1
             try clear c2
             try clear p2
             try clear c3
             try clear c5
             try clear c5b0
             try clear c6
             try clear c6b0
             try clear c6b1
             try clear c7
             try clear c7b0
             try clear c7b1
             try clear c10
             try clear c10b0
             try clear c10b1
             try clear c11
             try clear c11b0
             try clear c11b1
             try clear c15
             try clear c17
             try clear c17b0
             try clear c17b1
             try clear c19
             try clear c19b0
             try clear c19b1
             try clear c23
             try clear c23b0
             try clear c23b1
             try clear c23b2
             try clear c25
             try clear c30
             try clear c33
             try clear c33b0
             try clear c33b1
             try clear c34
             try clear c34b0
             try clear c34b1
             try clear c35
             try clear c37
             try clear c37b0
             try clear c37b1
             try clear hcz12_0
             try clear hcz12_1
             try clear hcz12_2
             try clear hcz12_3
             try clear hcz12_4
             try clear hcz13_0
             try clear hcz13_1
             try clear hcz13_2
             try clear hcz13_3
             try clear hcz13_4
             try clear hcz14_0
             try clear hcz14_1
             try clear hcz14_2
             try clear hcz14_3
             try clear hcz14_4
             try clear hcz18_0
             try clear hcz18_1
             try clear hcz18_2
             try clear hcz18_3
             try clear hcz18_4
             try clear hcz20_0
             try clear hcz20_1
             try clear hcz20_2
             try clear hcz20_3
             try clear hcz20_4
             try clear hcz21_0
             try clear hcz21_1
             try clear hcz21_2
             try clear hcz21_3
             try clear hcz21_4
             try clear hcz24_0
             try clear hcz24_1
             try clear hcz24_2
             try clear hcz24_3
             try clear hcz24_4
             try clear hcz27_0
             try clear hcz27_1
             try clear hcz27_2
             try clear hcz27_3
             try clear hcz27_4
             try clear hcz29_0
             try clear hcz29_1
             try clear hcz29_2
             try clear hcz29_3
             try clear hcz29_4
             try clear hcz32_0
             try clear hcz32_1
             try clear hcz32_2
             try clear hcz32_3
             try clear hcz32_4
             try clear hcz8_0
             try clear hcz8_1
             try clear hcz8_2
             try clear hcz8_3
             try clear hcz8_4
             try clear hcz9_0
             try clear hcz9_1
             try clear hcz9_2
             try clear hcz9_3
             try clear hcz9_4
             try clear hfz12_0
             try clear hfz12_1
             try clear hfz12_2
             try clear hfz12_3
             try clear hfz12_4
             try clear hfz13_0
             try clear hfz13_1
             try clear hfz13_2
             try clear hfz13_3
             try clear hfz13_4
             try clear hfz14_0
             try clear hfz14_1
             try clear hfz14_2
             try clear hfz14_3
             try clear hfz14_4
             try clear hfz18_0
             try clear hfz18_1
             try clear hfz18_2
             try clear hfz18_3
             try clear hfz18_4
             try clear hfz20_0
             try clear hfz20_1
             try clear hfz20_2
             try clear hfz20_3
             try clear hfz20_4
             try clear hfz21_0
             try clear hfz21_1
             try clear hfz21_2
             try clear hfz21_3
             try clear hfz21_4
             try clear hfz24_0
             try clear hfz24_1
             try clear hfz24_2
             try clear hfz24_3
             try clear hfz24_4
             try clear hfz27_0
             try clear hfz27_1
             try clear hfz27_2
             try clear hfz27_3
             try clear hfz27_4
             try clear hfz29_0
             try clear hfz29_1
             try clear hfz29_2
             try clear hfz29_3
             try clear hfz29_4
             try clear hfz32_0
             try clear hfz32_1
             try clear hfz32_2
             try clear hfz32_3
             try clear hfz32_4
             try clear hfz8_0
             try clear hfz8_1
             try clear hfz8_2
             try clear hfz8_3
             try clear hfz8_4
             try clear hfz9_0
             try clear hfz9_1
             try clear hfz9_2
             try clear hfz9_3
             try clear hfz9_4
             try clear p2
             obtain ⟨kq, x67_35, rfl, HA, HJ35, BK122, HB⟩ := hcut
             cases kq with
             | zero => exact absurd HA.out (by simp [rRightExpr.j4])
             | succ kj35 =>
              have H := HA.out
              clear HA
              simp only [rRightExpr.j4] at H
              by_cases c38 : x67_35 = true
              ·subst c38
               (try (have cs_ := Ext.w_tt c23w))
               (try (have cs_ := Ext.w_ft c23w))
               (try (have cs_ := Ext.w_tf c23w))
               (try (have cs_ := Ext.w_ff c23w))
               replace H : (if (l0_4.length : Int) = 1 then ((rRightExprs.f kj35 l0_4 (wrap64 (a1 + 1))).bind fun t124 => (some t124)) else (some false)) = some r := by rw [if_pos rfl] at H; exact H
               by_cases c39 : (l0_4.length : Int) = 1
               ·rw [if_pos c39] at H
                have c39b0 : ((l0_4.length : Int) == 1) = true := beq_iff_eq.mpr c39
                have c39b1 : ((l0_4.length : Int) != 1) = false := bne_eq_false_iff_eq.mpr c39
                clear c39
                replace H := Option.bind_eq_some_iff.mp H
                obtain ⟨t124, A400, H⟩ := H
                replace H : (some t124) = some r := H
                have A40 := kd.mk A400
                clear A400
                obtain rfl := Option.some.inj H
                have hcz41_0 : wc.cell? ⟨gb122, 0, none⟩ = some (.int .i64 a0_0) := (kc BK122.out 0).trans rfl
                have hcz41_1 : wc.cell? ⟨gb122, 1, none⟩ = some (.int .i64 a0_1) := (kc BK122.out 1).trans rfl
                have hcz41_2 : wc.cell? ⟨gb122, 2, none⟩ = some (.int .u32 a0_2) := (kc BK122.out 2).trans rfl
                have hcz41_3 : wc.cell? ⟨gb122, 3, none⟩ = some (.string a0_3) := (kc BK122.out 3).trans rfl
                have hcz41_4 : wc.cell? ⟨gb122, 4, none⟩ = some (.slice A0_4 l0_4.length c0_4) := (kc BK122.out 4).trans rfl
                have hfz41_0 := kb BK122.out 0
                have hfz41_1 := kb BK122.out 1
                have hfz41_2 := kb BK122.out 2
                have hfz41_3 := kb BK122.out 3
                have hfz41_4 := kb BK122.out 4
                go_wp2_with (first | (go_at_call 52; (with_reducible refine (ihrRightExprs kj35 (by have := HJ2.out; have := HJ15.out; have := HJ21.out; have := HJ30.out; have := HJ35.out; omega) _ _ l0_4 (wrap64 (a1 + 1)) t124 _ ?side1 ?side2 A40.out).mono ?_); (case side1 => exact Kd.kx HR0_4.out HB.out); (case side2 => exact HC0_4.out); rintro e w42 ⟨rfl, hb⟩; have n0_ := kd.mk (ku (g := gb122) (o := .cells #[.int .i64 a0_0, .int .i64 a0_1, .int .u32 a0_2, .string a0_3, .slice A0_4 l0_4.length c0_4] 36 (0, 0)) (by (with_reducible repeat (first | refine kg ?_ _ | refine kk ?_ | refine ki ?_ _)); exact BK122.out) hb); have n1_ := kd.mk (kr (by repeat (first | (with_reducible first | exact HB.out | apply ke | apply ka | apply kf | refine kj ?_ GE122.out) | exact HB.out)) hb); clear BK122; clear HB; have BK122 := n0_; have HB := n1_; clear n0_ n1_; (try clear hb)))
                go_ret
                exact ⟨by first | rfl | (simp [kp, ko] <;> rfl) | (simp [*, kp, ko] <;> rfl), by repeat (first | (with_reducible first | exact HB.out | apply ke | apply ka | apply kf | refine kj ?_ GE122.out) | exact HB.out)⟩
               ·rw [if_neg c39] at H
                have c39b0 : ((l0_4.length : Int) == 1) = false := beq_eq_false_iff_ne.mpr c39
                have c39b1 : ((l0_4.length : Int) != 1) = true := bne_iff_ne.mpr c39
                obtain rfl := Option.some.inj H
                go_wp2
                go_ret
                exact ⟨by first | rfl | (simp [kp, ko] <;> rfl) | (simp [*, kp, ko] <;> rfl), by repeat (first | (with_reducible first | exact HB.out | apply ke | apply ka | apply kf | refine kj ?_ GE122.out) | exact HB.out)⟩
              ·replace c38 := Bool.eq_false_iff.mpr c38
               subst c38
               (try (have cs_ := Ext.w_tt c23w))
               (try (have cs_ := Ext.w_ft c23w))
               (try (have cs_ := Ext.w_tf c23w))
               (try (have cs_ := Ext.w_ff c23w))
               replace H : (if a0_0 = 4 then (if (l0_4.length : Int) ≤ 6 then ((rRightExprs.f kj35 l0_4 (wrap64 (a1 + 1))).bind fun t125 => (some t125)) else (some false)) else (if a0_0 = 6 then (if a0_1 ≥ 4 then (if a0_1 ≤ 15 then (if (l0_4.length : Int) = 2 then ((rRightExprs.f kj35 l0_4 (wrap64 (a1 + 1))).bind fun t126 => (some t126)) else (some false)) else (some false)) else (some false)) else (if a0_0 = 8 then (if (l0_4.length : Int) = 2 then ((rRightExprs.f kj35 l0_4 (wrap64 (a1 + 1))).bind fun t127 => (some t127)) else (some false)) else (if a0_0 = 9 then (if (l0_4.length : Int) = 2 then ((rRightExprs.f kj35 l0_4 (wrap64 (a1 + 1))).bind fun t128 => (some t128)) else (some false)) else (some false))))) = some r := by rw [if_neg (show ¬ (false = true) by decide)] at H; exact H
               by_cases c43 : a0_0 = 4
               ·rw [if_pos c43] at H
                have c43b0 : (a0_0 == 4) = true := beq_iff_eq.mpr c43
                have c43b1 : (a0_0 != 4) = false := bne_eq_false_iff_eq.mpr c43
                clear c43
                by_cases c44 : (l0_4.length : Int) ≤ 6
                ·rw [if_pos c44] at H
                 have c44b0 : decide ((l0_4.length : Int) ≤ 6) = true := decide_eq_true c44
                 have c44b1 : decide (l0_4.length ≤ 6) = true := decide_eq_true (by omega)
                 clear c44
                 replace H := Option.bind_eq_some_iff.mp H
                 obtain ⟨t125, A450, H⟩ := H
                 replace H : (some t125) = some r := H
                 have A45 := kd.mk A450
                 clear A450
                 obtain rfl := Option.some.inj H
                 have hcz46_0 : wc.cell? ⟨gb122, 0, none⟩ = some (.int .i64 a0_0) := (kc BK122.out 0).trans rfl
                 have hcz46_1 : wc.cell? ⟨gb122, 1, none⟩ = some (.int .i64 a0_1) := (kc BK122.out 1).trans rfl
                 have hcz46_2 : wc.cell? ⟨gb122, 2, none⟩ = some (.int .u32 a0_2) := (kc BK122.out 2).trans rfl
                 have hcz46_3 : wc.cell? ⟨gb122, 3, none⟩ = some (.string a0_3) := (kc BK122.out 3).trans rfl
                 have hcz46_4 : wc.cell? ⟨gb122, 4, none⟩ = some (.slice A0_4 l0_4.length c0_4) := (kc BK122.out 4).trans rfl
                 have hfz46_0 := kb BK122.out 0
                 have hfz46_1 := kb BK122.out 1
                 have hfz46_2 := kb BK122.out 2
                 have hfz46_3 := kb BK122.out 3
                 have hfz46_4 := kb BK122.out 4
                 go_wp2_with (first | (go_at_call 52; (with_reducible refine (ihrRightExprs kj35 (by have := HJ2.out; have := HJ15.out; have := HJ21.out; have := HJ30.out; have := HJ35.out; omega) _ _ l0_4 (wrap64 (a1 + 1)) t125 _ ?side1 ?side2 A45.out).mono ?_); (case side1 => exact Kd.kx HR0_4.out HB.out); (case side2 => exact HC0_4.out); rintro e w47 ⟨rfl, hb⟩; have n0_ := kd.mk (ku (g := gb122) (o := .cells #[.int .i64 a0_0, .int .i64 a0_1, .int .u32 a0_2, .string a0_3, .slice A0_4 l0_4.length c0_4] 36 (0, 0)) (by (with_reducible repeat (first | refine kg ?_ _ | refine kk ?_ | refine ki ?_ _)); exact BK122.out) hb); have n1_ := kd.mk (kr (by repeat (first | (with_reducible first | exact HB.out | apply ke | apply ka | apply kf | refine kj ?_ GE122.out) | exact HB.out)) hb); clear BK122; clear HB; have BK122 := n0_; have HB := n1_; clear n0_ n1_; (try clear hb)))
                 go_ret
                 exact ⟨by first | rfl | (simp [kp, ko] <;> rfl) | (simp [*, kp, ko] <;> rfl), by repeat (first | (with_reducible first | exact HB.out | apply ke | apply ka | apply kf | refine kj ?_ GE122.out) | exact HB.out)⟩
                ·rw [if_neg c44] at H
                 have c44b0 : decide ((l0_4.length : Int) ≤ 6) = false := decide_eq_false c44
                 have c44b1 : decide (l0_4.length ≤ 6) = false := decide_eq_false (by omega)
                 clear c44
                 obtain rfl := Option.some.inj H
                 go_wp2
                 go_ret
                 exact ⟨by first | rfl | (simp [kp, ko] <;> rfl) | (simp [*, kp, ko] <;> rfl), by repeat (first | (with_reducible first | exact HB.out | apply ke | apply ka | apply kf | refine kj ?_ GE122.out) | exact HB.out)⟩
               ·rw [if_neg c43] at H
                have c43b0 : (a0_0 == 4) = false := beq_eq_false_iff_ne.mpr c43
                have c43b1 : (a0_0 != 4) = true := bne_iff_ne.mpr c43
                by_cases c48 : a0_0 = 6
                ·rw [if_pos c48] at H
                 have c48b0 : (a0_0 == 6) = true := beq_iff_eq.mpr c48
                 have c48b1 : (a0_0 != 6) = false := bne_eq_false_iff_eq.mpr c48
                 clear c48
                 by_cases c49 : a0_1 ≥ 4
                 ·rw [if_pos c49] at H
                  have c49b0 : decide (4 ≤ a0_1) = true := decide_eq_true c49
                  clear c49
                  by_cases c50 : a0_1 ≤ 15
                  ·rw [if_pos c50] at H
                   have c50b0 : decide (a0_1 ≤ 15) = true := decide_eq_true c50
                   clear c50
                   by_cases c51 : (l0_4.length : Int) = 2
                   ·rw [if_pos c51] at H
                    have c51b0 : ((l0_4.length : Int) == 2) = true := beq_iff_eq.mpr c51
                    have c51b1 : ((l0_4.length : Int) != 2) = false := bne_eq_false_iff_eq.mpr c51
                    clear c51
                    replace H := Option.bind_eq_some_iff.mp H
                    obtain ⟨t126, A520, H⟩ := H
                    replace H : (some t126) = some r := H
                    have A52 := kd.mk A520
                    clear A520
                    obtain rfl := Option.some.inj H
                    have hcz53_0 : wc.cell? ⟨gb122, 0, none⟩ = some (.int .i64 a0_0) := (kc BK122.out 0).trans rfl
                    have hcz53_1 : wc.cell? ⟨gb122, 1, none⟩ = some (.int .i64 a0_1) := (kc BK122.out 1).trans rfl
                    have hcz53_2 : wc.cell? ⟨gb122, 2, none⟩ = some (.int .u32 a0_2) := (kc BK122.out 2).trans rfl
                    have hcz53_3 : wc.cell? ⟨gb122, 3, none⟩ = some (.string a0_3) := (kc BK122.out 3).trans rfl
                    have hcz53_4 : wc.cell? ⟨gb122, 4, none⟩ = some (.slice A0_4 l0_4.length c0_4) := (kc BK122.out 4).trans rfl
                    have hfz53_0 := kb BK122.out 0
                    have hfz53_1 := kb BK122.out 1
                    have hfz53_2 := kb BK122.out 2
                    have hfz53_3 := kb BK122.out 3
                    have hfz53_4 := kb BK122.out 4
                    go_wp2_with (first | (go_at_call 52; (with_reducible refine (ihrRightExprs kj35 (by have := HJ2.out; have := HJ15.out; have := HJ21.out; have := HJ30.out; have := HJ35.out; omega) _ _ l0_4 (wrap64 (a1 + 1)) t126 _ ?side1 ?side2 A52.out).mono ?_); (case side1 => exact Kd.kx HR0_4.out HB.out); (case side2 => exact HC0_4.out); rintro e w54 ⟨rfl, hb⟩; have n0_ := kd.mk (ku (g := gb122) (o := .cells #[.int .i64 a0_0, .int .i64 a0_1, .int .u32 a0_2, .string a0_3, .slice A0_4 l0_4.length c0_4] 36 (0, 0)) (by (with_reducible repeat (first | refine kg ?_ _ | refine kk ?_ | refine ki ?_ _)); exact BK122.out) hb); have n1_ := kd.mk (kr (by repeat (first | (with_reducible first | exact HB.out | apply ke | apply ka | apply kf | refine kj ?_ GE122.out) | exact HB.out)) hb); clear BK122; clear HB; have BK122 := n0_; have HB := n1_; clear n0_ n1_; (try clear hb)))
                    go_ret
                    exact ⟨by first | rfl | (simp [kp, ko] <;> rfl) | (simp [*, kp, ko] <;> rfl), by repeat (first | (with_reducible first | exact HB.out | apply ke | apply ka | apply kf | refine kj ?_ GE122.out) | exact HB.out)⟩
                   ·rw [if_neg c51] at H
                    have c51b0 : ((l0_4.length : Int) == 2) = false := beq_eq_false_iff_ne.mpr c51
                    have c51b1 : ((l0_4.length : Int) != 2) = true := bne_iff_ne.mpr c51
                    obtain rfl := Option.some.inj H
                    have hcz55_0 : wc.cell? ⟨gb122, 0, none⟩ = some (.int .i64 a0_0) := (kc BK122.out 0).trans rfl
                    have hcz55_1 : wc.cell? ⟨gb122, 1, none⟩ = some (.int .i64 a0_1) := (kc BK122.out 1).trans rfl
                    have hcz55_2 : wc.cell? ⟨gb122, 2, none⟩ = some (.int .u32 a0_2) := (kc BK122.out 2).trans rfl
                    have hcz55_3 : wc.cell? ⟨gb122, 3, none⟩ = some (.string a0_3) := (kc BK122.out 3).trans rfl
                    have hcz55_4 : wc.cell? ⟨gb122, 4, none⟩ = some (.slice A0_4 l0_4.length c0_4) := (kc BK122.out 4).trans rfl
                    have hfz55_0 := kb BK122.out 0
                    have hfz55_1 := kb BK122.out 1
                    have hfz55_2 := kb BK122.out 2
                    have hfz55_3 := kb BK122.out 3
                    have hfz55_4 := kb BK122.out 4
                    go_wp2
                    go_ret
                    exact ⟨by first | rfl | (simp [kp, ko] <;> rfl) | (simp [*, kp, ko] <;> rfl), by repeat (first | (with_reducible first | exact HB.out | apply ke | apply ka | apply kf | refine kj ?_ GE122.out) | exact HB.out)⟩
                  ·rw [if_neg c50] at H
                   have c50b0 : decide (a0_1 ≤ 15) = false := decide_eq_false c50
                   clear c50
                   obtain rfl := Option.some.inj H
                   have hcz56_0 : wc.cell? ⟨gb122, 0, none⟩ = some (.int .i64 a0_0) := (kc BK122.out 0).trans rfl
                   have hcz56_1 : wc.cell? ⟨gb122, 1, none⟩ = some (.int .i64 a0_1) := (kc BK122.out 1).trans rfl
                   have hcz56_2 : wc.cell? ⟨gb122, 2, none⟩ = some (.int .u32 a0_2) := (kc BK122.out 2).trans rfl
                   have hcz56_3 : wc.cell? ⟨gb122, 3, none⟩ = some (.string a0_3) := (kc BK122.out 3).trans rfl
                   have hcz56_4 : wc.cell? ⟨gb122, 4, none⟩ = some (.slice A0_4 l0_4.length c0_4) := (kc BK122.out 4).trans rfl
                   have hfz56_0 := kb BK122.out 0
                   have hfz56_1 := kb BK122.out 1
                   have hfz56_2 := kb BK122.out 2
                   have hfz56_3 := kb BK122.out 3
                   have hfz56_4 := kb BK122.out 4
                   go_wp2
                   go_ret
                   exact ⟨by first | rfl | (simp [kp, ko] <;> rfl) | (simp [*, kp, ko] <;> rfl), by repeat (first | (with_reducible first | exact HB.out | apply ke | apply ka | apply kf | refine kj ?_ GE122.out) | exact HB.out)⟩
                 ·rw [if_neg c49] at H
                  have c49b0 : decide (4 ≤ a0_1) = false := decide_eq_false c49
                  clear c49
                  obtain rfl := Option.some.inj H
                  have hcz57_0 : wc.cell? ⟨gb122, 0, none⟩ = some (.int .i64 a0_0) := (kc BK122.out 0).trans rfl
                  have hcz57_1 : wc.cell? ⟨gb122, 1, none⟩ = some (.int .i64 a0_1) := (kc BK122.out 1).trans rfl
                  have hcz57_2 : wc.cell? ⟨gb122, 2, none⟩ = some (.int .u32 a0_2) := (kc BK122.out 2).trans rfl
                  have hcz57_3 : wc.cell? ⟨gb122, 3, none⟩ = some (.string a0_3) := (kc BK122.out 3).trans rfl
                  have hcz57_4 : wc.cell? ⟨gb122, 4, none⟩ = some (.slice A0_4 l0_4.length c0_4) := (kc BK122.out 4).trans rfl
                  have hfz57_0 := kb BK122.out 0
                  have hfz57_1 := kb BK122.out 1
                  have hfz57_2 := kb BK122.out 2
                  have hfz57_3 := kb BK122.out 3
                  have hfz57_4 := kb BK122.out 4
                  go_wp2
                  go_ret
                  exact ⟨by first | rfl | (simp [kp, ko] <;> rfl) | (simp [*, kp, ko] <;> rfl), by repeat (first | (with_reducible first | exact HB.out | apply ke | apply ka | apply kf | refine kj ?_ GE122.out) | exact HB.out)⟩
                ·rw [if_neg c48] at H
                 have c48b0 : (a0_0 == 6) = false := beq_eq_false_iff_ne.mpr c48
                 have c48b1 : (a0_0 != 6) = true := bne_iff_ne.mpr c48
                 by_cases c58 : a0_0 = 8
                 ·rw [if_pos c58] at H
                  have c58b0 : (a0_0 == 8) = true := beq_iff_eq.mpr c58
                  have c58b1 : (a0_0 != 8) = false := bne_eq_false_iff_eq.mpr c58
                  clear c58
                  by_cases c59 : (l0_4.length : Int) = 2
                  ·rw [if_pos c59] at H
                   have c59b0 : ((l0_4.length : Int) == 2) = true := beq_iff_eq.mpr c59
                   have c59b1 : ((l0_4.length : Int) != 2) = false := bne_eq_false_iff_eq.mpr c59
                   clear c59
                   replace H := Option.bind_eq_some_iff.mp H
                   obtain ⟨t127, A600, H⟩ := H
                   replace H : (some t127) = some r := H
                   have A60 := kd.mk A600
                   clear A600
                   obtain rfl := Option.some.inj H
                   have hcz61_0 : wc.cell? ⟨gb122, 0, none⟩ = some (.int .i64 a0_0) := (kc BK122.out 0).trans rfl
                   have hcz61_1 : wc.cell? ⟨gb122, 1, none⟩ = some (.int .i64 a0_1) := (kc BK122.out 1).trans rfl
                   have hcz61_2 : wc.cell? ⟨gb122, 2, none⟩ = some (.int .u32 a0_2) := (kc BK122.out 2).trans rfl
                   have hcz61_3 : wc.cell? ⟨gb122, 3, none⟩ = some (.string a0_3) := (kc BK122.out 3).trans rfl
                   have hcz61_4 : wc.cell? ⟨gb122, 4, none⟩ = some (.slice A0_4 l0_4.length c0_4) := (kc BK122.out 4).trans rfl
                   have hfz61_0 := kb BK122.out 0
                   have hfz61_1 := kb BK122.out 1
                   have hfz61_2 := kb BK122.out 2
                   have hfz61_3 := kb BK122.out 3
                   have hfz61_4 := kb BK122.out 4
                   go_wp2_with (first | (go_at_call 52; (with_reducible refine (ihrRightExprs kj35 (by have := HJ2.out; have := HJ15.out; have := HJ21.out; have := HJ30.out; have := HJ35.out; omega) _ _ l0_4 (wrap64 (a1 + 1)) t127 _ ?side1 ?side2 A60.out).mono ?_); (case side1 => exact Kd.kx HR0_4.out HB.out); (case side2 => exact HC0_4.out); rintro e w62 ⟨rfl, hb⟩; have n0_ := kd.mk (ku (g := gb122) (o := .cells #[.int .i64 a0_0, .int .i64 a0_1, .int .u32 a0_2, .string a0_3, .slice A0_4 l0_4.length c0_4] 36 (0, 0)) (by (with_reducible repeat (first | refine kg ?_ _ | refine kk ?_ | refine ki ?_ _)); exact BK122.out) hb); have n1_ := kd.mk (kr (by repeat (first | (with_reducible first | exact HB.out | apply ke | apply ka | apply kf | refine kj ?_ GE122.out) | exact HB.out)) hb); clear BK122; clear HB; have BK122 := n0_; have HB := n1_; clear n0_ n1_; (try clear hb)))
                   go_ret
                   exact ⟨by first | rfl | (simp [kp, ko] <;> rfl) | (simp [*, kp, ko] <;> rfl), by repeat (first | (with_reducible first | exact HB.out | apply ke | apply ka | apply kf | refine kj ?_ GE122.out) | exact HB.out)⟩
                  ·rw [if_neg c59] at H
                   have c59b0 : ((l0_4.length : Int) == 2) = false := beq_eq_false_iff_ne.mpr c59
                   have c59b1 : ((l0_4.length : Int) != 2) = true := bne_iff_ne.mpr c59
                   obtain rfl := Option.some.inj H
                   go_wp2
                   go_ret
                   exact ⟨by first | rfl | (simp [kp, ko] <;> rfl) | (simp [*, kp, ko] <;> rfl), by repeat (first | (with_reducible first | exact HB.out | apply ke | apply ka | apply kf | refine kj ?_ GE122.out) | exact HB.out)⟩
                 ·rw [if_neg c58] at H
                  have c58b0 : (a0_0 == 8) = false := beq_eq_false_iff_ne.mpr c58
                  have c58b1 : (a0_0 != 8) = true := bne_iff_ne.mpr c58
                  by_cases c63 : a0_0 = 9
                  ·rw [if_pos c63] at H
                   have c63b0 : (a0_0 == 9) = true := beq_iff_eq.mpr c63
                   have c63b1 : (a0_0 != 9) = false := bne_eq_false_iff_eq.mpr c63
                   clear c63
                   by_cases c64 : (l0_4.length : Int) = 2
                   ·rw [if_pos c64] at H
                    have c64b0 : ((l0_4.length : Int) == 2) = true := beq_iff_eq.mpr c64
                    have c64b1 : ((l0_4.length : Int) != 2) = false := bne_eq_false_iff_eq.mpr c64
                    clear c64
                    replace H := Option.bind_eq_some_iff.mp H
                    obtain ⟨t128, A650, H⟩ := H
                    replace H : (some t128) = some r := H
                    have A65 := kd.mk A650
                    clear A650
                    obtain rfl := Option.some.inj H
                    have hcz66_0 : wc.cell? ⟨gb122, 0, none⟩ = some (.int .i64 a0_0) := (kc BK122.out 0).trans rfl
                    have hcz66_1 : wc.cell? ⟨gb122, 1, none⟩ = some (.int .i64 a0_1) := (kc BK122.out 1).trans rfl
                    have hcz66_2 : wc.cell? ⟨gb122, 2, none⟩ = some (.int .u32 a0_2) := (kc BK122.out 2).trans rfl
                    have hcz66_3 : wc.cell? ⟨gb122, 3, none⟩ = some (.string a0_3) := (kc BK122.out 3).trans rfl
                    have hcz66_4 : wc.cell? ⟨gb122, 4, none⟩ = some (.slice A0_4 l0_4.length c0_4) := (kc BK122.out 4).trans rfl
                    have hfz66_0 := kb BK122.out 0
                    have hfz66_1 := kb BK122.out 1
                    have hfz66_2 := kb BK122.out 2
                    have hfz66_3 := kb BK122.out 3
                    have hfz66_4 := kb BK122.out 4
                    go_wp2_with (first | (go_at_call 52; (with_reducible refine (ihrRightExprs kj35 (by have := HJ2.out; have := HJ15.out; have := HJ21.out; have := HJ30.out; have := HJ35.out; omega) _ _ l0_4 (wrap64 (a1 + 1)) t128 _ ?side1 ?side2 A65.out).mono ?_); (case side1 => exact Kd.kx HR0_4.out HB.out); (case side2 => exact HC0_4.out); rintro e w67 ⟨rfl, hb⟩; have n0_ := kd.mk (ku (g := gb122) (o := .cells #[.int .i64 a0_0, .int .i64 a0_1, .int .u32 a0_2, .string a0_3, .slice A0_4 l0_4.length c0_4] 36 (0, 0)) (by (with_reducible repeat (first | refine kg ?_ _ | refine kk ?_ | refine ki ?_ _)); exact BK122.out) hb); have n1_ := kd.mk (kr (by repeat (first | (with_reducible first | exact HB.out | apply ke | apply ka | apply kf | refine kj ?_ GE122.out) | exact HB.out)) hb); clear BK122; clear HB; have BK122 := n0_; have HB := n1_; clear n0_ n1_; (try clear hb)))
                    go_ret
                    exact ⟨by first | rfl | (simp [kp, ko] <;> rfl) | (simp [*, kp, ko] <;> rfl), by repeat (first | (with_reducible first | exact HB.out | apply ke | apply ka | apply kf | refine kj ?_ GE122.out) | exact HB.out)⟩
                   ·rw [if_neg c64] at H
                    have c64b0 : ((l0_4.length : Int) == 2) = false := beq_eq_false_iff_ne.mpr c64
                    have c64b1 : ((l0_4.length : Int) != 2) = true := bne_iff_ne.mpr c64
                    obtain rfl := Option.some.inj H
                    go_wp2
                    go_ret
                    exact ⟨by first | rfl | (simp [kp, ko] <;> rfl) | (simp [*, kp, ko] <;> rfl), by repeat (first | (with_reducible first | exact HB.out | apply ke | apply ka | apply kf | refine kj ?_ GE122.out) | exact HB.out)⟩
                  ·rw [if_neg c63] at H
                   have c63b0 : (a0_0 == 9) = false := beq_eq_false_iff_ne.mpr c63
                   have c63b1 : (a0_0 != 9) = true := bne_iff_ne.mpr c63
                   obtain rfl := Option.some.inj H
                   go_wp2
                   go_ret
                   exact ⟨by first | rfl | (simp [kp, ko] <;> rfl) | (simp [*, kp, ko] <;> rfl), by repeat (first | (with_reducible first | exact HB.out | apply ke | apply ka | apply kf | refine kj ?_ GE122.out) | exact HB.out)⟩
theorem rRightExprs.all_calls (k : Nat) : (∀ (A0 : Option Addr) (c0 : Nat) (l0 : List (S36)) (a1 : Int) (r : Bool) (w : World) (hr0 : Kd.C k36 w A0 l0.length l0) (hc0 : l0.length ≤ c0) (h : rRightExprs.f k l0 a1 = some r), Calls Tryd.prog 52 #[.slice A0 l0.length c0, .int .i64 a1] w fun e w' => e = .returned (.bool r) ∧ Below w.heap.size w w') ∧ (∀ (a0_0 : Int) (a0_1 : Int) (a0_2 : Int) (a0_3 : ByteArray) (A0_4 : Option Addr) (c0_4 : Nat) (l0_4 : List (S36)) (a1 : Int) (r : Bool) (w : World) (hr0_4 : Kd.C k36 w A0_4 l0_4.length l0_4) (hc0_4 : l0_4.length ≤ c0_4) (h : rRightExpr.f k a0_0 a0_1 a0_2 a0_3 l0_4 a1 = some r), Calls Tryd.prog 23 #[.agg #[.int .i64 a0_0, .int .i64 a0_1, .int .u32 a0_2, .string a0_3, .slice A0_4 l0_4.length c0_4], .int .i64 a1] w fun e w' => e = .returned (.bool r) ∧ Below w.heap.size w w') := by
 induction k using Nat.strongRecOn with
 | _ k ih =>
 exact ⟨rRightExprs.calls_of k (fun j_ h_ => (ih j_ h_).1) (fun j_ h_ => (ih j_ h_).2), rRightExpr.calls_of k (fun j_ h_ => (ih j_ h_).1) (fun j_ h_ => (ih j_ h_).2)⟩
theorem rRightExprs.calls (k : Nat) : ∀ (A0 : Option Addr) (c0 : Nat) (l0 : List (S36)) (a1 : Int) (r : Bool) (w : World) (hr0 : Kd.C k36 w A0 l0.length l0) (hc0 : l0.length ≤ c0) (h : rRightExprs.f k l0 a1 = some r), Calls Tryd.prog 52 #[.slice A0 l0.length c0, .int .i64 a1] w fun e w' => e = .returned (.bool r) ∧ Below w.heap.size w w' := (rRightExprs.all_calls k).1
theorem rRightExpr.calls (k : Nat) : ∀ (a0_0 : Int) (a0_1 : Int) (a0_2 : Int) (a0_3 : ByteArray) (A0_4 : Option Addr) (c0_4 : Nat) (l0_4 : List (S36)) (a1 : Int) (r : Bool) (w : World) (hr0_4 : Kd.C k36 w A0_4 l0_4.length l0_4) (hc0_4 : l0_4.length ≤ c0_4) (h : rRightExpr.f k a0_0 a0_1 a0_2 a0_3 l0_4 a1 = some r), Calls Tryd.prog 23 #[.agg #[.int .i64 a0_0, .int .i64 a0_1, .int .u32 a0_2, .string a0_3, .slice A0_4 l0_4.length c0_4], .int .i64 a1] w fun e w' => e = .returned (.bool r) ∧ Below w.heap.size w w' := (rRightExprs.all_calls k).2
end Go.Proofs.YthnhdompfhkepaaDoor.Q
