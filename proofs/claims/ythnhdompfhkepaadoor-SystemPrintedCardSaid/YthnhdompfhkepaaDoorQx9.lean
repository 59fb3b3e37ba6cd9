import Derived.Test.YthnhdompfhkepaaDoorQx0
import Derived.Test.YthnhdompfhkepaaDoorQx5
import Derived.Test.YthnhdompfhkepaaDoorQx7
namespace Go.Proofs.YthnhdompfhkepaaDoor.Q
open Go.RowKit Go.Proofs.YthnhdompfhkepaaDoorW.PrintWords Go.Proofs.YthnhdompfhkepaaDoorW.PrintLast Go.Proofs.YthnhdompfhkepaaDoorW.PrintMore
attribute [local go_sem] max2_int min2_int max_two min_two max_three min_three max_four min_four
set_option linter.unusedVariables false
set_option linter.unusedSimpArgs false
mutual
def rRightStmts.l0 : Nat → List (S43) → Int → Int → Option (Bool)
 | 0, _, _, _ => none
 | k + 1, x0, x1, x5 => if x5 < (x0.length : Int) then (if 0 ≤ x5 then ((rRightStmt.f k ((kt x0 x5).f0) ((kt x0 x5).f1) ((kt x0 x5).f2) ((kt x0 x5).f3) ((kt x0 x5).f4) x1).bind fun t149 => (if t149 = true then (rRightStmts.l0 k x0 x1 (wrap64 (x5 + 1))) else (some false))) else (none)) else (some true)
def rRightStmts.f : Nat → List (S43) → Int → Option (Bool)
 | 0, _, _ => none
 | k + 1, l0, a1 => rRightStmts.l0 k l0 a1 0
def rRightStmt.j0 : Nat → Int → Bool → Int → ByteArray → List (S36) → List (S43) → List (S43) → Option (Bool)
 | 0, _, _, _, _, _, _, _ => none
 | k + 1, x1, x36, x132000, x132001, x132002, x132003, x132004 => if x36 = true then (some false) else (if x132000 = 1 then (rRightStmt.j1 k x1 true x132000 x132001 x132002 x132003 x132004) else (if x132000 = 2 then (rRightStmt.j1 k x1 true x132000 x132001 x132002 x132003 x132004) else (rRightStmt.j1 k x1 (x132000 == 6) x132000 x132001 x132002 x132003 x132004)))
def rRightStmt.j1 : Nat → Int → Bool → Int → ByteArray → List (S36) → List (S43) → List (S43) → Option (Bool)
 | 0, _, _, _, _, _, _, _ => none
 | k + 1, x1, x5, x132000, x132001, x132002, x132003, x132004 => if (x5 != (x132001.toList != ([] : List UInt8))) = true then (rRightStmt.j2 k x1 true x132000 x132001 x132002 x132003 x132004) else (if x5 = true then ((rIsName.f k x132001).bind fun t132 => (rRightStmt.j2 k x1 (!t132) x132000 x132001 x132002 x132003 x132004)) else (rRightStmt.j2 k x1 false x132000 x132001 x132002 x132003 x132004))
def rRightStmt.j2 : Nat → Int → Bool → Int → ByteArray → List (S36) → List (S43) → List (S43) → Option (Bool)
 | 0, _, _, _, _, _, _, _ => none
 | k + 1, x1, x63, x132000, x132001, x132002, x132003, x132004 => if x63 = true then (some false) else (if x132000 = 1 then (rRightStmt.j3 k x1 (x132002.length : Int) false x132000 (x132000 == 1) x132000 x132001 x132002 x132003 x132004) else (if x132000 = 3 then (rRightStmt.j3 k x1 (x132002.length : Int) false x132000 (x132000 == 3) x132000 x132001 x132002 x132003 x132004) else (if x132000 = 4 then (rRightStmt.j3 k x1 (x132002.length : Int) false x132000 (x132000 == 4) x132000 x132001 x132002 x132003 x132004) else (rRightStmt.j3 k x1 (x132002.length : Int) false x132000 (x132000 == 5) x132000 x132001 x132002 x132003 x132004))))
def rRightStmt.j3 : Nat → Int → Int → Bool → Int → Bool → Int → ByteArray → List (S36) → List (S43) → List (S43) → Option (Bool)
 | 0, _, _, _, _, _, _, _, _, _, _ => none
 | k + 1, x1, x6, x7, x68, x69, x132000, x132001, x132002, x132003, x132004 => if x69 = true then (if x6 = 1 then ((rRightExprs.f k x132002 (wrap64 (x1 + 1))).bind fun t133 => (if t133 = true then ((rRightStmts.f k x132003 (wrap64 (x1 + 1))).bind fun t134 => (if t134 = true then ((rRightStmts.f k x132004 (wrap64 (x1 + 1))).bind fun t135 => (some t135)) else (some false))) else (some false))) else (some false)) else (if x68 = 2 then (if x6 = 2 then ((rRightExprs.f k x132002 (wrap64 (x1 + 1))).bind fun t136 => (if t136 = true then ((rRightStmts.f k x132003 (wrap64 (x1 + 1))).bind fun t137 => (if t137 = true then ((rRightStmts.f k x132004 (wrap64 (x1 + 1))).bind fun t138 => (some t138)) else (some false))) else (some false))) else (some false)) else (if x68 = 6 then (if x6 ≤ 6 then ((rRightExprs.f k x132002 (wrap64 (x1 + 1))).bind fun t139 => (if t139 = true then ((rRightStmts.f k x132003 (wrap64 (x1 + 1))).bind fun t140 => (if t140 = true then ((rRightStmts.f k x132004 (wrap64 (x1 + 1))).bind fun t141 => (some t141)) else (some false))) else (some false))) else (some false)) else (if x68 = 7 then (if x6 ≤ 1 then ((rRightExprs.f k x132002 (wrap64 (x1 + 1))).bind fun t142 => (if t142 = true then ((rRightStmts.f k x132003 (wrap64 (x1 + 1))).bind fun t143 => (if t143 = true then ((rRightStmts.f k x132004 (wrap64 (x1 + 1))).bind fun t144 => (some t144)) else (some false))) else (some false))) else (some false)) else (if x7 = true then ((rRightExprs.f k x132002 (wrap64 (x1 + 1))).bind fun t145 => (if t145 = true then ((rRightStmts.f k x132003 (wrap64 (x1 + 1))).bind fun t146 => (if t146 = true then ((rRightStmts.f k x132004 (wrap64 (x1 + 1))).bind fun t147 => (some t147)) else (some false))) else (some false))) else (some false)))))
def rRightStmt.f : Nat → Int → ByteArray → List (S36) → List (S43) → List (S43) → Int → Option (Bool)
 | 0, _, _, _, _, _, _ => none
 | k + 1, a0_0, a0_1, l0_2, l0_3, l0_4, a1 => if a1 > 24 then (rRightStmt.j0 k a1 true a0_0 a0_1 l0_2 l0_3 l0_4) else (if a0_0 = 4 then (rRightStmt.j0 k a1 false a0_0 a0_1 l0_2 l0_3 l0_4) else (if (l0_4.length : Int) > 0 then (rRightStmt.j0 k a1 true a0_0 a0_1 l0_2 l0_3 l0_4) else (if a0_0 = 5 then (rRightStmt.j0 k a1 false a0_0 a0_1 l0_2 l0_3 l0_4) else (rRightStmt.j0 k a1 (decide ((l0_3.length : Int) > 0)) a0_0 a0_1 l0_2 l0_3 l0_4))))
end
theorem rRightStmts.mono_l : ∀ k, (∀ y0 y1, LeO (rRightStmts.f k y0 y1) (rRightStmts.f (k + 1) y0 y1)) ∧ (∀ y0 y1 y2, LeO (rRightStmts.l0 k y0 y1 y2) (rRightStmts.l0 (k + 1) y0 y1 y2)) ∧ (∀ y0 y1 y2 y3 y4 y5, LeO (rRightStmt.f k y0 y1 y2 y3 y4 y5) (rRightStmt.f (k + 1) y0 y1 y2 y3 y4 y5)) ∧ (∀ y0 y1 y2 y3 y4 y5 y6, LeO (rRightStmt.j0 k y0 y1 y2 y3 y4 y5 y6) (rRightStmt.j0 (k + 1) y0 y1 y2 y3 y4 y5 y6)) ∧ (∀ y0 y1 y2 y3 y4 y5 y6, LeO (rRightStmt.j1 k y0 y1 y2 y3 y4 y5 y6) (rRightStmt.j1 (k + 1) y0 y1 y2 y3 y4 y5 y6)) ∧ (∀ y0 y1 y2 y3 y4 y5 y6, LeO (rRightStmt.j2 k y0 y1 y2 y3 y4 y5 y6) (rRightStmt.j2 (k + 1) y0 y1 y2 y3 y4 y5 y6)) ∧ (∀ y0 y1 y2 y3 y4 y5 y6 y7 y8 y9, LeO (rRightStmt.j3 k y0 y1 y2 y3 y4 y5 y6 y7 y8 y9) (rRightStmt.j3 (k + 1) y0 y1 y2 y3 y4 y5 y6 y7 y8 y9))
 | 0 => ⟨fun _ _ r h => by simp [rRightStmts.f] at h, fun _ _ _ r h => by simp [rRightStmts.l0] at h, fun _ _ _ _ _ _ r h => by simp [rRightStmt.f] at h, fun _ _ _ _ _ _ _ r h => by simp [rRightStmt.j0] at h, fun _ _ _ _ _ _ _ r h => by simp [rRightStmt.j1] at h, fun _ _ _ _ _ _ _ r h => by simp [rRightStmt.j2] at h, fun _ _ _ _ _ _ _ _ _ _ r h => by simp [rRightStmt.j3] at h⟩
 | k + 1 => by
  obtain ⟨ih0, ih1, ih2, ih3, ih4, ih5, ih6⟩ := rRightStmts.mono_l k
  refine ⟨?_, ?_, ?_, ?_, ?_, ?_, ?_⟩
  all_goals intros
  all_goals first | unfold rRightStmts.f | unfold rRightStmts.l0 | unfold rRightStmt.f | unfold rRightStmt.j0 | unfold rRightStmt.j1 | unfold rRightStmt.j2 | unfold rRightStmt.j3
  all_goals repeat' first
   | (with_reducible exact ih0 _ _)
   | (with_reducible exact ih1 _ _ _)
   | (with_reducible exact ih2 _ _ _ _ _ _)
   | (with_reducible exact ih3 _ _ _ _ _ _ _)
   | (with_reducible exact ih4 _ _ _ _ _ _ _)
   | (with_reducible exact ih5 _ _ _ _ _ _ _)
   | (with_reducible exact ih6 _ _ _ _ _ _ _ _ _ _)
   | (with_reducible exact rIsName.mono _ _)
   | (with_reducible exact rRightExprs.mono _ _ _)
   | (with_reducible exact LeO.refl _)
   | (with_reducible exact LeO.none _)
   | (with_reducible refine LeO.ite ?_ ?_)
   | (with_reducible refine LeO.bind ?_ (fun _ => ?_))
   | exact ih0 _ _
   | exact ih1 _ _ _
   | exact ih2 _ _ _ _ _ _
   | exact ih3 _ _ _ _ _ _ _
   | exact ih4 _ _ _ _ _ _ _
   | exact ih5 _ _ _ _ _ _ _
   | exact ih6 _ _ _ _ _ _ _ _ _ _
   | exact rIsName.mono _ _
   | exact rRightExprs.mono _ _ _
   | exact LeO.none _
   | refine LeO.ite ?_ ?_
   | refine LeO.bind ?_ (fun _ => ?_)
theorem rRightStmts.mono : ∀ a0 a1 k, LeO (rRightStmts.f k a0 a1) (rRightStmts.f (k + 1) a0 a1) := by
 intro a0 a1 k
 obtain ⟨ih0, ih1, ih2, ih3, ih4, ih5, ih6⟩ := rRightStmts.mono_l k
 exact ih0 a0 a1
theorem rRightStmt.mono : ∀ a0 a1 a2 a3 a4 a5 k, LeO (rRightStmt.f k a0 a1 a2 a3 a4 a5) (rRightStmt.f (k + 1) a0 a1 a2 a3 a4 a5) := by
 intro a0 a1 a2 a3 a4 a5 k
 obtain ⟨ih0, ih1, ih2, ih3, ih4, ih5, ih6⟩ := rRightStmts.mono_l k
 exact ih2 a0 a1 a2 a3 a4 a5
set_option maxHeartbeats 8000000 in
set_option maxRecDepth 100000 in
theorem rRightStmts.calls_of (k : Nat) (ihrRightStmts : ∀ j_, j_ < k → ∀ (A0 : Option Addr) (c0 : Nat) (l0 : List (S43)) (a1 : Int) (r : Bool) (w : World) (hr0 : Kd.C k43 w A0 l0.length l0) (hc0 : l0.length ≤ c0) (h : rRightStmts.f j_ l0 a1 = some r), Calls Tryd.prog 44 #[.slice A0 l0.length c0, .int .i64 a1] w fun e w' => e = .returned (.bool r) ∧ Below w.heap.size w w') (ihrRightStmt : ∀ j_, j_ < k → ∀ (a0_0 : Int) (a0_1 : ByteArray) (A0_2 : Option Addr) (c0_2 : Nat) (l0_2 : List (S36)) (A0_3 : Option Addr) (c0_3 : Nat) (l0_3 : List (S43)) (A0_4 : Option Addr) (c0_4 : Nat) (l0_4 : List (S43)) (a1 : Int) (r : Bool) (w : World) (hr0_2 : Kd.C k36 w A0_2 l0_2.length l0_2) (hc0_2 : l0_2.length ≤ c0_2) (hr0_3 : Kd.C k43 w A0_3 l0_3.length l0_3) (hc0_3 : l0_3.length ≤ c0_3) (hr0_4 : Kd.C k43 w A0_4 l0_4.length l0_4) (hc0_4 : l0_4.length ≤ c0_4) (h : rRightStmt.f j_ a0_0 a0_1 l0_2 l0_3 l0_4 a1 = some r), Calls Tryd.prog 73 #[.agg #[.int .i64 a0_0, .string a0_1, .slice A0_2 l0_2.length c0_2, .slice A0_3 l0_3.length c0_3, .slice A0_4 l0_4.length c0_4], .int .i64 a1] w fun e w' => e = .returned (.bool r) ∧ Below w.heap.size w w') : ∀ (A0 : Option Addr) (c0 : Nat) (l0 : List (S43)) (a1 : Int) (r : Bool) (w : World) (hr0 : Kd.C k43 w A0 l0.length l0) (hc0 : l0.length ≤ c0) (h : rRightStmts.f k l0 a1 = some r), Calls Tryd.prog 44 #[.slice A0 l0.length c0, .int .i64 a1] w fun e w' => e = .returned (.bool r) ∧ Below w.heap.size w w' := by
 intro A0 c0 l0 a1 r w hr0 hc0 h
 cases k with
 | zero => exact absurd h (by simp [rRightStmts.f])
 | succ k =>
 simp only [rRightStmts.f] at h
 have hu43 := Tryd.underlying43
 have HR0 := kd.mk hr0
 have HC0 := kd.mk hc0
 clear hr0 hc0
 have HB := kd.mk (Below.refl w.heap.size w)
 have H : (rRightStmts.l0 k l0 a1 0) = some r := h
 clear h
 have H' := kd.mk H
 clear H
 go_enter Tryd.func44, Tryd.ntmps44
 go_wp2
 go_loopg [5] k (fun kq v5 w' => ∃ (x5_1 : Int), v5 = .int .i64 x5_1 ∧ kd (rRightStmts.l0 kq l0 a1 x5_1 = some r) ∧ kd (kq ≤ k) ∧ kd (Below w.heap.size w w'))
 case atStart => exact ⟨(0), (by first | rfl | (simp; done) | (simp [*]; done)), H', ⟨Nat.le_refl _⟩, ⟨by repeat (first | (with_reducible first | exact HB.out | apply ke | apply ka | apply kf) | exact HB.out)⟩⟩
 case round =>
  clear H'
  try clear p2
  obtain ⟨x5_1, rfl, HA, HK1, HB⟩ := hrel
  cases gk with
  | zero => exact absurd HA.out (by simp [rRightStmts.l0])
  | succ k1 =>
   have H := HA.out
   clear HA
   simp only [rRightStmts.l0] at H
   by_cases c3 : x5_1 < (l0.length : Int)
   ·rw [if_pos c3] at H
    have c3b0 : decide (x5_1 < (l0.length : Int)) = true := decide_eq_true c3
    clear c3
    by_cases c4 : 0 ≤ x5_1
    ·rw [if_pos c4] at H
     have c4b0 : decide (0 ≤ x5_1) = true := decide_eq_true c4
     clear c4
     replace H := Option.bind_eq_some_iff.mp H
     obtain ⟨t149, A50, H⟩ := H
     replace H : (if t149 = true then (rRightStmts.l0 k1 l0 a1 (wrap64 (x5_1 + 1))) else (some false)) = some r := H
     have A5 := kd.mk A50
     clear A50
     by_cases c6 : t149 = true
     ·subst c6
      replace H : (rRightStmts.l0 k1 l0 a1 (wrap64 (x5_1 + 1))) = some r := by rw [if_pos rfl] at H; exact H
      have H' := kd.mk H
      clear H
      have p148 : 0 ≤ (x5_1 : Int) := of_decide_eq_true (by first | (with_reducible assumption) | assumption)
      have q148 : x5_1 < (l0.length : Int) := of_decide_eq_true (by first | (with_reducible assumption) | assumption)
      obtain ⟨ad148, A148_2, c148_2, A148_3, c148_3, A148_4, c148_4, e148, hx148_0, hx148_1, hx148_2, hx148_3, hx148_4, hl148_2, hi148_2, hl148_3, hi148_3, hl148_4, hi148_4⟩ := at_T43 HR0.out x5_1 p148 q148
      cases e148
      replace hx148_0 := (HB.out.cell (World.block_lt_of_cell? w _ hx148_0)).trans hx148_0
      replace hx148_1 := (HB.out.cell (World.block_lt_of_cell? w _ hx148_1)).trans hx148_1
      replace hx148_2 := (HB.out.cell (World.block_lt_of_cell? w _ hx148_2)).trans hx148_2
      replace hx148_3 := (HB.out.cell (World.block_lt_of_cell? w _ hx148_3)).trans hx148_3
      replace hx148_4 := (HB.out.cell (World.block_lt_of_cell? w _ hx148_4)).trans hx148_4
      have HR148_2 := kd.mk hi148_2
      have HC148_2 := kd.mk hl148_2
      clear hi148_2 hl148_2
      have HR148_3 := kd.mk hi148_3
      have HC148_3 := kd.mk hl148_3
      clear hi148_3 hl148_3
      have HR148_4 := kd.mk hi148_4
      have HC148_4 := kd.mk hl148_4
      clear hi148_4 hl148_4
      replace p148 := eq_true p148
      replace q148 := eq_true q148
      go_wp2_with (first | ((with_reducible refine jb (f := 73) rfl ?_); refine jo (some 17) rfl rfl Tryd.func73 (by kernel_rfl) rfl #[.agg #[.int .i64 ((kt l0 x5_1).f0), .string ((kt l0 x5_1).f1), .slice A148_2 ((kt l0 x5_1).f2).length c148_2, .slice A148_3 ((kt l0 x5_1).f3).length c148_3, .slice A148_4 ((kt l0 x5_1).f4).length c148_4], .int .i64 a1] rfl (by (try simp only [List.map_toArray, List.map_cons, List.map_nil]); first | done | rfl | (simp only [List.length_drop, List.length_take]; rfl)) ?_; (with_reducible refine (ihrRightStmt k1 (by have := HK1.out; omega) ((kt l0 x5_1).f0) ((kt l0 x5_1).f1) _ _ ((kt l0 x5_1).f2) _ _ ((kt l0 x5_1).f3) _ _ ((kt l0 x5_1).f4) a1 true _ ?side1 ?side2 ?side3 ?side4 ?side5 ?side6 A5.out).mono ?_); (case side1 => exact Kd.kx HR148_2.out HB.out); (case side2 => exact HC148_2.out); (case side3 => exact Kd.kx HR148_3.out HB.out); (case side4 => exact HC148_3.out); (case side5 => exact Kd.kx HR148_4.out HB.out); (case side6 => exact HC148_4.out); rintro e w7 ⟨rfl, hb⟩; refine ⟨_, rfl, ?_⟩; have n0_ := kd.mk (kr (by repeat (first | (with_reducible first | exact HB.out | apply ke | apply ka | apply kf) | exact HB.out)) hb); clear HB; have HB := n0_; clear n0_; (try clear hb)))
      go_roundg k1
      case measure => have := HK1.out; omega
      case rel => exact ⟨(wrap64 (x5_1 + 1)), (by first | rfl | (simp; done) | (simp [*]; done)), H', ⟨by have := HK1.out; omega⟩, ⟨by repeat (first | (with_reducible first | exact HB.out | apply ke | apply ka | apply kf) | exact HB.out)⟩⟩
     ·replace c6 := Bool.eq_false_iff.mpr c6
      subst c6
      replace H : (some false) = some r := by rw [if_neg (show ¬ (false = true) by decide)] at H; exact H
      obtain rfl := Option.some.inj H
      have p148 : 0 ≤ (x5_1 : Int) := of_decide_eq_true (by first | (with_reducible assumption) | assumption)
      have q148 : x5_1 < (l0.length : Int) := of_decide_eq_true (by first | (with_reducible assumption) | assumption)
      obtain ⟨ad148, A148_2, c148_2, A148_3, c148_3, A148_4, c148_4, e148, hx148_0, hx148_1, hx148_2, hx148_3, hx148_4, hl148_2, hi148_2, hl148_3, hi148_3, hl148_4, hi148_4⟩ := at_T43 HR0.out x5_1 p148 q148
      cases e148
      replace hx148_0 := (HB.out.cell (World.block_lt_of_cell? w _ hx148_0)).trans hx148_0
      replace hx148_1 := (HB.out.cell (World.block_lt_of_cell? w _ hx148_1)).trans hx148_1
      replace hx148_2 := (HB.out.cell (World.block_lt_of_cell? w _ hx148_2)).trans hx148_2
      replace hx148_3 := (HB.out.cell (World.block_lt_of_cell? w _ hx148_3)).trans hx148_3
      replace hx148_4 := (HB.out.cell (World.block_lt_of_cell? w _ hx148_4)).trans hx148_4
      have HR148_2 := kd.mk hi148_2
      have HC148_2 := kd.mk hl148_2
      clear hi148_2 hl148_2
      have HR148_3 := kd.mk hi148_3
      have HC148_3 := kd.mk hl148_3
      clear hi148_3 hl148_3
      have HR148_4 := kd.mk hi148_4
      have HC148_4 := kd.mk hl148_4
      clear hi148_4 hl148_4
      replace p148 := eq_true p148
      replace q148 := eq_true q148
      go_wp2_with (first | ((with_reducible refine jb (f := 73) rfl ?_); refine jo (some 17) rfl rfl Tryd.func73 (by kernel_rfl) rfl #[.agg #[.int .i64 ((kt l0 x5_1).f0), .string ((kt l0 x5_1).f1), .slice A148_2 ((kt l0 x5_1).f2).length c148_2, .slice A148_3 ((kt l0 x5_1).f3).length c148_3, .slice A148_4 ((kt l0 x5_1).f4).length c148_4], .int .i64 a1] rfl (by (try simp only [List.map_toArray, List.map_cons, List.map_nil]); first | done | rfl | (simp only [List.length_drop, List.length_take]; rfl)) ?_; (with_reducible refine (ihrRightStmt k1 (by have := HK1.out; omega) ((kt l0 x5_1).f0) ((kt l0 x5_1).f1) _ _ ((kt l0 x5_1).f2) _ _ ((kt l0 x5_1).f3) _ _ ((kt l0 x5_1).f4) a1 false _ ?side1 ?side2 ?side3 ?side4 ?side5 ?side6 A5.out).mono ?_); (case side1 => exact Kd.kx HR148_2.out HB.out); (case side2 => exact HC148_2.out); (case side3 => exact Kd.kx HR148_3.out HB.out); (case side4 => exact HC148_3.out); (case side5 => exact Kd.kx HR148_4.out HB.out); (case side6 => exact HC148_4.out); rintro e w8 ⟨rfl, hb⟩; refine ⟨_, rfl, ?_⟩; have n0_ := kd.mk (kr (by repeat (first | (with_reducible first | exact HB.out | apply ke | apply ka | apply kf) | exact HB.out)) hb); clear HB; have HB := n0_; clear n0_; (try clear hb)))
      go_ret
      exact ⟨by first | rfl | (simp [kp, ko] <;> rfl) | (simp [*, kp, ko] <;> rfl), by repeat (first | (with_reducible first | exact HB.out | apply ke | apply ka | apply kf) | exact HB.out)⟩
    ·rw [if_neg c4] at H
     exact absurd H (by simp)
   ·rw [if_neg c3] at H
    have c3b0 : decide (x5_1 < (l0.length : Int)) = false := decide_eq_false c3
    clear c3
    obtain rfl := Option.some.inj H
    go_wp2
    go_ret
    exact ⟨by first | rfl | (simp [kp, ko] <;> rfl) | (simp [*, kp, ko] <;> rfl), by repeat (first | (with_reducible first | exact HB.out | apply ke | apply ka | apply kf) | exact HB.out)⟩
set_option maxHeartbeats 8000000 in
set_option maxRecDepth 100000 in
theorem rRightStmt.calls_of (k : Nat) (ihrRightStmts : ∀ j_, j_ < k → ∀ (A0 : Option Addr) (c0 : Nat) (l0 : List (S43)) (a1 : Int) (r : Bool) (w : World) (hr0 : Kd.C k43 w A0 l0.length l0) (hc0 : l0.length ≤ c0) (h : rRightStmts.f j_ l0 a1 = some r), Calls Tryd.prog 44 #[.slice A0 l0.length c0, .int .i64 a1] w fun e w' => e = .returned (.bool r) ∧ Below w.heap.size w w') (ihrRightStmt : ∀ j_, j_ < k → ∀ (a0_0 : Int) (a0_1 : ByteArray) (A0_2 : Option Addr) (c0_2 : Nat) (l0_2 : List (S36)) (A0_3 : Option Addr) (c0_3 : Nat) (l0_3 : List (S43)) (A0_4 : Option Addr) (c0_4 : Nat) (l0_4 : List (S43)) (a1 : Int) (r : Bool) (w : World) (hr0_2 : Kd.C k36 w A0_2 l0_2.length l0_2) (hc0_2 : l0_2.length ≤ c0_2) (hr0_3 : Kd.C k43 w A0_3 l0_3.length l0_3) (hc0_3 : l0_3.length ≤ c0_3) (hr0_4 : Kd.C k43 w A0_4 l0_4.length l0_4) (hc0_4 : l0_4.length ≤ c0_4) (h : rRightStmt.f j_ a0_0 a0_1 l0_2 l0_3 l0_4 a1 = some r), Calls Tryd.prog 73 #[.agg #[.int .i64 a0_0, .string a0_1, .slice A0_2 l0_2.length c0_2, .slice A0_3 l0_3.length c0_3, .slice A0_4 l0_4.length c0_4], .int .i64 a1] w fun e w' => e = .returned (.bool r) ∧ Below w.heap.size w w') : ∀ (a0_0 : Int) (a0_1 : ByteArray) (A0_2 : Option Addr) (c0_2 : Nat) (l0_2 : List (S36)) (A0_3 : Option Addr) (c0_3 : Nat) (l0_3 : List (S43)) (A0_4 : Option Addr) (c0_4 : Nat) (l0_4 : List (S43)) (a1 : Int) (r : Bool) (w : World) (hr0_2 : Kd.C k36 w A0_2 l0_2.length l0_2) (hc0_2 : l0_2.length ≤ c0_2) (hr0_3 : Kd.C k43 w A0_3 l0_3.length l0_3) (hc0_3 : l0_3.length ≤ c0_3) (hr0_4 : Kd.C k43 w A0_4 l0_4.length l0_4) (hc0_4 : l0_4.length ≤ c0_4) (h : rRightStmt.f k a0_0 a0_1 l0_2 l0_3 l0_4 a1 = some r), Calls Tryd.prog 73 #[.agg #[.int .i64 a0_0, .string a0_1, .slice A0_2 l0_2.length c0_2, .slice A0_3 l0_3.length c0_3, .slice A0_4 l0_4.length c0_4], .int .i64 a1] w fun e w' => e = .returned (.bool r) ∧ Below w.heap.size w w' := by
 intro a0_0 a0_1 A0_2 c0_2 l0_2 A0_3 c0_3 l0_3 A0_4 c0_4 l0_4 a1 r w hr0_2 hc0_2 hr0_3 hc0_3 hr0_4 hc0_4 h
 cases k with
 | zero => exact absurd h (by simp [rRightStmt.f])
 | succ k =>
 simp only [rRightStmt.f] at h
 have hu43 := Tryd.underlying43
 have HR0_2 := kd.mk hr0_2
 have HC0_2 := kd.mk hc0_2
 clear hr0_2 hc0_2
 have HR0_3 := kd.mk hr0_3
 have HC0_3 := kd.mk hc0_3
 clear hr0_3 hc0_3
 have HR0_4 := kd.mk hr0_4
 have HC0_4 := kd.mk hc0_4
 clear hr0_4 hc0_4
 have HB := kd.mk (Below.refl w.heap.size w)
 have H : (if a1 > 24 then (rRightStmt.j0 k a1 true a0_0 a0_1 l0_2 l0_3 l0_4) else (if a0_0 = 4 then (rRightStmt.j0 k a1 false a0_0 a0_1 l0_2 l0_3 l0_4) else (if (l0_4.length : Int) > 0 then (rRightStmt.j0 k a1 true a0_0 a0_1 l0_2 l0_3 l0_4) else (if a0_0 = 5 then (rRightStmt.j0 k a1 false a0_0 a0_1 l0_2 l0_3 l0_4) else (rRightStmt.j0 k a1 (decide ((l0_3.length : Int) > 0)) a0_0 a0_1 l0_2 l0_3 l0_4))))) = some r := h
 clear h
 have HC3 := kd.mk H
 clear H
 go_enter Tryd.func73, Tryd.ntmps73
 go_upto_region 1 with (first | ((with_reducible refine ja (N := 2) rfl ?_); (try (refine gate_guard (by rfl) ?_; dsimp only)); refine kz ?hg (N := 2) ?hd (cs := #[.int .i64 a0_0, .string a0_1, .slice A0_2 l0_2.length c0_2, .slice A0_3 l0_3.length c0_3, .slice A0_4 l0_4.length c0_4]) (t := 43) ?hr ?_; (case hd => rfl); (case hg => rfl); (case hr => first | (go_simp; done) | (go_simp; rfl)); intro gb131 hg w4 hbox hb; have n0_ := kd.mk (kr (by repeat (first | (with_reducible first | exact HB.out | apply ke | apply ka | apply kf) | exact HB.out)) hb); have n1_ := kd.mk (hbox); have n2_ := kd.mk ((by rw [hg]; exact (ks (by repeat (first | (with_reducible first | exact HB.out | apply ke | apply ka | apply kf) | exact HB.out))) : w.heap.size ≤ gb131)); have n3_ := kd.mk ((by rw [hg]; exact (ks (by repeat (first | (with_reducible first | exact HB.out | apply ke | apply ka | apply kf) | exact HB.out))) : w.heap.size ≤ gb131)); clear HB; have HB := n0_; have BK131 := n1_; have GW131 := n2_; have GE131 := n3_; clear n0_ n1_ n2_ n3_; clear hb hbox hg))
 (try simp only [Act.put, List.setIfInBounds_toArray, List.set_cons_zero, List.set_cons_succ])
 go_cut [36] (fun v36 wc => ∃ (kq : Nat) (x36_2 : Bool), v36 = .bool x36_2 ∧ kd (rRightStmt.j0 kq a1 x36_2 a0_0 a0_1 l0_2 l0_3 l0_4 = some r) ∧ kd (kq ≤ k) ∧ kd (wc.heap[gb131]? = some (.cells #[.int .i64 a0_0, .string a0_1, (.slice A0_2 l0_2.length c0_2), (.slice A0_3 l0_3.length c0_3), (.slice A0_4 l0_4.length c0_4)] 43 (0, 0))) ∧ kd (Below w.heap.size w wc))
 case first =>
  have H := HC3.out
  clear HC3
  by_cases c5 : a1 > 24
  ·rw [if_pos c5] at H
   have c5b0 : decide (24 < a1) = true := decide_eq_true c5
   clear c5
   (first | rw [c5b0] | (simp only [jc, jd]; rw [c5b0]) | skip)
   have H' := kd.mk H
   clear H
   go_wp2
   go_meet
   case rel => exact ⟨_, (true), (by first | rfl | (simp; done) | (simp [Ext.ne_nil]; done) | (simp [*]; done)), H', ⟨by first | omega | exact Nat.le_refl _⟩, ⟨by (with_reducible repeat (first | refine kg ?_ _ | refine kk ?_ | refine ki ?_ _)); exact BK131.out⟩, ⟨by repeat (first | (with_reducible first | exact HB.out | apply ke | apply ka | apply kf | refine kj ?_ GE131.out) | exact HB.out)⟩⟩
  ·rw [if_neg c5] at H
   have c5b0 : decide (24 < a1) = false := decide_eq_false c5
   clear c5
   (first | rw [c5b0] | (simp only [jc, jd]; rw [c5b0]) | skip)
   by_cases c6 : a0_0 = 4
   ·rw [if_pos c6] at H
    have c6b0 : (a0_0 == 4) = true := beq_iff_eq.mpr c6
    have c6b1 : (a0_0 != 4) = false := bne_eq_false_iff_eq.mpr c6
    clear c6
    have H' := kd.mk H
    clear H
    have hcz7_0 : w4.cell? ⟨gb131, 0, none⟩ = some (.int .i64 a0_0) := (kc BK131.out 0).trans rfl
    have hcz7_1 : w4.cell? ⟨gb131, 1, none⟩ = some (.string a0_1) := (kc BK131.out 1).trans rfl
    have hcz7_2 : w4.cell? ⟨gb131, 2, none⟩ = some (.slice A0_2 l0_2.length c0_2) := (kc BK131.out 2).trans rfl
    have hcz7_3 : w4.cell? ⟨gb131, 3, none⟩ = some (.slice A0_3 l0_3.length c0_3) := (kc BK131.out 3).trans rfl
    have hcz7_4 : w4.cell? ⟨gb131, 4, none⟩ = some (.slice A0_4 l0_4.length c0_4) := (kc BK131.out 4).trans rfl
    have hfz7_0 := kb BK131.out 0
    have hfz7_1 := kb BK131.out 1
    have hfz7_2 := kb BK131.out 2
    have hfz7_3 := kb BK131.out 3
    have hfz7_4 := kb BK131.out 4
    go_wp2
    go_meet
    case rel => exact ⟨_, (false), (by first | rfl | (simp; done) | (simp [Ext.ne_nil]; done) | (simp [*]; done)), H', ⟨by first | omega | exact Nat.le_refl _⟩, ⟨by (with_reducible repeat (first | refine kg ?_ _ | refine kk ?_ | refine ki ?_ _)); exact BK131.out⟩, ⟨by repeat (first | (with_reducible first | exact HB.out | apply ke | apply ka | apply kf | refine kj ?_ GE131.out) | exact HB.out)⟩⟩
   ·rw [if_neg c6] at H
    have c6b0 : (a0_0 == 4) = false := beq_eq_false_iff_ne.mpr c6
    have c6b1 : (a0_0 != 4) = true := bne_iff_ne.mpr c6
    by_cases c8 : (l0_4.length : Int) > 0
    ·rw [if_pos c8] at H
     have c8b0 : decide (0 < (l0_4.length : Int)) = true := decide_eq_true c8
     have c8b1 : decide (0 < l0_4.length) = true := decide_eq_true (by omega)
     clear c8
     have H' := kd.mk H
     clear H
     have hcz9_0 : w4.cell? ⟨gb131, 0, none⟩ = some (.int .i64 a0_0) := (kc BK131.out 0).trans rfl
     have hcz9_1 : w4.cell? ⟨gb131, 1, none⟩ = some (.string a0_1) := (kc BK131.out 1).trans rfl
     have hcz9_2 : w4.cell? ⟨gb131, 2, none⟩ = some (.slice A0_2 l0_2.length c0_2) := (kc BK131.out 2).trans rfl
     have hcz9_3 : w4.cell? ⟨gb131, 3, none⟩ = some (.slice A0_3 l0_3.length c0_3) := (kc BK131.out 3).trans rfl
     have hcz9_4 : w4.cell? ⟨gb131, 4, none⟩ = some (.slice A0_4 l0_4.length c0_4) := (kc BK131.out 4).trans rfl
     have hfz9_0 := kb BK131.out 0
     have hfz9_1 := kb BK131.out 1
     have hfz9_2 := kb BK131.out 2
     have hfz9_3 := kb BK131.out 3
     have hfz9_4 := kb BK131.out 4
     go_wp2
     go_meet
     case rel => exact ⟨_, (true), (by first | rfl | (simp; done) | (simp [Ext.ne_nil]; done) | (simp [*]; done)), H', ⟨by first | omega | exact Nat.le_refl _⟩, ⟨by (with_reducible repeat (first | refine kg ?_ _ | refine kk ?_ | refine ki ?_ _)); exact BK131.out⟩, ⟨by repeat (first | (with_reducible first | exact HB.out | apply ke | apply ka | apply kf | refine kj ?_ GE131.out) | exact HB.out)⟩⟩
    ·rw [if_neg c8] at H
     have c8b0 : decide (0 < (l0_4.length : Int)) = false := decide_eq_false c8
     have c8b1 : decide (0 < l0_4.length) = false := decide_eq_false (by omega)
     clear c8
     by_cases c10 : a0_0 = 5
     ·rw [if_pos c10] at H
      have c10b0 : (a0_0 == 5) = true := beq_iff_eq.mpr c10
      have c10b1 : (a0_0 != 5) = false := bne_eq_false_iff_eq.mpr c10
      clear c10
      have H' := kd.mk H
      clear H
      have hcz11_0 : w4.cell? ⟨gb131, 0, none⟩ = some (.int .i64 a0_0) := (kc BK131.out 0).trans rfl
      have hcz11_1 : w4.cell? ⟨gb131, 1, none⟩ = some (.string a0_1) := (kc BK131.out 1).trans rfl
      have hcz11_2 : w4.cell? ⟨gb131, 2, none⟩ = some (.slice A0_2 l0_2.length c0_2) := (kc BK131.out 2).trans rfl
      have hcz11_3 : w4.cell? ⟨gb131, 3, none⟩ = some (.slice A0_3 l0_3.length c0_3) := (kc BK131.out 3).trans rfl
      have hcz11_4 : w4.cell? ⟨gb131, 4, none⟩ = some (.slice A0_4 l0_4.length c0_4) := (kc BK131.out 4).trans rfl
      have hfz11_0 := kb BK131.out 0
      have hfz11_1 := kb BK131.out 1
      have hfz11_2 := kb BK131.out 2
      have hfz11_3 := kb BK131.out 3
      have hfz11_4 := kb BK131.out 4
      go_wp2
      go_meet
      case rel => exact ⟨_, (false), (by first | rfl | (simp; done) | (simp [Ext.ne_nil]; done) | (simp [*]; done)), H', ⟨by first | omega | exact Nat.le_refl _⟩, ⟨by (with_reducible repeat (first | refine kg ?_ _ | refine kk ?_ | refine ki ?_ _)); exact BK131.out⟩, ⟨by repeat (first | (with_reducible first | exact HB.out | apply ke | apply ka | apply kf | refine kj ?_ GE131.out) | exact HB.out)⟩⟩
     ·rw [if_neg c10] at H
      have c10b0 : (a0_0 == 5) = false := beq_eq_false_iff_ne.mpr c10
      have c10b1 : (a0_0 != 5) = true := bne_iff_ne.mpr c10
      have H' := kd.mk H
      clear H
      have hcz12_0 : w4.cell? ⟨gb131, 0, none⟩ = some (.int .i64 a0_0) := (kc BK131.out 0).trans rfl
      have hcz12_1 : w4.cell? ⟨gb131, 1, none⟩ = some (.string a0_1) := (kc BK131.out 1).trans rfl
      have hcz12_2 : w4.cell? ⟨gb131, 2, none⟩ = some (.slice A0_2 l0_2.length c0_2) := (kc BK131.out 2).trans rfl
      have hcz12_3 : w4.cell? ⟨gb131, 3, none⟩ = some (.slice A0_3 l0_3.length c0_3) := (kc BK131.out 3).trans rfl
      have hcz12_4 : w4.cell? ⟨gb131, 4, none⟩ = some (.slice A0_4 l0_4.length c0_4) := (kc BK131.out 4).trans rfl
      have hfz12_0 := kb BK131.out 0
      have hfz12_1 := kb BK131.out 1
      have hfz12_2 := kb BK131.out 2
      have hfz12_3 := kb BK131.out 3
      have hfz12_4 := kb BK131.out 4
      go_wp2
      go_meet
      case rel => exact ⟨_, (decide ((l0_3.length : Int) > 0)), (by first | rfl | (simp; done) | (simp [Ext.ne_nil]; done) | (simp [*]; done)), H', ⟨by first | omega | exact Nat.le_refl _⟩, ⟨by (with_reducible repeat (first | refine kg ?_ _ | refine kk ?_ | refine ki ?_ _)); exact BK131.out⟩, ⟨by repeat (first | (with_reducible first | exact HB.out | apply ke | apply ka | apply kf | refine kj ?_ GE131.out) | exact HB.out)⟩⟩
 case rest =>
  clear HC3
  try clear c1
  try clear p2
  try clear c5
  try clear c5b0
  try clear c6
  try clear c6b0
  try clear c6b1
  try clear c7
  try clear c8
  try clear c8b0
  try clear c8b1
  try clear c10
  try clear c10b0
  try clear c10b1
  try clear hcz11_0
  try clear hcz11_1
  try clear hcz11_2
  try clear hcz11_3
  try clear hcz11_4
  try clear hcz12_0
  try clear hcz12_1
  try clear hcz12_2
  try clear hcz12_3
  try clear hcz12_4
  try clear hcz7_0
  try clear hcz7_1
  try clear hcz7_2
  try clear hcz7_3
  try clear hcz7_4
  try clear hcz9_0
  try clear hcz9_1
  try clear hcz9_2
  try clear hcz9_3
  try clear hcz9_4
  try clear hfz11_0
  try clear hfz11_1
  try clear hfz11_2
  try clear hfz11_3
  try clear hfz11_4
  try clear hfz12_0
  try clear hfz12_1
  try clear hfz12_2
  try clear hfz12_3
  try clear hfz12_4
  try clear hfz7_0
  try clear hfz7_1
  try clear hfz7_2
  try clear hfz7_3
  try clear hfz7_4
  try clear hfz9_0
  try clear hfz9_1
  try clear hfz9_2
  try clear hfz9_3
  try clear hfz9_4
  obtain ⟨kq, x36_2, rfl, HA, HJ2, BK131, HB⟩ := hcut
  cases kq with
  | zero => exact absurd HA.out (by simp [rRightStmt.j0])
  | succ kj2 =>
   have H := HA.out
   clear HA
   simp only [rRightStmt.j0] at H
   by_cases c13 : x36_2 = true
   ·subst c13
    replace H : (some false) = some r := by rw [if_pos rfl] at H; exact H
    obtain rfl := Option.some.inj H
    go_wp2
    go_ret
    exact ⟨by first | rfl | (simp [kp, ko] <;> rfl) | (simp [*, kp, ko] <;> rfl), by repeat (first | (with_reducible first | exact HB.out | apply ke | apply ka | apply kf | refine kj ?_ GE131.out) | exact HB.out)⟩
   ·replace c13 := Bool.eq_false_iff.mpr c13
    subst c13
    replace H : (if a0_0 = 1 then (rRightStmt.j1 kj2 a1 true a0_0 a0_1 l0_2 l0_3 l0_4) else (if a0_0 = 2 then (rRightStmt.j1 kj2 a1 true a0_0 a0_1 l0_2 l0_3 l0_4) else (rRightStmt.j1 kj2 a1 (a0_0 == 6) a0_0 a0_1 l0_2 l0_3 l0_4))) = some r := by rw [if_neg (show ¬ (false = true) by decide)] at H; exact H
    have HC14 := kd.mk H
    clear H
    go_upto_region 3 with (fail)
    go_cut [5] (fun v5 wc => ∃ (kq : Nat) (x5_13 : Bool), v5 = .bool x5_13 ∧ kd (rRightStmt.j1 kq a1 x5_13 a0_0 a0_1 l0_2 l0_3 l0_4 = some r) ∧ kd (kq ≤ kj2) ∧ kd (wc.heap[gb131]? = some (.cells #[.int .i64 a0_0, .string a0_1, (.slice A0_2 l0_2.length c0_2), (.slice A0_3 l0_3.length c0_3), (.slice A0_4 l0_4.length c0_4)] 43 (0, 0))) ∧ kd (Below w.heap.size w wc))
    case first =>
     have H := HC14.out
     clear HC14
     by_cases c15 : a0_0 = 1
     ·rw [if_pos c15] at H
      have c15b0 : (a0_0 == 1) = true := beq_iff_eq.mpr c15
      have c15b1 : (a0_0 != 1) = false := bne_eq_false_iff_eq.mpr c15
      clear c15
      (first | rw [c15b0] | (simp only [jc, jd]; rw [c15b0]) | skip)
      have H' := kd.mk H
      clear H
      have hcz16_0 : wc.cell? ⟨gb131, 0, none⟩ = some (.int .i64 a0_0) := (kc BK131.out 0).trans rfl
      have hcz16_1 : wc.cell? ⟨gb131, 1, none⟩ = some (.string a0_1) := (kc BK131.out 1).trans rfl
      have hcz16_2 : wc.cell? ⟨gb131, 2, none⟩ = some (.slice A0_2 l0_2.length c0_2) := (kc BK131.out 2).trans rfl
      have hcz16_3 : wc.cell? ⟨gb131, 3, none⟩ = some (.slice A0_3 l0_3.length c0_3) := (kc BK131.out 3).trans rfl
      have hcz16_4 : wc.cell? ⟨gb131, 4, none⟩ = some (.slice A0_4 l0_4.length c0_4) := (kc BK131.out 4).trans rfl
      have hfz16_0 := kb BK131.out 0
      have hfz16_1 := kb BK131.out 1
      have hfz16_2 := kb BK131.out 2
      have hfz16_3 := kb BK131.out 3
      have hfz16_4 := kb BK131.out 4
      go_wp2
      go_meet
      case rel => exact ⟨_, (true), (by first | rfl | (simp; done) | (simp [Ext.ne_nil]; done) | (simp [*]; done)), H', ⟨by have := HJ2.out; first | omega | exact Nat.le_refl _⟩, ⟨by (with_reducible repeat (first | refine kg ?_ _ | refine kk ?_ | refine ki ?_ _)); exact BK131.out⟩, ⟨by repeat (first | (with_reducible first | exact HB.out | apply ke | apply ka | apply kf | refine kj ?_ GE131.out) | exact HB.out)⟩⟩
     ·rw [if_neg c15] at H
      have c15b0 : (a0_0 == 1) = false := beq_eq_false_iff_ne.mpr c15
      have c15b1 : (a0_0 != 1) = true := bne_iff_ne.mpr c15
      (first | rw [c15b0] | (simp only [jc, jd]; rw [c15b0]) | skip)
      by_cases c17 : a0_0 = 2
      ·rw [if_pos c17] at H
       have c17b0 : (a0_0 == 2) = true := beq_iff_eq.mpr c17
       have c17b1 : (a0_0 != 2) = false := bne_eq_false_iff_eq.mpr c17
       clear c17
       have H' := kd.mk H
       clear H
       have hcz18_0 : wc.cell? ⟨gb131, 0, none⟩ = some (.int .i64 a0_0) := (kc BK131.out 0).trans rfl
       have hcz18_1 : wc.cell? ⟨gb131, 1, none⟩ = some (.string a0_1) := (kc BK131.out 1).trans rfl
       have hcz18_2 : wc.cell? ⟨gb131, 2, none⟩ = some (.slice A0_2 l0_2.length c0_2) := (kc BK131.out 2).trans rfl
       have hcz18_3 : wc.cell? ⟨gb131, 3, none⟩ = some (.slice A0_3 l0_3.length c0_3) := (kc BK131.out 3).trans rfl
       have hcz18_4 : wc.cell? ⟨gb131, 4, none⟩ = some (.slice A0_4 l0_4.length c0_4) := (kc BK131.out 4).trans rfl
       have hfz18_0 := kb BK131.out 0
       have hfz18_1 := kb BK131.out 1
       have hfz18_2 := kb BK131.out 2
       have hfz18_3 := kb BK131.out 3
       have hfz18_4 := kb BK131.out 4
       go_wp2
       go_meet
       case rel => exact ⟨_, (true), (by first | rfl | (simp; done) | (simp [Ext.ne_nil]; done) | (simp [*]; done)), H', ⟨by have := HJ2.out; first | omega | exact Nat.le_refl _⟩, ⟨by (with_reducible repeat (first | refine kg ?_ _ | refine kk ?_ | refine ki ?_ _)); exact BK131.out⟩, ⟨by repeat (first | (with_reducible first | exact HB.out | apply ke | apply ka | apply kf | refine kj ?_ GE131.out) | exact HB.out)⟩⟩
      ·rw [if_neg c17] at H
       have c17b0 : (a0_0 == 2) = false := beq_eq_false_iff_ne.mpr c17
       have c17b1 : (a0_0 != 2) = true := bne_iff_ne.mpr c17
       have H' := kd.mk H
       clear H
       have hcz19_0 : wc.cell? ⟨gb131, 0, none⟩ = some (.int .i64 a0_0) := (kc BK131.out 0).trans rfl
       have hcz19_1 : wc.cell? ⟨gb131, 1, none⟩ = some (.string a0_1) := (kc BK131.out 1).trans rfl
       have hcz19_2 : wc.cell? ⟨gb131, 2, none⟩ = some (.slice A0_2 l0_2.length c0_2) := (kc BK131.out 2).trans rfl
       have hcz19_3 : wc.cell? ⟨gb131, 3, none⟩ = some (.slice A0_3 l0_3.length c0_3) := (kc BK131.out 3).trans rfl
       have hcz19_4 : wc.cell? ⟨gb131, 4, none⟩ = some (.slice A0_4 l0_4.length c0_4) := (kc BK131.out 4).trans rfl
       have hfz19_0 := kb BK131.out 0
       have hfz19_1 := kb BK131.out 1
       have hfz19_2 := kb BK131.out 2
       have hfz19_3 := kb BK131.out 3
       have hfz19_4 := kb BK131.out 4
       go_wp2
       go_meet
       case rel => exact ⟨_, ((a0_0 == 6)), (by first | rfl | (simp; done) | (simp [Ext.ne_nil]; done) | (simp [*]; done)), H', ⟨by have := HJ2.out; first | omega | exact Nat.le_refl _⟩, ⟨by (with_reducible repeat (first | refine kg ?_ _ | refine kk ?_ | refine ki ?_ _)); exact BK131.out⟩, ⟨by repeat (first | (with_reducible first | exact HB.out | apply ke | apply ka | apply kf | refine kj ?_ GE131.out) | exact HB.out)⟩⟩
    case rest =>
     clear HC14
     try clear c1
     try clear p2
     try clear c5
     try clear c5b0
     try clear c6
     try clear c6b0
     try clear c6b1
     try clear c7
     try clear c8
     try clear c8b0
     try clear c8b1
     try clear c10
     try clear c10b0
     try clear c10b1
     try clear c13
     try clear c15
     try clear c15b0
     try clear c15b1
     try clear c17
     try clear c17b0
     try clear c17b1
     try clear hcz11_0
     try clear hcz11_1
     try clear hcz11_2
     try clear hcz11_3
     try clear hcz11_4
     try clear hcz12_0
     try clear hcz12_1
     try clear hcz12_2
     try clear hcz12_3
     try clear hcz12_4
     try clear hcz16_0
     try clear hcz16_1
     try clear hcz16_2
     try clear hcz16_3
     try clear hcz16_4
     try clear hcz18_0
     try clear hcz18_1
     try clear hcz18_2
     try clear hcz18_3
     try clear hcz18_4
     try clear hcz19_0
     try clear hcz19_1
     try clear hcz19_2
     try clear hcz19_3
     try clear hcz19_4
     try clear hcz7_0
     try clear hcz7_1
     try clear hcz7_2
     try clear hcz7_3
     try clear hcz7_4
     try clear hcz9_0
     try clear hcz9_1
     try clear hcz9_2
     try clear hcz9_3
     try clear hcz9_4
     try clear hfz11_0
     try clear hfz11_1
     try clear hfz11_2
     try clear hfz11_3
     try clear hfz11_4
     try clear hfz12_0
     try clear hfz12_1
     try clear hfz12_2
     try clear hfz12_3
     try clear hfz12_4
     try clear hfz16_0
     try clear hfz16_1
     try clear hfz16_2
     try clear hfz16_3
     try clear hfz16_4
     try clear hfz18_0
     try clear hfz18_1
     try clear hfz18_2
     try clear hfz18_3
     try clear hfz18_4
     try clear hfz19_0
     try clear hfz19_1
     try clear hfz19_2
     try clear hfz19_3
     try clear hfz19_4
     try clear hfz7_0
     try clear hfz7_1
     try clear hfz7_2
     try clear hfz7_3
     try clear hfz7_4
     try clear hfz9_0
     try clear hfz9_1
     try clear hfz9_2
     try clear hfz9_3
     try clear hfz9_4
     try clear p2
     obtain ⟨kq, x5_13, rfl, HA, HJ13, BK131, HB⟩ := hcut
     cases kq with
     | zero => exact absurd HA.out (by simp [rRightStmt.j1])
     | succ kj13 =>
      have H := HA.out
      clear HA
      simp only [rRightStmt.j1] at H
      have HC20 := kd.mk H
      clear H
      go_upto_region 4 with (fail)
      go_cut [63] (fun v63 wc => ∃ (kq : Nat) (x63_19 : Bool), v63 = .bool x63_19 ∧ kd (rRightStmt.j2 kq a1 x63_19 a0_0 a0_1 l0_2 l0_3 l0_4 = some r) ∧ kd (kq ≤ kj13) ∧ kd (wc.heap[gb131]? = some (.cells #[.int .i64 a0_0, .string a0_1, (.slice A0_2 l0_2.length c0_2), (.slice A0_3 l0_3.length c0_3), (.slice A0_4 l0_4.length c0_4)] 43 (0, 0))) ∧ kd (Below w.heap.size w wc))
      case first =>
       have H := HC20.out
       clear HC20
       by_cases c21 : (x5_13 != (a0_1.toList != ([] : List UInt8))) = true
       ·rw [if_pos c21] at H
        have c21b0 : (x5_13 != (a0_1.toList != ([] : List UInt8))) = true := c21
        have c21w : (x5_13 = !a0_1.toList.isEmpty) = False := eq_false (by intro h_; rw [h_] at c21b0; revert c21b0; cases a0_1.toList <;> simp)
        (try (have c21b1 : decide (x5_13 = (a0_1.toList != ([] : List UInt8))) = false := by simpa using c21))
        (try (have c21b2 : (x5_13 == (a0_1.toList != ([] : List UInt8))) = false := by simpa using c21))
        (try (have c21b3 : ¬ (x5_13 = (a0_1.toList != ([] : List UInt8))) := by simpa using c21))
        clear c21
        (first | rw [c21b0] | (simp only [jc, jd]; rw [c21b0]) | skip)
        have H' := kd.mk H
        clear H
        have hcz22_0 : wc.cell? ⟨gb131, 0, none⟩ = some (.int .i64 a0_0) := (kc BK131.out 0).trans rfl
        have hcz22_1 : wc.cell? ⟨gb131, 1, none⟩ = some (.string a0_1) := (kc BK131.out 1).trans rfl
        have hcz22_2 : wc.cell? ⟨gb131, 2, none⟩ = some (.slice A0_2 l0_2.length c0_2) := (kc BK131.out 2).trans rfl
        have hcz22_3 : wc.cell? ⟨gb131, 3, none⟩ = some (.slice A0_3 l0_3.length c0_3) := (kc BK131.out 3).trans rfl
        have hcz22_4 : wc.cell? ⟨gb131, 4, none⟩ = some (.slice A0_4 l0_4.length c0_4) := (kc BK131.out 4).trans rfl
        have hfz22_0 := kb BK131.out 0
        have hfz22_1 := kb BK131.out 1
        have hfz22_2 := kb BK131.out 2
        have hfz22_3 := kb BK131.out 3
        have hfz22_4 := kb BK131.out 4
        go_wp2
        go_meet
        case rel => exact ⟨_, (true), (by first | rfl | (simp; done) | (simp [Ext.ne_nil]; done) | (simp [*]; done)), H', ⟨by have := HJ2.out; have := HJ13.out; first | omega | exact Nat.le_refl _⟩, ⟨by (with_reducible repeat (first | refine kg ?_ _ | refine kk ?_ | refine ki ?_ _)); exact BK131.out⟩, ⟨by repeat (first | (with_reducible first | exact HB.out | apply ke | apply ka | apply kf | refine kj ?_ GE131.out) | exact HB.out)⟩⟩
       ·rw [if_neg c21] at H
        have c21b0 : (x5_13 != (a0_1.toList != ([] : List UInt8))) = false := by simpa using c21
        have c21w : (x5_13 = !a0_1.toList.isEmpty) = True := eq_true (by have h_ := c21b0; revert h_; cases x5_13 <;> cases a0_1.toList <;> simp)
        (try (have c21b1 : decide (x5_13 = (a0_1.toList != ([] : List UInt8))) = true := by simpa using c21))
        (try (have c21b2 : (x5_13 == (a0_1.toList != ([] : List UInt8))) = true := by simpa using c21))
        clear c21
        (first | rw [c21b0] | (simp only [jc, jd]; rw [c21b0]) | skip)
        by_cases c23 : x5_13 = true
        ·subst c23
         (try (have cs_ := Ext.w_tt c21w))
         (try (have cs_ := Ext.w_ft c21w))
         (try (have cs_ := Ext.w_tf c21w))
         (try (have cs_ := Ext.w_ff c21w))
         replace H : ((rIsName.f kj13 a0_1).bind fun t132 => (rRightStmt.j2 kj13 a1 (!t132) a0_0 a0_1 l0_2 l0_3 l0_4)) = some r := by rw [if_pos rfl] at H; exact H
         replace H := Option.bind_eq_some_iff.mp H
         obtain ⟨t132, A240, H⟩ := H
         replace H : (rRightStmt.j2 kj13 a1 (!t132) a0_0 a0_1 l0_2 l0_3 l0_4) = some r := H
         have A24 := kd.mk A240
         clear A240
         have H' := kd.mk H
         clear H
         have hcz25_0 : wc.cell? ⟨gb131, 0, none⟩ = some (.int .i64 a0_0) := (kc BK131.out 0).trans rfl
         have hcz25_1 : wc.cell? ⟨gb131, 1, none⟩ = some (.string a0_1) := (kc BK131.out 1).trans rfl
         have hcz25_2 : wc.cell? ⟨gb131, 2, none⟩ = some (.slice A0_2 l0_2.length c0_2) := (kc BK131.out 2).trans rfl
         have hcz25_3 : wc.cell? ⟨gb131, 3, none⟩ = some (.slice A0_3 l0_3.length c0_3) := (kc BK131.out 3).trans rfl
         have hcz25_4 : wc.cell? ⟨gb131, 4, none⟩ = some (.slice A0_4 l0_4.length c0_4) := (kc BK131.out 4).trans rfl
         have hfz25_0 := kb BK131.out 0
         have hfz25_1 := kb BK131.out 1
         have hfz25_2 := kb BK131.out 2
         have hfz25_3 := kb BK131.out 3
         have hfz25_4 := kb BK131.out 4
         go_wp2_with (first | (go_at_call 43; (with_reducible refine (rIsName.calls kj13 a0_1 t132 _ A24.out).mono ?_); rintro e w26 ⟨rfl, hb⟩; have n0_ := kd.mk (ku (g := gb131) (o := .cells #[.int .i64 a0_0, .string a0_1, .slice A0_2 l0_2.length c0_2, .slice A0_3 l0_3.length c0_3, .slice A0_4 l0_4.length c0_4] 43 (0, 0)) (by (with_reducible repeat (first | refine kg ?_ _ | refine kk ?_ | refine ki ?_ _)); exact BK131.out) hb); have n1_ := kd.mk (kr (by repeat (first | (with_reducible first | exact HB.out | apply ke | apply ka | apply kf | refine kj ?_ GE131.out) | exact HB.out)) hb); clear BK131; clear HB; have BK131 := n0_; have HB := n1_; clear n0_ n1_; (try clear hb)))
         go_meet
         case rel => exact ⟨_, (!t132), (by first | rfl | (simp; done) | (simp [Ext.ne_nil]; done) | (simp [*]; done)), H', ⟨by have := HJ2.out; have := HJ13.out; first | omega | exact Nat.le_refl _⟩, ⟨by (with_reducible repeat (first | refine kg ?_ _ | refine kk ?_ | refine ki ?_ _)); exact BK131.out⟩, ⟨by repeat (first | (with_reducible first | exact HB.out | apply ke | apply ka | apply kf | refine kj ?_ GE131.out) | exact HB.out)⟩⟩
        ·replace c23 := Bool.eq_false_iff.mpr c23
         subst c23
         (try (have cs_ := Ext.w_tt c21w))
         (try (have cs_ := Ext.w_ft c21w))
         (try (have cs_ := Ext.w_tf c21w))
         (try (have cs_ := Ext.w_ff c21w))
         replace H : (rRightStmt.j2 kj13 a1 false a0_0 a0_1 l0_2 l0_3 l0_4) = some r := by rw [if_neg (show ¬ (false = true) by decide)] at H; exact H
         have H' := kd.mk H
         clear H
         have hcz27_0 : wc.cell? ⟨gb131, 0, none⟩ = some (.int .i64 a0_0) := (kc BK131.out 0).trans rfl
         have hcz27_1 : wc.cell? ⟨gb131, 1, none⟩ = some (.string a0_1) := (kc BK131.out 1).trans rfl
         have hcz27_2 : wc.cell? ⟨gb131, 2, none⟩ = some (.slice A0_2 l0_2.length c0_2) := (kc BK131.out 2).trans rfl
         have hcz27_3 : wc.cell? ⟨gb131, 3, none⟩ = some (.slice A0_3 l0_3.length c0_3) := (kc BK131.out 3).trans rfl
         have hcz27_4 : wc.cell? ⟨gb131, 4, none⟩ = some (.slice A0_4 l0_4.length c0_4) := (kc BK131.out 4).trans rfl
         have hfz27_0 := kb BK131.out 0
         have hfz27_1 := kb BK131.out 1
         have hfz27_2 := kb BK131.out 2
         have hfz27_3 := kb BK131.out 3
         have hfz27_4 := kb BK131.out 4
         go_wp2
         go_meet
         case rel => exact ⟨_, (false), (by first | rfl | (simp; done) | (simp [Ext.ne_nil]; done) | (simp [*]; done)), H', ⟨by have := HJ2.out; have := HJ13.out; first | omega | exact Nat.le_refl _⟩, ⟨by (with_reducible repeat (first | refine kg ?_ _ | refine kk ?_ | refine ki ?_ _)); exact BK131.out⟩, ⟨by repeat (first | (with_reducible first | exact HB.out | apply ke | apply ka | apply kf | refine kj ?_ GE131.out) | exact HB.out)⟩⟩
      case rest =>
       clear HC20
       try clear c1
       try clear c2
       try clear p2
       try clear c5
       try clear c5b0
       try clear c6
       try clear c6b0
       try clear c6b1
       try clear c7
       try clear c8
       try clear c8b0
       try clear c8b1
       try clear c10
       try clear c10b0
       try clear c10b1
       try clear c13
       try clear c15
       try clear c15b0
       try clear c15b1
       try clear c17
       try clear c17b0
       try clear c17b1
       try clear c21
       try clear c21b0
       try clear c21b1
       try clear c21b2
       try clear c23
       try clear hcz11_0
       try clear hcz11_1
       try clear hcz11_2
       try clear hcz11_3
       try clear hcz11_4
       try clear hcz12_0
       try clear hcz12_1
       try clear hcz12_2
       try clear hcz12_3
       try clear hcz12_4
       try clear hcz16_0
       try clear hcz16_1
       try clear hcz16_2
       try clear hcz16_3
       try clear hcz16_4
       try clear hcz18_0
       try clear hcz18_1
       try clear hcz18_2
       try clear hcz18_3
       try clear hcz18_4
       try clear hcz19_0
       try clear hcz19_1
       try clear hcz19_2
       try clear hcz19_3
       try clear hcz19_4
       try clear hcz22_0
       try clear hcz22_1
       try clear hcz22_2
       try clear hcz22_3
       try clear hcz22_4
       try clear hcz25_0
       try clear hcz25_1
       try clear hcz25_2
       try clear hcz25_3
       try clear hcz25_4
       try clear hcz27_0
       try clear hcz27_1
       try clear hcz27_2
       try clear hcz27_3
       try clear hcz27_4
       try clear hcz7_0
       try clear hcz7_1
       try clear hcz7_2
       try clear hcz7_3
       try clear hcz7_4
       try clear hcz9_0
       try clear hcz9_1
       try clear hcz9_2
       try clear hcz9_3
       try clear hcz9_4
       try clear hfz11_0
       try clear hfz11_1
       try clear hfz11_2
       try clear hfz11_3
       try clear hfz11_4
       try clear hfz12_0
       try clear hfz12_1
       try clear hfz12_2
       try clear hfz12_3
       try clear hfz12_4
       try clear hfz16_0
       try clear hfz16_1
       try clear hfz16_2
       try clear hfz16_3
       try clear hfz16_4
       try clear hfz18_0
       try clear hfz18_1
       try clear hfz18_2
       try clear hfz18_3
       try clear hfz18_4
       try clear hfz19_0
       try clear hfz19_1
       try clear hfz19_2
       try clear hfz19_3
       try clear hfz19_4
       try clear hfz22_0
       try clear hfz22_1
       try clear hfz22_2
       try clear hfz22_3
       try clear hfz22_4
       try clear hfz25_0
       try clear hfz25_1
       try clear hfz25_2
       try clear hfz25_3
       try clear hfz25_4
       try clear hfz27_0
       try clear hfz27_1
       try clear hfz27_2
       try clear hfz27_3
       try clear hfz27_4
       try clear hfz7_0
       try clear hfz7_1
       try clear hfz7_2
       try clear hfz7_3
       try clear hfz7_4
       try clear hfz9_0
       try clear hfz9_1
       try clear hfz9_2
       try clear hfz9_3
       try clear hfz9_4
       try clear p2
       obtain ⟨kq, x63_19, rfl, HA, HJ19, BK131, HB⟩ := hcut
       cases kq with
       | zero => exact absurd HA.out (by simp [rRightStmt.j2])
       | succ kj19 =>
        have H := HA.out
        clear HA
        simp only [rRightStmt.j2] at H
        by_cases c28 : x63_19 = true
        ·subst c28
         (try (have cs_ := Ext.w_tt c21w))
         (try (have cs_ := Ext.w_ft c21w))
         (try (have cs_ := Ext.w_tf c21w))
         (try (have cs_ := Ext.w_ff c21w))
         replace H : (some false) = some r := by rw [if_pos rfl] at H; exact H
         obtain rfl := Option.some.inj H
         go_wp2
         go_ret
         exact ⟨by first | rfl | (simp [kp, ko] <;> rfl) | (simp [*, kp, ko] <;> rfl), by repeat (first | (with_reducible first | exact HB.out | apply ke | apply ka | apply kf | refine kj ?_ GE131.out) | exact HB.out)⟩
        ·replace c28 := Bool.eq_false_iff.mpr c28
         subst c28
         (try (have cs_ := Ext.w_tt c21w))
         (try (have cs_ := Ext.w_ft c21w))
         (try (have cs_ := Ext.w_tf c21w))
         (try (have cs_ := Ext.w_ff c21w))
         replace H : (if a0_0 = 1 then (rRightStmt.j3 kj19 a1 (l0_2.length : Int) false a0_0 (a0_0 == 1) a0_0 a0_1 l0_2 l0_3 l0_4) else (if a0_0 = 3 then (rRightStmt.j3 kj19 a1 (l0_2.length : Int) false a0_0 (a0_0 == 3) a0_0 a0_1 l0_2 l0_3 l0_4) else (if a0_0 = 4 then (rRightStmt.j3 kj19 a1 (l0_2.length : Int) false a0_0 (a0_0 == 4) a0_0 a0_1 l0_2 l0_3 l0_4) else (rRightStmt.j3 kj19 a1 (l0_2.length : Int) false a0_0 (a0_0 == 5) a0_0 a0_1 l0_2 l0_3 l0_4)))) = some r := by rw [if_neg (show ¬ (false = true) by decide)] at H; exact H
         have HC29 := kd.mk H
         clear H
         have hcz30_0 : wc.cell? ⟨gb131, 0, none⟩ = some (.int .i64 a0_0) := (kc BK131.out 0).trans rfl
         have hcz30_1 : wc.cell? ⟨gb131, 1, none⟩ = some (.string a0_1) := (kc BK131.out 1).trans rfl
         have hcz30_2 : wc.cell? ⟨gb131, 2, none⟩ = some (.slice A0_2 l0_2.length c0_2) := (kc BK131.out 2).trans rfl
         have hcz30_3 : wc.cell? ⟨gb131, 3, none⟩ = some (.slice A0_3 l0_3.length c0_3) := (kc BK131.out 3).trans rfl
         have hcz30_4 : wc.cell? ⟨gb131, 4, none⟩ = some (.slice A0_4 l0_4.length c0_4) := (kc BK131.out 4).trans rfl
         have hfz30_0 := kb BK131.out 0
         have hfz30_1 := kb BK131.out 1
         have hfz30_2 := kb BK131.out 2
         have hfz30_3 := kb BK131.out 3
         have hfz30_4 := kb BK131.out 4
         go_upto_if 69 with (fail)
         go_cut [69] (fun v69 wc => ∃ (kq : Nat) (x69_28 : Bool), v69 = .bool x69_28 ∧ kd (rRightStmt.j3 kq a1 (l0_2.length : Int) false a0_0 x69_28 a0_0 a0_1 l0_2 l0_3 l0_4 = some r) ∧ kd (kq ≤ kj19) ∧ kd (wc.heap[gb131]? = some (.cells #[.int .i64 a0_0, .string a0_1, (.slice A0_2 l0_2.length c0_2), (.slice A0_3 l0_3.length c0_3), (.slice A0_4 l0_4.length c0_4)] 43 (0, 0))) ∧ kd (Below w.heap.size w wc))
         case first =>
          have H := HC29.out
          clear HC29
          by_cases c31 : a0_0 = 1
          ·rw [if_pos c31] at H
           have c31b0 : (a0_0 == 1) = true := beq_iff_eq.mpr c31
           have c31b1 : (a0_0 != 1) = false := bne_eq_false_iff_eq.mpr c31
           clear c31
           (first | rw [c31b0] | (simp only [jc, jd]; rw [c31b0]) | skip)
           have H' := kd.mk H
           clear H
           go_wp2
           go_meet
           case rel => exact ⟨_, ((a0_0 == 1)), (by first | rfl | (simp; done) | (simp [Ext.ne_nil]; done) | (simp [*]; done)), H', ⟨by have := HJ2.out; have := HJ13.out; have := HJ19.out; first | omega | exact Nat.le_refl _⟩, ⟨by (with_reducible repeat (first | refine kg ?_ _ | refine kk ?_ | refine ki ?_ _)); exact BK131.out⟩, ⟨by repeat (first | (with_reducible first | exact HB.out | apply ke | apply ka | apply kf | refine kj ?_ GE131.out) | exact HB.out)⟩⟩
          ·rw [if_neg c31] at H
           have c31b0 : (a0_0 == 1) = false := beq_eq_false_iff_ne.mpr c31
           have c31b1 : (a0_0 != 1) = true := bne_iff_ne.mpr c31
           (first | rw [c31b0] | (simp only [jc, jd]; rw [c31b0]) | skip)
           by_cases c32 : a0_0 = 3
           ·rw [if_pos c32] at H
            have c32b0 : (a0_0 == 3) = true := beq_iff_eq.mpr c32
            have c32b1 : (a0_0 != 3) = false := bne_eq_false_iff_eq.mpr c32
            clear c32
            have H' := kd.mk H
            clear H
            go_wp2
            go_meet
            case rel => exact ⟨_, ((a0_0 == 3)), (by first | rfl | (simp; done) | (simp [Ext.ne_nil]; done) | (simp [*]; done)), H', ⟨by have := HJ2.out; have := HJ13.out; have := HJ19.out; first | omega | exact Nat.le_refl _⟩, ⟨by (with_reducible repeat (first | refine kg ?_ _ | refine kk ?_ | refine ki ?_ _)); exact BK131.out⟩, ⟨by repeat (first | (with_reducible first | exact HB.out | apply ke | apply ka | apply kf | refine kj ?_ GE131.out) | exact HB.out)⟩⟩
           ·rw [if_neg c32] at H
            have c32b0 : (a0_0 == 3) = false := beq_eq_false_iff_ne.mpr c32
            have c32b1 : (a0_0 != 3) = true := bne_iff_ne.mpr c32
            by_cases c33 : a0_0 = 4
            ·rw [if_pos c33] at H
             have c33b0 : (a0_0 == 4) = true := beq_iff_eq.mpr c33
             have c33b1 : (a0_0 != 4) = false := bne_eq_false_iff_eq.mpr c33
             clear c33
             have H' := kd.mk H
             clear H
             go_wp2
             go_meet
             case rel => exact ⟨_, ((a0_0 == 4)), (by first | rfl | (simp; done) | (simp [Ext.ne_nil]; done) | (simp [*]; done)), H', ⟨by have := HJ2.out; have := HJ13.out; have := HJ19.out; first | omega | exact Nat.le_refl _⟩, ⟨by (with_reducible repeat (first | refine kg ?_ _ | refine kk ?_ | refine ki ?_ _)); exact BK131.out⟩, ⟨by repeat (first | (with_reducible first | exact HB.out | apply ke | apply ka | apply kf | refine kj ?_ GE131.out) | exact HB.out)⟩⟩
            ·rw [if_neg c33] at H
             have c33b0 : (a0_0 == 4) = false := beq_eq_false_iff_ne.mpr c33
             have c33b1 : (a0_0 != 4) = true := bne_iff_ne.mpr c33
             have H' := kd.mk H
             clear H
             go_wp2
             go_meet
             case rel => exact ⟨_, ((a0_0 == 5)), (by first | rfl | (simp; done) | (simp [Ext.ne_nil]; done) | (simp [*]; done)), H', ⟨by have := HJ2.out; have := HJ13.out; have := HJ19.out; first | omega | exact Nat.le_refl _⟩, ⟨by (with_reducible repeat (first | refine kg ?_ _ | refine kk ?_ | refine ki ?_ _)); exact BK131.out⟩, ⟨by repeat (first | (with_reducible first | exact HB.out | apply ke | apply ka | apply kf | refine kj ?_ GE131.out) | exact HB.out)⟩⟩
         case rest =>
          clear HC29
          try clear c1
          try clear c2
          try clear p2
          try clear c3
          try clear c5
          try clear c5b0
          try clear c6
          try clear c6b0
          try clear c6b1
          try clear c7
          try clear c8
          try clear c8b0
          try clear c8b1
          try clear c10
          try clear c10b0
          try clear c10b1
          try clear c13
          try clear c15
          try clear c15b0
          try clear c15b1
          try clear c17
          try clear c17b0
          try clear c17b1
          try clear c21
          try clear c21b0
          try clear c21b1
          try clear c21b2
          try clear c23
          try clear c28
          try clear c31
          try clear c31b0
          try clear c31b1
          try clear c32
          try clear c32b0
          try clear c32b1
          try clear c33
          try clear c33b0
          try clear c33b1
          try clear hcz11_0
          try clear hcz11_1
          try clear hcz11_2
          try clear hcz11_3
          try clear hcz11_4
          try clear hcz12_0
          try clear hcz12_1
          try clear hcz12_2
          try clear hcz12_3
          try clear hcz12_4
          try clear hcz16_0
          try clear hcz16_1
          try clear hcz16_2
          try clear hcz16_3
          try clear hcz16_4
          try clear hcz18_0
          try clear hcz18_1
          try clear hcz18_2
          try clear hcz18_3
          try clear hcz18_4
          try clear hcz19_0
          try clear hcz19_1
          try clear hcz19_2
          try clear hcz19_3
          try clear hcz19_4
          try clear hcz22_0
          try clear hcz22_1
          try clear hcz22_2
          try clear hcz22_3
          try clear hcz22_4
          try clear hcz25_0
          try clear hcz25_1
          try clear hcz25_2
          try clear hcz25_3
          try clear hcz25_4
          try clear hcz27_0
          try clear hcz27_1
          try clear hcz27_2
          try clear hcz27_3
          try clear hcz27_4
          try clear hcz30_0
          try clear hcz30_1
          try clear hcz30_2
          try clear hcz30_3
          try clear hcz30_4
          try clear hcz7_0
          try clear hcz7_1
          try clear hcz7_2
          try clear hcz7_3
          try clear hcz7_4
          try clear hcz9_0
          try clear hcz9_1
          try clear hcz9_2
          try clear hcz9_3
          try clear hcz9_4
          try clear hfz11_0
          try clear hfz11_1
          try clear hfz11_2
          try clear hfz11_3
          try clear hfz11_4
          try clear hfz12_0
          try clear hfz12_1
          try clear hfz12_2
          try clear hfz12_3
          try clear hfz12_4
          try clear hfz16_0
          try clear hfz16_1
          try clear hfz16_2
          try clear hfz16_3
          try clear hfz16_4
          try clear hfz18_0
          try clear hfz18_1
          try clear hfz18_2
          try clear hfz18_3
          try clear hfz18_4
          try clear hfz19_0
          try clear hfz19_1
          try clear hfz19_2
          try clear hfz19_3
          try clear hfz19_4
          try clear hfz22_0
          try clear hfz22_1
          try clear hfz22_2
          try clear hfz22_3
          try clear hfz22_4
          try clear hfz25_0
          try clear hfz25_1
          try clear hfz25_2
          try clear hfz25_3
          try clear hfz25_4
          try clear hfz27_0
          try clear hfz27_1
          try clear hfz27_2
          try clear hfz27_3
          try clear hfz27_4
          try clear hfz30_0
          try clear hfz30_1
          try clear hfz30_2
          try clear hfz30_3
          try clear hfz30_4
          try clear hfz7_0
          try clear hfz7_1
          try clear hfz7_2
          try clear hfz7_3
          try clear hfz7_4
          try clear hfz9_0
          try clear hfz9_1
          try clear hfz9_2
          try clear hfz9_3
          try clear hfz9_4
          try clear p2
          obtain ⟨kq, x69_28, rfl, HA, HJ28, BK131, HB⟩ := hcut
          cases kq with
          | zero => exact absurd HA.out (by simp [rRightStmt.j3])
          | succ kj28 =>
           have H := HA.out
           clear HA
           simp only [rRightStmt.j3] at H
           by_cases c34 : x69_28 = true
           ·subst c34
            (try (have cs_ := Ext.w_tt c21w))
            (try (have cs_ := Ext.w_ft c21w))
            (try (have cs_ := Ext.w_tf c21w))
            (try (have cs_ := Ext.w_ff c21w))
            replace H : (if (l0_2.length : Int) = 1 then ((rRightExprs.f kj28 l0_2 (wrap64 (a1 + 1))).bind fun t133 => (if t133 = true then ((rRightStmts.f kj28 l0_3 (wrap64 (a1 + 1))).bind fun t134 => (if t134 = true then ((rRightStmts.f kj28 l0_4 (wrap64 (a1 + 1))).bind fun t135 => (some t135)) else (some false))) else (some false))) else (some false)) = some r := by rw [if_pos rfl] at H; exact H
            by_cases c35 : (l0_2.length : Int) = 1
            ·rw [if_pos c35] at H
             have c35b0 : ((l0_2.length : Int) == 1) = true := beq_iff_eq.mpr c35
             have c35b1 : ((l0_2.length : Int) != 1) = false := bne_eq_false_iff_eq.mpr c35
             clear c35
             replace H := Option.bind_eq_some_iff.mp H
             obtain ⟨t133, A360, H⟩ := H
             replace H : (if t133 = true then ((rRightStmts.f kj28 l0_3 (wrap64 (a1 + 1))).bind fun t134 => (if t134 = true then ((rRightStmts.f kj28 l0_4 (wrap64 (a1 + 1))).bind fun t135 => (some t135)) else (some false))) else (some false)) = some r := H
             have A36 := kd.mk A360
             clear A360
             by_cases c37 : t133 = true
             ·subst c37
              (try (have cs_ := Ext.w_tt c21w))
              (try (have cs_ := Ext.w_ft c21w))
              (try (have cs_ := Ext.w_tf c21w))
              (try (have cs_ := Ext.w_ff c21w))
              replace H : ((rRightStmts.f kj28 l0_3 (wrap64 (a1 + 1))).bind fun t134 => (if t134 = true then ((rRightStmts.f kj28 l0_4 (wrap64 (a1 + 1))).bind fun t135 => (some t135)) else (some false))) = some r := by rw [if_pos rfl] at H; exact H
              replace H := Option.bind_eq_some_iff.mp H
              obtain ⟨t134, A380, H⟩ := H
              replace H : (if t134 = true then ((rRightStmts.f kj28 l0_4 (wrap64 (a1 + 1))).bind fun t135 => (some t135)) else (some false)) = some r := H
              have A38 := kd.mk A380
              clear A380
              by_cases c39 : t134 = true
              ·subst c39
               (try (have cs_ := Ext.w_tt c21w))
               (try (have cs_ := Ext.w_ft c21w))
               (try (have cs_ := Ext.w_tf c21w))
               (try (have cs_ := Ext.w_ff c21w))
               replace H : ((rRightStmts.f kj28 l0_4 (wrap64 (a1 + 1))).bind fun t135 => (some t135)) = some r := by rw [if_pos rfl] at H; exact H
               replace H := Option.bind_eq_some_iff.mp H
               obtain ⟨t135, A400, H⟩ := H
               replace H : (some t135) = some r := H
               have A40 := kd.mk A400
               clear A400
               obtain rfl := Option.some.inj H
               have hcz41_0 : wc.cell? ⟨gb131, 0, none⟩ = some (.int .i64 a0_0) := (kc BK131.out 0).trans rfl
               have hcz41_1 : wc.cell? ⟨gb131, 1, none⟩ = some (.string a0_1) := (kc BK131.out 1).trans rfl
               have hcz41_2 : wc.cell? ⟨gb131, 2, none⟩ = some (.slice A0_2 l0_2.length c0_2) := (kc BK131.out 2).trans rfl
               have hcz41_3 : wc.cell? ⟨gb131, 3, none⟩ = some (.slice A0_3 l0_3.length c0_3) := (kc BK131.out 3).trans rfl
               have hcz41_4 : wc.cell? ⟨gb131, 4, none⟩ = some (.slice A0_4 l0_4.length c0_4) := (kc BK131.out 4).trans rfl
               have hfz41_0 := kb BK131.out 0
               have hfz41_1 := kb BK131.out 1
               have hfz41_2 := kb BK131.out 2
               have hfz41_3 := kb BK131.out 3
               have hfz41_4 := kb BK131.out 4
               go_wp2_with (first | (go_at_call 52; (with_reducible refine (rRightExprs.calls kj28 _ _ l0_2 (wrap64 (a1 + 1)) true _ ?side1 ?side2 A36.out).mono ?_); (case side1 => exact Kd.kx HR0_2.out HB.out); (case side2 => exact HC0_2.out); rintro e w42 ⟨rfl, hb⟩; have n0_ := kd.mk (ku (g := gb131) (o := .cells #[.int .i64 a0_0, .string a0_1, .slice A0_2 l0_2.length c0_2, .slice A0_3 l0_3.length c0_3, .slice A0_4 l0_4.length c0_4] 43 (0, 0)) (by (with_reducible repeat (first | refine kg ?_ _ | refine kk ?_ | refine ki ?_ _)); exact BK131.out) hb); have n1_ := kd.mk (kr (by repeat (first | (with_reducible first | exact HB.out | apply ke | apply ka | apply kf | refine kj ?_ GE131.out) | exact HB.out)) hb); clear BK131; clear HB; have BK131 := n0_; have HB := n1_; clear n0_ n1_; (try clear hb); have hcz43_0 : w42.cell? ⟨gb131, 0, none⟩ = some (.int .i64 a0_0) := (kc BK131.out 0).trans rfl; have hcz43_1 : w42.cell? ⟨gb131, 1, none⟩ = some (.string a0_1) := (kc BK131.out 1).trans rfl; have hcz43_2 : w42.cell? ⟨gb131, 2, none⟩ = some (.slice A0_2 l0_2.length c0_2) := (kc BK131.out 2).trans rfl; have hcz43_3 : w42.cell? ⟨gb131, 3, none⟩ = some (.slice A0_3 l0_3.length c0_3) := (kc BK131.out 3).trans rfl; have hcz43_4 : w42.cell? ⟨gb131, 4, none⟩ = some (.slice A0_4 l0_4.length c0_4) := (kc BK131.out 4).trans rfl; have hfz43_0 := kb BK131.out 0; have hfz43_1 := kb BK131.out 1; have hfz43_2 := kb BK131.out 2; have hfz43_3 := kb BK131.out 3; have hfz43_4 := kb BK131.out 4) | (go_at_call 44; (with_reducible refine (ihrRightStmts kj28 (by have := HJ2.out; have := HJ13.out; have := HJ19.out; have := HJ28.out; omega) _ _ l0_3 (wrap64 (a1 + 1)) true _ ?side1 ?side2 A38.out).mono ?_); (case side1 => exact Kd.kx HR0_3.out HB.out); (case side2 => exact HC0_3.out); rintro e w44 ⟨rfl, hb⟩; have n0_ := kd.mk (ku (g := gb131) (o := .cells #[.int .i64 a0_0, .string a0_1, .slice A0_2 l0_2.length c0_2, .slice A0_3 l0_3.length c0_3, .slice A0_4 l0_4.length c0_4] 43 (0, 0)) (by (with_reducible repeat (first | refine kg ?_ _ | refine kk ?_ | refine ki ?_ _)); exact BK131.out) hb); have n1_ := kd.mk (kr (by repeat (first | (with_reducible first | exact HB.out | apply ke | apply ka | apply kf | refine kj ?_ GE131.out) | exact HB.out)) hb); clear BK131; clear HB; have BK131 := n0_; have HB := n1_; clear n0_ n1_; (try clear hb); have hcz45_0 : w44.cell? ⟨gb131, 0, none⟩ = some (.int .i64 a0_0) := (kc BK131.out 0).trans rfl; have hcz45_1 : w44.cell? ⟨gb131, 1, none⟩ = some (.string a0_1) := (kc BK131.out 1).trans rfl; have hcz45_2 : w44.cell? ⟨gb131, 2, none⟩ = some (.slice A0_2 l0_2.length c0_2) := (kc BK131.out 2).trans rfl; have hcz45_3 : w44.cell? ⟨gb131, 3, none⟩ = some (.slice A0_3 l0_3.length c0_3) := (kc BK131.out 3).trans rfl; have hcz45_4 : w44.cell? ⟨gb131, 4, none⟩ = some (.slice A0_4 l0_4.length c0_4) := (kc BK131.out 4).trans rfl; have hfz45_0 := kb BK131.out 0; have hfz45_1 := kb BK131.out 1; have hfz45_2 := kb BK131.out 2; have hfz45_3 := kb BK131.out 3; have hfz45_4 := kb BK131.out 4) | (go_at_call 44; (with_reducible refine (ihrRightStmts kj28 (by have := HJ2.out; have := HJ13.out; have := HJ19.out; have := HJ28.out; omega) _ _ l0_4 (wrap64 (a1 + 1)) t135 _ ?side1 ?side2 A40.out).mono ?_); (case side1 => exact Kd.kx HR0_4.out HB.out); (case side2 => exact HC0_4.out); rintro e w46 ⟨rfl, hb⟩; have n0_ := kd.mk (ku (g := gb131) (o := .cells #[.int .i64 a0_0, .string a0_1, .slice A0_2 l0_2.length c0_2, .slice A0_3 l0_3.length c0_3, .slice A0_4 l0_4.length c0_4] 43 (0, 0)) (by (with_reducible repeat (first | refine kg ?_ _ | refine kk ?_ | refine ki ?_ _)); exact BK131.out) hb); have n1_ := kd.mk (kr (by repeat (first | (with_reducible first | exact HB.out | apply ke | apply ka | apply kf | refine kj ?_ GE131.out) | exact HB.out)) hb); clear BK131; clear HB; have BK131 := n0_; have HB := n1_; clear n0_ n1_; (try clear hb)))
               go_ret
               exact ⟨by first | rfl | (simp [kp, ko] <;> rfl) | (simp [*, kp, ko] <;> rfl), by repeat (first | (with_reducible first | exact HB.out | apply ke | apply ka | apply kf | refine kj ?_ GE131.out) | exact HB.out)⟩
              ·replace c39 := Bool.eq_false_iff.mpr c39
               subst c39
               (try (have cs_ := Ext.w_tt c21w))
               (try (have cs_ := Ext.w_ft c21w))
               (try (have cs_ := Ext.w_tf c21w))
               (try (have cs_ := Ext.w_ff c21w))
               replace H : (some false) = some r := by rw [if_neg (show ¬ (false = true) by decide)] at H; exact H
               obtain rfl := Option.some.inj H
               have hcz47_0 : wc.cell? ⟨gb131, 0, none⟩ = some (.int .i64 a0_0) := (kc BK131.out 0).trans rfl
               have hcz47_1 : wc.cell? ⟨gb131, 1, none⟩ = some (.string a0_1) := (kc BK131.out 1).trans rfl
               have hcz47_2 : wc.cell? ⟨gb131, 2, none⟩ = some (.slice A0_2 l0_2.length c0_2) := (kc BK131.out 2).trans rfl
               have hcz47_3 : wc.cell? ⟨gb131, 3, none⟩ = some (.slice A0_3 l0_3.length c0_3) := (kc BK131.out 3).trans rfl
               have hcz47_4 : wc.cell? ⟨gb131, 4, none⟩ = some (.slice A0_4 l0_4.length c0_4) := (kc BK131.out 4).trans rfl
               have hfz47_0 := kb BK131.out 0
               have hfz47_1 := kb BK131.out 1
               have hfz47_2 := kb BK131.out 2
               have hfz47_3 := kb BK131.out 3
               have hfz47_4 := kb BK131.out 4
               go_wp2_with (first | (go_at_call 52; (with_reducible refine (rRightExprs.calls kj28 _ _ l0_2 (wrap64 (a1 + 1)) true _ ?side1 ?side2 A36.out).mono ?_); (case side1 => exact Kd.kx HR0_2.out HB.out); (case side2 => exact HC0_2.out); rintro e w48 ⟨rfl, hb⟩; have n0_ := kd.mk (ku (g := gb131) (o := .cells #[.int .i64 a0_0, .string a0_1, .slice A0_2 l0_2.length c0_2, .slice A0_3 l0_3.length c0_3, .slice A0_4 l0_4.length c0_4] 43 (0, 0)) (by (with_reducible repeat (first | refine kg ?_ _ | refine kk ?_ | refine ki ?_ _)); exact BK131.out) hb); have n1_ := kd.mk (kr (by repeat (first | (with_reducible first | exact HB.out | apply ke | apply ka | apply kf | refine kj ?_ GE131.out) | exact HB.out)) hb); clear BK131; clear HB; have BK131 := n0_; have HB := n1_; clear n0_ n1_; (try clear hb); have hcz49_0 : w48.cell? ⟨gb131, 0, none⟩ = some (.int .i64 a0_0) := (kc BK131.out 0).trans rfl; have hcz49_1 : w48.cell? ⟨gb131, 1, none⟩ = some (.string a0_1) := (kc BK131.out 1).trans rfl; have hcz49_2 : w48.cell? ⟨gb131, 2, none⟩ = some (.slice A0_2 l0_2.length c0_2) := (kc BK131.out 2).trans rfl; have hcz49_3 : w48.cell? ⟨gb131, 3, none⟩ = some (.slice A0_3 l0_3.length c0_3) := (kc BK131.out 3).trans rfl; have hcz49_4 : w48.cell? ⟨gb131, 4, none⟩ = some (.slice A0_4 l0_4.length c0_4) := (kc BK131.out 4).trans rfl; have hfz49_0 := kb BK131.out 0; have hfz49_1 := kb BK131.out 1; have hfz49_2 := kb BK131.out 2; have hfz49_3 := kb BK131.out 3; have hfz49_4 := kb BK131.out 4) | (go_at_call 44; (with_reducible refine (ihrRightStmts kj28 (by have := HJ2.out; have := HJ13.out; have := HJ19.out; have := HJ28.out; omega) _ _ l0_3 (wrap64 (a1 + 1)) false _ ?side1 ?side2 A38.out).mono ?_); (case side1 => exact Kd.kx HR0_3.out HB.out); (case side2 => exact HC0_3.out); rintro e w50 ⟨rfl, hb⟩; have n0_ := kd.mk (ku (g := gb131) (o := .cells #[.int .i64 a0_0, .string a0_1, .slice A0_2 l0_2.length c0_2, .slice A0_3 l0_3.length c0_3, .slice A0_4 l0_4.length c0_4] 43 (0, 0)) (by (with_reducible repeat (first | refine kg ?_ _ | refine kk ?_ | refine ki ?_ _)); exact BK131.out) hb); have n1_ := kd.mk (kr (by repeat (first | (with_reducible first | exact HB.out | apply ke | apply ka | apply kf | refine kj ?_ GE131.out) | exact HB.out)) hb); clear BK131; clear HB; have BK131 := n0_; have HB := n1_; clear n0_ n1_; (try clear hb)))
               go_ret
               exact ⟨by first | rfl | (simp [kp, ko] <;> rfl) | (simp [*, kp, ko] <;> rfl), by repeat (first | (with_reducible first | exact HB.out | apply ke | apply ka | apply kf | refine kj ?_ GE131.out) | exact HB.out)⟩
             ·replace c37 := Bool.eq_false_iff.mpr c37
              subst c37
              (try (have cs_ := Ext.w_tt c21w))
              (try (have cs_ := Ext.w_ft c21w))
              (try (have cs_ := Ext.w_tf c21w))
              (try (have cs_ := Ext.w_ff c21w))
              replace H : (some false) = some r := by rw [if_neg (show ¬ (false = true) by decide)] at H; exact H
              obtain rfl := Option.some.inj H
              have hcz51_0 : wc.cell? ⟨gb131, 0, none⟩ = some (.int .i64 a0_0) := (kc BK131.out 0).trans rfl
              have hcz51_1 : wc.cell? ⟨gb131, 1, none⟩ = some (.string a0_1) := (kc BK131.out 1).trans rfl
              have hcz51_2 : wc.cell? ⟨gb131, 2, none⟩ = some (.slice A0_2 l0_2.length c0_2) := (kc BK131.out 2).trans rfl
              have hcz51_3 : wc.cell? ⟨gb131, 3, none⟩ = some (.slice A0_3 l0_3.length c0_3) := (kc BK131.out 3).trans rfl
              have hcz51_4 : wc.cell? ⟨gb131, 4, none⟩ = some (.slice A0_4 l0_4.length c0_4) := (kc BK131.out 4).trans rfl
              have hfz51_0 := kb BK131.out 0
              have hfz51_1 := kb BK131.out 1
              have hfz51_2 := kb BK131.out 2
              have hfz51_3 := kb BK131.out 3
              have hfz51_4 := kb BK131.out 4
              go_wp2_with (first | (go_at_call 52; (with_reducible refine (rRightExprs.calls kj28 _ _ l0_2 (wrap64 (a1 + 1)) false _ ?side1 ?side2 A36.out).mono ?_); (case side1 => exact Kd.kx HR0_2.out HB.out); (case side2 => exact HC0_2.out); rintro e w52 ⟨rfl, hb⟩; have n0_ := kd.mk (ku (g := gb131) (o := .cells #[.int .i64 a0_0, .string a0_1, .slice A0_2 l0_2.length c0_2, .slice A0_3 l0_3.length c0_3, .slice A0_4 l0_4.length c0_4] 43 (0, 0)) (by (with_reducible repeat (first | refine kg ?_ _ | refine kk ?_ | refine ki ?_ _)); exact BK131.out) hb); have n1_ := kd.mk (kr (by repeat (first | (with_reducible first | exact HB.out | apply ke | apply ka | apply kf | refine kj ?_ GE131.out) | exact HB.out)) hb); clear BK131; clear HB; have BK131 := n0_; have HB := n1_; clear n0_ n1_; (try clear hb)))
              go_ret
              exact ⟨by first | rfl | (simp [kp, ko] <;> rfl) | (simp [*, kp, ko] <;> rfl), by repeat (first | (with_reducible first | exact HB.out | apply ke | apply ka | apply kf | refine kj ?_ GE131.out) | exact HB.out)⟩
            ·rw [if_neg c35] at H
             have c35b0 : ((l0_2.length : Int) == 1) = false := beq_eq_false_iff_ne.mpr c35
             have c35b1 : ((l0_2.length : Int) != 1) = true := bne_iff_ne.mpr c35
             obtain rfl := Option.some.inj H
             go_wp2
             go_ret
             exact ⟨by first | rfl | (simp [kp, ko] <;> rfl) | (simp [*, kp, ko] <;> rfl), by repeat (first | (with_reducible first | exact HB.out | apply ke | apply ka | apply kf | refine kj ?_ GE131.out) | exact HB.out)⟩
           ·replace c34 := Bool.eq_false_iff.mpr c34
            subst c34
            (try (have cs_ := Ext.w_tt c21w))
            (try (have cs_ := Ext.w_ft c21w))
            (try (have cs_ := Ext.w_tf c21w))
            (try (have cs_ := Ext.w_ff c21w))
            replace H : (if a0_0 = 2 then (if (l0_2.length : Int) = 2 then ((rRightExprs.f kj28 l0_2 (wrap64 (a1 + 1))).bind fun t136 => (if t136 = true then ((rRightStmts.f kj28 l0_3 (wrap64 (a1 + 1))).bind fun t137 => (if t137 = true then ((rRightStmts.f kj28 l0_4 (wrap64 (a1 + 1))).bind fun t138 => (some t138)) else (some false))) else (some false))) else (some false)) else (if a0_0 = 6 then (if (l0_2.length : Int) ≤ 6 then ((rRightExprs.f kj28 l0_2 (wrap64 (a1 + 1))).bind fun t139 => (if t139 = true then ((rRightStmts.f kj28 l0_3 (wrap64 (a1 + 1))).bind fun t140 => (if t140 = true then ((rRightStmts.f kj28 l0_4 (wrap64 (a1 + 1))).bind fun t141 => (some t141)) else (some false))) else (some false))) else (some false)) else (if a0_0 = 7 then (if (l0_2.length : Int) ≤ 1 then ((rRightExprs.f kj28 l0_2 (wrap64 (a1 + 1))).bind fun t142 => (if t142 = true then ((rRightStmts.f kj28 l0_3 (wrap64 (a1 + 1))).bind fun t143 => (if t143 = true then ((rRightStmts.f kj28 l0_4 (wrap64 (a1 + 1))).bind fun t144 => (some t144)) else (some false))) else (some false))) else (some false)) else (if false = true then ((rRightExprs.f kj28 l0_2 (wrap64 (a1 + 1))).bind fun t145 => (if t145 = true then ((rRightStmts.f kj28 l0_3 (wrap64 (a1 + 1))).bind fun t146 => (if t146 = true then ((rRightStmts.f kj28 l0_4 (wrap64 (a1 + 1))).bind fun t147 => (some t147)) else (some false))) else (some false))) else (some false))))) = some r := by rw [if_neg (show ¬ (false = true) by decide)] at H; exact H
            by_cases c53 : a0_0 = 2
            ·rw [if_pos c53] at H
             have c53b0 : (a0_0 == 2) = true := beq_iff_eq.mpr c53
             have c53b1 : (a0_0 != 2) = false := bne_eq_false_iff_eq.mpr c53
             clear c53
             by_cases c54 : (l0_2.length : Int) = 2
             ·rw [if_pos c54] at H
              have c54b0 : ((l0_2.length : Int) == 2) = true := beq_iff_eq.mpr c54
              have c54b1 : ((l0_2.length : Int) != 2) = false := bne_eq_false_iff_eq.mpr c54
              clear c54
              replace H := Option.bind_eq_some_iff.mp H
              obtain ⟨t136, A550, H⟩ := H
              replace H : (if t136 = true then ((rRightStmts.f kj28 l0_3 (wrap64 (a1 + 1))).bind fun t137 => (if t137 = true then ((rRightStmts.f kj28 l0_4 (wrap64 (a1 + 1))).bind fun t138 => (some t138)) else (some false))) else (some false)) = some r := H
              have A55 := kd.mk A550
              clear A550
              by_cases c56 : t136 = true
              ·subst c56
               (try (have cs_ := Ext.w_tt c21w))
               (try (have cs_ := Ext.w_ft c21w))
               (try (have cs_ := Ext.w_tf c21w))
               (try (have cs_ := Ext.w_ff c21w))
               replace H : ((rRightStmts.f kj28 l0_3 (wrap64 (a1 + 1))).bind fun t137 => (if t137 = true then ((rRightStmts.f kj28 l0_4 (wrap64 (a1 + 1))).bind fun t138 => (some t138)) else (some false))) = some r := by rw [if_pos rfl] at H; exact H
               replace H := Option.bind_eq_some_iff.mp H
               obtain ⟨t137, A570, H⟩ := H
               replace H : (if t137 = true then ((rRightStmts.f kj28 l0_4 (wrap64 (a1 + 1))).bind fun t138 => (some t138)) else (some false)) = some r := H
               have A57 := kd.mk A570
               clear A570
               by_cases c58 : t137 = true
               ·subst c58
                (try (have cs_ := Ext.w_tt c21w))
                (try (have cs_ := Ext.w_ft c21w))
                (try (have cs_ := Ext.w_tf c21w))
                (try (have cs_ := Ext.w_ff c21w))
                replace H : ((rRightStmts.f kj28 l0_4 (wrap64 (a1 + 1))).bind fun t138 => (some t138)) = some r := by rw [if_pos rfl] at H; exact H
                replace H := Option.bind_eq_some_iff.mp H
                obtain ⟨t138, A590, H⟩ := H
                replace H : (some t138) = some r := H
                have A59 := kd.mk A590
                clear A590
                obtain rfl := Option.some.inj H
                have hcz60_0 : wc.cell? ⟨gb131, 0, none⟩ = some (.int .i64 a0_0) := (kc BK131.out 0).trans rfl
                have hcz60_1 : wc.cell? ⟨gb131, 1, none⟩ = some (.string a0_1) := (kc BK131.out 1).trans rfl
                have hcz60_2 : wc.cell? ⟨gb131, 2, none⟩ = some (.slice A0_2 l0_2.length c0_2) := (kc BK131.out 2).trans rfl
                have hcz60_3 : wc.cell? ⟨gb131, 3, none⟩ = some (.slice A0_3 l0_3.length c0_3) := (kc BK131.out 3).trans rfl
                have hcz60_4 : wc.cell? ⟨gb131, 4, none⟩ = some (.slice A0_4 l0_4.length c0_4) := (kc BK131.out 4).trans rfl
                have hfz60_0 := kb BK131.out 0
                have hfz60_1 := kb BK131.out 1
                have hfz60_2 := kb BK131.out 2
                have hfz60_3 := kb BK131.out 3
                have hfz60_4 := kb BK131.out 4
                go_wp2_with (first | (go_at_call 52; (with_reducible refine (rRightExprs.calls kj28 _ _ l0_2 (wrap64 (a1 + 1)) true _ ?side1 ?side2 A55.out).mono ?_); (case side1 => exact Kd.kx HR0_2.out HB.out); (case side2 => exact HC0_2.out); rintro e w61 ⟨rfl, hb⟩; have n0_ := kd.mk (ku (g := gb131) (o := .cells #[.int .i64 a0_0, .string a0_1, .slice A0_2 l0_2.length c0_2, .slice A0_3 l0_3.length c0_3, .slice A0_4 l0_4.length c0_4] 43 (0, 0)) (by (with_reducible repeat (first | refine kg ?_ _ | refine kk ?_ | refine ki ?_ _)); exact BK131.out) hb); have n1_ := kd.mk (kr (by repeat (first | (with_reducible first | exact HB.out | apply ke | apply ka | apply kf | refine kj ?_ GE131.out) | exact HB.out)) hb); clear BK131; clear HB; have BK131 := n0_; have HB := n1_; clear n0_ n1_; (try clear hb); have hcz62_0 : w61.cell? ⟨gb131, 0, none⟩ = some (.int .i64 a0_0) := (kc BK131.out 0).trans rfl; have hcz62_1 : w61.cell? ⟨gb131, 1, none⟩ = some (.string a0_1) := (kc BK131.out 1).trans rfl; have hcz62_2 : w61.cell? ⟨gb131, 2, none⟩ = some (.slice A0_2 l0_2.length c0_2) := (kc BK131.out 2).trans rfl; have hcz62_3 : w61.cell? ⟨gb131, 3, none⟩ = some (.slice A0_3 l0_3.length c0_3) := (kc BK131.out 3).trans rfl; have hcz62_4 : w61.cell? ⟨gb131, 4, none⟩ = some (.slice A0_4 l0_4.length c0_4) := (kc BK131.out 4).trans rfl; have hfz62_0 := kb BK131.out 0; have hfz62_1 := kb BK131.out 1; have hfz62_2 := kb BK131.out 2; have hfz62_3 := kb BK131.out 3; have hfz62_4 := kb BK131.out 4) | (go_at_call 44; (with_reducible refine (ihrRightStmts kj28 (by have := HJ2.out; have := HJ13.out; have := HJ19.out; have := HJ28.out; omega) _ _ l0_3 (wrap64 (a1 + 1)) true _ ?side1 ?side2 A57.out).mono ?_); (case side1 => exact Kd.kx HR0_3.out HB.out); (case side2 => exact HC0_3.out); rintro e w63 ⟨rfl, hb⟩; have n0_ := kd.mk (ku (g := gb131) (o := .cells #[.int .i64 a0_0, .string a0_1, .slice A0_2 l0_2.length c0_2, .slice A0_3 l0_3.length c0_3, .slice A0_4 l0_4.length c0_4] 43 (0, 0)) (by (with_reducible repeat (first | refine kg ?_ _ | refine kk ?_ | refine ki ?_ _)); exact BK131.out) hb); have n1_ := kd.mk (kr (by repeat (first | (with_reducible first | exact HB.out | apply ke | apply ka | apply kf | refine kj ?_ GE131.out) | exact HB.out)) hb); clear BK131; clear HB; have BK131 := n0_; have HB := n1_; clear n0_ n1_; (try clear hb); have hcz64_0 : w63.cell? ⟨gb131, 0, none⟩ = some (.int .i64 a0_0) := (kc BK131.out 0).trans rfl; have hcz64_1 : w63.cell? ⟨gb131, 1, none⟩ = some (.string a0_1) := (kc BK131.out 1).trans rfl; have hcz64_2 : w63.cell? ⟨gb131, 2, none⟩ = some (.slice A0_2 l0_2.length c0_2) := (kc BK131.out 2).trans rfl; have hcz64_3 : w63.cell? ⟨gb131, 3, none⟩ = some (.slice A0_3 l0_3.length c0_3) := (kc BK131.out 3).trans rfl; have hcz64_4 : w63.cell? ⟨gb131, 4, none⟩ = some (.slice A0_4 l0_4.length c0_4) := (kc BK131.out 4).trans rfl; have hfz64_0 := kb BK131.out 0; have hfz64_1 := kb BK131.out 1; have hfz64_2 := kb BK131.out 2; have hfz64_3 := kb BK131.out 3; have hfz64_4 := kb BK131.out 4) | (go_at_call 44; (with_reducible refine (ihrRightStmts kj28 (by have := HJ2.out; have := HJ13.out; have := HJ19.out; have := HJ28.out; omega) _ _ l0_4 (wrap64 (a1 + 1)) t138 _ ?side1 ?side2 A59.out).mono ?_); (case side1 => exact Kd.kx HR0_4.out HB.out); (case side2 => exact HC0_4.out); rintro e w65 ⟨rfl, hb⟩; have n0_ := kd.mk (ku (g := gb131) (o := .cells #[.int .i64 a0_0, .string a0_1, .slice A0_2 l0_2.length c0_2, .slice A0_3 l0_3.length c0_3, .slice A0_4 l0_4.length c0_4] 43 (0, 0)) (by (with_reducible repeat (first | refine kg ?_ _ | refine kk ?_ | refine ki ?_ _)); exact BK131.out) hb); have n1_ := kd.mk (kr (by repeat (first | (with_reducible first | exact HB.out | apply ke | apply ka | apply kf | refine kj ?_ GE131.out) | exact HB.out)) hb); clear BK131; clear HB; have BK131 := n0_; have HB := n1_; clear n0_ n1_; (try clear hb)))
                go_ret
                exact ⟨by first | rfl | (simp [kp, ko] <;> rfl) | (simp [*, kp, ko] <;> rfl), by repeat (first | (with_reducible first | exact HB.out | apply ke | apply ka | apply kf | refine kj ?_ GE131.out) | exact HB.out)⟩
               ·replace c58 := Bool.eq_false_iff.mpr c58
                subst c58
                (try (have cs_ := Ext.w_tt c21w))
                (try (have cs_ := Ext.w_ft c21w))
                (try (have cs_ := Ext.w_tf c21w))
                (try (have cs_ := Ext.w_ff c21w))
                replace H : (some false) = some r := by rw [if_neg (show ¬ (false = true) by decide)] at H; exact H
                obtain rfl := Option.some.inj H
                have hcz66_0 : wc.cell? ⟨gb131, 0, none⟩ = some (.int .i64 a0_0) := (kc BK131.out 0).trans rfl
                have hcz66_1 : wc.cell? ⟨gb131, 1, none⟩ = some (.string a0_1) := (kc BK131.out 1).trans rfl
                have hcz66_2 : wc.cell? ⟨gb131, 2, none⟩ = some (.slice A0_2 l0_2.length c0_2) := (kc BK131.out 2).trans rfl
                have hcz66_3 : wc.cell? ⟨gb131, 3, none⟩ = some (.slice A0_3 l0_3.length c0_3) := (kc BK131.out 3).trans rfl
                have hcz66_4 : wc.cell? ⟨gb131, 4, none⟩ = some (.slice A0_4 l0_4.length c0_4) := (kc BK131.out 4).trans rfl
                have hfz66_0 := kb BK131.out 0
                have hfz66_1 := kb BK131.out 1
                have hfz66_2 := kb BK131.out 2
                have hfz66_3 := kb BK131.out 3
                have hfz66_4 := kb BK131.out 4
                go_wp2_with (first | (go_at_call 52; (with_reducible refine (rRightExprs.calls kj28 _ _ l0_2 (wrap64 (a1 + 1)) true _ ?side1 ?side2 A55.out).mono ?_); (case side1 => exact Kd.kx HR0_2.out HB.out); (case side2 => exact HC0_2.out); rintro e w67 ⟨rfl, hb⟩; have n0_ := kd.mk (ku (g := gb131) (o := .cells #[.int .i64 a0_0, .string a0_1, .slice A0_2 l0_2.length c0_2, .slice A0_3 l0_3.length c0_3, .slice A0_4 l0_4.length c0_4] 43 (0, 0)) (by (with_reducible repeat (first | refine kg ?_ _ | refine kk ?_ | refine ki ?_ _)); exact BK131.out) hb); have n1_ := kd.mk (kr (by repeat (first | (with_reducible first | exact HB.out | apply ke | apply ka | apply kf | refine kj ?_ GE131.out) | exact HB.out)) hb); clear BK131; clear HB; have BK131 := n0_; have HB := n1_; clear n0_ n1_; (try clear hb); have hcz68_0 : w67.cell? ⟨gb131, 0, none⟩ = some (.int .i64 a0_0) := (kc BK131.out 0).trans rfl; have hcz68_1 : w67.cell? ⟨gb131, 1, none⟩ = some (.string a0_1) := (kc BK131.out 1).trans rfl; have hcz68_2 : w67.cell? ⟨gb131, 2, none⟩ = some (.slice A0_2 l0_2.length c0_2) := (kc BK131.out 2).trans rfl; have hcz68_3 : w67.cell? ⟨gb131, 3, none⟩ = some (.slice A0_3 l0_3.length c0_3) := (kc BK131.out 3).trans rfl; have hcz68_4 : w67.cell? ⟨gb131, 4, none⟩ = some (.slice A0_4 l0_4.length c0_4) := (kc BK131.out 4).trans rfl; have hfz68_0 := kb BK131.out 0; have hfz68_1 := kb BK131.out 1; have hfz68_2 := kb BK131.out 2; have hfz68_3 := kb BK131.out 3; have hfz68_4 := kb BK131.out 4) | (go_at_call 44; (with_reducible refine (ihrRightStmts kj28 (by have := HJ2.out; have := HJ13.out; have := HJ19.out; have := HJ28.out; omega) _ _ l0_3 (wrap64 (a1 + 1)) false _ ?side1 ?side2 A57.out).mono ?_); (case side1 => exact Kd.kx HR0_3.out HB.out); (case side2 => exact HC0_3.out); rintro e w69 ⟨rfl, hb⟩; have n0_ := kd.mk (ku (g := gb131) (o := .cells #[.int .i64 a0_0, .string a0_1, .slice A0_2 l0_2.length c0_2, .slice A0_3 l0_3.length c0_3, .slice A0_4 l0_4.length c0_4] 43 (0, 0)) (by (with_reducible repeat (first | refine kg ?_ _ | refine kk ?_ | refine ki ?_ _)); exact BK131.out) hb); have n1_ := kd.mk (kr (by repeat (first | (with_reducible first | exact HB.out | apply ke | apply ka | apply kf | refine kj ?_ GE131.out) | exact HB.out)) hb); clear BK131; clear HB; have BK131 := n0_; have HB := n1_; clear n0_ n1_; (try clear hb)))
                go_ret
                exact ⟨by first | rfl | (simp [kp, ko] <;> rfl) | (simp [*, kp, ko] <;> rfl), by repeat (first | (with_reducible first | exact HB.out | apply ke | apply ka | apply kf | refine kj ?_ GE131.out) | exact HB.out)⟩
              ·replace c56 := Bool.eq_false_iff.mpr c56
               subst c56
               (try (have cs_ := Ext.w_tt c21w))
               (try (have cs_ := Ext.w_ft c21w))
               (try (have cs_ := Ext.w_tf c21w))
               (try (have cs_ := Ext.w_ff c21w))
               replace H : (some false) = some r := by rw [if_neg (show ¬ (false = true) by decide)] at H; exact H
               obtain rfl := Option.some.inj H
               have hcz70_0 : wc.cell? ⟨gb131, 0, none⟩ = some (.int .i64 a0_0) := (kc BK131.out 0).trans rfl
               have hcz70_1 : wc.cell? ⟨gb131, 1, none⟩ = some (.string a0_1) := (kc BK131.out 1).trans rfl
               have hcz70_2 : wc.cell? ⟨gb131, 2, none⟩ = some (.slice A0_2 l0_2.length c0_2) := (kc BK131.out 2).trans rfl
               have hcz70_3 : wc.cell? ⟨gb131, 3, none⟩ = some (.slice A0_3 l0_3.length c0_3) := (kc BK131.out 3).trans rfl
               have hcz70_4 : wc.cell? ⟨gb131, 4, none⟩ = some (.slice A0_4 l0_4.length c0_4) := (kc BK131.out 4).trans rfl
               have hfz70_0 := kb BK131.out 0
               have hfz70_1 := kb BK131.out 1
               have hfz70_2 := kb BK131.out 2
               have hfz70_3 := kb BK131.out 3
               have hfz70_4 := kb BK131.out 4
               go_wp2_with (first | (go_at_call 52; (with_reducible refine (rRightExprs.calls kj28 _ _ l0_2 (wrap64 (a1 + 1)) false _ ?side1 ?side2 A55.out).mono ?_); (case side1 => exact Kd.kx HR0_2.out HB.out); (case side2 => exact HC0_2.out); rintro e w71 ⟨rfl, hb⟩; have n0_ := kd.mk (ku (g := gb131) (o := .cells #[.int .i64 a0_0, .string a0_1, .slice A0_2 l0_2.length c0_2, .slice A0_3 l0_3.length c0_3, .slice A0_4 l0_4.length c0_4] 43 (0, 0)) (by (with_reducible repeat (first | refine kg ?_ _ | refine kk ?_ | refine ki ?_ _)); exact BK131.out) hb); have n1_ := kd.mk (kr (by repeat (first | (with_reducible first | exact HB.out | apply ke | apply ka | apply kf | refine kj ?_ GE131.out) | exact HB.out)) hb); clear BK131; clear HB; have BK131 := n0_; have HB := n1_; clear n0_ n1_; (try clear hb)))
               go_ret
               exact ⟨by first | rfl | (simp [kp, ko] <;> rfl) | (simp [*, kp, ko] <;> rfl), by repeat (first | (with_reducible first | exact HB.out | apply ke | apply ka | apply kf | refine kj ?_ GE131.out) | exact HB.out)⟩
             ·rw [if_neg c54] at H
              have c54b0 : ((l0_2.length : Int) == 2) = false := beq_eq_false_iff_ne.mpr c54
              have c54b1 : ((l0_2.length : Int) != 2) = true := bne_iff_ne.mpr c54
              obtain rfl := Option.some.inj H
              go_wp2
              go_ret
              exact ⟨by first | rfl | (simp [kp, ko] <;> rfl) | (simp [*, kp, ko] <;> rfl), by repeat (first | (with_reducible first | exact HB.out | apply ke | apply ka | apply kf | refine kj ?_ GE131.out) | exact HB.out)⟩
            ·rw [if_neg c53] at H
             have c53b0 : (a0_0 == 2) = false := beq_eq_false_iff_ne.mpr c53
             have c53b1 : (a0_0 != 2) = true := bne_iff_ne.mpr c53
             by_cases c72 : a0_0 = 6
             ·rw [if_pos c72] at H
              have c72b0 : (a0_0 == 6) = true := beq_iff_eq.mpr c72
              have c72b1 : (a0_0 != 6) = false := bne_eq_false_iff_eq.mpr c72
              clear c72
              by_cases c73 : (l0_2.length : Int) ≤ 6
              ·rw [if_pos c73] at H
               have c73b0 : decide ((l0_2.length : Int) ≤ 6) = true := decide_eq_true c73
               have c73b1 : decide (l0_2.length ≤ 6) = true := decide_eq_true (by omega)
               clear c73
               replace H := Option.bind_eq_some_iff.mp H
               obtain ⟨t139, A740, H⟩ := H
               replace H : (if t139 = true then ((rRightStmts.f kj28 l0_3 (wrap64 (a1 + 1))).bind fun t140 => (if t140 = true then ((rRightStmts.f kj28 l0_4 (wrap64 (a1 + 1))).bind fun t141 => (some t141)) else (some false))) else (some false)) = some r := H
               have A74 := kd.mk A740
               clear A740
               by_cases c75 : t139 = true
               ·subst c75
                (try (have cs_ := Ext.w_tt c21w))
                (try (have cs_ := Ext.w_ft c21w))
                (try (have cs_ := Ext.w_tf c21w))
                (try (have cs_ := Ext.w_ff c21w))
                replace H : ((rRightStmts.f kj28 l0_3 (wrap64 (a1 + 1))).bind fun t140 => (if t140 = true then ((rRightStmts.f kj28 l0_4 (wrap64 (a1 + 1))).bind fun t141 => (some t141)) else (some false))) = some r := by rw [if_pos rfl] at H; exact H
                replace H := Option.bind_eq_some_iff.mp H
                obtain ⟨t140, A760, H⟩ := H
                replace H : (if t140 = true then ((rRightStmts.f kj28 l0_4 (wrap64 (a1 + 1))).bind fun t141 => (some t141)) else (some false)) = some r := H
                have A76 := kd.mk A760
                clear A760
                by_cases c77 : t140 = true
                ·subst c77
                 (try (have cs_ := Ext.w_tt c21w))
                 (try (have cs_ := Ext.w_ft c21w))
                 (try (have cs_ := Ext.w_tf c21w))
                 (try (have cs_ := Ext.w_ff c21w))
                 replace H : ((rRightStmts.f kj28 l0_4 (wrap64 (a1 + 1))).bind fun t141 => (some t141)) = some r := by rw [if_pos rfl] at H; exact H
                 replace H := Option.bind_eq_some_iff.mp H
                 obtain ⟨t141, A780, H⟩ := H
                 replace H : (some t141) = some r := H
                 have A78 := kd.mk A780
                 clear A780
                 obtain rfl := Option.some.inj H
                 have hcz79_0 : wc.cell? ⟨gb131, 0, none⟩ = some (.int .i64 a0_0) := (kc BK131.out 0).trans rfl
                 have hcz79_1 : wc.cell? ⟨gb131, 1, none⟩ = some (.string a0_1) := (kc BK131.out 1).trans rfl
                 have hcz79_2 : wc.cell? ⟨gb131, 2, none⟩ = some (.slice A0_2 l0_2.length c0_2) := (kc BK131.out 2).trans rfl
                 have hcz79_3 : wc.cell? ⟨gb131, 3, none⟩ = some (.slice A0_3 l0_3.length c0_3) := (kc BK131.out 3).trans rfl
                 have hcz79_4 : wc.cell? ⟨gb131, 4, none⟩ = some (.slice A0_4 l0_4.length c0_4) := (kc BK131.out 4).trans rfl
                 have hfz79_0 := kb BK131.out 0
                 have hfz79_1 := kb BK131.out 1
                 have hfz79_2 := kb BK131.out 2
                 have hfz79_3 := kb BK131.out 3
                 have hfz79_4 := kb BK131.out 4
                 go_wp2_with (first | (go_at_call 52; (with_reducible refine (rRightExprs.calls kj28 _ _ l0_2 (wrap64 (a1 + 1)) true _ ?side1 ?side2 A74.out).mono ?_); (case side1 => exact Kd.kx HR0_2.out HB.out); (case side2 => exact HC0_2.out); rintro e w80 ⟨rfl, hb⟩; have n0_ := kd.mk (ku (g := gb131) (o := .cells #[.int .i64 a0_0, .string a0_1, .slice A0_2 l0_2.length c0_2, .slice A0_3 l0_3.length c0_3, .slice A0_4 l0_4.length c0_4] 43 (0, 0)) (by (with_reducible repeat (first | refine kg ?_ _ | refine kk ?_ | refine ki ?_ _)); exact BK131.out) hb); have n1_ := kd.mk (kr (by repeat (first | (with_reducible first | exact HB.out | apply ke | apply ka | apply kf | refine kj ?_ GE131.out) | exact HB.out)) hb); clear BK131; clear HB; have BK131 := n0_; have HB := n1_; clear n0_ n1_; (try clear hb); have hcz81_0 : w80.cell? ⟨gb131, 0, none⟩ = some (.int .i64 a0_0) := (kc BK131.out 0).trans rfl; have hcz81_1 : w80.cell? ⟨gb131, 1, none⟩ = some (.string a0_1) := (kc BK131.out 1).trans rfl; have hcz81_2 : w80.cell? ⟨gb131, 2, none⟩ = some (.slice A0_2 l0_2.length c0_2) := (kc BK131.out 2).trans rfl; have hcz81_3 : w80.cell? ⟨gb131, 3, none⟩ = some (.slice A0_3 l0_3.length c0_3) := (kc BK131.out 3).trans rfl; have hcz81_4 : w80.cell? ⟨gb131, 4, none⟩ = some (.slice A0_4 l0_4.length c0_4) := (kc BK131.out 4).trans rfl; have hfz81_0 := kb BK131.out 0; have hfz81_1 := kb BK131.out 1; have hfz81_2 := kb BK131.out 2; have hfz81_3 := kb BK131.out 3; have hfz81_4 := kb BK131.out 4) | (go_at_call 44; (with_reducible refine (ihrRightStmts kj28 (by have := HJ2.out; have := HJ13.out; have := HJ19.out; have := HJ28.out; omega) _ _ l0_3 (wrap64 (a1 + 1)) true _ ?side1 ?side2 A76.out).mono ?_); (case side1 => exact Kd.kx HR0_3.out HB.out); (case side2 => exact HC0_3.out); rintro e w82 ⟨rfl, hb⟩; have n0_ := kd.mk (ku (g := gb131) (o := .cells #[.int .i64 a0_0, .string a0_1, .slice A0_2 l0_2.length c0_2, .slice A0_3 l0_3.length c0_3, .slice A0_4 l0_4.length c0_4] 43 (0, 0)) (by (with_reducible repeat (first | refine kg ?_ _ | refine kk ?_ | refine ki ?_ _)); exact BK131.out) hb); have n1_ := kd.mk (kr (by repeat (first | (with_reducible first | exact HB.out | apply ke | apply ka | apply kf | refine kj ?_ GE131.out) | exact HB.out)) hb); clear BK131; clear HB; have BK131 := n0_; have HB := n1_; clear n0_ n1_; (try clear hb); have hcz83_0 : w82.cell? ⟨gb131, 0, none⟩ = some (.int .i64 a0_0) := (kc BK131.out 0).trans rfl; have hcz83_1 : w82.cell? ⟨gb131, 1, none⟩ = some (.string a0_1) := (kc BK131.out 1).trans rfl; have hcz83_2 : w82.cell? ⟨gb131, 2, none⟩ = some (.slice A0_2 l0_2.length c0_2) := (kc BK131.out 2).trans rfl; have hcz83_3 : w82.cell? ⟨gb131, 3, none⟩ = some (.slice A0_3 l0_3.length c0_3) := (kc BK131.out 3).trans rfl; have hcz83_4 : w82.cell? ⟨gb131, 4, none⟩ = some (.slice A0_4 l0_4.length c0_4) := (kc BK131.out 4).trans rfl; have hfz83_0 := kb BK131.out 0; have hfz83_1 := kb BK131.out 1; have hfz83_2 := kb BK131.out 2; have hfz83_3 := kb BK131.out 3; have hfz83_4 := kb BK131.out 4) | (go_at_call 44; (with_reducible refine (ihrRightStmts kj28 (by have := HJ2.out; have := HJ13.out; have := HJ19.out; have := HJ28.out; omega) _ _ l0_4 (wrap64 (a1 + 1)) t141 _ ?side1 ?side2 A78.out).mono ?_); (case side1 => exact Kd.kx HR0_4.out HB.out); (case side2 => exact HC0_4.out); rintro e w84 ⟨rfl, hb⟩; have n0_ := kd.mk (ku (g := gb131) (o := .cells #[.int .i64 a0_0, .string a0_1, .slice A0_2 l0_2.length c0_2, .slice A0_3 l0_3.length c0_3, .slice A0_4 l0_4.length c0_4] 43 (0, 0)) (by (with_reducible repeat (first | refine kg ?_ _ | refine kk ?_ | refine ki ?_ _)); exact BK131.out) hb); have n1_ := kd.mk (kr (by repeat (first | (with_reducible first | exact HB.out | apply ke | apply ka | apply kf | refine kj ?_ GE131.out) | exact HB.out)) hb); clear BK131; clear HB; have BK131 := n0_; have HB := n1_; clear n0_ n1_; (try clear hb)))
                 go_ret
                 exact ⟨by first | rfl | (simp [kp, ko] <;> rfl) | (simp [*, kp, ko] <;> rfl), by repeat (first | (with_reducible first | exact HB.out | apply ke | apply ka | apply kf | refine kj ?_ GE131.out) | exact HB.out)⟩
                ·replace c77 := Bool.eq_false_iff.mpr c77
                 subst c77
                 (try (have cs_ := Ext.w_tt c21w))
                 (try (have cs_ := Ext.w_ft c21w))
                 (try (have cs_ := Ext.w_tf c21w))
                 (try (have cs_ := Ext.w_ff c21w))
                 replace H : (some false) = some r := by rw [if_neg (show ¬ (false = true) by decide)] at H; exact H
                 obtain rfl := Option.some.inj H
                 have hcz85_0 : wc.cell? ⟨gb131, 0, none⟩ = some (.int .i64 a0_0) := (kc BK131.out 0).trans rfl
                 have hcz85_1 : wc.cell? ⟨gb131, 1, none⟩ = some (.string a0_1) := (kc BK131.out 1).trans rfl
                 have hcz85_2 : wc.cell? ⟨gb131, 2, none⟩ = some (.slice A0_2 l0_2.length c0_2) := (kc BK131.out 2).trans rfl
                 have hcz85_3 : wc.cell? ⟨gb131, 3, none⟩ = some (.slice A0_3 l0_3.length c0_3) := (kc BK131.out 3).trans rfl
                 have hcz85_4 : wc.cell? ⟨gb131, 4, none⟩ = some (.slice A0_4 l0_4.length c0_4) := (kc BK131.out 4).trans rfl
                 have hfz85_0 := kb BK131.out 0
                 have hfz85_1 := kb BK131.out 1
                 have hfz85_2 := kb BK131.out 2
                 have hfz85_3 := kb BK131.out 3
                 have hfz85_4 := kb BK131.out 4
                 go_wp2_with (first | (go_at_call 52; (with_reducible refine (rRightExprs.calls kj28 _ _ l0_2 (wrap64 (a1 + 1)) true _ ?side1 ?side2 A74.out).mono ?_); (case side1 => exact Kd.kx HR0_2.out HB.out); (case side2 => exact HC0_2.out); rintro e w86 ⟨rfl, hb⟩; have n0_ := kd.mk (ku (g := gb131) (o := .cells #[.int .i64 a0_0, .string a0_1, .slice A0_2 l0_2.length c0_2, .slice A0_3 l0_3.length c0_3, .slice A0_4 l0_4.length c0_4] 43 (0, 0)) (by (with_reducible repeat (first | refine kg ?_ _ | refine kk ?_ | refine ki ?_ _)); exact BK131.out) hb); have n1_ := kd.mk (kr (by repeat (first | (with_reducible first | exact HB.out | apply ke | apply ka | apply kf | refine kj ?_ GE131.out) | exact HB.out)) hb); clear BK131; clear HB; have BK131 := n0_; have HB := n1_; clear n0_ n1_; (try clear hb); have hcz87_0 : w86.cell? ⟨gb131, 0, none⟩ = some (.int .i64 a0_0) := (kc BK131.out 0).trans rfl; have hcz87_1 : w86.cell? ⟨gb131, 1, none⟩ = some (.string a0_1) := (kc BK131.out 1).trans rfl; have hcz87_2 : w86.cell? ⟨gb131, 2, none⟩ = some (.slice A0_2 l0_2.length c0_2) := (kc BK131.out 2).trans rfl; have hcz87_3 : w86.cell? ⟨gb131, 3, none⟩ = some (.slice A0_3 l0_3.length c0_3) := (kc BK131.out 3).trans rfl; have hcz87_4 : w86.cell? ⟨gb131, 4, none⟩ = some (.slice A0_4 l0_4.length c0_4) := (kc BK131.out 4).trans rfl; have hfz87_0 := kb BK131.out 0; have hfz87_1 := kb BK131.out 1; have hfz87_2 := kb BK131.out 2; have hfz87_3 := kb BK131.out 3; have hfz87_4 := kb BK131.out 4) | (go_at_call 44; (with_reducible refine (ihrRightStmts kj28 (by have := HJ2.out; have := HJ13.out; have := HJ19.out; have := HJ28.out; omega) _ _ l0_3 (wrap64 (a1 + 1)) false _ ?side1 ?side2 A76.out).mono ?_); (case side1 => exact Kd.kx HR0_3.out HB.out); (case side2 => exact HC0_3.out); rintro e w88 ⟨rfl, hb⟩; have n0_ := kd.mk (ku (g := gb131) (o := .cells #[.int .i64 a0_0, .string a0_1, .slice A0_2 l0_2.length c0_2, .slice A0_3 l0_3.length c0_3, .slice A0_4 l0_4.length c0_4] 43 (0, 0)) (by (with_reducible repeat (first | refine kg ?_ _ | refine kk ?_ | refine ki ?_ _)); exact BK131.out) hb); have n1_ := kd.mk (kr (by repeat (first | (with_reducible first | exact HB.out | apply ke | apply ka | apply kf | refine kj ?_ GE131.out) | exact HB.out)) hb); clear BK131; clear HB; have BK131 := n0_; have HB := n1_; clear n0_ n1_; (try clear hb)))
                 go_ret
                 exact ⟨by first | rfl | (simp [kp, ko] <;> rfl) | (simp [*, kp, ko] <;> rfl), by repeat (first | (with_reducible first | exact HB.out | apply ke | apply ka | apply kf | refine kj ?_ GE131.out) | exact HB.out)⟩
               ·replace c75 := Bool.eq_false_iff.mpr c75
                subst c75
                (try (have cs_ := Ext.w_tt c21w))
                (try (have cs_ := Ext.w_ft c21w))
                (try (have cs_ := Ext.w_tf c21w))
                (try (have cs_ := Ext.w_ff c21w))
                replace H : (some false) = some r := by rw [if_neg (show ¬ (false = true) by decide)] at H; exact H
                obtain rfl := Option.some.inj H
                have hcz89_0 : wc.cell? ⟨gb131, 0, none⟩ = some (.int .i64 a0_0) := (kc BK131.out 0).trans rfl
                have hcz89_1 : wc.cell? ⟨gb131, 1, none⟩ = some (.string a0_1) := (kc BK131.out 1).trans rfl
                have hcz89_2 : wc.cell? ⟨gb131, 2, none⟩ = some (.slice A0_2 l0_2.length c0_2) := (kc BK131.out 2).trans rfl
                have hcz89_3 : wc.cell? ⟨gb131, 3, none⟩ = some (.slice A0_3 l0_3.length c0_3) := (kc BK131.out 3).trans rfl
                have hcz89_4 : wc.cell? ⟨gb131, 4, none⟩ = some (.slice A0_4 l0_4.length c0_4) := (kc BK131.out 4).trans rfl
                have hfz89_0 := kb BK131.out 0
                have hfz89_1 := kb BK131.out 1
                have hfz89_2 := kb BK131.out 2
                have hfz89_3 := kb BK131.out 3
                have hfz89_4 := kb BK131.out 4
                go_wp2_with (first | (go_at_call 52; (with_reducible refine (rRightExprs.calls kj28 _ _ l0_2 (wrap64 (a1 + 1)) false _ ?side1 ?side2 A74.out).mono ?_); (case side1 => exact Kd.kx HR0_2.out HB.out); (case side2 => exact HC0_2.out); rintro e w90 ⟨rfl, hb⟩; have n0_ := kd.mk (ku (g := gb131) (o := .cells #[.int .i64 a0_0, .string a0_1, .slice A0_2 l0_2.length c0_2, .slice A0_3 l0_3.length c0_3, .slice A0_4 l0_4.length c0_4] 43 (0, 0)) (by (with_reducible repeat (first | refine kg ?_ _ | refine kk ?_ | refine ki ?_ _)); exact BK131.out) hb); have n1_ := kd.mk (kr (by repeat (first | (with_reducible first | exact HB.out | apply ke | apply ka | apply kf | refine kj ?_ GE131.out) | exact HB.out)) hb); clear BK131; clear HB; have BK131 := n0_; have HB := n1_; clear n0_ n1_; (try clear hb)))
                go_ret
                exact ⟨by first | rfl | (simp [kp, ko] <;> rfl) | (simp [*, kp, ko] <;> rfl), by repeat (first | (with_reducible first | exact HB.out | apply ke | apply ka | apply kf | refine kj ?_ GE131.out) | exact HB.out)⟩
              ·rw [if_neg c73] at H
               have c73b0 : decide ((l0_2.length : Int) ≤ 6) = false := decide_eq_false c73
               have c73b1 : decide (l0_2.length ≤ 6) = false := decide_eq_false (by omega)
               clear c73
               obtain rfl := Option.some.inj H
               go_wp2
               go_ret
               exact ⟨by first | rfl | (simp [kp, ko] <;> rfl) | (simp [*, kp, ko] <;> rfl), by repeat (first | (with_reducible first | exact HB.out | apply ke | apply ka | apply kf | refine kj ?_ GE131.out) | exact HB.out)⟩
             ·rw [if_neg c72] at H
              have c72b0 : (a0_0 == 6) = false := beq_eq_false_iff_ne.mpr c72
              have c72b1 : (a0_0 != 6) = true := bne_iff_ne.mpr c72
              by_cases c91 : a0_0 = 7
              ·rw [if_pos c91] at H
               have c91b0 : (a0_0 == 7) = true := beq_iff_eq.mpr c91
               have c91b1 : (a0_0 != 7) = false := bne_eq_false_iff_eq.mpr c91
               clear c91
               by_cases c92 : (l0_2.length : Int) ≤ 1
               ·rw [if_pos c92] at H
                have c92b0 : decide ((l0_2.length : Int) ≤ 1) = true := decide_eq_true c92
                have c92b1 : decide (l0_2.length ≤ 1) = true := decide_eq_true (by omega)
                clear c92
                replace H := Option.bind_eq_some_iff.mp H
                obtain ⟨t142, A930, H⟩ := H
                replace H : (if t142 = true then ((rRightStmts.f kj28 l0_3 (wrap64 (a1 + 1))).bind fun t143 => (if t143 = true then ((rRightStmts.f kj28 l0_4 (wrap64 (a1 + 1))).bind fun t144 => (some t144)) else (some false))) else (some false)) = some r := H
                have A93 := kd.mk A930
                clear A930
                by_cases c94 : t142 = true
                ·subst c94
                 (try (have cs_ := Ext.w_tt c21w))
                 (try (have cs_ := Ext.w_ft c21w))
                 (try (have cs_ := Ext.w_tf c21w))
                 (try (have cs_ := Ext.w_ff c21w))
                 replace H : ((rRightStmts.f kj28 l0_3 (wrap64 (a1 + 1))).bind fun t143 => (if t143 = true then ((rRightStmts.f kj28 l0_4 (wrap64 (a1 + 1))).bind fun t144 => (some t144)) else (some false))) = some r := by rw [if_pos rfl] at H; exact H
                 replace H := Option.bind_eq_some_iff.mp H
                 obtain ⟨t143, A950, H⟩ := H
                 replace H : (if t143 = true then ((rRightStmts.f kj28 l0_4 (wrap64 (a1 + 1))).bind fun t144 => (some t144)) else (some false)) = some r := H
                 have A95 := kd.mk A950
                 clear A950
                 by_cases c96 : t143 = true
                 ·subst c96
                  (try (have cs_ := Ext.w_tt c21w))
                  (try (have cs_ := Ext.w_ft c21w))
                  (try (have cs_ := Ext.w_tf c21w))
                  (try (have cs_ := Ext.w_ff c21w))
                  replace H : ((rRightStmts.f kj28 l0_4 (wrap64 (a1 + 1))).bind fun t144 => (some t144)) = some r := by rw [if_pos rfl] at H; exact H
                  replace H := Option.bind_eq_some_iff.mp H
                  obtain ⟨t144, A970, H⟩ := H
                  replace H : (some t144) = some r := H
                  have A97 := kd.mk A970
                  clear A970
                  obtain rfl := Option.some.inj H
                  have hcz98_0 : wc.cell? ⟨gb131, 0, none⟩ = some (.int .i64 a0_0) := (kc BK131.out 0).trans rfl
                  have hcz98_1 : wc.cell? ⟨gb131, 1, none⟩ = some (.string a0_1) := (kc BK131.out 1).trans rfl
                  have hcz98_2 : wc.cell? ⟨gb131, 2, none⟩ = some (.slice A0_2 l0_2.length c0_2) := (kc BK131.out 2).trans rfl
                  have hcz98_3 : wc.cell? ⟨gb131, 3, none⟩ = some (.slice A0_3 l0_3.length c0_3) := (kc BK131.out 3).trans rfl
                  have hcz98_4 : wc.cell? ⟨gb131, 4, none⟩ = some (.slice A0_4 l0_4.length c0_4) := (kc BK131.out 4).trans rfl
                  have hfz98_0 := kb BK131.out 0
                  have hfz98_1 := kb BK131.out 1
                  have hfz98_2 := kb BK131.out 2
                  have hfz98_3 := kb BK131.out 3
                  have hfz98_4 := kb BK131.out 4
                  go_wp2_with (first | (go_at_call 52; (with_reducible refine (rRightExprs.calls kj28 _ _ l0_2 (wrap64 (a1 + 1)) true _ ?side1 ?side2 A93.out).mono ?_); (case side1 => exact Kd.kx HR0_2.out HB.out); (case side2 => exact HC0_2.out); rintro e w99 ⟨rfl, hb⟩; have n0_ := kd.mk (ku (g := gb131) (o := .cells #[.int .i64 a0_0, .string a0_1, .slice A0_2 l0_2.length c0_2, .slice A0_3 l0_3.length c0_3, .slice A0_4 l0_4.length c0_4] 43 (0, 0)) (by (with_reducible repeat (first | refine kg ?_ _ | refine kk ?_ | refine ki ?_ _)); exact BK131.out) hb); have n1_ := kd.mk (kr (by repeat (first | (with_reducible first | exact HB.out | apply ke | apply ka | apply kf | refine kj ?_ GE131.out) | exact HB.out)) hb); clear BK131; clear HB; have BK131 := n0_; have HB := n1_; clear n0_ n1_; (try clear hb); have hcz100_0 : w99.cell? ⟨gb131, 0, none⟩ = some (.int .i64 a0_0) := (kc BK131.out 0).trans rfl; have hcz100_1 : w99.cell? ⟨gb131, 1, none⟩ = some (.string a0_1) := (kc BK131.out 1).trans rfl; have hcz100_2 : w99.cell? ⟨gb131, 2, none⟩ = some (.slice A0_2 l0_2.length c0_2) := (kc BK131.out 2).trans rfl; have hcz100_3 : w99.cell? ⟨gb131, 3, none⟩ = some (.slice A0_3 l0_3.length c0_3) := (kc BK131.out 3).trans rfl; have hcz100_4 : w99.cell? ⟨gb131, 4, none⟩ = some (.slice A0_4 l0_4.length c0_4) := (kc BK131.out 4).trans rfl; have hfz100_0 := kb BK131.out 0; have hfz100_1 := kb BK131.out 1; have hfz100_2 := kb BK131.out 2; have hfz100_3 := kb BK131.out 3; have hfz100_4 := kb BK131.out 4) | (go_at_call 44; (with_reducible refine (ihrRightStmts kj28 (by have := HJ2.out; have := HJ13.out; have := HJ19.out; have := HJ28.out; omega) _ _ l0_3 (wrap64 (a1 + 1)) true _ ?side1 ?side2 A95.out).mono ?_); (case side1 => exact Kd.kx HR0_3.out HB.out); (case side2 => exact HC0_3.out); rintro e w101 ⟨rfl, hb⟩; have n0_ := kd.mk (ku (g := gb131) (o := .cells #[.int .i64 a0_0, .string a0_1, .slice A0_2 l0_2.length c0_2, .slice A0_3 l0_3.length c0_3, .slice A0_4 l0_4.length c0_4] 43 (0, 0)) (by (with_reducible repeat (first | refine kg ?_ _ | refine kk ?_ | refine ki ?_ _)); exact BK131.out) hb); have n1_ := kd.mk (kr (by repeat (first | (with_reducible first | exact HB.out | apply ke | apply ka | apply kf | refine kj ?_ GE131.out) | exact HB.out)) hb); clear BK131; clear HB; have BK131 := n0_; have HB := n1_; clear n0_ n1_; (try clear hb); have hcz102_0 : w101.cell? ⟨gb131, 0, none⟩ = some (.int .i64 a0_0) := (kc BK131.out 0).trans rfl; have hcz102_1 : w101.cell? ⟨gb131, 1, none⟩ = some (.string a0_1) := (kc BK131.out 1).trans rfl; have hcz102_2 : w101.cell? ⟨gb131, 2, none⟩ = some (.slice A0_2 l0_2.length c0_2) := (kc BK131.out 2).trans rfl; have hcz102_3 : w101.cell? ⟨gb131, 3, none⟩ = some (.slice A0_3 l0_3.length c0_3) := (kc BK131.out 3).trans rfl; have hcz102_4 : w101.cell? ⟨gb131, 4, none⟩ = some (.slice A0_4 l0_4.length c0_4) := (kc BK131.out 4).trans rfl; have hfz102_0 := kb BK131.out 0; have hfz102_1 := kb BK131.out 1; have hfz102_2 := kb BK131.out 2; have hfz102_3 := kb BK131.out 3; have hfz102_4 := kb BK131.out 4) | (go_at_call 44; (with_reducible refine (ihrRightStmts kj28 (by have := HJ2.out; have := HJ13.out; have := HJ19.out; have := HJ28.out; omega) _ _ l0_4 (wrap64 (a1 + 1)) t144 _ ?side1 ?side2 A97.out).mono ?_); (case side1 => exact Kd.kx HR0_4.out HB.out); (case side2 => exact HC0_4.out); rintro e w103 ⟨rfl, hb⟩; have n0_ := kd.mk (ku (g := gb131) (o := .cells #[.int .i64 a0_0, .string a0_1, .slice A0_2 l0_2.length c0_2, .slice A0_3 l0_3.length c0_3, .slice A0_4 l0_4.length c0_4] 43 (0, 0)) (by (with_reducible repeat (first | refine kg ?_ _ | refine kk ?_ | refine ki ?_ _)); exact BK131.out) hb); have n1_ := kd.mk (kr (by repeat (first | (with_reducible first | exact HB.out | apply ke | apply ka | apply kf | refine kj ?_ GE131.out) | exact HB.out)) hb); clear BK131; clear HB; have BK131 := n0_; have HB := n1_; clear n0_ n1_; (try clear hb)))
                  go_ret
                  exact ⟨by first | rfl | (simp [kp, ko] <;> rfl) | (simp [*, kp, ko] <;> rfl), by repeat (first | (with_reducible first | exact HB.out | apply ke | apply ka | apply kf | refine kj ?_ GE131.out) | exact HB.out)⟩
                 ·replace c96 := Bool.eq_false_iff.mpr c96
                  subst c96
                  (try (have cs_ := Ext.w_tt c21w))
                  (try (have cs_ := Ext.w_ft c21w))
                  (try (have cs_ := Ext.w_tf c21w))
                  (try (have cs_ := Ext.w_ff c21w))
                  replace H : (some false) = some r := by rw [if_neg (show ¬ (false = true) by decide)] at H; exact H
                  obtain rfl := Option.some.inj H
                  have hcz104_0 : wc.cell? ⟨gb131, 0, none⟩ = some (.int .i64 a0_0) := (kc BK131.out 0).trans rfl
                  have hcz104_1 : wc.cell? ⟨gb131, 1, none⟩ = some (.string a0_1) := (kc BK131.out 1).trans rfl
                  have hcz104_2 : wc.cell? ⟨gb131, 2, none⟩ = some (.slice A0_2 l0_2.length c0_2) := (kc BK131.out 2).trans rfl
                  have hcz104_3 : wc.cell? ⟨gb131, 3, none⟩ = some (.slice A0_3 l0_3.length c0_3) := (kc BK131.out 3).trans rfl
                  have hcz104_4 : wc.cell? ⟨gb131, 4, none⟩ = some (.slice A0_4 l0_4.length c0_4) := (kc BK131.out 4).trans rfl
                  have hfz104_0 := kb BK131.out 0
                  have hfz104_1 := kb BK131.out 1
                  have hfz104_2 := kb BK131.out 2
                  have hfz104_3 := kb BK131.out 3
                  have hfz104_4 := kb BK131.out 4
                  go_wp2_with (first | (go_at_call 52; (with_reducible refine (rRightExprs.calls kj28 _ _ l0_2 (wrap64 (a1 + 1)) true _ ?side1 ?side2 A93.out).mono ?_); (case side1 => exact Kd.kx HR0_2.out HB.out); (case side2 => exact HC0_2.out); rintro e w105 ⟨rfl, hb⟩; have n0_ := kd.mk (ku (g := gb131) (o := .cells #[.int .i64 a0_0, .string a0_1, .slice A0_2 l0_2.length c0_2, .slice A0_3 l0_3.length c0_3, .slice A0_4 l0_4.length c0_4] 43 (0, 0)) (by (with_reducible repeat (first | refine kg ?_ _ | refine kk ?_ | refine ki ?_ _)); exact BK131.out) hb); have n1_ := kd.mk (kr (by repeat (first | (with_reducible first | exact HB.out | apply ke | apply ka | apply kf | refine kj ?_ GE131.out) | exact HB.out)) hb); clear BK131; clear HB; have BK131 := n0_; have HB := n1_; clear n0_ n1_; (try clear hb); have hcz106_0 : w105.cell? ⟨gb131, 0, none⟩ = some (.int .i64 a0_0) := (kc BK131.out 0).trans rfl; have hcz106_1 : w105.cell? ⟨gb131, 1, none⟩ = some (.string a0_1) := (kc BK131.out 1).trans rfl; have hcz106_2 : w105.cell? ⟨gb131, 2, none⟩ = some (.slice A0_2 l0_2.length c0_2) := (kc BK131.out 2).trans rfl; have hcz106_3 : w105.cell? ⟨gb131, 3, none⟩ = some (.slice A0_3 l0_3.length c0_3) := (kc BK131.out 3).trans rfl; have hcz106_4 : w105.cell? ⟨gb131, 4, none⟩ = some (.slice A0_4 l0_4.length c0_4) := (kc BK131.out 4).trans rfl; have hfz106_0 := kb BK131.out 0; have hfz106_1 := kb BK131.out 1; have hfz106_2 := kb BK131.out 2; have hfz106_3 := kb BK131.out 3; have hfz106_4 := kb BK131.out 4) | (go_at_call 44; (with_reducible refine (ihrRightStmts kj28 (by have := HJ2.out; have := HJ13.out; have := HJ19.out; have := HJ28.out; omega) _ _ l0_3 (wrap64 (a1 + 1)) false _ ?side1 ?side2 A95.out).mono ?_); (case side1 => exact Kd.kx HR0_3.out HB.out); (case side2 => exact HC0_3.out); rintro e w107 ⟨rfl, hb⟩; have n0_ := kd.mk (ku (g := gb131) (o := .cells #[.int .i64 a0_0, .string a0_1, .slice A0_2 l0_2.length c0_2, .slice A0_3 l0_3.length c0_3, .slice A0_4 l0_4.length c0_4] 43 (0, 0)) (by (with_reducible repeat (first | refine kg ?_ _ | refine kk ?_ | refine ki ?_ _)); exact BK131.out) hb); have n1_ := kd.mk (kr (by repeat (first | (with_reducible first | exact HB.out | apply ke | apply ka | apply kf | refine kj ?_ GE131.out) | exact HB.out)) hb); clear BK131; clear HB; have BK131 := n0_; have HB := n1_; clear n0_ n1_; (try clear hb)))
                  go_ret
                  exact ⟨by first | rfl | (simp [kp, ko] <;> rfl) | (simp [*, kp, ko] <;> rfl), by repeat (first | (with_reducible first | exact HB.out | apply ke | apply ka | apply kf | refine kj ?_ GE131.out) | exact HB.out)⟩
                ·replace c94 := Bool.eq_false_iff.mpr c94
                 subst c94
                 (try (have cs_ := Ext.w_tt c21w))
                 (try (have cs_ := Ext.w_ft c21w))
                 (try (have cs_ := Ext.w_tf c21w))
                 (try (have cs_ := Ext.w_ff c21w))
                 replace H : (some false) = some r := by rw [if_neg (show ¬ (false = true) by decide)] at H; exact H
                 obtain rfl := Option.some.inj H
                 have hcz108_0 : wc.cell? ⟨gb131, 0, none⟩ = some (.int .i64 a0_0) := (kc BK131.out 0).trans rfl
                 have hcz108_1 : wc.cell? ⟨gb131, 1, none⟩ = some (.string a0_1) := (kc BK131.out 1).trans rfl
                 have hcz108_2 : wc.cell? ⟨gb131, 2, none⟩ = some (.slice A0_2 l0_2.length c0_2) := (kc BK131.out 2).trans rfl
                 have hcz108_3 : wc.cell? ⟨gb131, 3, none⟩ = some (.slice A0_3 l0_3.length c0_3) := (kc BK131.out 3).trans rfl
                 have hcz108_4 : wc.cell? ⟨gb131, 4, none⟩ = some (.slice A0_4 l0_4.length c0_4) := (kc BK131.out 4).trans rfl
                 have hfz108_0 := kb BK131.out 0
                 have hfz108_1 := kb BK131.out 1
                 have hfz108_2 := kb BK131.out 2
                 have hfz108_3 := kb BK131.out 3
                 have hfz108_4 := kb BK131.out 4
                 go_wp2_with (first | (go_at_call 52; (with_reducible refine (rRightExprs.calls kj28 _ _ l0_2 (wrap64 (a1 + 1)) false _ ?side1 ?side2 A93.out).mono ?_); (case side1 => exact Kd.kx HR0_2.out HB.out); (case side2 => exact HC0_2.out); rintro e w109 ⟨rfl, hb⟩; have n0_ := kd.mk (ku (g := gb131) (o := .cells #[.int .i64 a0_0, .string a0_1, .slice A0_2 l0_2.length c0_2, .slice A0_3 l0_3.length c0_3, .slice A0_4 l0_4.length c0_4] 43 (0, 0)) (by (with_reducible repeat (first | refine kg ?_ _ | refine kk ?_ | refine ki ?_ _)); exact BK131.out) hb); have n1_ := kd.mk (kr (by repeat (first | (with_reducible first | exact HB.out | apply ke | apply ka | apply kf | refine kj ?_ GE131.out) | exact HB.out)) hb); clear BK131; clear HB; have BK131 := n0_; have HB := n1_; clear n0_ n1_; (try clear hb)))
                 go_ret
                 exact ⟨by first | rfl | (simp [kp, ko] <;> rfl) | (simp [*, kp, ko] <;> rfl), by repeat (first | (with_reducible first | exact HB.out | apply ke | apply ka | apply kf | refine kj ?_ GE131.out) | exact HB.out)⟩
               ·rw [if_neg c92] at H
                have c92b0 : decide ((l0_2.length : Int) ≤ 1) = false := decide_eq_false c92
                have c92b1 : decide (l0_2.length ≤ 1) = false := decide_eq_false (by omega)
                clear c92
                obtain rfl := Option.some.inj H
                go_wp2
                go_ret
                exact ⟨by first | rfl | (simp [kp, ko] <;> rfl) | (simp [*, kp, ko] <;> rfl), by repeat (first | (with_reducible first | exact HB.out | apply ke | apply ka | apply kf | refine kj ?_ GE131.out) | exact HB.out)⟩
              ·rw [if_neg c91] at H
               have c91b0 : (a0_0 == 7) = false := beq_eq_false_iff_ne.mpr c91
               have c91b1 : (a0_0 != 7) = true := bne_iff_ne.mpr c91
               by_cases c110 : false = true
               ·exact absurd c110 (by decide)
               ·clear c110
                replace H : (some false) = some r := by rw [if_neg (show ¬ (false = true) by decide)] at H; exact H
                obtain rfl := Option.some.inj H
                go_wp2
                go_ret
                exact ⟨by first | rfl | (simp [kp, ko] <;> rfl) | (simp [*, kp, ko] <;> rfl), by repeat (first | (with_reducible first | exact HB.out | apply ke | apply ka | apply kf | refine kj ?_ GE131.out) | exact HB.out)⟩
theorem rRightStmts.all_calls (k : Nat) : (∀ (A0 : Option Addr) (c0 : Nat) (l0 : List (S43)) (a1 : Int) (r : Bool) (w : World) (hr0 : Kd.C k43 w A0 l0.length l0) (hc0 : l0.length ≤ c0) (h : rRightStmts.f k l0 a1 = some r), Calls Tryd.prog 44 #[.slice A0 l0.length c0, .int .i64 a1] w fun e w' => e = .returned (.bool r) ∧ Below w.heap.size w w') ∧ (∀ (a0_0 : Int) (a0_1 : ByteArray) (A0_2 : Option Addr) (c0_2 : Nat) (l0_2 : List (S36)) (A0_3 : Option Addr) (c0_3 : Nat) (l0_3 : List (S43)) (A0_4 : Option Addr) (c0_4 : Nat) (l0_4 : List (S43)) (a1 : Int) (r : Bool) (w : World) (hr0_2 : Kd.C k36 w A0_2 l0_2.length l0_2) (hc0_2 : l0_2.length ≤ c0_2) (hr0_3 : Kd.C k43 w A0_3 l0_3.length l0_3) (hc0_3 : l0_3.length ≤ c0_3) (hr0_4 : Kd.C k43 w A0_4 l0_4.length l0_4) (hc0_4 : l0_4.length ≤ c0_4) (h : rRightStmt.f k a0_0 a0_1 l0_2 l0_3 l0_4 a1 = some r), Calls Tryd.prog 73 #[.agg #[.int .i64 a0_0, .string a0_1, .slice A0_2 l0_2.length c0_2, .slice A0_3 l0_3.length c0_3, .slice A0_4 l0_4.length c0_4], .int .i64 a1] w fun e w' => e = .returned (.bool r) ∧ Below w.heap.size w w') := by
 induction k using Nat.strongRecOn with
 | _ k ih =>
 exact ⟨rRightStmts.calls_of k (fun j_ h_ => (ih j_ h_).1) (fun j_ h_ => (ih j_ h_).2), rRightStmt.calls_of k (fun j_ h_ => (ih j_ h_).1) (fun j_ h_ => (ih j_ h_).2)⟩
theorem rRightStmts.calls (k : Nat) : ∀ (A0 : Option Addr) (c0 : Nat) (l0 : List (S43)) (a1 : Int) (r : Bool) (w : World) (hr0 : Kd.C k43 w A0 l0.length l0) (hc0 : l0.length ≤ c0) (h : rRightStmts.f k l0 a1 = some r), Calls Tryd.prog 44 #[.slice A0 l0.length c0, .int .i64 a1] w fun e w' => e = .returned (.bool r) ∧ Below w.heap.size w w' := (rRightStmts.all_calls k).1
theorem rRightStmt.calls (k : Nat) : ∀ (a0_0 : Int) (a0_1 : ByteArray) (A0_2 : Option Addr) (c0_2 : Nat) (l0_2 : List (S36)) (A0_3 : Option Addr) (c0_3 : Nat) (l0_3 : List (S43)) (A0_4 : Option Addr) (c0_4 : Nat) (l0_4 : List (S43)) (a1 : Int) (r : Bool) (w : World) (hr0_2 : Kd.C k36 w A0_2 l0_2.length l0_2) (hc0_2 : l0_2.length ≤ c0_2) (hr0_3 : Kd.C k43 w A0_3 l0_3.length l0_3) (hc0_3 : l0_3.length ≤ c0_3) (hr0_4 : Kd.C k43 w A0_4 l0_4.length l0_4) (hc0_4 : l0_4.length ≤ c0_4) (h : rRightStmt.f k a0_0 a0_1 l0_2 l0_3 l0_4 a1 = some r), Calls Tryd.prog 73 #[.agg #[.int .i64 a0_0, .string a0_1, .slice A0_2 l0_2.length c0_2, .slice A0_3 l0_3.length c0_3, .slice A0_4 l0_4.length c0_4], .int .i64 a1] w fun e w' => e = .returned (.bool r) ∧ Below w.heap.size w w' := (rRightStmts.all_calls k).2
end Go.Proofs.YthnhdompfhkepaaDoor.Q
