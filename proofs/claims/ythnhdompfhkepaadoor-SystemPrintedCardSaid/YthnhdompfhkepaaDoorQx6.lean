import Derived.Test.YthnhdompfhkepaaDoorQx0
import Derived.Test.YthnhdompfhkepaaDoorQx5
namespace Go.Proofs.YthnhdompfhkepaaDoor.Q
open Go.RowKit Go.Proofs.YthnhdompfhkepaaDoorW.PrintWords Go.Proofs.YthnhdompfhkepaaDoorW.PrintLast Go.Proofs.YthnhdompfhkepaaDoorW.PrintMore
attribute [local go_sem] max2_int min2_int max_two min_two max_three min_three max_four min_four
set_option linter.unusedVariables false
set_option linter.unusedSimpArgs false
def rnames.l0 : Nat → List ByteArray → Int → Option (Bool)
 | 0, _, _ => none
 | k + 1, x0, x3 => if x3 < (x0.length : Int) then (if 0 ≤ x3 then ((rIsName.f k (rdOf ByteArray.empty x0 x3)).bind fun t121 => (if t121 = true then (rnames.l0 k x0 (wrap64 (x3 + 1))) else (some false))) else (none)) else (some true)
def rnames.f (k : Nat) (l0 : List ByteArray) : Option (Bool) := rnames.l0 k l0 0
theorem rnames.mono_l : ∀ k, (∀ y0 y1, LeO (rnames.l0 k y0 y1) (rnames.l0 (k + 1) y0 y1))
 | 0 => fun _ _ r h => by simp [rnames.l0] at h
 | k + 1 => by
  have ih0 := rnames.mono_l k
  ·intro y0 y1
   unfold rnames.l0
   repeat' first
   | (with_reducible exact ih0 _ _)
   | (with_reducible exact rIsName.mono _ _)
   | (with_reducible exact LeO.refl _)
   | (with_reducible exact LeO.none _)
   | (with_reducible refine LeO.ite ?_ ?_)
   | (with_reducible refine LeO.bind ?_ (fun _ => ?_))
   | exact ih0 _ _
   | exact rIsName.mono _ _
   | exact LeO.none _
   | refine LeO.ite ?_ ?_
   | refine LeO.bind ?_ (fun _ => ?_)
theorem rnames.mono : ∀ a0 k, LeO (rnames.f k a0) (rnames.f (k + 1) a0) := by
 intro a0 k
 have ih0 := rnames.mono_l k
 unfold rnames.f
 repeat' first
  | (with_reducible exact ih0 _ _)
  | (with_reducible exact rIsName.mono _ _)
  | (with_reducible exact LeO.refl _)
  | (with_reducible exact LeO.none _)
  | (with_reducible refine LeO.ite ?_ ?_)
  | (with_reducible refine LeO.bind ?_ (fun _ => ?_))
  | exact ih0 _ _
  | exact rIsName.mono _ _
  | exact LeO.none _
  | refine LeO.ite ?_ ?_
  | refine LeO.bind ?_ (fun _ => ?_)
set_option maxHeartbeats 8000000 in
set_option maxRecDepth 100000 in
theorem rnames.calls (k : Nat) (A0 : Option Addr) (c0 : Nat) (l0 : List ByteArray) (r : Bool) (w : World) (hr0 : Kd.C Kd.string w A0 l0.length l0) (hc0 : l0.length ≤ c0) (h : rnames.f k l0 = some r) :
 Calls Tryd.prog 42 #[.slice A0 l0.length c0] w fun e w' => e = .returned (.bool r) ∧ Below w.heap.size w w' := by
 have HR0 := kd.mk hr0
 have HC0 := kd.mk hc0
 clear hr0 hc0
 have HB := kd.mk (Below.refl w.heap.size w)
 have H : (rnames.l0 k l0 0) = some r := h
 clear h
 have H' := kd.mk H
 clear H
 go_enter Tryd.func42, Tryd.ntmps42
 go_wp2
 go_loopg [3] k (fun kq v3 w' => ∃ (x3_1 : Int), v3 = .int .i64 x3_1 ∧ kd (rnames.l0 kq l0 x3_1 = some r) ∧ kd (kq ≤ k) ∧ kd (Below w.heap.size w w'))
 case atStart => exact ⟨(0), (by first | rfl | (simp; done) | (simp [*]; done)), H', ⟨Nat.le_refl _⟩, ⟨by repeat (first | (with_reducible first | exact HB.out | apply ke | apply ka | apply kf) | exact HB.out)⟩⟩
 case round =>
  clear H'
  obtain ⟨x3_1, rfl, HA, HK1, HB⟩ := hrel
  cases gk with
  | zero => exact absurd HA.out (by simp [rnames.l0])
  | succ k1 =>
   have H := HA.out
   clear HA
   simp only [rnames.l0] at H
   by_cases c2 : x3_1 < (l0.length : Int)
   ·rw [if_pos c2] at H
    have c2b0 : decide (x3_1 < (l0.length : Int)) = true := decide_eq_true c2
    clear c2
    by_cases c3 : 0 ≤ x3_1
    ·rw [if_pos c3] at H
     have c3b0 : decide (0 ≤ x3_1) = true := decide_eq_true c3
     clear c3
     replace H := Option.bind_eq_some_iff.mp H
     obtain ⟨t121, A40, H⟩ := H
     replace H : (if t121 = true then (rnames.l0 k1 l0 (wrap64 (x3_1 + 1))) else (some false)) = some r := H
     have A4 := kd.mk A40
     clear A40
     by_cases c5 : t121 = true
     ·subst c5
      replace H : (rnames.l0 k1 l0 (wrap64 (x3_1 + 1))) = some r := by rw [if_pos rfl] at H; exact H
      have H' := kd.mk H
      clear H
      have p120 : 0 ≤ (x3_1 : Int) := of_decide_eq_true (by first | (with_reducible assumption) | assumption)
      have q120 : x3_1 < (l0.length : Int) := of_decide_eq_true (by first | (with_reducible assumption) | assumption)
      obtain ⟨ad120, e120, hx120_0⟩ := Kd.at_string HR0.out x3_1 p120 q120
      cases e120
      replace hx120_0 := (HB.out.cell (World.block_lt_of_cell? w _ hx120_0)).trans hx120_0
      replace p120 := eq_true p120
      replace q120 := eq_true q120
      go_wp2_with (first | ((with_reducible refine jb (f := 43) rfl ?_); refine jo (some 14) rfl rfl Tryd.func43 (by kernel_rfl) rfl #[.string (rdOf ByteArray.empty l0 x3_1)] rfl (by (try simp only [List.map_toArray, List.map_cons, List.map_nil]); first | done | rfl | (simp only [List.length_drop, List.length_take]; rfl)) ?_; (with_reducible refine (rIsName.calls k1 (rdOf ByteArray.empty l0 x3_1) true _ A4.out).mono ?_); rintro e w6 ⟨rfl, hb⟩; refine ⟨_, rfl, ?_⟩; have n0_ := kd.mk (kr (by repeat (first | (with_reducible first | exact HB.out | apply ke | apply ka | apply kf) | exact HB.out)) hb); clear HB; have HB := n0_; clear n0_; (try clear hb)))
      go_roundg k1
      case measure => have := HK1.out; omega
      case rel => exact ⟨(wrap64 (x3_1 + 1)), (by first | rfl | (simp; done) | (simp [*]; done)), H', ⟨by have := HK1.out; omega⟩, ⟨by repeat (first | (with_reducible first | exact HB.out | apply ke | apply ka | apply kf) | exact HB.out)⟩⟩
     ·replace c5 := Bool.eq_false_iff.mpr c5
      subst c5
      replace H : (some false) = some r := by rw [if_neg (show ¬ (false = true) by decide)] at H; exact H
      obtain rfl := Option.some.inj H
      have p120 : 0 ≤ (x3_1 : Int) := of_decide_eq_true (by first | (with_reducible assumption) | assumption)
      have q120 : x3_1 < (l0.length : Int) := of_decide_eq_true (by first | (with_reducible assumption) | assumption)
      obtain ⟨ad120, e120, hx120_0⟩ := Kd.at_string HR0.out x3_1 p120 q120
      cases e120
      replace hx120_0 := (HB.out.cell (World.block_lt_of_cell? w _ hx120_0)).trans hx120_0
      replace p120 := eq_true p120
      replace q120 := eq_true q120
      go_wp2_with (first | ((with_reducible refine jb (f := 43) rfl ?_); refine jo (some 14) rfl rfl Tryd.func43 (by kernel_rfl) rfl #[.string (rdOf ByteArray.empty l0 x3_1)] rfl (by (try simp only [List.map_toArray, List.map_cons, List.map_nil]); first | done | rfl | (simp only [List.length_drop, List.length_take]; rfl)) ?_; (with_reducible refine (rIsName.calls k1 (rdOf ByteArray.empty l0 x3_1) false _ A4.out).mono ?_); rintro e w7 ⟨rfl, hb⟩; refine ⟨_, rfl, ?_⟩; have n0_ := kd.mk (kr (by repeat (first | (with_reducible first | exact HB.out | apply ke | apply ka | apply kf) | exact HB.out)) hb); clear HB; have HB := n0_; clear n0_; (try clear hb)))
      go_ret
      exact ⟨by first | rfl | (simp [kp, ko] <;> rfl) | (simp [*, kp, ko] <;> rfl), by repeat (first | (with_reducible first | exact HB.out | apply ke | apply ka | apply kf) | exact HB.out)⟩
    ·rw [if_neg c3] at H
     exact absurd H (by simp)
   ·rw [if_neg c2] at H
    have c2b0 : decide (x3_1 < (l0.length : Int)) = false := decide_eq_false c2
    clear c2
    obtain rfl := Option.some.inj H
    go_wp2
    go_ret
    exact ⟨by first | rfl | (simp [kp, ko] <;> rfl) | (simp [*, kp, ko] <;> rfl), by repeat (first | (with_reducible first | exact HB.out | apply ke | apply ka | apply kf) | exact HB.out)⟩
end Go.Proofs.YthnhdompfhkepaaDoor.Q
