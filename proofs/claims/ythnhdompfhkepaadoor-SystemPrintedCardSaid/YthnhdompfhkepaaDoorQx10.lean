import Derived.Test.YthnhdompfhkepaaDoorQx0
import Derived.Test.YthnhdompfhkepaaDoorQx5
import Derived.Test.YthnhdompfhkepaaDoorQx6
import Derived.Test.YthnhdompfhkepaaDoorQx9
namespace Go.Proofs.YthnhdompfhkepaaDoor.Q
open Go.RowKit Go.Proofs.YthnhdompfhkepaaDoorW.PrintWords Go.Proofs.YthnhdompfhkepaaDoorW.PrintLast Go.Proofs.YthnhdompfhkepaaDoorW.PrintMore
attribute [local go_sem] max2_int min2_int max_two min_two max_three min_three max_four min_four
set_option linter.unusedVariables false
set_option linter.unusedSimpArgs false
mutual
def rRight.j0 : Nat → Bool → List ByteArray → List (S59) → List (S45) → Option (Bool)
 | 0, _, _, _, _ => none
 | k + 1, x21, x151000, x151001, x151002 => if x21 = true then (some false) else (rRight.l0 k 0 x151000 x151001 x151002)
def rRight.l0 : Nat → Int → List ByteArray → List (S59) → List (S45) → Option (Bool)
 | 0, _, _, _, _ => none
 | k + 1, x3, x151000, x151001, x151002 => if x3 < (x151001.length : Int) then (if 0 ≤ x3 then ((rIsName.f k ((jn x151001 x3).f0)).bind fun t153 => (if t153 = true then (if ((jn x151001 x3).f1) < 1 then (some false) else (if ((jn x151001 x3).f1) > 4096 then (some false) else (rRight.l0 k (wrap64 (x3 + 1)) x151000 x151001 x151002))) else (some false))) else (none)) else (rRight.l1 k 0 x151000 x151001 x151002)
def rRight.l1 : Nat → Int → List ByteArray → List (S59) → List (S45) → Option (Bool)
 | 0, _, _, _, _ => none
 | k + 1, x4, x151000, x151001, x151002 => if x4 < (x151002.length : Int) then (if 0 ≤ x4 then ((rIsName.f k ((km x151002 x4).f0)).bind fun t158 => (if t158 = true then (if (((km x151002 x4).f1).length : Int) > 6 then (some false) else ((rnames.f k ((km x151002 x4).f1)).bind fun t159 => (if t159 = true then ((rnames.f k ((km x151002 x4).f2)).bind fun t160 => (if t160 = true then ((rRightStmts.f k ((km x151002 x4).f4) 1).bind fun t161 => (if t161 = true then (rRight.l1 k (wrap64 (x4 + 1)) x151000 x151001 x151002) else (some false))) else (some false))) else (some false)))) else (some false))) else (none)) else (some true)
end
def rRight.f (k : Nat) (l0_0 : List ByteArray) (l0_1 : List (S59)) (l0_2 : List (S45)) : Option (Bool) := (rnames.f k l0_0).bind fun t151 => (if t151 = true then (if (l0_2.length : Int) < 1 then (rRight.j0 k true l0_0 l0_1 l0_2) else (rRight.j0 k (decide ((l0_2.length : Int) > 64)) l0_0 l0_1 l0_2)) else (rRight.j0 k true l0_0 l0_1 l0_2))
theorem rRight.mono_l : ∀ k, (∀ y0 y1 y2 y3, LeO (rRight.j0 k y0 y1 y2 y3) (rRight.j0 (k + 1) y0 y1 y2 y3)) ∧ (∀ y0 y1 y2 y3, LeO (rRight.l0 k y0 y1 y2 y3) (rRight.l0 (k + 1) y0 y1 y2 y3)) ∧ (∀ y0 y1 y2 y3, LeO (rRight.l1 k y0 y1 y2 y3) (rRight.l1 (k + 1) y0 y1 y2 y3))
 | 0 => ⟨fun _ _ _ _ r h => by simp [rRight.j0] at h, fun _ _ _ _ r h => by simp [rRight.l0] at h, fun _ _ _ _ r h => by simp [rRight.l1] at h⟩
 | k + 1 => by
  obtain ⟨ih0, ih1, ih2⟩ := rRight.mono_l k
  refine ⟨?_, ?_, ?_⟩
  all_goals intros
  all_goals first | unfold rRight.j0 | unfold rRight.l0 | unfold rRight.l1
  all_goals repeat' first
   | (with_reducible exact ih0 _ _ _ _)
   | (with_reducible exact ih1 _ _ _ _)
   | (with_reducible exact ih2 _ _ _ _)
   | (with_reducible exact rIsName.mono _ _)
   | (with_reducible exact rRightStmts.mono _ _ _)
   | (with_reducible exact rnames.mono _ _)
   | (with_reducible exact LeO.refl _)
   | (with_reducible exact LeO.none _)
   | (with_reducible refine LeO.ite ?_ ?_)
   | (with_reducible refine LeO.bind ?_ (fun _ => ?_))
   | exact ih0 _ _ _ _
   | exact ih1 _ _ _ _
   | exact ih2 _ _ _ _
   | exact rIsName.mono _ _
   | exact rRightStmts.mono _ _ _
   | exact rnames.mono _ _
   | exact LeO.none _
   | refine LeO.ite ?_ ?_
   | refine LeO.bind ?_ (fun _ => ?_)
theorem rRight.mono : ∀ a0 a1 a2 k, LeO (rRight.f k a0 a1 a2) (rRight.f (k + 1) a0 a1 a2) := by
 intro a0 a1 a2 k
 obtain ⟨ih0, ih1, ih2⟩ := rRight.mono_l k
 unfold rRight.f
 repeat' first
  | (with_reducible exact ih0 _ _ _ _)
  | (with_reducible exact ih1 _ _ _ _)
  | (with_reducible exact ih2 _ _ _ _)
  | (with_reducible exact rIsName.mono _ _)
  | (with_reducible exact rRightStmts.mono _ _ _)
  | (with_reducible exact rnames.mono _ _)
  | (with_reducible exact LeO.refl _)
  | (with_reducible exact LeO.none _)
  | (with_reducible refine LeO.ite ?_ ?_)
  | (with_reducible refine LeO.bind ?_ (fun _ => ?_))
  | exact ih0 _ _ _ _
  | exact ih1 _ _ _ _
  | exact ih2 _ _ _ _
  | exact rIsName.mono _ _
  | exact rRightStmts.mono _ _ _
  | exact rnames.mono _ _
  | exact LeO.none _
  | refine LeO.ite ?_ ?_
  | refine LeO.bind ?_ (fun _ => ?_)
set_option maxHeartbeats 8000000 in
set_option maxRecDepth 100000 in
theorem rRight.calls (k : Nat) (A0_0 : Option Addr) (c0_0 : Nat) (l0_0 : List ByteArray) (A0_1 : Option Addr) (c0_1 : Nat) (l0_1 : List (S59)) (A0_2 : Option Addr) (c0_2 : Nat) (l0_2 : List (S45)) (r : Bool) (w : World) (hr0_0 : Kd.C Kd.string w A0_0 l0_0.length l0_0) (hc0_0 : l0_0.length ≤ c0_0) (hr0_1 : Kd.C k59 w A0_1 l0_1.length l0_1) (hc0_1 : l0_1.length ≤ c0_1) (hr0_2 : Kd.C k45 w A0_2 l0_2.length l0_2) (hc0_2 : l0_2.length ≤ c0_2) (h : rRight.f k l0_0 l0_1 l0_2 = some r) :
 Calls Tryd.prog 17 #[.agg #[.slice A0_0 l0_0.length c0_0, .slice A0_1 l0_1.length c0_1, .slice A0_2 l0_2.length c0_2]] w fun e w' => e = .returned (.bool r) ∧ Below w.heap.size w w' := by
 have hu26 := Tryd.underlying26
 have hu45 := Tryd.underlying45
 have HR0_0 := kd.mk hr0_0
 have HC0_0 := kd.mk hc0_0
 clear hr0_0 hc0_0
 have HR0_1 := kd.mk hr0_1
 have HC0_1 := kd.mk hc0_1
 clear hr0_1 hc0_1
 have HR0_2 := kd.mk hr0_2
 have HC0_2 := kd.mk hc0_2
 clear hr0_2 hc0_2
 have HB := kd.mk (Below.refl w.heap.size w)
 have H : ((rnames.f k l0_0).bind fun t151 => (if t151 = true then (if (l0_2.length : Int) < 1 then (rRight.j0 k true l0_0 l0_1 l0_2) else (rRight.j0 k (decide ((l0_2.length : Int) > 64)) l0_0 l0_1 l0_2)) else (rRight.j0 k true l0_0 l0_1 l0_2))) = some r := h
 clear h
 have HC2 := kd.mk H
 clear H
 go_enter Tryd.func17, Tryd.ntmps17
 go_upto_region 1 with (first | ((with_reducible refine ja (N := 1) rfl ?_); (try (refine gate_guard (by rfl) ?_; dsimp only)); refine kz ?hg (N := 1) ?hd (cs := #[.slice A0_0 l0_0.length c0_0, .slice A0_1 l0_1.length c0_1, .slice A0_2 l0_2.length c0_2]) (t := 26) ?hr ?_; (case hd => rfl); (case hg => rfl); (case hr => first | (go_simp; done) | (go_simp; rfl)); intro gb150 hg w3 hbox hb; have n0_ := kd.mk (kr (by repeat (first | (with_reducible first | exact HB.out | apply ke | apply ka | apply kf) | exact HB.out)) hb); have n1_ := kd.mk (hbox); have n2_ := kd.mk ((by rw [hg]; exact (ks (by repeat (first | (with_reducible first | exact HB.out | apply ke | apply ka | apply kf) | exact HB.out))) : w.heap.size ≤ gb150)); have n3_ := kd.mk ((by rw [hg]; exact (ks (by repeat (first | (with_reducible first | exact HB.out | apply ke | apply ka | apply kf) | exact HB.out))) : w.heap.size ≤ gb150)); clear HB; have HB := n0_; have BK150 := n1_; have GW150 := n2_; have GE150 := n3_; clear n0_ n1_ n2_ n3_; clear hb hbox hg))
 (try simp only [Act.put, List.setIfInBounds_toArray, List.set_cons_zero, List.set_cons_succ])
 go_cut [21] (fun v21 wc => ∃ (kq : Nat) (x21_1 : Bool), v21 = .bool x21_1 ∧ kd (rRight.j0 kq x21_1 l0_0 l0_1 l0_2 = some r) ∧ kd (kq ≤ k) ∧ kd (wc.heap[gb150]? = some (.cells #[(.slice A0_0 l0_0.length c0_0), (.slice A0_1 l0_1.length c0_1), (.slice A0_2 l0_2.length c0_2)] 26 (0, 0))) ∧ kd (Below w.heap.size w wc))
 case first =>
  have H := HC2.out
  clear HC2
  replace H := Option.bind_eq_some_iff.mp H
  obtain ⟨t151, A40, H⟩ := H
  replace H : (if t151 = true then (if (l0_2.length : Int) < 1 then (rRight.j0 k true l0_0 l0_1 l0_2) else (rRight.j0 k (decide ((l0_2.length : Int) > 64)) l0_0 l0_1 l0_2)) else (rRight.j0 k true l0_0 l0_1 l0_2)) = some r := H
  have A4 := kd.mk A40
  clear A40
  by_cases c5 : t151 = true
  ·subst c5
   replace H : (if (l0_2.length : Int) < 1 then (rRight.j0 k true l0_0 l0_1 l0_2) else (rRight.j0 k (decide ((l0_2.length : Int) > 64)) l0_0 l0_1 l0_2)) = some r := by rw [if_pos rfl] at H; exact H
   by_cases c6 : (l0_2.length : Int) < 1
   ·rw [if_pos c6] at H
    have c6b0 : decide ((l0_2.length : Int) < 1) = true := decide_eq_true c6
    have c6b1 : decide (l0_2.length < 1) = true := decide_eq_true (by omega)
    clear c6
    (first | rw [c6b0] | (simp only [jc, jd]; rw [c6b0]) | skip)
    have H' := kd.mk H
    clear H
    have hcz7_0 : w3.cell? ⟨gb150, 0, none⟩ = some (.slice A0_0 l0_0.length c0_0) := (kc BK150.out 0).trans rfl
    have hcz7_1 : w3.cell? ⟨gb150, 1, none⟩ = some (.slice A0_1 l0_1.length c0_1) := (kc BK150.out 1).trans rfl
    have hcz7_2 : w3.cell? ⟨gb150, 2, none⟩ = some (.slice A0_2 l0_2.length c0_2) := (kc BK150.out 2).trans rfl
    have hfz7_0 := kb BK150.out 0
    have hfz7_1 := kb BK150.out 1
    have hfz7_2 := kb BK150.out 2
    go_wp2_with (first | ((with_reducible refine jb (f := 42) rfl ?_); refine jo (some 8) rfl rfl Tryd.func42 (by kernel_rfl) rfl #[.slice A0_0 l0_0.length c0_0] rfl (by (try simp only [List.map_toArray, List.map_cons, List.map_nil]); first | done | rfl | (simp only [List.length_drop, List.length_take]; rfl)) ?_; (with_reducible refine (rnames.calls k _ _ l0_0 true _ ?side1 ?side2 A4.out).mono ?_); (case side1 => exact Kd.kx HR0_0.out HB.out); (case side2 => exact HC0_0.out); rintro e w8 ⟨rfl, hb⟩; refine ⟨_, rfl, ?_⟩; have n0_ := kd.mk (ku (g := gb150) (o := .cells #[.slice A0_0 l0_0.length c0_0, .slice A0_1 l0_1.length c0_1, .slice A0_2 l0_2.length c0_2] 26 (0, 0)) (by (with_reducible repeat (first | refine kg ?_ _ | refine kk ?_ | refine ki ?_ _)); exact BK150.out) hb); have n1_ := kd.mk (kr (by repeat (first | (with_reducible first | exact HB.out | apply ke | apply ka | apply kf | refine kj ?_ GE150.out) | exact HB.out)) hb); clear BK150; clear HB; have BK150 := n0_; have HB := n1_; clear n0_ n1_; (try clear hb); have hcz9_0 : w8.cell? ⟨gb150, 0, none⟩ = some (.slice A0_0 l0_0.length c0_0) := (kc BK150.out 0).trans rfl; have hcz9_1 : w8.cell? ⟨gb150, 1, none⟩ = some (.slice A0_1 l0_1.length c0_1) := (kc BK150.out 1).trans rfl; have hcz9_2 : w8.cell? ⟨gb150, 2, none⟩ = some (.slice A0_2 l0_2.length c0_2) := (kc BK150.out 2).trans rfl; have hfz9_0 := kb BK150.out 0; have hfz9_1 := kb BK150.out 1; have hfz9_2 := kb BK150.out 2))
    go_meet
    case rel => exact ⟨_, (true), (by first | rfl | (simp; done) | (simp [*]; done)), H', ⟨by first | omega | exact Nat.le_refl _⟩, ⟨by (with_reducible repeat (first | refine kg ?_ _ | refine kk ?_ | refine ki ?_ _)); exact BK150.out⟩, ⟨by repeat (first | (with_reducible first | exact HB.out | apply ke | apply ka | apply kf | refine kj ?_ GE150.out) | exact HB.out)⟩⟩
   ·rw [if_neg c6] at H
    have c6b0 : decide ((l0_2.length : Int) < 1) = false := decide_eq_false c6
    have c6b1 : decide (l0_2.length < 1) = false := decide_eq_false (by omega)
    clear c6
    (first | rw [c6b0] | (simp only [jc, jd]; rw [c6b0]) | skip)
    have H' := kd.mk H
    clear H
    have hcz10_0 : w3.cell? ⟨gb150, 0, none⟩ = some (.slice A0_0 l0_0.length c0_0) := (kc BK150.out 0).trans rfl
    have hcz10_1 : w3.cell? ⟨gb150, 1, none⟩ = some (.slice A0_1 l0_1.length c0_1) := (kc BK150.out 1).trans rfl
    have hcz10_2 : w3.cell? ⟨gb150, 2, none⟩ = some (.slice A0_2 l0_2.length c0_2) := (kc BK150.out 2).trans rfl
    have hfz10_0 := kb BK150.out 0
    have hfz10_1 := kb BK150.out 1
    have hfz10_2 := kb BK150.out 2
    go_wp2_with (first | ((with_reducible refine jb (f := 42) rfl ?_); refine jo (some 8) rfl rfl Tryd.func42 (by kernel_rfl) rfl #[.slice A0_0 l0_0.length c0_0] rfl (by (try simp only [List.map_toArray, List.map_cons, List.map_nil]); first | done | rfl | (simp only [List.length_drop, List.length_take]; rfl)) ?_; (with_reducible refine (rnames.calls k _ _ l0_0 true _ ?side1 ?side2 A4.out).mono ?_); (case side1 => exact Kd.kx HR0_0.out HB.out); (case side2 => exact HC0_0.out); rintro e w11 ⟨rfl, hb⟩; refine ⟨_, rfl, ?_⟩; have n0_ := kd.mk (ku (g := gb150) (o := .cells #[.slice A0_0 l0_0.length c0_0, .slice A0_1 l0_1.length c0_1, .slice A0_2 l0_2.length c0_2] 26 (0, 0)) (by (with_reducible repeat (first | refine kg ?_ _ | refine kk ?_ | refine ki ?_ _)); exact BK150.out) hb); have n1_ := kd.mk (kr (by repeat (first | (with_reducible first | exact HB.out | apply ke | apply ka | apply kf | refine kj ?_ GE150.out) | exact HB.out)) hb); clear BK150; clear HB; have BK150 := n0_; have HB := n1_; clear n0_ n1_; (try clear hb); have hcz12_0 : w11.cell? ⟨gb150, 0, none⟩ = some (.slice A0_0 l0_0.length c0_0) := (kc BK150.out 0).trans rfl; have hcz12_1 : w11.cell? ⟨gb150, 1, none⟩ = some (.slice A0_1 l0_1.length c0_1) := (kc BK150.out 1).trans rfl; have hcz12_2 : w11.cell? ⟨gb150, 2, none⟩ = some (.slice A0_2 l0_2.length c0_2) := (kc BK150.out 2).trans rfl; have hfz12_0 := kb BK150.out 0; have hfz12_1 := kb BK150.out 1; have hfz12_2 := kb BK150.out 2))
    go_meet
    case rel => exact ⟨_, (decide ((l0_2.length : Int) > 64)), (by first | rfl | (simp; done) | (simp [*]; done)), H', ⟨by first | omega | exact Nat.le_refl _⟩, ⟨by (with_reducible repeat (first | refine kg ?_ _ | refine kk ?_ | refine ki ?_ _)); exact BK150.out⟩, ⟨by repeat (first | (with_reducible first | exact HB.out | apply ke | apply ka | apply kf | refine kj ?_ GE150.out) | exact HB.out)⟩⟩
  ·replace c5 := Bool.eq_false_iff.mpr c5
   subst c5
   replace H : (rRight.j0 k true l0_0 l0_1 l0_2) = some r := by rw [if_neg (show ¬ (false = true) by decide)] at H; exact H
   have H' := kd.mk H
   clear H
   have hcz13_0 : w3.cell? ⟨gb150, 0, none⟩ = some (.slice A0_0 l0_0.length c0_0) := (kc BK150.out 0).trans rfl
   have hcz13_1 : w3.cell? ⟨gb150, 1, none⟩ = some (.slice A0_1 l0_1.length c0_1) := (kc BK150.out 1).trans rfl
   have hcz13_2 : w3.cell? ⟨gb150, 2, none⟩ = some (.slice A0_2 l0_2.length c0_2) := (kc BK150.out 2).trans rfl
   have hfz13_0 := kb BK150.out 0
   have hfz13_1 := kb BK150.out 1
   have hfz13_2 := kb BK150.out 2
   go_wp2_with (first | ((with_reducible refine jb (f := 42) rfl ?_); refine jo (some 8) rfl rfl Tryd.func42 (by kernel_rfl) rfl #[.slice A0_0 l0_0.length c0_0] rfl (by (try simp only [List.map_toArray, List.map_cons, List.map_nil]); first | done | rfl | (simp only [List.length_drop, List.length_take]; rfl)) ?_; (with_reducible refine (rnames.calls k _ _ l0_0 false _ ?side1 ?side2 A4.out).mono ?_); (case side1 => exact Kd.kx HR0_0.out HB.out); (case side2 => exact HC0_0.out); rintro e w14 ⟨rfl, hb⟩; refine ⟨_, rfl, ?_⟩; have n0_ := kd.mk (ku (g := gb150) (o := .cells #[.slice A0_0 l0_0.length c0_0, .slice A0_1 l0_1.length c0_1, .slice A0_2 l0_2.length c0_2] 26 (0, 0)) (by (with_reducible repeat (first | refine kg ?_ _ | refine kk ?_ | refine ki ?_ _)); exact BK150.out) hb); have n1_ := kd.mk (kr (by repeat (first | (with_reducible first | exact HB.out | apply ke | apply ka | apply kf | refine kj ?_ GE150.out) | exact HB.out)) hb); clear BK150; clear HB; have BK150 := n0_; have HB := n1_; clear n0_ n1_; (try clear hb)))
   go_meet
   case rel => exact ⟨_, (true), (by first | rfl | (simp; done) | (simp [*]; done)), H', ⟨by first | omega | exact Nat.le_refl _⟩, ⟨by (with_reducible repeat (first | refine kg ?_ _ | refine kk ?_ | refine ki ?_ _)); exact BK150.out⟩, ⟨by repeat (first | (with_reducible first | exact HB.out | apply ke | apply ka | apply kf | refine kj ?_ GE150.out) | exact HB.out)⟩⟩
 case rest =>
  clear HC2
  try clear c1
  try clear p2
  try clear c4
  try clear c5
  try clear c6
  try clear c6b0
  try clear c6b1
  try clear hcz10_0
  try clear hcz10_1
  try clear hcz10_2
  try clear hcz12_0
  try clear hcz12_1
  try clear hcz12_2
  try clear hcz13_0
  try clear hcz13_1
  try clear hcz13_2
  try clear hcz7_0
  try clear hcz7_1
  try clear hcz7_2
  try clear hcz9_0
  try clear hcz9_1
  try clear hcz9_2
  try clear hfz10_0
  try clear hfz10_1
  try clear hfz10_2
  try clear hfz12_0
  try clear hfz12_1
  try clear hfz12_2
  try clear hfz13_0
  try clear hfz13_1
  try clear hfz13_2
  try clear hfz7_0
  try clear hfz7_1
  try clear hfz7_2
  try clear hfz9_0
  try clear hfz9_1
  try clear hfz9_2
  obtain ⟨kq, x21_1, rfl, HA, HJ1, BK150, HB⟩ := hcut
  cases kq with
  | zero => exact absurd HA.out (by simp [rRight.j0])
  | succ kj1 =>
   have H := HA.out
   clear HA
   simp only [rRight.j0] at H
   by_cases c15 : x21_1 = true
   ·subst c15
    replace H : (some false) = some r := by rw [if_pos rfl] at H; exact H
    obtain rfl := Option.some.inj H
    go_wp2
    go_ret
    exact ⟨by first | rfl | (simp [kp, ko] <;> rfl) | (simp [*, kp, ko] <;> rfl), by repeat (first | (with_reducible first | exact HB.out | apply ke | apply ka | apply kf | refine kj ?_ GE150.out) | exact HB.out)⟩
   ·replace c15 := Bool.eq_false_iff.mpr c15
    subst c15
    replace H : (rRight.l0 kj1 0 l0_0 l0_1 l0_2) = some r := by rw [if_neg (show ¬ (false = true) by decide)] at H; exact H
    have H' := kd.mk H
    clear H
    go_wp2
    go_loopg [3] kj1 (fun kq v3 w' => ∃ (x3_2 : Int), v3 = .int .i64 x3_2 ∧ kd (rRight.l0 kq x3_2 l0_0 l0_1 l0_2 = some r) ∧ kd (kq ≤ kj1) ∧ kd (w'.heap[gb150]? = some (.cells #[(.slice A0_0 l0_0.length c0_0), (.slice A0_1 l0_1.length c0_1), (.slice A0_2 l0_2.length c0_2)] 26 (0, 0))) ∧ kd (Below w.heap.size w w'))
    case atStart => exact ⟨(0), (by first | rfl | (simp; done) | (simp [*]; done)), H', ⟨Nat.le_refl _⟩, ⟨by (with_reducible repeat (first | refine kg ?_ _ | refine kk ?_ | refine ki ?_ _)); exact BK150.out⟩, ⟨by repeat (first | (with_reducible first | exact HB.out | apply ke | apply ka | apply kf | refine kj ?_ GE150.out) | exact HB.out)⟩⟩
    case round =>
     clear H'
     try clear c1
     try clear p2
     try clear c4
     try clear c5
     try clear c6
     try clear c6b0
     try clear c6b1
     try clear c15
     try clear hcz10_0
     try clear hcz10_1
     try clear hcz10_2
     try clear hcz12_0
     try clear hcz12_1
     try clear hcz12_2
     try clear hcz13_0
     try clear hcz13_1
     try clear hcz13_2
     try clear hcz7_0
     try clear hcz7_1
     try clear hcz7_2
     try clear hcz9_0
     try clear hcz9_1
     try clear hcz9_2
     try clear hfz10_0
     try clear hfz10_1
     try clear hfz10_2
     try clear hfz12_0
     try clear hfz12_1
     try clear hfz12_2
     try clear hfz13_0
     try clear hfz13_1
     try clear hfz13_2
     try clear hfz7_0
     try clear hfz7_1
     try clear hfz7_2
     try clear hfz9_0
     try clear hfz9_1
     try clear hfz9_2
     try clear p2
     obtain ⟨x3_2, rfl, HA, HK2, BK150, HB⟩ := hrel
     cases gk with
     | zero => exact absurd HA.out (by simp [rRight.l0])
     | succ k2 =>
      have H := HA.out
      clear HA
      simp only [rRight.l0] at H
      by_cases c16 : x3_2 < (l0_1.length : Int)
      ·rw [if_pos c16] at H
       have c16b0 : decide (x3_2 < (l0_1.length : Int)) = true := decide_eq_true c16
       clear c16
       by_cases c17 : 0 ≤ x3_2
       ·rw [if_pos c17] at H
        have c17b0 : decide (0 ≤ x3_2) = true := decide_eq_true c17
        clear c17
        replace H := Option.bind_eq_some_iff.mp H
        obtain ⟨t153, A180, H⟩ := H
        replace H : (if t153 = true then (if ((jn l0_1 x3_2).f1) < 1 then (some false) else (if ((jn l0_1 x3_2).f1) > 4096 then (some false) else (rRight.l0 k2 (wrap64 (x3_2 + 1)) l0_0 l0_1 l0_2))) else (some false)) = some r := H
        have A18 := kd.mk A180
        clear A180
        by_cases c19 : t153 = true
        ·subst c19
         replace H : (if ((jn l0_1 x3_2).f1) < 1 then (some false) else (if ((jn l0_1 x3_2).f1) > 4096 then (some false) else (rRight.l0 k2 (wrap64 (x3_2 + 1)) l0_0 l0_1 l0_2))) = some r := by rw [if_pos rfl] at H; exact H
         by_cases c20 : ((jn l0_1 x3_2).f1) < 1
         ·rw [if_pos c20] at H
          have c20b0 : decide (((jn l0_1 x3_2).f1) < 1) = true := decide_eq_true c20
          clear c20
          obtain rfl := Option.some.inj H
          have hcz21_0 : wr.cell? ⟨gb150, 0, none⟩ = some (.slice A0_0 l0_0.length c0_0) := (kc BK150.out 0).trans rfl
          have hcz21_1 : wr.cell? ⟨gb150, 1, none⟩ = some (.slice A0_1 l0_1.length c0_1) := (kc BK150.out 1).trans rfl
          have hcz21_2 : wr.cell? ⟨gb150, 2, none⟩ = some (.slice A0_2 l0_2.length c0_2) := (kc BK150.out 2).trans rfl
          have hfz21_0 := kb BK150.out 0
          have hfz21_1 := kb BK150.out 1
          have hfz21_2 := kb BK150.out 2
          have p152 : 0 ≤ (x3_2 : Int) := of_decide_eq_true (by first | (with_reducible assumption) | assumption)
          have q152 : x3_2 < (l0_1.length : Int) := of_decide_eq_true (by first | (with_reducible assumption) | assumption)
          obtain ⟨ad152, e152, hx152_0, hx152_1⟩ := at_T59 HR0_1.out x3_2 p152 q152
          cases e152
          replace hx152_0 := (HB.out.cell (World.block_lt_of_cell? w _ hx152_0)).trans hx152_0
          replace hx152_1 := (HB.out.cell (World.block_lt_of_cell? w _ hx152_1)).trans hx152_1
          replace p152 := eq_true p152
          replace q152 := eq_true q152
          go_wp2_with (first | ((with_reducible refine jb (f := 43) rfl ?_); refine jo (some 35) rfl rfl Tryd.func43 (by kernel_rfl) rfl #[.string ((jn l0_1 x3_2).f0)] rfl (by (try simp only [List.map_toArray, List.map_cons, List.map_nil]); first | done | rfl | (simp only [List.length_drop, List.length_take]; rfl)) ?_; (with_reducible refine (rIsName.calls k2 ((jn l0_1 x3_2).f0) true _ A18.out).mono ?_); rintro e w22 ⟨rfl, hb⟩; refine ⟨_, rfl, ?_⟩; have n0_ := kd.mk (ku (g := gb150) (o := .cells #[.slice A0_0 l0_0.length c0_0, .slice (some ad152) l0_1.length c0_1, .slice A0_2 l0_2.length c0_2] 26 (0, 0)) (by (with_reducible repeat (first | refine kg ?_ _ | refine kk ?_ | refine ki ?_ _)); exact BK150.out) hb); have n1_ := kd.mk (kr (by repeat (first | (with_reducible first | exact HB.out | apply ke | apply ka | apply kf | refine kj ?_ GE150.out) | exact HB.out)) hb); clear BK150; clear HB; have BK150 := n0_; have HB := n1_; clear n0_ n1_; (try clear hb); have hcz23_0 : w22.cell? ⟨gb150, 0, none⟩ = some (.slice A0_0 l0_0.length c0_0) := (kc BK150.out 0).trans rfl; have hcz23_1 : w22.cell? ⟨gb150, 1, none⟩ = some (.slice (some ad152) l0_1.length c0_1) := (kc BK150.out 1).trans rfl; have hcz23_2 : w22.cell? ⟨gb150, 2, none⟩ = some (.slice A0_2 l0_2.length c0_2) := (kc BK150.out 2).trans rfl; have hfz23_0 := kb BK150.out 0; have hfz23_1 := kb BK150.out 1; have hfz23_2 := kb BK150.out 2; have p154 : 0 ≤ (x3_2 : Int) := of_decide_eq_true (by first | (with_reducible assumption) | assumption); have q154 : x3_2 < (l0_1.length : Int) := of_decide_eq_true (by first | (with_reducible assumption) | assumption); obtain ⟨ad154, e154, hx154_0, hx154_1⟩ := at_T59 HR0_1.out x3_2 p154 q154; obtain rfl : ad152 = ad154 := (by injection e154); replace hx154_0 := (HB.out.cell (World.block_lt_of_cell? w _ hx154_0)).trans hx154_0; replace hx154_1 := (HB.out.cell (World.block_lt_of_cell? w _ hx154_1)).trans hx154_1; replace p154 := eq_true p154; replace q154 := eq_true q154))
          go_ret
          exact ⟨by first | rfl | (simp [kp, ko] <;> rfl) | (simp [*, kp, ko] <;> rfl), by repeat (first | (with_reducible first | exact HB.out | apply ke | apply ka | apply kf | refine kj ?_ GE150.out) | exact HB.out)⟩
         ·rw [if_neg c20] at H
          have c20b0 : decide (((jn l0_1 x3_2).f1) < 1) = false := decide_eq_false c20
          clear c20
          by_cases c24 : ((jn l0_1 x3_2).f1) > 4096
          ·rw [if_pos c24] at H
           have c24b0 : decide (4096 < ((jn l0_1 x3_2).f1)) = true := decide_eq_true c24
           clear c24
           obtain rfl := Option.some.inj H
           have hcz25_0 : wr.cell? ⟨gb150, 0, none⟩ = some (.slice A0_0 l0_0.length c0_0) := (kc BK150.out 0).trans rfl
           have hcz25_1 : wr.cell? ⟨gb150, 1, none⟩ = some (.slice A0_1 l0_1.length c0_1) := (kc BK150.out 1).trans rfl
           have hcz25_2 : wr.cell? ⟨gb150, 2, none⟩ = some (.slice A0_2 l0_2.length c0_2) := (kc BK150.out 2).trans rfl
           have hfz25_0 := kb BK150.out 0
           have hfz25_1 := kb BK150.out 1
           have hfz25_2 := kb BK150.out 2
           have p152 : 0 ≤ (x3_2 : Int) := of_decide_eq_true (by first | (with_reducible assumption) | assumption)
           have q152 : x3_2 < (l0_1.length : Int) := of_decide_eq_true (by first | (with_reducible assumption) | assumption)
           obtain ⟨ad152, e152, hx152_0, hx152_1⟩ := at_T59 HR0_1.out x3_2 p152 q152
           cases e152
           replace hx152_0 := (HB.out.cell (World.block_lt_of_cell? w _ hx152_0)).trans hx152_0
           replace hx152_1 := (HB.out.cell (World.block_lt_of_cell? w _ hx152_1)).trans hx152_1
           replace p152 := eq_true p152
           replace q152 := eq_true q152
           go_wp2_with (first | ((with_reducible refine jb (f := 43) rfl ?_); refine jo (some 35) rfl rfl Tryd.func43 (by kernel_rfl) rfl #[.string ((jn l0_1 x3_2).f0)] rfl (by (try simp only [List.map_toArray, List.map_cons, List.map_nil]); first | done | rfl | (simp only [List.length_drop, List.length_take]; rfl)) ?_; (with_reducible refine (rIsName.calls k2 ((jn l0_1 x3_2).f0) true _ A18.out).mono ?_); rintro e w26 ⟨rfl, hb⟩; refine ⟨_, rfl, ?_⟩; have n0_ := kd.mk (ku (g := gb150) (o := .cells #[.slice A0_0 l0_0.length c0_0, .slice (some ad152) l0_1.length c0_1, .slice A0_2 l0_2.length c0_2] 26 (0, 0)) (by (with_reducible repeat (first | refine kg ?_ _ | refine kk ?_ | refine ki ?_ _)); exact BK150.out) hb); have n1_ := kd.mk (kr (by repeat (first | (with_reducible first | exact HB.out | apply ke | apply ka | apply kf | refine kj ?_ GE150.out) | exact HB.out)) hb); clear BK150; clear HB; have BK150 := n0_; have HB := n1_; clear n0_ n1_; (try clear hb); have hcz27_0 : w26.cell? ⟨gb150, 0, none⟩ = some (.slice A0_0 l0_0.length c0_0) := (kc BK150.out 0).trans rfl; have hcz27_1 : w26.cell? ⟨gb150, 1, none⟩ = some (.slice (some ad152) l0_1.length c0_1) := (kc BK150.out 1).trans rfl; have hcz27_2 : w26.cell? ⟨gb150, 2, none⟩ = some (.slice A0_2 l0_2.length c0_2) := (kc BK150.out 2).trans rfl; have hfz27_0 := kb BK150.out 0; have hfz27_1 := kb BK150.out 1; have hfz27_2 := kb BK150.out 2; have p154 : 0 ≤ (x3_2 : Int) := of_decide_eq_true (by first | (with_reducible assumption) | assumption); have q154 : x3_2 < (l0_1.length : Int) := of_decide_eq_true (by first | (with_reducible assumption) | assumption); obtain ⟨ad154, e154, hx154_0, hx154_1⟩ := at_T59 HR0_1.out x3_2 p154 q154; obtain rfl : ad152 = ad154 := (by injection e154); replace hx154_0 := (HB.out.cell (World.block_lt_of_cell? w _ hx154_0)).trans hx154_0; replace hx154_1 := (HB.out.cell (World.block_lt_of_cell? w _ hx154_1)).trans hx154_1; replace p154 := eq_true p154; replace q154 := eq_true q154; have p155 : 0 ≤ (x3_2 : Int) := of_decide_eq_true (by first | (with_reducible assumption) | assumption); have q155 : x3_2 < (l0_1.length : Int) := of_decide_eq_true (by first | (with_reducible assumption) | assumption); obtain ⟨ad155, e155, hx155_0, hx155_1⟩ := at_T59 HR0_1.out x3_2 p155 q155; obtain rfl : ad152 = ad155 := (by injection e155); replace hx155_0 := (HB.out.cell (World.block_lt_of_cell? w _ hx155_0)).trans hx155_0; replace hx155_1 := (HB.out.cell (World.block_lt_of_cell? w _ hx155_1)).trans hx155_1; replace p155 := eq_true p155; replace q155 := eq_true q155))
           go_ret
           exact ⟨by first | rfl | (simp [kp, ko] <;> rfl) | (simp [*, kp, ko] <;> rfl), by repeat (first | (with_reducible first | exact HB.out | apply ke | apply ka | apply kf | refine kj ?_ GE150.out) | exact HB.out)⟩
          ·rw [if_neg c24] at H
           have c24b0 : decide (4096 < ((jn l0_1 x3_2).f1)) = false := decide_eq_false c24
           clear c24
           have H' := kd.mk H
           clear H
           have hcz28_0 : wr.cell? ⟨gb150, 0, none⟩ = some (.slice A0_0 l0_0.length c0_0) := (kc BK150.out 0).trans rfl
           have hcz28_1 : wr.cell? ⟨gb150, 1, none⟩ = some (.slice A0_1 l0_1.length c0_1) := (kc BK150.out 1).trans rfl
           have hcz28_2 : wr.cell? ⟨gb150, 2, none⟩ = some (.slice A0_2 l0_2.length c0_2) := (kc BK150.out 2).trans rfl
           have hfz28_0 := kb BK150.out 0
           have hfz28_1 := kb BK150.out 1
           have hfz28_2 := kb BK150.out 2
           have p152 : 0 ≤ (x3_2 : Int) := of_decide_eq_true (by first | (with_reducible assumption) | assumption)
           have q152 : x3_2 < (l0_1.length : Int) := of_decide_eq_true (by first | (with_reducible assumption) | assumption)
           obtain ⟨ad152, e152, hx152_0, hx152_1⟩ := at_T59 HR0_1.out x3_2 p152 q152
           cases e152
           replace hx152_0 := (HB.out.cell (World.block_lt_of_cell? w _ hx152_0)).trans hx152_0
           replace hx152_1 := (HB.out.cell (World.block_lt_of_cell? w _ hx152_1)).trans hx152_1
           replace p152 := eq_true p152
           replace q152 := eq_true q152
           go_wp2_with (first | ((with_reducible refine jb (f := 43) rfl ?_); refine jo (some 35) rfl rfl Tryd.func43 (by kernel_rfl) rfl #[.string ((jn l0_1 x3_2).f0)] rfl (by (try simp only [List.map_toArray, List.map_cons, List.map_nil]); first | done | rfl | (simp only [List.length_drop, List.length_take]; rfl)) ?_; (with_reducible refine (rIsName.calls k2 ((jn l0_1 x3_2).f0) true _ A18.out).mono ?_); rintro e w29 ⟨rfl, hb⟩; refine ⟨_, rfl, ?_⟩; have n0_ := kd.mk (ku (g := gb150) (o := .cells #[.slice A0_0 l0_0.length c0_0, .slice (some ad152) l0_1.length c0_1, .slice A0_2 l0_2.length c0_2] 26 (0, 0)) (by (with_reducible repeat (first | refine kg ?_ _ | refine kk ?_ | refine ki ?_ _)); exact BK150.out) hb); have n1_ := kd.mk (kr (by repeat (first | (with_reducible first | exact HB.out | apply ke | apply ka | apply kf | refine kj ?_ GE150.out) | exact HB.out)) hb); clear BK150; clear HB; have BK150 := n0_; have HB := n1_; clear n0_ n1_; (try clear hb); have hcz30_0 : w29.cell? ⟨gb150, 0, none⟩ = some (.slice A0_0 l0_0.length c0_0) := (kc BK150.out 0).trans rfl; have hcz30_1 : w29.cell? ⟨gb150, 1, none⟩ = some (.slice (some ad152) l0_1.length c0_1) := (kc BK150.out 1).trans rfl; have hcz30_2 : w29.cell? ⟨gb150, 2, none⟩ = some (.slice A0_2 l0_2.length c0_2) := (kc BK150.out 2).trans rfl; have hfz30_0 := kb BK150.out 0; have hfz30_1 := kb BK150.out 1; have hfz30_2 := kb BK150.out 2; have p154 : 0 ≤ (x3_2 : Int) := of_decide_eq_true (by first | (with_reducible assumption) | assumption); have q154 : x3_2 < (l0_1.length : Int) := of_decide_eq_true (by first | (with_reducible assumption) | assumption); obtain ⟨ad154, e154, hx154_0, hx154_1⟩ := at_T59 HR0_1.out x3_2 p154 q154; obtain rfl : ad152 = ad154 := (by injection e154); replace hx154_0 := (HB.out.cell (World.block_lt_of_cell? w _ hx154_0)).trans hx154_0; replace hx154_1 := (HB.out.cell (World.block_lt_of_cell? w _ hx154_1)).trans hx154_1; replace p154 := eq_true p154; replace q154 := eq_true q154; have p155 : 0 ≤ (x3_2 : Int) := of_decide_eq_true (by first | (with_reducible assumption) | assumption); have q155 : x3_2 < (l0_1.length : Int) := of_decide_eq_true (by first | (with_reducible assumption) | assumption); obtain ⟨ad155, e155, hx155_0, hx155_1⟩ := at_T59 HR0_1.out x3_2 p155 q155; obtain rfl : ad152 = ad155 := (by injection e155); replace hx155_0 := (HB.out.cell (World.block_lt_of_cell? w _ hx155_0)).trans hx155_0; replace hx155_1 := (HB.out.cell (World.block_lt_of_cell? w _ hx155_1)).trans hx155_1; replace p155 := eq_true p155; replace q155 := eq_true q155))
           go_roundg k2
           case measure => have := HJ1.out; have := HK2.out; omega
           case rel => exact ⟨(wrap64 (x3_2 + 1)), (by first | rfl | (simp; done) | (simp [*]; done)), H', ⟨by have := HJ1.out; have := HK2.out; omega⟩, ⟨by (with_reducible repeat (first | refine kg ?_ _ | refine kk ?_ | refine ki ?_ _)); exact BK150.out⟩, ⟨by repeat (first | (with_reducible first | exact HB.out | apply ke | apply ka | apply kf | refine kj ?_ GE150.out) | exact HB.out)⟩⟩
        ·replace c19 := Bool.eq_false_iff.mpr c19
         subst c19
         replace H : (some false) = some r := by rw [if_neg (show ¬ (false = true) by decide)] at H; exact H
         obtain rfl := Option.some.inj H
         have hcz31_0 : wr.cell? ⟨gb150, 0, none⟩ = some (.slice A0_0 l0_0.length c0_0) := (kc BK150.out 0).trans rfl
         have hcz31_1 : wr.cell? ⟨gb150, 1, none⟩ = some (.slice A0_1 l0_1.length c0_1) := (kc BK150.out 1).trans rfl
         have hcz31_2 : wr.cell? ⟨gb150, 2, none⟩ = some (.slice A0_2 l0_2.length c0_2) := (kc BK150.out 2).trans rfl
         have hfz31_0 := kb BK150.out 0
         have hfz31_1 := kb BK150.out 1
         have hfz31_2 := kb BK150.out 2
         have p152 : 0 ≤ (x3_2 : Int) := of_decide_eq_true (by first | (with_reducible assumption) | assumption)
         have q152 : x3_2 < (l0_1.length : Int) := of_decide_eq_true (by first | (with_reducible assumption) | assumption)
         obtain ⟨ad152, e152, hx152_0, hx152_1⟩ := at_T59 HR0_1.out x3_2 p152 q152
         cases e152
         replace hx152_0 := (HB.out.cell (World.block_lt_of_cell? w _ hx152_0)).trans hx152_0
         replace hx152_1 := (HB.out.cell (World.block_lt_of_cell? w _ hx152_1)).trans hx152_1
         replace p152 := eq_true p152
         replace q152 := eq_true q152
         go_wp2_with (first | ((with_reducible refine jb (f := 43) rfl ?_); refine jo (some 35) rfl rfl Tryd.func43 (by kernel_rfl) rfl #[.string ((jn l0_1 x3_2).f0)] rfl (by (try simp only [List.map_toArray, List.map_cons, List.map_nil]); first | done | rfl | (simp only [List.length_drop, List.length_take]; rfl)) ?_; (with_reducible refine (rIsName.calls k2 ((jn l0_1 x3_2).f0) false _ A18.out).mono ?_); rintro e w32 ⟨rfl, hb⟩; refine ⟨_, rfl, ?_⟩; have n0_ := kd.mk (ku (g := gb150) (o := .cells #[.slice A0_0 l0_0.length c0_0, .slice (some ad152) l0_1.length c0_1, .slice A0_2 l0_2.length c0_2] 26 (0, 0)) (by (with_reducible repeat (first | refine kg ?_ _ | refine kk ?_ | refine ki ?_ _)); exact BK150.out) hb); have n1_ := kd.mk (kr (by repeat (first | (with_reducible first | exact HB.out | apply ke | apply ka | apply kf | refine kj ?_ GE150.out) | exact HB.out)) hb); clear BK150; clear HB; have BK150 := n0_; have HB := n1_; clear n0_ n1_; (try clear hb)))
         go_ret
         exact ⟨by first | rfl | (simp [kp, ko] <;> rfl) | (simp [*, kp, ko] <;> rfl), by repeat (first | (with_reducible first | exact HB.out | apply ke | apply ka | apply kf | refine kj ?_ GE150.out) | exact HB.out)⟩
       ·rw [if_neg c17] at H
        exact absurd H (by simp)
      ·rw [if_neg c16] at H
       have c16b0 : decide (x3_2 < (l0_1.length : Int)) = false := decide_eq_false c16
       clear c16
       have H' := kd.mk H
       clear H
       have hcz33_0 : wr.cell? ⟨gb150, 0, none⟩ = some (.slice A0_0 l0_0.length c0_0) := (kc BK150.out 0).trans rfl
       have hcz33_1 : wr.cell? ⟨gb150, 1, none⟩ = some (.slice A0_1 l0_1.length c0_1) := (kc BK150.out 1).trans rfl
       have hcz33_2 : wr.cell? ⟨gb150, 2, none⟩ = some (.slice A0_2 l0_2.length c0_2) := (kc BK150.out 2).trans rfl
       have hfz33_0 := kb BK150.out 0
       have hfz33_1 := kb BK150.out 1
       have hfz33_2 := kb BK150.out 2
       go_wp2
       go_loopg [4] k2 (fun kq v4 w' => ∃ (x4_3 : Int), v4 = .int .i64 x4_3 ∧ kd (rRight.l1 kq x4_3 l0_0 l0_1 l0_2 = some r) ∧ kd (kq ≤ k2) ∧ kd (w'.heap[gb150]? = some (.cells #[(.slice A0_0 l0_0.length c0_0), (.slice A0_1 l0_1.length c0_1), (.slice A0_2 l0_2.length c0_2)] 26 (0, 0))) ∧ kd (Below w.heap.size w w'))
       case atStart => exact ⟨(0), (by first | rfl | (simp; done) | (simp [*]; done)), H', ⟨Nat.le_refl _⟩, ⟨by (with_reducible repeat (first | refine kg ?_ _ | refine kk ?_ | refine ki ?_ _)); exact BK150.out⟩, ⟨by repeat (first | (with_reducible first | exact HB.out | apply ke | apply ka | apply kf | refine kj ?_ GE150.out) | exact HB.out)⟩⟩
       case round =>
        clear H'
        try clear c1
        try clear p1
        try clear q1
        try clear hx1
        try clear c2
        try clear p2
        try clear c4
        try clear c5
        try clear c6
        try clear c6b0
        try clear c6b1
        try clear p6
        try clear c15
        try clear p15
        try clear q15
        try clear hx15
        try clear c16
        try clear c16b0
        try clear c17
        try clear c17b0
        try clear c19
        try clear c20
        try clear c20b0
        try clear c24
        try clear c24b0
        try clear hcz10_0
        try clear hcz10_1
        try clear hcz10_2
        try clear hcz12_0
        try clear hcz12_1
        try clear hcz12_2
        try clear hcz13_0
        try clear hcz13_1
        try clear hcz13_2
        try clear hcz21_0
        try clear hcz21_1
        try clear hcz21_2
        try clear hcz23_0
        try clear hcz23_1
        try clear hcz23_2
        try clear hcz25_0
        try clear hcz25_1
        try clear hcz25_2
        try clear hcz27_0
        try clear hcz27_1
        try clear hcz27_2
        try clear hcz28_0
        try clear hcz28_1
        try clear hcz28_2
        try clear hcz30_0
        try clear hcz30_1
        try clear hcz30_2
        try clear hcz31_0
        try clear hcz31_1
        try clear hcz31_2
        try clear hcz33_0
        try clear hcz33_1
        try clear hcz33_2
        try clear hcz7_0
        try clear hcz7_1
        try clear hcz7_2
        try clear hcz9_0
        try clear hcz9_1
        try clear hcz9_2
        try clear hfz10_0
        try clear hfz10_1
        try clear hfz10_2
        try clear hfz12_0
        try clear hfz12_1
        try clear hfz12_2
        try clear hfz13_0
        try clear hfz13_1
        try clear hfz13_2
        try clear hfz21_0
        try clear hfz21_1
        try clear hfz21_2
        try clear hfz23_0
        try clear hfz23_1
        try clear hfz23_2
        try clear hfz25_0
        try clear hfz25_1
        try clear hfz25_2
        try clear hfz27_0
        try clear hfz27_1
        try clear hfz27_2
        try clear hfz28_0
        try clear hfz28_1
        try clear hfz28_2
        try clear hfz30_0
        try clear hfz30_1
        try clear hfz30_2
        try clear hfz31_0
        try clear hfz31_1
        try clear hfz31_2
        try clear hfz33_0
        try clear hfz33_1
        try clear hfz33_2
        try clear hfz7_0
        try clear hfz7_1
        try clear hfz7_2
        try clear hfz9_0
        try clear hfz9_1
        try clear hfz9_2
        try clear hx152_0
        try clear hx152_1
        try clear hx154_0
        try clear hx154_1
        try clear hx155_0
        try clear hx155_1
        try clear p152
        try clear p154
        try clear p155
        try clear p2
        try clear q152
        try clear q154
        try clear q155
        obtain ⟨x4_3, rfl, HA, HK3, BK150, HB⟩ := hrel
        cases gk with
        | zero => exact absurd HA.out (by simp [rRight.l1])
        | succ k3 =>
         have H := HA.out
         clear HA
         simp only [rRight.l1] at H
         by_cases c34 : x4_3 < (l0_2.length : Int)
         ·rw [if_pos c34] at H
          have c34b0 : decide (x4_3 < (l0_2.length : Int)) = true := decide_eq_true c34
          clear c34
          by_cases c35 : 0 ≤ x4_3
          ·rw [if_pos c35] at H
           have c35b0 : decide (0 ≤ x4_3) = true := decide_eq_true c35
           clear c35
           replace H := Option.bind_eq_some_iff.mp H
           obtain ⟨t158, A360, H⟩ := H
           replace H : (if t158 = true then (if (((km l0_2 x4_3).f1).length : Int) > 6 then (some false) else ((rnames.f k3 ((km l0_2 x4_3).f1)).bind fun t159 => (if t159 = true then ((rnames.f k3 ((km l0_2 x4_3).f2)).bind fun t160 => (if t160 = true then ((rRightStmts.f k3 ((km l0_2 x4_3).f4) 1).bind fun t161 => (if t161 = true then (rRight.l1 k3 (wrap64 (x4_3 + 1)) l0_0 l0_1 l0_2) else (some false))) else (some false))) else (some false)))) else (some false)) = some r := H
           have A36 := kd.mk A360
           clear A360
           by_cases c37 : t158 = true
           ·subst c37
            replace H : (if (((km l0_2 x4_3).f1).length : Int) > 6 then (some false) else ((rnames.f k3 ((km l0_2 x4_3).f1)).bind fun t159 => (if t159 = true then ((rnames.f k3 ((km l0_2 x4_3).f2)).bind fun t160 => (if t160 = true then ((rRightStmts.f k3 ((km l0_2 x4_3).f4) 1).bind fun t161 => (if t161 = true then (rRight.l1 k3 (wrap64 (x4_3 + 1)) l0_0 l0_1 l0_2) else (some false))) else (some false))) else (some false)))) = some r := by rw [if_pos rfl] at H; exact H
            by_cases c38 : (((km l0_2 x4_3).f1).length : Int) > 6
            ·rw [if_pos c38] at H
             have c38b0 : decide (6 < (((km l0_2 x4_3).f1).length : Int)) = true := decide_eq_true c38
             have c38b1 : decide (6 < ((km l0_2 x4_3).f1).length) = true := decide_eq_true (by omega)
             clear c38
             obtain rfl := Option.some.inj H
             have hcz39_0 : wr.cell? ⟨gb150, 0, none⟩ = some (.slice A0_0 l0_0.length c0_0) := (kc BK150.out 0).trans rfl
             have hcz39_1 : wr.cell? ⟨gb150, 1, none⟩ = some (.slice A0_1 l0_1.length c0_1) := (kc BK150.out 1).trans rfl
             have hcz39_2 : wr.cell? ⟨gb150, 2, none⟩ = some (.slice A0_2 l0_2.length c0_2) := (kc BK150.out 2).trans rfl
             have hfz39_0 := kb BK150.out 0
             have hfz39_1 := kb BK150.out 1
             have hfz39_2 := kb BK150.out 2
             have p156 : 0 ≤ (x4_3 : Int) := of_decide_eq_true (by first | (with_reducible assumption) | assumption)
             have q156 : x4_3 < (l0_2.length : Int) := of_decide_eq_true (by first | (with_reducible assumption) | assumption)
             obtain ⟨ad156, A156_1, c156_1, A156_2, c156_2, A156_4, c156_4, e156, hx156_0, hx156_1, hx156_2, hx156_3, hx156_4, hl156_1, hi156_1, hl156_2, hi156_2, hl156_4, hi156_4⟩ := at_T45 HR0_2.out x4_3 p156 q156
             cases e156
             replace hx156_0 := (HB.out.cell (World.block_lt_of_cell? w _ hx156_0)).trans hx156_0
             replace hx156_1 := (HB.out.cell (World.block_lt_of_cell? w _ hx156_1)).trans hx156_1
             replace hx156_2 := (HB.out.cell (World.block_lt_of_cell? w _ hx156_2)).trans hx156_2
             replace hx156_3 := (HB.out.cell (World.block_lt_of_cell? w _ hx156_3)).trans hx156_3
             replace hx156_4 := (HB.out.cell (World.block_lt_of_cell? w _ hx156_4)).trans hx156_4
             have HR156_1 := kd.mk hi156_1
             have HC156_1 := kd.mk hl156_1
             clear hi156_1 hl156_1
             have HR156_2 := kd.mk hi156_2
             have HC156_2 := kd.mk hl156_2
             clear hi156_2 hl156_2
             have HR156_4 := kd.mk hi156_4
             have HC156_4 := kd.mk hl156_4
             clear hi156_4 hl156_4
             replace p156 := eq_true p156
             replace q156 := eq_true q156
             go_wp2_with (first | ((with_reducible refine ja (N := 5) rfl ?_); (try (refine gate_guard (by rfl) ?_; dsimp only)); refine kz ?hg (N := 5) ?hd (cs := #[.string (⟨#[]⟩ : ByteArray), .slice none 0 0, .slice none 0 0, .bool false, .slice none 0 0]) (t := 45) ?hr ?_; (case hd => rfl); (case hg => rfl); (case hr => first | (go_simp; done) | (go_simp; rfl)); intro gb157 hg w40 hbox hb; have n0_ := kd.mk (ku (g := gb150) (o := .cells #[.slice A0_0 l0_0.length c0_0, .slice A0_1 l0_1.length c0_1, .slice (some ad156) l0_2.length c0_2] 26 (0, 0)) (by (with_reducible repeat (first | refine kg ?_ _ | refine kk ?_ | refine ki ?_ _)); exact BK150.out) hb); have n1_ := kd.mk (kr (by repeat (first | (with_reducible first | exact HB.out | apply ke | apply ka | apply kf | refine kj ?_ GE150.out) | exact HB.out)) hb); have n2_ := kd.mk (hbox); have n3_ := kd.mk ((by rw [hg]; exact (ks (by repeat (first | (with_reducible first | exact HB.out | apply ke | apply ka | apply kf | refine kj ?_ GE150.out) | exact HB.out))) : w.heap.size ≤ gb157)); have n4_ := kd.mk ((by rw [hg]; exact (ks (by repeat (first | (with_reducible first | exact HB.out | apply ke | apply ka | apply kf | refine kj ?_ GE150.out) | exact HB.out))) : w.heap.size ≤ gb157)); have n5_ := kd.mk ((by rw [hg]; exact Nat.ne_of_lt (jk (g := gb150) (o := .cells #[.slice A0_0 l0_0.length c0_0, .slice A0_1 l0_1.length c0_1, .slice (some ad156) l0_2.length c0_2] 26 (0, 0)) (by (with_reducible repeat (first | refine kg ?_ _ | refine kk ?_ | refine ki ?_ _)); exact BK150.out)) : gb150 ≠ gb157)); have n6_ := kd.mk ((by rw [hg]; exact Nat.ne_of_gt (jk (g := gb150) (o := .cells #[.slice A0_0 l0_0.length c0_0, .slice A0_1 l0_1.length c0_1, .slice (some ad156) l0_2.length c0_2] 26 (0, 0)) (by (with_reducible repeat (first | refine kg ?_ _ | refine kk ?_ | refine ki ?_ _)); exact BK150.out)) : gb157 ≠ gb150)); clear BK150; clear HB; have BK150 := n0_; have HB := n1_; have BK157 := n2_; have GW157 := n3_; have GE157 := n4_; have NB150_157 := n5_; have NB157_150 := n6_; clear n0_ n1_ n2_ n3_ n4_ n5_ n6_; clear hb hbox hg; have hnb41 := NB157_150.out; have hnc41 := NB150_157.out; have hcz42_0 : w40.cell? ⟨gb157, 0, none⟩ = some (.string (⟨#[]⟩ : ByteArray)) := (kc BK157.out 0).trans rfl; have hcz42_1 : w40.cell? ⟨gb157, 1, none⟩ = some (.slice none 0 0) := (kc BK157.out 1).trans rfl; have hcz42_2 : w40.cell? ⟨gb157, 2, none⟩ = some (.slice none 0 0) := (kc BK157.out 2).trans rfl; have hcz42_3 : w40.cell? ⟨gb157, 3, none⟩ = some (.bool false) := (kc BK157.out 3).trans rfl; have hcz42_4 : w40.cell? ⟨gb157, 4, none⟩ = some (.slice none 0 0) := (kc BK157.out 4).trans rfl; have hfz42_0 := kb BK157.out 0; have hfz42_1 := kb BK157.out 1; have hfz42_2 := kb BK157.out 2; have hfz42_3 := kb BK157.out 3; have hfz42_4 := kb BK157.out 4) | ((with_reducible refine jb (f := 43) rfl ?_); refine jo (some 69) rfl rfl Tryd.func43 (by kernel_rfl) rfl #[.string ((km l0_2 x4_3).f0)] rfl (by (try simp only [List.map_toArray, List.map_cons, List.map_nil]); first | done | rfl | (simp only [List.length_drop, List.length_take]; rfl)) ?_; (with_reducible refine (rIsName.calls k3 ((km l0_2 x4_3).f0) true _ A36.out).mono ?_); rintro e w43 ⟨rfl, hb⟩; refine ⟨_, rfl, ?_⟩; have n0_ := kd.mk (ku (g := gb150) (o := .cells #[.slice A0_0 l0_0.length c0_0, .slice A0_1 l0_1.length c0_1, .slice (some ad156) l0_2.length c0_2] 26 (0, 0)) (by (with_reducible repeat (first | refine kg ?_ _ | refine kk ?_ | refine ki ?_ _)); refine ji ?_ NB150_157.out _; (with_reducible repeat (first | refine kg ?_ _ | refine kk ?_ | refine ki ?_ _)); refine ji ?_ NB150_157.out _; (with_reducible repeat (first | refine kg ?_ _ | refine kk ?_ | refine ki ?_ _)); refine ji ?_ NB150_157.out _; (with_reducible repeat (first | refine kg ?_ _ | refine kk ?_ | refine ki ?_ _)); refine ji ?_ NB150_157.out _; (with_reducible repeat (first | refine kg ?_ _ | refine kk ?_ | refine ki ?_ _)); refine ji ?_ NB150_157.out _; (with_reducible repeat (first | refine kg ?_ _ | refine kk ?_ | refine ki ?_ _)); exact BK150.out) hb); have n1_ := kd.mk (ku (g := gb157) (o := .cells #[.string ((km l0_2 x4_3).f0), .slice A156_1 ((km l0_2 x4_3).f1).length c156_1, .slice A156_2 ((km l0_2 x4_3).f2).length c156_2, .bool ((km l0_2 x4_3).f3), .slice A156_4 ((km l0_2 x4_3).f4).length c156_4] 45 (0, 0)) (by (with_reducible repeat (first | refine kg ?_ _ | refine kk ?_ | refine ki ?_ _)); refine ky (cs := #[.string ((km l0_2 x4_3).f0), .slice A156_1 ((km l0_2 x4_3).f1).length c156_1, .slice A156_2 ((km l0_2 x4_3).f2).length c156_2, .bool ((km l0_2 x4_3).f3), .slice none 0 0]) ?_ 4 _ rfl; (with_reducible repeat (first | refine kg ?_ _ | refine kk ?_ | refine ki ?_ _)); refine ky (cs := #[.string ((km l0_2 x4_3).f0), .slice A156_1 ((km l0_2 x4_3).f1).length c156_1, .slice A156_2 ((km l0_2 x4_3).f2).length c156_2, .bool false, .slice none 0 0]) ?_ 3 _ rfl; (with_reducible repeat (first | refine kg ?_ _ | refine kk ?_ | refine ki ?_ _)); refine ky (cs := #[.string ((km l0_2 x4_3).f0), .slice A156_1 ((km l0_2 x4_3).f1).length c156_1, .slice none 0 0, .bool false, .slice none 0 0]) ?_ 2 _ rfl; (with_reducible repeat (first | refine kg ?_ _ | refine kk ?_ | refine ki ?_ _)); refine ky (cs := #[.string ((km l0_2 x4_3).f0), .slice none 0 0, .slice none 0 0, .bool false, .slice none 0 0]) ?_ 1 _ rfl; (with_reducible repeat (first | refine kg ?_ _ | refine kk ?_ | refine ki ?_ _)); refine ky (cs := #[.string (⟨#[]⟩ : ByteArray), .slice none 0 0, .slice none 0 0, .bool false, .slice none 0 0]) ?_ 0 _ rfl; (with_reducible repeat (first | refine kg ?_ _ | refine kk ?_ | refine ki ?_ _)); exact BK157.out) hb); have n2_ := kd.mk (kr (by repeat (first | (with_reducible first | exact HB.out | apply ke | apply ka | apply kf | refine kj ?_ GE150.out | refine kj ?_ GE157.out) | exact HB.out)) hb); clear BK150; clear BK157; clear HB; have BK150 := n0_; have BK157 := n1_; have HB := n2_; clear n0_ n1_ n2_; (try clear hb); have hcz44_0 : w43.cell? ⟨gb157, 0, none⟩ = some (.string ((km l0_2 x4_3).f0)) := (kc BK157.out 0).trans rfl; have hcz44_1 : w43.cell? ⟨gb157, 1, none⟩ = some (.slice A156_1 ((km l0_2 x4_3).f1).length c156_1) := (kc BK157.out 1).trans rfl; have hcz44_2 : w43.cell? ⟨gb157, 2, none⟩ = some (.slice A156_2 ((km l0_2 x4_3).f2).length c156_2) := (kc BK157.out 2).trans rfl; have hcz44_3 : w43.cell? ⟨gb157, 3, none⟩ = some (.bool ((km l0_2 x4_3).f3)) := (kc BK157.out 3).trans rfl; have hcz44_4 : w43.cell? ⟨gb157, 4, none⟩ = some (.slice A156_4 ((km l0_2 x4_3).f4).length c156_4) := (kc BK157.out 4).trans rfl; have hfz44_0 := kb BK157.out 0; have hfz44_1 := kb BK157.out 1; have hfz44_2 := kb BK157.out 2; have hfz44_3 := kb BK157.out 3; have hfz44_4 := kb BK157.out 4))
             go_ret
             exact ⟨by first | rfl | (simp [kp, ko] <;> rfl) | (simp [*, kp, ko] <;> rfl), by repeat (first | (with_reducible first | exact HB.out | apply ke | apply ka | apply kf | refine kj ?_ GE150.out | refine kj ?_ GE157.out) | exact HB.out)⟩
            ·rw [if_neg c38] at H
             have c38b0 : decide (6 < (((km l0_2 x4_3).f1).length : Int)) = false := decide_eq_false c38
             have c38b1 : decide (6 < ((km l0_2 x4_3).f1).length) = false := decide_eq_false (by omega)
             clear c38
             replace H := Option.bind_eq_some_iff.mp H
             obtain ⟨t159, A450, H⟩ := H
             replace H : (if t159 = true then ((rnames.f k3 ((km l0_2 x4_3).f2)).bind fun t160 => (if t160 = true then ((rRightStmts.f k3 ((km l0_2 x4_3).f4) 1).bind fun t161 => (if t161 = true then (rRight.l1 k3 (wrap64 (x4_3 + 1)) l0_0 l0_1 l0_2) else (some false))) else (some false))) else (some false)) = some r := H
             have A45 := kd.mk A450
             clear A450
             by_cases c46 : t159 = true
             ·subst c46
              replace H : ((rnames.f k3 ((km l0_2 x4_3).f2)).bind fun t160 => (if t160 = true then ((rRightStmts.f k3 ((km l0_2 x4_3).f4) 1).bind fun t161 => (if t161 = true then (rRight.l1 k3 (wrap64 (x4_3 + 1)) l0_0 l0_1 l0_2) else (some false))) else (some false))) = some r := by rw [if_pos rfl] at H; exact H
              replace H := Option.bind_eq_some_iff.mp H
              obtain ⟨t160, A470, H⟩ := H
              replace H : (if t160 = true then ((rRightStmts.f k3 ((km l0_2 x4_3).f4) 1).bind fun t161 => (if t161 = true then (rRight.l1 k3 (wrap64 (x4_3 + 1)) l0_0 l0_1 l0_2) else (some false))) else (some false)) = some r := H
              have A47 := kd.mk A470
              clear A470
              by_cases c48 : t160 = true
              ·subst c48
               replace H : ((rRightStmts.f k3 ((km l0_2 x4_3).f4) 1).bind fun t161 => (if t161 = true then (rRight.l1 k3 (wrap64 (x4_3 + 1)) l0_0 l0_1 l0_2) else (some false))) = some r := by rw [if_pos rfl] at H; exact H
               replace H := Option.bind_eq_some_iff.mp H
               obtain ⟨t161, A490, H⟩ := H
               replace H : (if t161 = true then (rRight.l1 k3 (wrap64 (x4_3 + 1)) l0_0 l0_1 l0_2) else (some false)) = some r := H
               have A49 := kd.mk A490
               clear A490
               by_cases c50 : t161 = true
               ·subst c50
                replace H : (rRight.l1 k3 (wrap64 (x4_3 + 1)) l0_0 l0_1 l0_2) = some r := by rw [if_pos rfl] at H; exact H
                have H' := kd.mk H
                clear H
                have hcz51_0 : wr.cell? ⟨gb150, 0, none⟩ = some (.slice A0_0 l0_0.length c0_0) := (kc BK150.out 0).trans rfl
                have hcz51_1 : wr.cell? ⟨gb150, 1, none⟩ = some (.slice A0_1 l0_1.length c0_1) := (kc BK150.out 1).trans rfl
                have hcz51_2 : wr.cell? ⟨gb150, 2, none⟩ = some (.slice A0_2 l0_2.length c0_2) := (kc BK150.out 2).trans rfl
                have hfz51_0 := kb BK150.out 0
                have hfz51_1 := kb BK150.out 1
                have hfz51_2 := kb BK150.out 2
                have p156 : 0 ≤ (x4_3 : Int) := of_decide_eq_true (by first | (with_reducible assumption) | assumption)
                have q156 : x4_3 < (l0_2.length : Int) := of_decide_eq_true (by first | (with_reducible assumption) | assumption)
                obtain ⟨ad156, A156_1, c156_1, A156_2, c156_2, A156_4, c156_4, e156, hx156_0, hx156_1, hx156_2, hx156_3, hx156_4, hl156_1, hi156_1, hl156_2, hi156_2, hl156_4, hi156_4⟩ := at_T45 HR0_2.out x4_3 p156 q156
                cases e156
                replace hx156_0 := (HB.out.cell (World.block_lt_of_cell? w _ hx156_0)).trans hx156_0
                replace hx156_1 := (HB.out.cell (World.block_lt_of_cell? w _ hx156_1)).trans hx156_1
                replace hx156_2 := (HB.out.cell (World.block_lt_of_cell? w _ hx156_2)).trans hx156_2
                replace hx156_3 := (HB.out.cell (World.block_lt_of_cell? w _ hx156_3)).trans hx156_3
                replace hx156_4 := (HB.out.cell (World.block_lt_of_cell? w _ hx156_4)).trans hx156_4
                have HR156_1 := kd.mk hi156_1
                have HC156_1 := kd.mk hl156_1
                clear hi156_1 hl156_1
                have HR156_2 := kd.mk hi156_2
                have HC156_2 := kd.mk hl156_2
                clear hi156_2 hl156_2
                have HR156_4 := kd.mk hi156_4
                have HC156_4 := kd.mk hl156_4
                clear hi156_4 hl156_4
                replace p156 := eq_true p156
                replace q156 := eq_true q156
                go_wp2_with (first | ((with_reducible refine ja (N := 5) rfl ?_); (try (refine gate_guard (by rfl) ?_; dsimp only)); refine kz ?hg (N := 5) ?hd (cs := #[.string (⟨#[]⟩ : ByteArray), .slice none 0 0, .slice none 0 0, .bool false, .slice none 0 0]) (t := 45) ?hr ?_; (case hd => rfl); (case hg => rfl); (case hr => first | (go_simp; done) | (go_simp; rfl)); intro gb157 hg w52 hbox hb; have n0_ := kd.mk (ku (g := gb150) (o := .cells #[.slice A0_0 l0_0.length c0_0, .slice A0_1 l0_1.length c0_1, .slice (some ad156) l0_2.length c0_2] 26 (0, 0)) (by (with_reducible repeat (first | refine kg ?_ _ | refine kk ?_ | refine ki ?_ _)); exact BK150.out) hb); have n1_ := kd.mk (kr (by repeat (first | (with_reducible first | exact HB.out | apply ke | apply ka | apply kf | refine kj ?_ GE150.out) | exact HB.out)) hb); have n2_ := kd.mk (hbox); have n3_ := kd.mk ((by rw [hg]; exact (ks (by repeat (first | (with_reducible first | exact HB.out | apply ke | apply ka | apply kf | refine kj ?_ GE150.out) | exact HB.out))) : w.heap.size ≤ gb157)); have n4_ := kd.mk ((by rw [hg]; exact (ks (by repeat (first | (with_reducible first | exact HB.out | apply ke | apply ka | apply kf | refine kj ?_ GE150.out) | exact HB.out))) : w.heap.size ≤ gb157)); have n5_ := kd.mk ((by rw [hg]; exact Nat.ne_of_lt (jk (g := gb150) (o := .cells #[.slice A0_0 l0_0.length c0_0, .slice A0_1 l0_1.length c0_1, .slice (some ad156) l0_2.length c0_2] 26 (0, 0)) (by (with_reducible repeat (first | refine kg ?_ _ | refine kk ?_ | refine ki ?_ _)); exact BK150.out)) : gb150 ≠ gb157)); have n6_ := kd.mk ((by rw [hg]; exact Nat.ne_of_gt (jk (g := gb150) (o := .cells #[.slice A0_0 l0_0.length c0_0, .slice A0_1 l0_1.length c0_1, .slice (some ad156) l0_2.length c0_2] 26 (0, 0)) (by (with_reducible repeat (first | refine kg ?_ _ | refine kk ?_ | refine ki ?_ _)); exact BK150.out)) : gb157 ≠ gb150)); clear BK150; clear HB; have BK150 := n0_; have HB := n1_; have BK157 := n2_; have GW157 := n3_; have GE157 := n4_; have NB150_157 := n5_; have NB157_150 := n6_; clear n0_ n1_ n2_ n3_ n4_ n5_ n6_; clear hb hbox hg; have hnb53 := NB157_150.out; have hnc53 := NB150_157.out; have hcz54_0 : w52.cell? ⟨gb157, 0, none⟩ = some (.string (⟨#[]⟩ : ByteArray)) := (kc BK157.out 0).trans rfl; have hcz54_1 : w52.cell? ⟨gb157, 1, none⟩ = some (.slice none 0 0) := (kc BK157.out 1).trans rfl; have hcz54_2 : w52.cell? ⟨gb157, 2, none⟩ = some (.slice none 0 0) := (kc BK157.out 2).trans rfl; have hcz54_3 : w52.cell? ⟨gb157, 3, none⟩ = some (.bool false) := (kc BK157.out 3).trans rfl; have hcz54_4 : w52.cell? ⟨gb157, 4, none⟩ = some (.slice none 0 0) := (kc BK157.out 4).trans rfl; have hfz54_0 := kb BK157.out 0; have hfz54_1 := kb BK157.out 1; have hfz54_2 := kb BK157.out 2; have hfz54_3 := kb BK157.out 3; have hfz54_4 := kb BK157.out 4) | ((with_reducible refine jb (f := 43) rfl ?_); refine jo (some 69) rfl rfl Tryd.func43 (by kernel_rfl) rfl #[.string ((km l0_2 x4_3).f0)] rfl (by (try simp only [List.map_toArray, List.map_cons, List.map_nil]); first | done | rfl | (simp only [List.length_drop, List.length_take]; rfl)) ?_; (with_reducible refine (rIsName.calls k3 ((km l0_2 x4_3).f0) true _ A36.out).mono ?_); rintro e w55 ⟨rfl, hb⟩; refine ⟨_, rfl, ?_⟩; have n0_ := kd.mk (ku (g := gb150) (o := .cells #[.slice A0_0 l0_0.length c0_0, .slice A0_1 l0_1.length c0_1, .slice (some ad156) l0_2.length c0_2] 26 (0, 0)) (by (with_reducible repeat (first | refine kg ?_ _ | refine kk ?_ | refine ki ?_ _)); refine ji ?_ NB150_157.out _; (with_reducible repeat (first | refine kg ?_ _ | refine kk ?_ | refine ki ?_ _)); refine ji ?_ NB150_157.out _; (with_reducible repeat (first | refine kg ?_ _ | refine kk ?_ | refine ki ?_ _)); refine ji ?_ NB150_157.out _; (with_reducible repeat (first | refine kg ?_ _ | refine kk ?_ | refine ki ?_ _)); refine ji ?_ NB150_157.out _; (with_reducible repeat (first | refine kg ?_ _ | refine kk ?_ | refine ki ?_ _)); refine ji ?_ NB150_157.out _; (with_reducible repeat (first | refine kg ?_ _ | refine kk ?_ | refine ki ?_ _)); exact BK150.out) hb); have n1_ := kd.mk (ku (g := gb157) (o := .cells #[.string ((km l0_2 x4_3).f0), .slice A156_1 ((km l0_2 x4_3).f1).length c156_1, .slice A156_2 ((km l0_2 x4_3).f2).length c156_2, .bool ((km l0_2 x4_3).f3), .slice A156_4 ((km l0_2 x4_3).f4).length c156_4] 45 (0, 0)) (by (with_reducible repeat (first | refine kg ?_ _ | refine kk ?_ | refine ki ?_ _)); refine ky (cs := #[.string ((km l0_2 x4_3).f0), .slice A156_1 ((km l0_2 x4_3).f1).length c156_1, .slice A156_2 ((km l0_2 x4_3).f2).length c156_2, .bool ((km l0_2 x4_3).f3), .slice none 0 0]) ?_ 4 _ rfl; (with_reducible repeat (first | refine kg ?_ _ | refine kk ?_ | refine ki ?_ _)); refine ky (cs := #[.string ((km l0_2 x4_3).f0), .slice A156_1 ((km l0_2 x4_3).f1).length c156_1, .slice A156_2 ((km l0_2 x4_3).f2).length c156_2, .bool false, .slice none 0 0]) ?_ 3 _ rfl; (with_reducible repeat (first | refine kg ?_ _ | refine kk ?_ | refine ki ?_ _)); refine ky (cs := #[.string ((km l0_2 x4_3).f0), .slice A156_1 ((km l0_2 x4_3).f1).length c156_1, .slice none 0 0, .bool false, .slice none 0 0]) ?_ 2 _ rfl; (with_reducible repeat (first | refine kg ?_ _ | refine kk ?_ | refine ki ?_ _)); refine ky (cs := #[.string ((km l0_2 x4_3).f0), .slice none 0 0, .slice none 0 0, .bool false, .slice none 0 0]) ?_ 1 _ rfl; (with_reducible repeat (first | refine kg ?_ _ | refine kk ?_ | refine ki ?_ _)); refine ky (cs := #[.string (⟨#[]⟩ : ByteArray), .slice none 0 0, .slice none 0 0, .bool false, .slice none 0 0]) ?_ 0 _ rfl; (with_reducible repeat (first | refine kg ?_ _ | refine kk ?_ | refine ki ?_ _)); exact BK157.out) hb); have n2_ := kd.mk (kr (by repeat (first | (with_reducible first | exact HB.out | apply ke | apply ka | apply kf | refine kj ?_ GE150.out | refine kj ?_ GE157.out) | exact HB.out)) hb); clear BK150; clear BK157; clear HB; have BK150 := n0_; have BK157 := n1_; have HB := n2_; clear n0_ n1_ n2_; (try clear hb); have hcz56_0 : w55.cell? ⟨gb157, 0, none⟩ = some (.string ((km l0_2 x4_3).f0)) := (kc BK157.out 0).trans rfl; have hcz56_1 : w55.cell? ⟨gb157, 1, none⟩ = some (.slice A156_1 ((km l0_2 x4_3).f1).length c156_1) := (kc BK157.out 1).trans rfl; have hcz56_2 : w55.cell? ⟨gb157, 2, none⟩ = some (.slice A156_2 ((km l0_2 x4_3).f2).length c156_2) := (kc BK157.out 2).trans rfl; have hcz56_3 : w55.cell? ⟨gb157, 3, none⟩ = some (.bool ((km l0_2 x4_3).f3)) := (kc BK157.out 3).trans rfl; have hcz56_4 : w55.cell? ⟨gb157, 4, none⟩ = some (.slice A156_4 ((km l0_2 x4_3).f4).length c156_4) := (kc BK157.out 4).trans rfl; have hfz56_0 := kb BK157.out 0; have hfz56_1 := kb BK157.out 1; have hfz56_2 := kb BK157.out 2; have hfz56_3 := kb BK157.out 3; have hfz56_4 := kb BK157.out 4) | (go_at_call 42; (with_reducible refine (rnames.calls k3 _ _ ((km l0_2 x4_3).f1) true _ ?side1 ?side2 A45.out).mono ?_); (case side1 => exact Kd.kx HR156_1.out HB.out); (case side2 => exact HC156_1.out); rintro e w57 ⟨rfl, hb⟩; have n0_ := kd.mk (ku (g := gb150) (o := .cells #[.slice A0_0 l0_0.length c0_0, .slice A0_1 l0_1.length c0_1, .slice (some ad156) l0_2.length c0_2] 26 (0, 0)) (by (with_reducible repeat (first | refine kg ?_ _ | refine kk ?_ | refine ki ?_ _)); exact BK150.out) hb); have n1_ := kd.mk (ku (g := gb157) (o := .cells #[.string ((km l0_2 x4_3).f0), .slice A156_1 ((km l0_2 x4_3).f1).length c156_1, .slice A156_2 ((km l0_2 x4_3).f2).length c156_2, .bool ((km l0_2 x4_3).f3), .slice A156_4 ((km l0_2 x4_3).f4).length c156_4] 45 (0, 0)) (by (with_reducible repeat (first | refine kg ?_ _ | refine kk ?_ | refine ki ?_ _)); exact BK157.out) hb); have n2_ := kd.mk (kr (by repeat (first | (with_reducible first | exact HB.out | apply ke | apply ka | apply kf | refine kj ?_ GE150.out | refine kj ?_ GE157.out) | exact HB.out)) hb); clear BK150; clear BK157; clear HB; have BK150 := n0_; have BK157 := n1_; have HB := n2_; clear n0_ n1_ n2_; (try clear hb); have hcz58_0 : w57.cell? ⟨gb157, 0, none⟩ = some (.string ((km l0_2 x4_3).f0)) := (kc BK157.out 0).trans rfl; have hcz58_1 : w57.cell? ⟨gb157, 1, none⟩ = some (.slice A156_1 ((km l0_2 x4_3).f1).length c156_1) := (kc BK157.out 1).trans rfl; have hcz58_2 : w57.cell? ⟨gb157, 2, none⟩ = some (.slice A156_2 ((km l0_2 x4_3).f2).length c156_2) := (kc BK157.out 2).trans rfl; have hcz58_3 : w57.cell? ⟨gb157, 3, none⟩ = some (.bool ((km l0_2 x4_3).f3)) := (kc BK157.out 3).trans rfl; have hcz58_4 : w57.cell? ⟨gb157, 4, none⟩ = some (.slice A156_4 ((km l0_2 x4_3).f4).length c156_4) := (kc BK157.out 4).trans rfl; have hfz58_0 := kb BK157.out 0; have hfz58_1 := kb BK157.out 1; have hfz58_2 := kb BK157.out 2; have hfz58_3 := kb BK157.out 3; have hfz58_4 := kb BK157.out 4) | (go_at_call 42; (with_reducible refine (rnames.calls k3 _ _ ((km l0_2 x4_3).f2) true _ ?side1 ?side2 A47.out).mono ?_); (case side1 => exact Kd.kx HR156_2.out HB.out); (case side2 => exact HC156_2.out); rintro e w59 ⟨rfl, hb⟩; have n0_ := kd.mk (ku (g := gb150) (o := .cells #[.slice A0_0 l0_0.length c0_0, .slice A0_1 l0_1.length c0_1, .slice (some ad156) l0_2.length c0_2] 26 (0, 0)) (by (with_reducible repeat (first | refine kg ?_ _ | refine kk ?_ | refine ki ?_ _)); exact BK150.out) hb); have n1_ := kd.mk (ku (g := gb157) (o := .cells #[.string ((km l0_2 x4_3).f0), .slice A156_1 ((km l0_2 x4_3).f1).length c156_1, .slice A156_2 ((km l0_2 x4_3).f2).length c156_2, .bool ((km l0_2 x4_3).f3), .slice A156_4 ((km l0_2 x4_3).f4).length c156_4] 45 (0, 0)) (by (with_reducible repeat (first | refine kg ?_ _ | refine kk ?_ | refine ki ?_ _)); exact BK157.out) hb); have n2_ := kd.mk (kr (by repeat (first | (with_reducible first | exact HB.out | apply ke | apply ka | apply kf | refine kj ?_ GE150.out | refine kj ?_ GE157.out) | exact HB.out)) hb); clear BK150; clear BK157; clear HB; have BK150 := n0_; have BK157 := n1_; have HB := n2_; clear n0_ n1_ n2_; (try clear hb); have hcz60_0 : w59.cell? ⟨gb157, 0, none⟩ = some (.string ((km l0_2 x4_3).f0)) := (kc BK157.out 0).trans rfl; have hcz60_1 : w59.cell? ⟨gb157, 1, none⟩ = some (.slice A156_1 ((km l0_2 x4_3).f1).length c156_1) := (kc BK157.out 1).trans rfl; have hcz60_2 : w59.cell? ⟨gb157, 2, none⟩ = some (.slice A156_2 ((km l0_2 x4_3).f2).length c156_2) := (kc BK157.out 2).trans rfl; have hcz60_3 : w59.cell? ⟨gb157, 3, none⟩ = some (.bool ((km l0_2 x4_3).f3)) := (kc BK157.out 3).trans rfl; have hcz60_4 : w59.cell? ⟨gb157, 4, none⟩ = some (.slice A156_4 ((km l0_2 x4_3).f4).length c156_4) := (kc BK157.out 4).trans rfl; have hfz60_0 := kb BK157.out 0; have hfz60_1 := kb BK157.out 1; have hfz60_2 := kb BK157.out 2; have hfz60_3 := kb BK157.out 3; have hfz60_4 := kb BK157.out 4) | (go_at_call 44; (with_reducible refine (rRightStmts.calls k3 _ _ ((km l0_2 x4_3).f4) 1 true _ ?side1 ?side2 A49.out).mono ?_); (case side1 => exact Kd.kx HR156_4.out HB.out); (case side2 => exact HC156_4.out); rintro e w61 ⟨rfl, hb⟩; have n0_ := kd.mk (ku (g := gb150) (o := .cells #[.slice A0_0 l0_0.length c0_0, .slice A0_1 l0_1.length c0_1, .slice (some ad156) l0_2.length c0_2] 26 (0, 0)) (by (with_reducible repeat (first | refine kg ?_ _ | refine kk ?_ | refine ki ?_ _)); exact BK150.out) hb); have n1_ := kd.mk (ku (g := gb157) (o := .cells #[.string ((km l0_2 x4_3).f0), .slice A156_1 ((km l0_2 x4_3).f1).length c156_1, .slice A156_2 ((km l0_2 x4_3).f2).length c156_2, .bool ((km l0_2 x4_3).f3), .slice A156_4 ((km l0_2 x4_3).f4).length c156_4] 45 (0, 0)) (by (with_reducible repeat (first | refine kg ?_ _ | refine kk ?_ | refine ki ?_ _)); exact BK157.out) hb); have n2_ := kd.mk (kr (by repeat (first | (with_reducible first | exact HB.out | apply ke | apply ka | apply kf | refine kj ?_ GE150.out | refine kj ?_ GE157.out) | exact HB.out)) hb); clear BK150; clear BK157; clear HB; have BK150 := n0_; have BK157 := n1_; have HB := n2_; clear n0_ n1_ n2_; (try clear hb)))
                go_roundg k3
                case measure => have := HJ1.out; have := HK2.out; have := HK3.out; omega
                case rel => exact ⟨(wrap64 (x4_3 + 1)), (by first | rfl | (simp; done) | (simp [*]; done)), H', ⟨by have := HJ1.out; have := HK2.out; have := HK3.out; omega⟩, ⟨by (with_reducible repeat (first | refine kg ?_ _ | refine kk ?_ | refine ki ?_ _)); exact BK150.out⟩, ⟨by repeat (first | (with_reducible first | exact HB.out | apply ke | apply ka | apply kf | refine kj ?_ GE150.out | refine kj ?_ GE157.out) | exact HB.out)⟩⟩
               ·replace c50 := Bool.eq_false_iff.mpr c50
                subst c50
                replace H : (some false) = some r := by rw [if_neg (show ¬ (false = true) by decide)] at H; exact H
                obtain rfl := Option.some.inj H
                have hcz62_0 : wr.cell? ⟨gb150, 0, none⟩ = some (.slice A0_0 l0_0.length c0_0) := (kc BK150.out 0).trans rfl
                have hcz62_1 : wr.cell? ⟨gb150, 1, none⟩ = some (.slice A0_1 l0_1.length c0_1) := (kc BK150.out 1).trans rfl
                have hcz62_2 : wr.cell? ⟨gb150, 2, none⟩ = some (.slice A0_2 l0_2.length c0_2) := (kc BK150.out 2).trans rfl
                have hfz62_0 := kb BK150.out 0
                have hfz62_1 := kb BK150.out 1
                have hfz62_2 := kb BK150.out 2
                have p156 : 0 ≤ (x4_3 : Int) := of_decide_eq_true (by first | (with_reducible assumption) | assumption)
                have q156 : x4_3 < (l0_2.length : Int) := of_decide_eq_true (by first | (with_reducible assumption) | assumption)
                obtain ⟨ad156, A156_1, c156_1, A156_2, c156_2, A156_4, c156_4, e156, hx156_0, hx156_1, hx156_2, hx156_3, hx156_4, hl156_1, hi156_1, hl156_2, hi156_2, hl156_4, hi156_4⟩ := at_T45 HR0_2.out x4_3 p156 q156
                cases e156
                replace hx156_0 := (HB.out.cell (World.block_lt_of_cell? w _ hx156_0)).trans hx156_0
                replace hx156_1 := (HB.out.cell (World.block_lt_of_cell? w _ hx156_1)).trans hx156_1
                replace hx156_2 := (HB.out.cell (World.block_lt_of_cell? w _ hx156_2)).trans hx156_2
                replace hx156_3 := (HB.out.cell (World.block_lt_of_cell? w _ hx156_3)).trans hx156_3
                replace hx156_4 := (HB.out.cell (World.block_lt_of_cell? w _ hx156_4)).trans hx156_4
                have HR156_1 := kd.mk hi156_1
                have HC156_1 := kd.mk hl156_1
                clear hi156_1 hl156_1
                have HR156_2 := kd.mk hi156_2
                have HC156_2 := kd.mk hl156_2
                clear hi156_2 hl156_2
                have HR156_4 := kd.mk hi156_4
                have HC156_4 := kd.mk hl156_4
                clear hi156_4 hl156_4
                replace p156 := eq_true p156
                replace q156 := eq_true q156
                go_wp2_with (first | ((with_reducible refine ja (N := 5) rfl ?_); (try (refine gate_guard (by rfl) ?_; dsimp only)); refine kz ?hg (N := 5) ?hd (cs := #[.string (⟨#[]⟩ : ByteArray), .slice none 0 0, .slice none 0 0, .bool false, .slice none 0 0]) (t := 45) ?hr ?_; (case hd => rfl); (case hg => rfl); (case hr => first | (go_simp; done) | (go_simp; rfl)); intro gb157 hg w63 hbox hb; have n0_ := kd.mk (ku (g := gb150) (o := .cells #[.slice A0_0 l0_0.length c0_0, .slice A0_1 l0_1.length c0_1, .slice (some ad156) l0_2.length c0_2] 26 (0, 0)) (by (with_reducible repeat (first | refine kg ?_ _ | refine kk ?_ | refine ki ?_ _)); exact BK150.out) hb); have n1_ := kd.mk (kr (by repeat (first | (with_reducible first | exact HB.out | apply ke | apply ka | apply kf | refine kj ?_ GE150.out) | exact HB.out)) hb); have n2_ := kd.mk (hbox); have n3_ := kd.mk ((by rw [hg]; exact (ks (by repeat (first | (with_reducible first | exact HB.out | apply ke | apply ka | apply kf | refine kj ?_ GE150.out) | exact HB.out))) : w.heap.size ≤ gb157)); have n4_ := kd.mk ((by rw [hg]; exact (ks (by repeat (first | (with_reducible first | exact HB.out | apply ke | apply ka | apply kf | refine kj ?_ GE150.out) | exact HB.out))) : w.heap.size ≤ gb157)); have n5_ := kd.mk ((by rw [hg]; exact Nat.ne_of_lt (jk (g := gb150) (o := .cells #[.slice A0_0 l0_0.length c0_0, .slice A0_1 l0_1.length c0_1, .slice (some ad156) l0_2.length c0_2] 26 (0, 0)) (by (with_reducible repeat (first | refine kg ?_ _ | refine kk ?_ | refine ki ?_ _)); exact BK150.out)) : gb150 ≠ gb157)); have n6_ := kd.mk ((by rw [hg]; exact Nat.ne_of_gt (jk (g := gb150) (o := .cells #[.slice A0_0 l0_0.length c0_0, .slice A0_1 l0_1.length c0_1, .slice (some ad156) l0_2.length c0_2] 26 (0, 0)) (by (with_reducible repeat (first | refine kg ?_ _ | refine kk ?_ | refine ki ?_ _)); exact BK150.out)) : gb157 ≠ gb150)); clear BK150; clear HB; have BK150 := n0_; have HB := n1_; have BK157 := n2_; have GW157 := n3_; have GE157 := n4_; have NB150_157 := n5_; have NB157_150 := n6_; clear n0_ n1_ n2_ n3_ n4_ n5_ n6_; clear hb hbox hg; have hnb64 := NB157_150.out; have hnc64 := NB150_157.out; have hcz65_0 : w63.cell? ⟨gb157, 0, none⟩ = some (.string (⟨#[]⟩ : ByteArray)) := (kc BK157.out 0).trans rfl; have hcz65_1 : w63.cell? ⟨gb157, 1, none⟩ = some (.slice none 0 0) := (kc BK157.out 1).trans rfl; have hcz65_2 : w63.cell? ⟨gb157, 2, none⟩ = some (.slice none 0 0) := (kc BK157.out 2).trans rfl; have hcz65_3 : w63.cell? ⟨gb157, 3, none⟩ = some (.bool false) := (kc BK157.out 3).trans rfl; have hcz65_4 : w63.cell? ⟨gb157, 4, none⟩ = some (.slice none 0 0) := (kc BK157.out 4).trans rfl; have hfz65_0 := kb BK157.out 0; have hfz65_1 := kb BK157.out 1; have hfz65_2 := kb BK157.out 2; have hfz65_3 := kb BK157.out 3; have hfz65_4 := kb BK157.out 4) | ((with_reducible refine jb (f := 43) rfl ?_); refine jo (some 69) rfl rfl Tryd.func43 (by kernel_rfl) rfl #[.string ((km l0_2 x4_3).f0)] rfl (by (try simp only [List.map_toArray, List.map_cons, List.map_nil]); first | done | rfl | (simp only [List.length_drop, List.length_take]; rfl)) ?_; (with_reducible refine (rIsName.calls k3 ((km l0_2 x4_3).f0) true _ A36.out).mono ?_); rintro e w66 ⟨rfl, hb⟩; refine ⟨_, rfl, ?_⟩; have n0_ := kd.mk (ku (g := gb150) (o := .cells #[.slice A0_0 l0_0.length c0_0, .slice A0_1 l0_1.length c0_1, .slice (some ad156) l0_2.length c0_2] 26 (0, 0)) (by (with_reducible repeat (first | refine kg ?_ _ | refine kk ?_ | refine ki ?_ _)); refine ji ?_ NB150_157.out _; (with_reducible repeat (first | refine kg ?_ _ | refine kk ?_ | refine ki ?_ _)); refine ji ?_ NB150_157.out _; (with_reducible repeat (first | refine kg ?_ _ | refine kk ?_ | refine ki ?_ _)); refine ji ?_ NB150_157.out _; (with_reducible repeat (first | refine kg ?_ _ | refine kk ?_ | refine ki ?_ _)); refine ji ?_ NB150_157.out _; (with_reducible repeat (first | refine kg ?_ _ | refine kk ?_ | refine ki ?_ _)); refine ji ?_ NB150_157.out _; (with_reducible repeat (first | refine kg ?_ _ | refine kk ?_ | refine ki ?_ _)); exact BK150.out) hb); have n1_ := kd.mk (ku (g := gb157) (o := .cells #[.string ((km l0_2 x4_3).f0), .slice A156_1 ((km l0_2 x4_3).f1).length c156_1, .slice A156_2 ((km l0_2 x4_3).f2).length c156_2, .bool ((km l0_2 x4_3).f3), .slice A156_4 ((km l0_2 x4_3).f4).length c156_4] 45 (0, 0)) (by (with_reducible repeat (first | refine kg ?_ _ | refine kk ?_ | refine ki ?_ _)); refine ky (cs := #[.string ((km l0_2 x4_3).f0), .slice A156_1 ((km l0_2 x4_3).f1).length c156_1, .slice A156_2 ((km l0_2 x4_3).f2).length c156_2, .bool ((km l0_2 x4_3).f3), .slice none 0 0]) ?_ 4 _ rfl; (with_reducible repeat (first | refine kg ?_ _ | refine kk ?_ | refine ki ?_ _)); refine ky (cs := #[.string ((km l0_2 x4_3).f0), .slice A156_1 ((km l0_2 x4_3).f1).length c156_1, .slice A156_2 ((km l0_2 x4_3).f2).length c156_2, .bool false, .slice none 0 0]) ?_ 3 _ rfl; (with_reducible repeat (first | refine kg ?_ _ | refine kk ?_ | refine ki ?_ _)); refine ky (cs := #[.string ((km l0_2 x4_3).f0), .slice A156_1 ((km l0_2 x4_3).f1).length c156_1, .slice none 0 0, .bool false, .slice none 0 0]) ?_ 2 _ rfl; (with_reducible repeat (first | refine kg ?_ _ | refine kk ?_ | refine ki ?_ _)); refine ky (cs := #[.string ((km l0_2 x4_3).f0), .slice none 0 0, .slice none 0 0, .bool false, .slice none 0 0]) ?_ 1 _ rfl; (with_reducible repeat (first | refine kg ?_ _ | refine kk ?_ | refine ki ?_ _)); refine ky (cs := #[.string (⟨#[]⟩ : ByteArray), .slice none 0 0, .slice none 0 0, .bool false, .slice none 0 0]) ?_ 0 _ rfl; (with_reducible repeat (first | refine kg ?_ _ | refine kk ?_ | refine ki ?_ _)); exact BK157.out) hb); have n2_ := kd.mk (kr (by repeat (first | (with_reducible first | exact HB.out | apply ke | apply ka | apply kf | refine kj ?_ GE150.out | refine kj ?_ GE157.out) | exact HB.out)) hb); clear BK150; clear BK157; clear HB; have BK150 := n0_; have BK157 := n1_; have HB := n2_; clear n0_ n1_ n2_; (try clear hb); have hcz67_0 : w66.cell? ⟨gb157, 0, none⟩ = some (.string ((km l0_2 x4_3).f0)) := (kc BK157.out 0).trans rfl; have hcz67_1 : w66.cell? ⟨gb157, 1, none⟩ = some (.slice A156_1 ((km l0_2 x4_3).f1).length c156_1) := (kc BK157.out 1).trans rfl; have hcz67_2 : w66.cell? ⟨gb157, 2, none⟩ = some (.slice A156_2 ((km l0_2 x4_3).f2).length c156_2) := (kc BK157.out 2).trans rfl; have hcz67_3 : w66.cell? ⟨gb157, 3, none⟩ = some (.bool ((km l0_2 x4_3).f3)) := (kc BK157.out 3).trans rfl; have hcz67_4 : w66.cell? ⟨gb157, 4, none⟩ = some (.slice A156_4 ((km l0_2 x4_3).f4).length c156_4) := (kc BK157.out 4).trans rfl; have hfz67_0 := kb BK157.out 0; have hfz67_1 := kb BK157.out 1; have hfz67_2 := kb BK157.out 2; have hfz67_3 := kb BK157.out 3; have hfz67_4 := kb BK157.out 4) | (go_at_call 42; (with_reducible refine (rnames.calls k3 _ _ ((km l0_2 x4_3).f1) true _ ?side1 ?side2 A45.out).mono ?_); (case side1 => exact Kd.kx HR156_1.out HB.out); (case side2 => exact HC156_1.out); rintro e w68 ⟨rfl, hb⟩; have n0_ := kd.mk (ku (g := gb150) (o := .cells #[.slice A0_0 l0_0.length c0_0, .slice A0_1 l0_1.length c0_1, .slice (some ad156) l0_2.length c0_2] 26 (0, 0)) (by (with_reducible repeat (first | refine kg ?_ _ | refine kk ?_ | refine ki ?_ _)); exact BK150.out) hb); have n1_ := kd.mk (ku (g := gb157) (o := .cells #[.string ((km l0_2 x4_3).f0), .slice A156_1 ((km l0_2 x4_3).f1).length c156_1, .slice A156_2 ((km l0_2 x4_3).f2).length c156_2, .bool ((km l0_2 x4_3).f3), .slice A156_4 ((km l0_2 x4_3).f4).length c156_4] 45 (0, 0)) (by (with_reducible repeat (first | refine kg ?_ _ | refine kk ?_ | refine ki ?_ _)); exact BK157.out) hb); have n2_ := kd.mk (kr (by repeat (first | (with_reducible first | exact HB.out | apply ke | apply ka | apply kf | refine kj ?_ GE150.out | refine kj ?_ GE157.out) | exact HB.out)) hb); clear BK150; clear BK157; clear HB; have BK150 := n0_; have BK157 := n1_; have HB := n2_; clear n0_ n1_ n2_; (try clear hb); have hcz69_0 : w68.cell? ⟨gb157, 0, none⟩ = some (.string ((km l0_2 x4_3).f0)) := (kc BK157.out 0).trans rfl; have hcz69_1 : w68.cell? ⟨gb157, 1, none⟩ = some (.slice A156_1 ((km l0_2 x4_3).f1).length c156_1) := (kc BK157.out 1).trans rfl; have hcz69_2 : w68.cell? ⟨gb157, 2, none⟩ = some (.slice A156_2 ((km l0_2 x4_3).f2).length c156_2) := (kc BK157.out 2).trans rfl; have hcz69_3 : w68.cell? ⟨gb157, 3, none⟩ = some (.bool ((km l0_2 x4_3).f3)) := (kc BK157.out 3).trans rfl; have hcz69_4 : w68.cell? ⟨gb157, 4, none⟩ = some (.slice A156_4 ((km l0_2 x4_3).f4).length c156_4) := (kc BK157.out 4).trans rfl; have hfz69_0 := kb BK157.out 0; have hfz69_1 := kb BK157.out 1; have hfz69_2 := kb BK157.out 2; have hfz69_3 := kb BK157.out 3; have hfz69_4 := kb BK157.out 4) | (go_at_call 42; (with_reducible refine (rnames.calls k3 _ _ ((km l0_2 x4_3).f2) true _ ?side1 ?side2 A47.out).mono ?_); (case side1 => exact Kd.kx HR156_2.out HB.out); (case side2 => exact HC156_2.out); rintro e w70 ⟨rfl, hb⟩; have n0_ := kd.mk (ku (g := gb150) (o := .cells #[.slice A0_0 l0_0.length c0_0, .slice A0_1 l0_1.length c0_1, .slice (some ad156) l0_2.length c0_2] 26 (0, 0)) (by (with_reducible repeat (first | refine kg ?_ _ | refine kk ?_ | refine ki ?_ _)); exact BK150.out) hb); have n1_ := kd.mk (ku (g := gb157) (o := .cells #[.string ((km l0_2 x4_3).f0), .slice A156_1 ((km l0_2 x4_3).f1).length c156_1, .slice A156_2 ((km l0_2 x4_3).f2).length c156_2, .bool ((km l0_2 x4_3).f3), .slice A156_4 ((km l0_2 x4_3).f4).length c156_4] 45 (0, 0)) (by (with_reducible repeat (first | refine kg ?_ _ | refine kk ?_ | refine ki ?_ _)); exact BK157.out) hb); have n2_ := kd.mk (kr (by repeat (first | (with_reducible first | exact HB.out | apply ke | apply ka | apply kf | refine kj ?_ GE150.out | refine kj ?_ GE157.out) | exact HB.out)) hb); clear BK150; clear BK157; clear HB; have BK150 := n0_; have BK157 := n1_; have HB := n2_; clear n0_ n1_ n2_; (try clear hb); have hcz71_0 : w70.cell? ⟨gb157, 0, none⟩ = some (.string ((km l0_2 x4_3).f0)) := (kc BK157.out 0).trans rfl; have hcz71_1 : w70.cell? ⟨gb157, 1, none⟩ = some (.slice A156_1 ((km l0_2 x4_3).f1).length c156_1) := (kc BK157.out 1).trans rfl; have hcz71_2 : w70.cell? ⟨gb157, 2, none⟩ = some (.slice A156_2 ((km l0_2 x4_3).f2).length c156_2) := (kc BK157.out 2).trans rfl; have hcz71_3 : w70.cell? ⟨gb157, 3, none⟩ = some (.bool ((km l0_2 x4_3).f3)) := (kc BK157.out 3).trans rfl; have hcz71_4 : w70.cell? ⟨gb157, 4, none⟩ = some (.slice A156_4 ((km l0_2 x4_3).f4).length c156_4) := (kc BK157.out 4).trans rfl; have hfz71_0 := kb BK157.out 0; have hfz71_1 := kb BK157.out 1; have hfz71_2 := kb BK157.out 2; have hfz71_3 := kb BK157.out 3; have hfz71_4 := kb BK157.out 4) | (go_at_call 44; (with_reducible refine (rRightStmts.calls k3 _ _ ((km l0_2 x4_3).f4) 1 false _ ?side1 ?side2 A49.out).mono ?_); (case side1 => exact Kd.kx HR156_4.out HB.out); (case side2 => exact HC156_4.out); rintro e w72 ⟨rfl, hb⟩; have n0_ := kd.mk (ku (g := gb150) (o := .cells #[.slice A0_0 l0_0.length c0_0, .slice A0_1 l0_1.length c0_1, .slice (some ad156) l0_2.length c0_2] 26 (0, 0)) (by (with_reducible repeat (first | refine kg ?_ _ | refine kk ?_ | refine ki ?_ _)); exact BK150.out) hb); have n1_ := kd.mk (ku (g := gb157) (o := .cells #[.string ((km l0_2 x4_3).f0), .slice A156_1 ((km l0_2 x4_3).f1).length c156_1, .slice A156_2 ((km l0_2 x4_3).f2).length c156_2, .bool ((km l0_2 x4_3).f3), .slice A156_4 ((km l0_2 x4_3).f4).length c156_4] 45 (0, 0)) (by (with_reducible repeat (first | refine kg ?_ _ | refine kk ?_ | refine ki ?_ _)); exact BK157.out) hb); have n2_ := kd.mk (kr (by repeat (first | (with_reducible first | exact HB.out | apply ke | apply ka | apply kf | refine kj ?_ GE150.out | refine kj ?_ GE157.out) | exact HB.out)) hb); clear BK150; clear BK157; clear HB; have BK150 := n0_; have BK157 := n1_; have HB := n2_; clear n0_ n1_ n2_; (try clear hb)))
                go_ret
                exact ⟨by first | rfl | (simp [kp, ko] <;> rfl) | (simp [*, kp, ko] <;> rfl), by repeat (first | (with_reducible first | exact HB.out | apply ke | apply ka | apply kf | refine kj ?_ GE150.out | refine kj ?_ GE157.out) | exact HB.out)⟩
              ·replace c48 := Bool.eq_false_iff.mpr c48
               subst c48
               replace H : (some false) = some r := by rw [if_neg (show ¬ (false = true) by decide)] at H; exact H
               obtain rfl := Option.some.inj H
               have hcz73_0 : wr.cell? ⟨gb150, 0, none⟩ = some (.slice A0_0 l0_0.length c0_0) := (kc BK150.out 0).trans rfl
               have hcz73_1 : wr.cell? ⟨gb150, 1, none⟩ = some (.slice A0_1 l0_1.length c0_1) := (kc BK150.out 1).trans rfl
               have hcz73_2 : wr.cell? ⟨gb150, 2, none⟩ = some (.slice A0_2 l0_2.length c0_2) := (kc BK150.out 2).trans rfl
               have hfz73_0 := kb BK150.out 0
               have hfz73_1 := kb BK150.out 1
               have hfz73_2 := kb BK150.out 2
               have p156 : 0 ≤ (x4_3 : Int) := of_decide_eq_true (by first | (with_reducible assumption) | assumption)
               have q156 : x4_3 < (l0_2.length : Int) := of_decide_eq_true (by first | (with_reducible assumption) | assumption)
               obtain ⟨ad156, A156_1, c156_1, A156_2, c156_2, A156_4, c156_4, e156, hx156_0, hx156_1, hx156_2, hx156_3, hx156_4, hl156_1, hi156_1, hl156_2, hi156_2, hl156_4, hi156_4⟩ := at_T45 HR0_2.out x4_3 p156 q156
               cases e156
               replace hx156_0 := (HB.out.cell (World.block_lt_of_cell? w _ hx156_0)).trans hx156_0
               replace hx156_1 := (HB.out.cell (World.block_lt_of_cell? w _ hx156_1)).trans hx156_1
               replace hx156_2 := (HB.out.cell (World.block_lt_of_cell? w _ hx156_2)).trans hx156_2
               replace hx156_3 := (HB.out.cell (World.block_lt_of_cell? w _ hx156_3)).trans hx156_3
               replace hx156_4 := (HB.out.cell (World.block_lt_of_cell? w _ hx156_4)).trans hx156_4
               have HR156_1 := kd.mk hi156_1
               have HC156_1 := kd.mk hl156_1
               clear hi156_1 hl156_1
               have HR156_2 := kd.mk hi156_2
               have HC156_2 := kd.mk hl156_2
               clear hi156_2 hl156_2
               have HR156_4 := kd.mk hi156_4
               have HC156_4 := kd.mk hl156_4
               clear hi156_4 hl156_4
               replace p156 := eq_true p156
               replace q156 := eq_true q156
               go_wp2_with (first | ((with_reducible refine ja (N := 5) rfl ?_); (try (refine gate_guard (by rfl) ?_; dsimp only)); refine kz ?hg (N := 5) ?hd (cs := #[.string (⟨#[]⟩ : ByteArray), .slice none 0 0, .slice none 0 0, .bool false, .slice none 0 0]) (t := 45) ?hr ?_; (case hd => rfl); (case hg => rfl); (case hr => first | (go_simp; done) | (go_simp; rfl)); intro gb157 hg w74 hbox hb; have n0_ := kd.mk (ku (g := gb150) (o := .cells #[.slice A0_0 l0_0.length c0_0, .slice A0_1 l0_1.length c0_1, .slice (some ad156) l0_2.length c0_2] 26 (0, 0)) (by (with_reducible repeat (first | refine kg ?_ _ | refine kk ?_ | refine ki ?_ _)); exact BK150.out) hb); have n1_ := kd.mk (kr (by repeat (first | (with_reducible first | exact HB.out | apply ke | apply ka | apply kf | refine kj ?_ GE150.out) | exact HB.out)) hb); have n2_ := kd.mk (hbox); have n3_ := kd.mk ((by rw [hg]; exact (ks (by repeat (first | (with_reducible first | exact HB.out | apply ke | apply ka | apply kf | refine kj ?_ GE150.out) | exact HB.out))) : w.heap.size ≤ gb157)); have n4_ := kd.mk ((by rw [hg]; exact (ks (by repeat (first | (with_reducible first | exact HB.out | apply ke | apply ka | apply kf | refine kj ?_ GE150.out) | exact HB.out))) : w.heap.size ≤ gb157)); have n5_ := kd.mk ((by rw [hg]; exact Nat.ne_of_lt (jk (g := gb150) (o := .cells #[.slice A0_0 l0_0.length c0_0, .slice A0_1 l0_1.length c0_1, .slice (some ad156) l0_2.length c0_2] 26 (0, 0)) (by (with_reducible repeat (first | refine kg ?_ _ | refine kk ?_ | refine ki ?_ _)); exact BK150.out)) : gb150 ≠ gb157)); have n6_ := kd.mk ((by rw [hg]; exact Nat.ne_of_gt (jk (g := gb150) (o := .cells #[.slice A0_0 l0_0.length c0_0, .slice A0_1 l0_1.length c0_1, .slice (some ad156) l0_2.length c0_2] 26 (0, 0)) (by (with_reducible repeat (first | refine kg ?_ _ | refine kk ?_ | refine ki ?_ _)); exact BK150.out)) : gb157 ≠ gb150)); clear BK150; clear HB; have BK150 := n0_; have HB := n1_; have BK157 := n2_; have GW157 := n3_; have GE157 := n4_; have NB150_157 := n5_; have NB157_150 := n6_; clear n0_ n1_ n2_ n3_ n4_ n5_ n6_; clear hb hbox hg; have hnb75 := NB157_150.out; have hnc75 := NB150_157.out; have hcz76_0 : w74.cell? ⟨gb157, 0, none⟩ = some (.string (⟨#[]⟩ : ByteArray)) := (kc BK157.out 0).trans rfl; have hcz76_1 : w74.cell? ⟨gb157, 1, none⟩ = some (.slice none 0 0) := (kc BK157.out 1).trans rfl; have hcz76_2 : w74.cell? ⟨gb157, 2, none⟩ = some (.slice none 0 0) := (kc BK157.out 2).trans rfl; have hcz76_3 : w74.cell? ⟨gb157, 3, none⟩ = some (.bool false) := (kc BK157.out 3).trans rfl; have hcz76_4 : w74.cell? ⟨gb157, 4, none⟩ = some (.slice none 0 0) := (kc BK157.out 4).trans rfl; have hfz76_0 := kb BK157.out 0; have hfz76_1 := kb BK157.out 1; have hfz76_2 := kb BK157.out 2; have hfz76_3 := kb BK157.out 3; have hfz76_4 := kb BK157.out 4) | ((with_reducible refine jb (f := 43) rfl ?_); refine jo (some 69) rfl rfl Tryd.func43 (by kernel_rfl) rfl #[.string ((km l0_2 x4_3).f0)] rfl (by (try simp only [List.map_toArray, List.map_cons, List.map_nil]); first | done | rfl | (simp only [List.length_drop, List.length_take]; rfl)) ?_; (with_reducible refine (rIsName.calls k3 ((km l0_2 x4_3).f0) true _ A36.out).mono ?_); rintro e w77 ⟨rfl, hb⟩; refine ⟨_, rfl, ?_⟩; have n0_ := kd.mk (ku (g := gb150) (o := .cells #[.slice A0_0 l0_0.length c0_0, .slice A0_1 l0_1.length c0_1, .slice (some ad156) l0_2.length c0_2] 26 (0, 0)) (by (with_reducible repeat (first | refine kg ?_ _ | refine kk ?_ | refine ki ?_ _)); refine ji ?_ NB150_157.out _; (with_reducible repeat (first | refine kg ?_ _ | refine kk ?_ | refine ki ?_ _)); refine ji ?_ NB150_157.out _; (with_reducible repeat (first | refine kg ?_ _ | refine kk ?_ | refine ki ?_ _)); refine ji ?_ NB150_157.out _; (with_reducible repeat (first | refine kg ?_ _ | refine kk ?_ | refine ki ?_ _)); refine ji ?_ NB150_157.out _; (with_reducible repeat (first | refine kg ?_ _ | refine kk ?_ | refine ki ?_ _)); refine ji ?_ NB150_157.out _; (with_reducible repeat (first | refine kg ?_ _ | refine kk ?_ | refine ki ?_ _)); exact BK150.out) hb); have n1_ := kd.mk (ku (g := gb157) (o := .cells #[.string ((km l0_2 x4_3).f0), .slice A156_1 ((km l0_2 x4_3).f1).length c156_1, .slice A156_2 ((km l0_2 x4_3).f2).length c156_2, .bool ((km l0_2 x4_3).f3), .slice A156_4 ((km l0_2 x4_3).f4).length c156_4] 45 (0, 0)) (by (with_reducible repeat (first | refine kg ?_ _ | refine kk ?_ | refine ki ?_ _)); refine ky (cs := #[.string ((km l0_2 x4_3).f0), .slice A156_1 ((km l0_2 x4_3).f1).length c156_1, .slice A156_2 ((km l0_2 x4_3).f2).length c156_2, .bool ((km l0_2 x4_3).f3), .slice none 0 0]) ?_ 4 _ rfl; (with_reducible repeat (first | refine kg ?_ _ | refine kk ?_ | refine ki ?_ _)); refine ky (cs := #[.string ((km l0_2 x4_3).f0), .slice A156_1 ((km l0_2 x4_3).f1).length c156_1, .slice A156_2 ((km l0_2 x4_3).f2).length c156_2, .bool false, .slice none 0 0]) ?_ 3 _ rfl; (with_reducible repeat (first | refine kg ?_ _ | refine kk ?_ | refine ki ?_ _)); refine ky (cs := #[.string ((km l0_2 x4_3).f0), .slice A156_1 ((km l0_2 x4_3).f1).length c156_1, .slice none 0 0, .bool false, .slice none 0 0]) ?_ 2 _ rfl; (with_reducible repeat (first | refine kg ?_ _ | refine kk ?_ | refine ki ?_ _)); refine ky (cs := #[.string ((km l0_2 x4_3).f0), .slice none 0 0, .slice none 0 0, .bool false, .slice none 0 0]) ?_ 1 _ rfl; (with_reducible repeat (first | refine kg ?_ _ | refine kk ?_ | refine ki ?_ _)); refine ky (cs := #[.string (⟨#[]⟩ : ByteArray), .slice none 0 0, .slice none 0 0, .bool false, .slice none 0 0]) ?_ 0 _ rfl; (with_reducible repeat (first | refine kg ?_ _ | refine kk ?_ | refine ki ?_ _)); exact BK157.out) hb); have n2_ := kd.mk (kr (by repeat (first | (with_reducible first | exact HB.out | apply ke | apply ka | apply kf | refine kj ?_ GE150.out | refine kj ?_ GE157.out) | exact HB.out)) hb); clear BK150; clear BK157; clear HB; have BK150 := n0_; have BK157 := n1_; have HB := n2_; clear n0_ n1_ n2_; (try clear hb); have hcz78_0 : w77.cell? ⟨gb157, 0, none⟩ = some (.string ((km l0_2 x4_3).f0)) := (kc BK157.out 0).trans rfl; have hcz78_1 : w77.cell? ⟨gb157, 1, none⟩ = some (.slice A156_1 ((km l0_2 x4_3).f1).length c156_1) := (kc BK157.out 1).trans rfl; have hcz78_2 : w77.cell? ⟨gb157, 2, none⟩ = some (.slice A156_2 ((km l0_2 x4_3).f2).length c156_2) := (kc BK157.out 2).trans rfl; have hcz78_3 : w77.cell? ⟨gb157, 3, none⟩ = some (.bool ((km l0_2 x4_3).f3)) := (kc BK157.out 3).trans rfl; have hcz78_4 : w77.cell? ⟨gb157, 4, none⟩ = some (.slice A156_4 ((km l0_2 x4_3).f4).length c156_4) := (kc BK157.out 4).trans rfl; have hfz78_0 := kb BK157.out 0; have hfz78_1 := kb BK157.out 1; have hfz78_2 := kb BK157.out 2; have hfz78_3 := kb BK157.out 3; have hfz78_4 := kb BK157.out 4) | (go_at_call 42; (with_reducible refine (rnames.calls k3 _ _ ((km l0_2 x4_3).f1) true _ ?side1 ?side2 A45.out).mono ?_); (case side1 => exact Kd.kx HR156_1.out HB.out); (case side2 => exact HC156_1.out); rintro e w79 ⟨rfl, hb⟩; have n0_ := kd.mk (ku (g := gb150) (o := .cells #[.slice A0_0 l0_0.length c0_0, .slice A0_1 l0_1.length c0_1, .slice (some ad156) l0_2.length c0_2] 26 (0, 0)) (by (with_reducible repeat (first | refine kg ?_ _ | refine kk ?_ | refine ki ?_ _)); exact BK150.out) hb); have n1_ := kd.mk (ku (g := gb157) (o := .cells #[.string ((km l0_2 x4_3).f0), .slice A156_1 ((km l0_2 x4_3).f1).length c156_1, .slice A156_2 ((km l0_2 x4_3).f2).length c156_2, .bool ((km l0_2 x4_3).f3), .slice A156_4 ((km l0_2 x4_3).f4).length c156_4] 45 (0, 0)) (by (with_reducible repeat (first | refine kg ?_ _ | refine kk ?_ | refine ki ?_ _)); exact BK157.out) hb); have n2_ := kd.mk (kr (by repeat (first | (with_reducible first | exact HB.out | apply ke | apply ka | apply kf | refine kj ?_ GE150.out | refine kj ?_ GE157.out) | exact HB.out)) hb); clear BK150; clear BK157; clear HB; have BK150 := n0_; have BK157 := n1_; have HB := n2_; clear n0_ n1_ n2_; (try clear hb); have hcz80_0 : w79.cell? ⟨gb157, 0, none⟩ = some (.string ((km l0_2 x4_3).f0)) := (kc BK157.out 0).trans rfl; have hcz80_1 : w79.cell? ⟨gb157, 1, none⟩ = some (.slice A156_1 ((km l0_2 x4_3).f1).length c156_1) := (kc BK157.out 1).trans rfl; have hcz80_2 : w79.cell? ⟨gb157, 2, none⟩ = some (.slice A156_2 ((km l0_2 x4_3).f2).length c156_2) := (kc BK157.out 2).trans rfl; have hcz80_3 : w79.cell? ⟨gb157, 3, none⟩ = some (.bool ((km l0_2 x4_3).f3)) := (kc BK157.out 3).trans rfl; have hcz80_4 : w79.cell? ⟨gb157, 4, none⟩ = some (.slice A156_4 ((km l0_2 x4_3).f4).length c156_4) := (kc BK157.out 4).trans rfl; have hfz80_0 := kb BK157.out 0; have hfz80_1 := kb BK157.out 1; have hfz80_2 := kb BK157.out 2; have hfz80_3 := kb BK157.out 3; have hfz80_4 := kb BK157.out 4) | (go_at_call 42; (with_reducible refine (rnames.calls k3 _ _ ((km l0_2 x4_3).f2) false _ ?side1 ?side2 A47.out).mono ?_); (case side1 => exact Kd.kx HR156_2.out HB.out); (case side2 => exact HC156_2.out); rintro e w81 ⟨rfl, hb⟩; have n0_ := kd.mk (ku (g := gb150) (o := .cells #[.slice A0_0 l0_0.length c0_0, .slice A0_1 l0_1.length c0_1, .slice (some ad156) l0_2.length c0_2] 26 (0, 0)) (by (with_reducible repeat (first | refine kg ?_ _ | refine kk ?_ | refine ki ?_ _)); exact BK150.out) hb); have n1_ := kd.mk (ku (g := gb157) (o := .cells #[.string ((km l0_2 x4_3).f0), .slice A156_1 ((km l0_2 x4_3).f1).length c156_1, .slice A156_2 ((km l0_2 x4_3).f2).length c156_2, .bool ((km l0_2 x4_3).f3), .slice A156_4 ((km l0_2 x4_3).f4).length c156_4] 45 (0, 0)) (by (with_reducible repeat (first | refine kg ?_ _ | refine kk ?_ | refine ki ?_ _)); exact BK157.out) hb); have n2_ := kd.mk (kr (by repeat (first | (with_reducible first | exact HB.out | apply ke | apply ka | apply kf | refine kj ?_ GE150.out | refine kj ?_ GE157.out) | exact HB.out)) hb); clear BK150; clear BK157; clear HB; have BK150 := n0_; have BK157 := n1_; have HB := n2_; clear n0_ n1_ n2_; (try clear hb)))
               go_ret
               exact ⟨by first | rfl | (simp [kp, ko] <;> rfl) | (simp [*, kp, ko] <;> rfl), by repeat (first | (with_reducible first | exact HB.out | apply ke | apply ka | apply kf | refine kj ?_ GE150.out | refine kj ?_ GE157.out) | exact HB.out)⟩
             ·replace c46 := Bool.eq_false_iff.mpr c46
              subst c46
              replace H : (some false) = some r := by rw [if_neg (show ¬ (false = true) by decide)] at H; exact H
              obtain rfl := Option.some.inj H
              have hcz82_0 : wr.cell? ⟨gb150, 0, none⟩ = some (.slice A0_0 l0_0.length c0_0) := (kc BK150.out 0).trans rfl
              have hcz82_1 : wr.cell? ⟨gb150, 1, none⟩ = some (.slice A0_1 l0_1.length c0_1) := (kc BK150.out 1).trans rfl
              have hcz82_2 : wr.cell? ⟨gb150, 2, none⟩ = some (.slice A0_2 l0_2.length c0_2) := (kc BK150.out 2).trans rfl
              have hfz82_0 := kb BK150.out 0
              have hfz82_1 := kb BK150.out 1
              have hfz82_2 := kb BK150.out 2
              have p156 : 0 ≤ (x4_3 : Int) := of_decide_eq_true (by first | (with_reducible assumption) | assumption)
              have q156 : x4_3 < (l0_2.length : Int) := of_decide_eq_true (by first | (with_reducible assumption) | assumption)
              obtain ⟨ad156, A156_1, c156_1, A156_2, c156_2, A156_4, c156_4, e156, hx156_0, hx156_1, hx156_2, hx156_3, hx156_4, hl156_1, hi156_1, hl156_2, hi156_2, hl156_4, hi156_4⟩ := at_T45 HR0_2.out x4_3 p156 q156
              cases e156
              replace hx156_0 := (HB.out.cell (World.block_lt_of_cell? w _ hx156_0)).trans hx156_0
              replace hx156_1 := (HB.out.cell (World.block_lt_of_cell? w _ hx156_1)).trans hx156_1
              replace hx156_2 := (HB.out.cell (World.block_lt_of_cell? w _ hx156_2)).trans hx156_2
              replace hx156_3 := (HB.out.cell (World.block_lt_of_cell? w _ hx156_3)).trans hx156_3
              replace hx156_4 := (HB.out.cell (World.block_lt_of_cell? w _ hx156_4)).trans hx156_4
              have HR156_1 := kd.mk hi156_1
              have HC156_1 := kd.mk hl156_1
              clear hi156_1 hl156_1
              have HR156_2 := kd.mk hi156_2
              have HC156_2 := kd.mk hl156_2
              clear hi156_2 hl156_2
              have HR156_4 := kd.mk hi156_4
              have HC156_4 := kd.mk hl156_4
              clear hi156_4 hl156_4
              replace p156 := eq_true p156
              replace q156 := eq_true q156
              go_wp2_with (first | ((with_reducible refine ja (N := 5) rfl ?_); (try (refine gate_guard (by rfl) ?_; dsimp only)); refine kz ?hg (N := 5) ?hd (cs := #[.string (⟨#[]⟩ : ByteArray), .slice none 0 0, .slice none 0 0, .bool false, .slice none 0 0]) (t := 45) ?hr ?_; (case hd => rfl); (case hg => rfl); (case hr => first | (go_simp; done) | (go_simp; rfl)); intro gb157 hg w83 hbox hb; have n0_ := kd.mk (ku (g := gb150) (o := .cells #[.slice A0_0 l0_0.length c0_0, .slice A0_1 l0_1.length c0_1, .slice (some ad156) l0_2.length c0_2] 26 (0, 0)) (by (with_reducible repeat (first | refine kg ?_ _ | refine kk ?_ | refine ki ?_ _)); exact BK150.out) hb); have n1_ := kd.mk (kr (by repeat (first | (with_reducible first | exact HB.out | apply ke | apply ka | apply kf | refine kj ?_ GE150.out) | exact HB.out)) hb); have n2_ := kd.mk (hbox); have n3_ := kd.mk ((by rw [hg]; exact (ks (by repeat (first | (with_reducible first | exact HB.out | apply ke | apply ka | apply kf | refine kj ?_ GE150.out) | exact HB.out))) : w.heap.size ≤ gb157)); have n4_ := kd.mk ((by rw [hg]; exact (ks (by repeat (first | (with_reducible first | exact HB.out | apply ke | apply ka | apply kf | refine kj ?_ GE150.out) | exact HB.out))) : w.heap.size ≤ gb157)); have n5_ := kd.mk ((by rw [hg]; exact Nat.ne_of_lt (jk (g := gb150) (o := .cells #[.slice A0_0 l0_0.length c0_0, .slice A0_1 l0_1.length c0_1, .slice (some ad156) l0_2.length c0_2] 26 (0, 0)) (by (with_reducible repeat (first | refine kg ?_ _ | refine kk ?_ | refine ki ?_ _)); exact BK150.out)) : gb150 ≠ gb157)); have n6_ := kd.mk ((by rw [hg]; exact Nat.ne_of_gt (jk (g := gb150) (o := .cells #[.slice A0_0 l0_0.length c0_0, .slice A0_1 l0_1.length c0_1, .slice (some ad156) l0_2.length c0_2] 26 (0, 0)) (by (with_reducible repeat (first | refine kg ?_ _ | refine kk ?_ | refine ki ?_ _)); exact BK150.out)) : gb157 ≠ gb150)); clear BK150; clear HB; have BK150 := n0_; have HB := n1_; have BK157 := n2_; have GW157 := n3_; have GE157 := n4_; have NB150_157 := n5_; have NB157_150 := n6_; clear n0_ n1_ n2_ n3_ n4_ n5_ n6_; clear hb hbox hg; have hnb84 := NB157_150.out; have hnc84 := NB150_157.out; have hcz85_0 : w83.cell? ⟨gb157, 0, none⟩ = some (.string (⟨#[]⟩ : ByteArray)) := (kc BK157.out 0).trans rfl; have hcz85_1 : w83.cell? ⟨gb157, 1, none⟩ = some (.slice none 0 0) := (kc BK157.out 1).trans rfl; have hcz85_2 : w83.cell? ⟨gb157, 2, none⟩ = some (.slice none 0 0) := (kc BK157.out 2).trans rfl; have hcz85_3 : w83.cell? ⟨gb157, 3, none⟩ = some (.bool false) := (kc BK157.out 3).trans rfl; have hcz85_4 : w83.cell? ⟨gb157, 4, none⟩ = some (.slice none 0 0) := (kc BK157.out 4).trans rfl; have hfz85_0 := kb BK157.out 0; have hfz85_1 := kb BK157.out 1; have hfz85_2 := kb BK157.out 2; have hfz85_3 := kb BK157.out 3; have hfz85_4 := kb BK157.out 4) | ((with_reducible refine jb (f := 43) rfl ?_); refine jo (some 69) rfl rfl Tryd.func43 (by kernel_rfl) rfl #[.string ((km l0_2 x4_3).f0)] rfl (by (try simp only [List.map_toArray, List.map_cons, List.map_nil]); first | done | rfl | (simp only [List.length_drop, List.length_take]; rfl)) ?_; (with_reducible refine (rIsName.calls k3 ((km l0_2 x4_3).f0) true _ A36.out).mono ?_); rintro e w86 ⟨rfl, hb⟩; refine ⟨_, rfl, ?_⟩; have n0_ := kd.mk (ku (g := gb150) (o := .cells #[.slice A0_0 l0_0.length c0_0, .slice A0_1 l0_1.length c0_1, .slice (some ad156) l0_2.length c0_2] 26 (0, 0)) (by (with_reducible repeat (first | refine kg ?_ _ | refine kk ?_ | refine ki ?_ _)); refine ji ?_ NB150_157.out _; (with_reducible repeat (first | refine kg ?_ _ | refine kk ?_ | refine ki ?_ _)); refine ji ?_ NB150_157.out _; (with_reducible repeat (first | refine kg ?_ _ | refine kk ?_ | refine ki ?_ _)); refine ji ?_ NB150_157.out _; (with_reducible repeat (first | refine kg ?_ _ | refine kk ?_ | refine ki ?_ _)); refine ji ?_ NB150_157.out _; (with_reducible repeat (first | refine kg ?_ _ | refine kk ?_ | refine ki ?_ _)); refine ji ?_ NB150_157.out _; (with_reducible repeat (first | refine kg ?_ _ | refine kk ?_ | refine ki ?_ _)); exact BK150.out) hb); have n1_ := kd.mk (ku (g := gb157) (o := .cells #[.string ((km l0_2 x4_3).f0), .slice A156_1 ((km l0_2 x4_3).f1).length c156_1, .slice A156_2 ((km l0_2 x4_3).f2).length c156_2, .bool ((km l0_2 x4_3).f3), .slice A156_4 ((km l0_2 x4_3).f4).length c156_4] 45 (0, 0)) (by (with_reducible repeat (first | refine kg ?_ _ | refine kk ?_ | refine ki ?_ _)); refine ky (cs := #[.string ((km l0_2 x4_3).f0), .slice A156_1 ((km l0_2 x4_3).f1).length c156_1, .slice A156_2 ((km l0_2 x4_3).f2).length c156_2, .bool ((km l0_2 x4_3).f3), .slice none 0 0]) ?_ 4 _ rfl; (with_reducible repeat (first | refine kg ?_ _ | refine kk ?_ | refine ki ?_ _)); refine ky (cs := #[.string ((km l0_2 x4_3).f0), .slice A156_1 ((km l0_2 x4_3).f1).length c156_1, .slice A156_2 ((km l0_2 x4_3).f2).length c156_2, .bool false, .slice none 0 0]) ?_ 3 _ rfl; (with_reducible repeat (first | refine kg ?_ _ | refine kk ?_ | refine ki ?_ _)); refine ky (cs := #[.string ((km l0_2 x4_3).f0), .slice A156_1 ((km l0_2 x4_3).f1).length c156_1, .slice none 0 0, .bool false, .slice none 0 0]) ?_ 2 _ rfl; (with_reducible repeat (first | refine kg ?_ _ | refine kk ?_ | refine ki ?_ _)); refine ky (cs := #[.string ((km l0_2 x4_3).f0), .slice none 0 0, .slice none 0 0, .bool false, .slice none 0 0]) ?_ 1 _ rfl; (with_reducible repeat (first | refine kg ?_ _ | refine kk ?_ | refine ki ?_ _)); refine ky (cs := #[.string (⟨#[]⟩ : ByteArray), .slice none 0 0, .slice none 0 0, .bool false, .slice none 0 0]) ?_ 0 _ rfl; (with_reducible repeat (first | refine kg ?_ _ | refine kk ?_ | refine ki ?_ _)); exact BK157.out) hb); have n2_ := kd.mk (kr (by repeat (first | (with_reducible first | exact HB.out | apply ke | apply ka | apply kf | refine kj ?_ GE150.out | refine kj ?_ GE157.out) | exact HB.out)) hb); clear BK150; clear BK157; clear HB; have BK150 := n0_; have BK157 := n1_; have HB := n2_; clear n0_ n1_ n2_; (try clear hb); have hcz87_0 : w86.cell? ⟨gb157, 0, none⟩ = some (.string ((km l0_2 x4_3).f0)) := (kc BK157.out 0).trans rfl; have hcz87_1 : w86.cell? ⟨gb157, 1, none⟩ = some (.slice A156_1 ((km l0_2 x4_3).f1).length c156_1) := (kc BK157.out 1).trans rfl; have hcz87_2 : w86.cell? ⟨gb157, 2, none⟩ = some (.slice A156_2 ((km l0_2 x4_3).f2).length c156_2) := (kc BK157.out 2).trans rfl; have hcz87_3 : w86.cell? ⟨gb157, 3, none⟩ = some (.bool ((km l0_2 x4_3).f3)) := (kc BK157.out 3).trans rfl; have hcz87_4 : w86.cell? ⟨gb157, 4, none⟩ = some (.slice A156_4 ((km l0_2 x4_3).f4).length c156_4) := (kc BK157.out 4).trans rfl; have hfz87_0 := kb BK157.out 0; have hfz87_1 := kb BK157.out 1; have hfz87_2 := kb BK157.out 2; have hfz87_3 := kb BK157.out 3; have hfz87_4 := kb BK157.out 4) | (go_at_call 42; (with_reducible refine (rnames.calls k3 _ _ ((km l0_2 x4_3).f1) false _ ?side1 ?side2 A45.out).mono ?_); (case side1 => exact Kd.kx HR156_1.out HB.out); (case side2 => exact HC156_1.out); rintro e w88 ⟨rfl, hb⟩; have n0_ := kd.mk (ku (g := gb150) (o := .cells #[.slice A0_0 l0_0.length c0_0, .slice A0_1 l0_1.length c0_1, .slice (some ad156) l0_2.length c0_2] 26 (0, 0)) (by (with_reducible repeat (first | refine kg ?_ _ | refine kk ?_ | refine ki ?_ _)); exact BK150.out) hb); have n1_ := kd.mk (ku (g := gb157) (o := .cells #[.string ((km l0_2 x4_3).f0), .slice A156_1 ((km l0_2 x4_3).f1).length c156_1, .slice A156_2 ((km l0_2 x4_3).f2).length c156_2, .bool ((km l0_2 x4_3).f3), .slice A156_4 ((km l0_2 x4_3).f4).length c156_4] 45 (0, 0)) (by (with_reducible repeat (first | refine kg ?_ _ | refine kk ?_ | refine ki ?_ _)); exact BK157.out) hb); have n2_ := kd.mk (kr (by repeat (first | (with_reducible first | exact HB.out | apply ke | apply ka | apply kf | refine kj ?_ GE150.out | refine kj ?_ GE157.out) | exact HB.out)) hb); clear BK150; clear BK157; clear HB; have BK150 := n0_; have BK157 := n1_; have HB := n2_; clear n0_ n1_ n2_; (try clear hb)))
              go_ret
              exact ⟨by first | rfl | (simp [kp, ko] <;> rfl) | (simp [*, kp, ko] <;> rfl), by repeat (first | (with_reducible first | exact HB.out | apply ke | apply ka | apply kf | refine kj ?_ GE150.out | refine kj ?_ GE157.out) | exact HB.out)⟩
           ·replace c37 := Bool.eq_false_iff.mpr c37
            subst c37
            replace H : (some false) = some r := by rw [if_neg (show ¬ (false = true) by decide)] at H; exact H
            obtain rfl := Option.some.inj H
            have hcz89_0 : wr.cell? ⟨gb150, 0, none⟩ = some (.slice A0_0 l0_0.length c0_0) := (kc BK150.out 0).trans rfl
            have hcz89_1 : wr.cell? ⟨gb150, 1, none⟩ = some (.slice A0_1 l0_1.length c0_1) := (kc BK150.out 1).trans rfl
            have hcz89_2 : wr.cell? ⟨gb150, 2, none⟩ = some (.slice A0_2 l0_2.length c0_2) := (kc BK150.out 2).trans rfl
            have hfz89_0 := kb BK150.out 0
            have hfz89_1 := kb BK150.out 1
            have hfz89_2 := kb BK150.out 2
            have p156 : 0 ≤ (x4_3 : Int) := of_decide_eq_true (by first | (with_reducible assumption) | assumption)
            have q156 : x4_3 < (l0_2.length : Int) := of_decide_eq_true (by first | (with_reducible assumption) | assumption)
            obtain ⟨ad156, A156_1, c156_1, A156_2, c156_2, A156_4, c156_4, e156, hx156_0, hx156_1, hx156_2, hx156_3, hx156_4, hl156_1, hi156_1, hl156_2, hi156_2, hl156_4, hi156_4⟩ := at_T45 HR0_2.out x4_3 p156 q156
            cases e156
            replace hx156_0 := (HB.out.cell (World.block_lt_of_cell? w _ hx156_0)).trans hx156_0
            replace hx156_1 := (HB.out.cell (World.block_lt_of_cell? w _ hx156_1)).trans hx156_1
            replace hx156_2 := (HB.out.cell (World.block_lt_of_cell? w _ hx156_2)).trans hx156_2
            replace hx156_3 := (HB.out.cell (World.block_lt_of_cell? w _ hx156_3)).trans hx156_3
            replace hx156_4 := (HB.out.cell (World.block_lt_of_cell? w _ hx156_4)).trans hx156_4
            have HR156_1 := kd.mk hi156_1
            have HC156_1 := kd.mk hl156_1
            clear hi156_1 hl156_1
            have HR156_2 := kd.mk hi156_2
            have HC156_2 := kd.mk hl156_2
            clear hi156_2 hl156_2
            have HR156_4 := kd.mk hi156_4
            have HC156_4 := kd.mk hl156_4
            clear hi156_4 hl156_4
            replace p156 := eq_true p156
            replace q156 := eq_true q156
            go_wp2_with (first | ((with_reducible refine ja (N := 5) rfl ?_); (try (refine gate_guard (by rfl) ?_; dsimp only)); refine kz ?hg (N := 5) ?hd (cs := #[.string (⟨#[]⟩ : ByteArray), .slice none 0 0, .slice none 0 0, .bool false, .slice none 0 0]) (t := 45) ?hr ?_; (case hd => rfl); (case hg => rfl); (case hr => first | (go_simp; done) | (go_simp; rfl)); intro gb157 hg w90 hbox hb; have n0_ := kd.mk (ku (g := gb150) (o := .cells #[.slice A0_0 l0_0.length c0_0, .slice A0_1 l0_1.length c0_1, .slice (some ad156) l0_2.length c0_2] 26 (0, 0)) (by (with_reducible repeat (first | refine kg ?_ _ | refine kk ?_ | refine ki ?_ _)); exact BK150.out) hb); have n1_ := kd.mk (kr (by repeat (first | (with_reducible first | exact HB.out | apply ke | apply ka | apply kf | refine kj ?_ GE150.out) | exact HB.out)) hb); have n2_ := kd.mk (hbox); have n3_ := kd.mk ((by rw [hg]; exact (ks (by repeat (first | (with_reducible first | exact HB.out | apply ke | apply ka | apply kf | refine kj ?_ GE150.out) | exact HB.out))) : w.heap.size ≤ gb157)); have n4_ := kd.mk ((by rw [hg]; exact (ks (by repeat (first | (with_reducible first | exact HB.out | apply ke | apply ka | apply kf | refine kj ?_ GE150.out) | exact HB.out))) : w.heap.size ≤ gb157)); have n5_ := kd.mk ((by rw [hg]; exact Nat.ne_of_lt (jk (g := gb150) (o := .cells #[.slice A0_0 l0_0.length c0_0, .slice A0_1 l0_1.length c0_1, .slice (some ad156) l0_2.length c0_2] 26 (0, 0)) (by (with_reducible repeat (first | refine kg ?_ _ | refine kk ?_ | refine ki ?_ _)); exact BK150.out)) : gb150 ≠ gb157)); have n6_ := kd.mk ((by rw [hg]; exact Nat.ne_of_gt (jk (g := gb150) (o := .cells #[.slice A0_0 l0_0.length c0_0, .slice A0_1 l0_1.length c0_1, .slice (some ad156) l0_2.length c0_2] 26 (0, 0)) (by (with_reducible repeat (first | refine kg ?_ _ | refine kk ?_ | refine ki ?_ _)); exact BK150.out)) : gb157 ≠ gb150)); clear BK150; clear HB; have BK150 := n0_; have HB := n1_; have BK157 := n2_; have GW157 := n3_; have GE157 := n4_; have NB150_157 := n5_; have NB157_150 := n6_; clear n0_ n1_ n2_ n3_ n4_ n5_ n6_; clear hb hbox hg; have hnb91 := NB157_150.out; have hnc91 := NB150_157.out; have hcz92_0 : w90.cell? ⟨gb157, 0, none⟩ = some (.string (⟨#[]⟩ : ByteArray)) := (kc BK157.out 0).trans rfl; have hcz92_1 : w90.cell? ⟨gb157, 1, none⟩ = some (.slice none 0 0) := (kc BK157.out 1).trans rfl; have hcz92_2 : w90.cell? ⟨gb157, 2, none⟩ = some (.slice none 0 0) := (kc BK157.out 2).trans rfl; have hcz92_3 : w90.cell? ⟨gb157, 3, none⟩ = some (.bool false) := (kc BK157.out 3).trans rfl; have hcz92_4 : w90.cell? ⟨gb157, 4, none⟩ = some (.slice none 0 0) := (kc BK157.out 4).trans rfl; have hfz92_0 := kb BK157.out 0; have hfz92_1 := kb BK157.out 1; have hfz92_2 := kb BK157.out 2; have hfz92_3 := kb BK157.out 3; have hfz92_4 := kb BK157.out 4) | ((with_reducible refine jb (f := 43) rfl ?_); refine jo (some 69) rfl rfl Tryd.func43 (by kernel_rfl) rfl #[.string ((km l0_2 x4_3).f0)] rfl (by (try simp only [List.map_toArray, List.map_cons, List.map_nil]); first | done | rfl | (simp only [List.length_drop, List.length_take]; rfl)) ?_; (with_reducible refine (rIsName.calls k3 ((km l0_2 x4_3).f0) false _ A36.out).mono ?_); rintro e w93 ⟨rfl, hb⟩; refine ⟨_, rfl, ?_⟩; have n0_ := kd.mk (ku (g := gb150) (o := .cells #[.slice A0_0 l0_0.length c0_0, .slice A0_1 l0_1.length c0_1, .slice (some ad156) l0_2.length c0_2] 26 (0, 0)) (by (with_reducible repeat (first | refine kg ?_ _ | refine kk ?_ | refine ki ?_ _)); refine ji ?_ NB150_157.out _; (with_reducible repeat (first | refine kg ?_ _ | refine kk ?_ | refine ki ?_ _)); refine ji ?_ NB150_157.out _; (with_reducible repeat (first | refine kg ?_ _ | refine kk ?_ | refine ki ?_ _)); refine ji ?_ NB150_157.out _; (with_reducible repeat (first | refine kg ?_ _ | refine kk ?_ | refine ki ?_ _)); refine ji ?_ NB150_157.out _; (with_reducible repeat (first | refine kg ?_ _ | refine kk ?_ | refine ki ?_ _)); refine ji ?_ NB150_157.out _; (with_reducible repeat (first | refine kg ?_ _ | refine kk ?_ | refine ki ?_ _)); exact BK150.out) hb); have n1_ := kd.mk (ku (g := gb157) (o := .cells #[.string ((km l0_2 x4_3).f0), .slice A156_1 ((km l0_2 x4_3).f1).length c156_1, .slice A156_2 ((km l0_2 x4_3).f2).length c156_2, .bool ((km l0_2 x4_3).f3), .slice A156_4 ((km l0_2 x4_3).f4).length c156_4] 45 (0, 0)) (by (with_reducible repeat (first | refine kg ?_ _ | refine kk ?_ | refine ki ?_ _)); refine ky (cs := #[.string ((km l0_2 x4_3).f0), .slice A156_1 ((km l0_2 x4_3).f1).length c156_1, .slice A156_2 ((km l0_2 x4_3).f2).length c156_2, .bool ((km l0_2 x4_3).f3), .slice none 0 0]) ?_ 4 _ rfl; (with_reducible repeat (first | refine kg ?_ _ | refine kk ?_ | refine ki ?_ _)); refine ky (cs := #[.string ((km l0_2 x4_3).f0), .slice A156_1 ((km l0_2 x4_3).f1).length c156_1, .slice A156_2 ((km l0_2 x4_3).f2).length c156_2, .bool false, .slice none 0 0]) ?_ 3 _ rfl; (with_reducible repeat (first | refine kg ?_ _ | refine kk ?_ | refine ki ?_ _)); refine ky (cs := #[.string ((km l0_2 x4_3).f0), .slice A156_1 ((km l0_2 x4_3).f1).length c156_1, .slice none 0 0, .bool false, .slice none 0 0]) ?_ 2 _ rfl; (with_reducible repeat (first | refine kg ?_ _ | refine kk ?_ | refine ki ?_ _)); refine ky (cs := #[.string ((km l0_2 x4_3).f0), .slice none 0 0, .slice none 0 0, .bool false, .slice none 0 0]) ?_ 1 _ rfl; (with_reducible repeat (first | refine kg ?_ _ | refine kk ?_ | refine ki ?_ _)); refine ky (cs := #[.string (⟨#[]⟩ : ByteArray), .slice none 0 0, .slice none 0 0, .bool false, .slice none 0 0]) ?_ 0 _ rfl; (with_reducible repeat (first | refine kg ?_ _ | refine kk ?_ | refine ki ?_ _)); exact BK157.out) hb); have n2_ := kd.mk (kr (by repeat (first | (with_reducible first | exact HB.out | apply ke | apply ka | apply kf | refine kj ?_ GE150.out | refine kj ?_ GE157.out) | exact HB.out)) hb); clear BK150; clear BK157; clear HB; have BK150 := n0_; have BK157 := n1_; have HB := n2_; clear n0_ n1_ n2_; (try clear hb)))
            go_ret
            exact ⟨by first | rfl | (simp [kp, ko] <;> rfl) | (simp [*, kp, ko] <;> rfl), by repeat (first | (with_reducible first | exact HB.out | apply ke | apply ka | apply kf | refine kj ?_ GE150.out | refine kj ?_ GE157.out) | exact HB.out)⟩
          ·rw [if_neg c35] at H
           exact absurd H (by simp)
         ·rw [if_neg c34] at H
          have c34b0 : decide (x4_3 < (l0_2.length : Int)) = false := decide_eq_false c34
          clear c34
          obtain rfl := Option.some.inj H
          have hcz94_0 : wr.cell? ⟨gb150, 0, none⟩ = some (.slice A0_0 l0_0.length c0_0) := (kc BK150.out 0).trans rfl
          have hcz94_1 : wr.cell? ⟨gb150, 1, none⟩ = some (.slice A0_1 l0_1.length c0_1) := (kc BK150.out 1).trans rfl
          have hcz94_2 : wr.cell? ⟨gb150, 2, none⟩ = some (.slice A0_2 l0_2.length c0_2) := (kc BK150.out 2).trans rfl
          have hfz94_0 := kb BK150.out 0
          have hfz94_1 := kb BK150.out 1
          have hfz94_2 := kb BK150.out 2
          go_wp2
          go_ret
          exact ⟨by first | rfl | (simp [kp, ko] <;> rfl) | (simp [*, kp, ko] <;> rfl), by repeat (first | (with_reducible first | exact HB.out | apply ke | apply ka | apply kf | refine kj ?_ GE150.out) | exact HB.out)⟩
end Go.Proofs.YthnhdompfhkepaaDoor.Q
