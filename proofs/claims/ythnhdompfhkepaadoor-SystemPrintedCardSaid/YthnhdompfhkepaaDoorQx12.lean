import Derived.Test.YthnhdompfhkepaaDoorQx0
import Derived.Test.YthnhdompfhkepaaDoorQx11
namespace Go.Proofs.YthnhdompfhkepaaDoor.Q
open Go.RowKit Go.Proofs.YthnhdompfhkepaaDoorW.PrintWords Go.Proofs.YthnhdompfhkepaaDoorW.PrintLast Go.Proofs.YthnhdompfhkepaaDoorW.PrintMore
attribute [local go_sem] max2_int min2_int max_two min_two max_three min_three max_four min_four
set_option linter.unusedVariables false
set_option linter.unusedSimpArgs false
mutual
def qstmts.l0 : Nat → List (S43) → Int → Int → Int → Option (Int)
 | 0, _, _, _, _ => none
 | k + 1, x0, x1, x2, x7 => if x7 < (x0.length : Int) then (qstmts.j1 k x0 x1 x2 x7 (decide (x1 > 0))) else (qstmts.j1 k x0 x1 x2 x7 false)
def qstmts.j1 : Nat → List (S43) → Int → Int → Int → Bool → Option (Int)
 | 0, _, _, _, _, _ => none
 | k + 1, x0, x1, x2, x7, x21 => if x21 = true then (if 0 ≤ x7 then (if x7 < (x0.length : Int) then ((qexprs.f k ((kt x0 x7).f2) x1 (wrap64 (x2 - 1))).bind fun t165 => (if t165 > 0 then ((qstmts.f k ((kt x0 x7).f3) t165 (wrap64 (x2 - 1))).bind fun t167 => (if t167 > 0 then ((qstmts.f k ((kt x0 x7).f4) t167 (wrap64 (x2 - 1))).bind fun t169 => (qstmts.l0 k x0 t169 x2 (wrap64 (x7 + 1)))) else (qstmts.l0 k x0 t167 x2 (wrap64 (x7 + 1))))) else (qstmts.l0 k x0 t165 x2 (wrap64 (x7 + 1))))) else (none)) else (none)) else (some x1)
def qstmts.f : Nat → List (S43) → Int → Int → Option (Int)
 | 0, _, _, _ => none
 | k + 1, l0, a1, a2 => if a2 = 0 then (some 0) else (qstmts.l0 k l0 (wrap64 (a1 - (l0.length : Int))) a2 0)
end
theorem qstmts.mono_l : ∀ k, (∀ y0 y1 y2, LeO (qstmts.f k y0 y1 y2) (qstmts.f (k + 1) y0 y1 y2)) ∧ (∀ y0 y1 y2 y3, LeO (qstmts.l0 k y0 y1 y2 y3) (qstmts.l0 (k + 1) y0 y1 y2 y3)) ∧ (∀ y0 y1 y2 y3 y4, LeO (qstmts.j1 k y0 y1 y2 y3 y4) (qstmts.j1 (k + 1) y0 y1 y2 y3 y4))
 | 0 => ⟨fun _ _ _ r h => by simp [qstmts.f] at h, fun _ _ _ _ r h => by simp [qstmts.l0] at h, fun _ _ _ _ _ r h => by simp [qstmts.j1] at h⟩
 | k + 1 => by
  obtain ⟨ih0, ih1, ih2⟩ := qstmts.mono_l k
  refine ⟨?_, ?_, ?_⟩
  all_goals intros
  all_goals first | unfold qstmts.f | unfold qstmts.l0 | unfold qstmts.j1
  all_goals repeat' first
   | (with_reducible exact ih0 _ _ _)
   | (with_reducible exact ih1 _ _ _ _)
   | (with_reducible exact ih2 _ _ _ _ _)
   | (with_reducible exact qexprs.mono _ _ _ _)
   | (with_reducible exact LeO.refl _)
   | (with_reducible exact LeO.none _)
   | (with_reducible refine LeO.ite ?_ ?_)
   | (with_reducible refine LeO.bind ?_ (fun _ => ?_))
   | exact ih0 _ _ _
   | exact ih1 _ _ _ _
   | exact ih2 _ _ _ _ _
   | exact qexprs.mono _ _ _ _
   | exact LeO.none _
   | refine LeO.ite ?_ ?_
   | refine LeO.bind ?_ (fun _ => ?_)
theorem qstmts.mono : ∀ a0 a1 a2 k, LeO (qstmts.f k a0 a1 a2) (qstmts.f (k + 1) a0 a1 a2) := by
 intro a0 a1 a2 k
 obtain ⟨ih0, ih1, ih2⟩ := qstmts.mono_l k
 exact ih0 a0 a1 a2
set_option maxHeartbeats 8000000 in
set_option maxRecDepth 100000 in
theorem qstmts.calls (k : Nat) : ∀ (A0 : Option Addr) (c0 : Nat) (l0 : List (S43)) (a1 : Int) (a2 : Int) (r : Int) (w : World) (hr0 : Kd.C k43 w A0 l0.length l0) (hc0 : l0.length ≤ c0) (h : qstmts.f k l0 a1 a2 = some r),
 Calls Tryd.prog 57 #[.slice A0 l0.length c0, .int .i64 a1, .int .i64 a2] w fun e w' => e = .returned (.int .i64 r) ∧ jg w w' := by
 induction k using Nat.strongRecOn with
 | _ k ih =>
 intro A0 c0 l0 a1 a2 r w hr0 hc0 h
 cases k with
 | zero => exact absurd h (by simp [qstmts.f])
 | succ k =>
 simp only [qstmts.f] at h
 have HR0 := kd.mk hr0
 have HC0 := kd.mk hc0
 clear hr0 hc0
 have H : (if a2 = 0 then (some 0) else (qstmts.l0 k l0 (wrap64 (a1 - (l0.length : Int))) a2 0)) = some r := h
 clear h
 by_cases c4 : a2 = 0
 ·rw [if_pos c4] at H
  have c4b0 : (a2 == 0) = true := beq_iff_eq.mpr c4
  have c4b1 : (a2 != 0) = false := bne_eq_false_iff_eq.mpr c4
  clear c4
  obtain rfl := Option.some.inj H
  go_enter Tryd.func57, Tryd.ntmps57
  go_wp2
  go_ret
  exact ⟨by first | rfl | (simp; done) | (simp [*]; done), by repeat (first | exact jg.refl _ | apply jg.step)⟩
 ·rw [if_neg c4] at H
  have c4b0 : (a2 == 0) = false := beq_eq_false_iff_ne.mpr c4
  have c4b1 : (a2 != 0) = true := bne_iff_ne.mpr c4
  have H' := kd.mk H
  clear H
  go_enter Tryd.func57, Tryd.ntmps57
  go_wp2
  go_loopg [1, 7] k (fun kq v1 v7 w' => ∃ (x1_1 : Int) (x7_1 : Int), v1 = .int .i64 x1_1 ∧ v7 = .int .i64 x7_1 ∧ kd (qstmts.l0 kq l0 x1_1 a2 x7_1 = some r) ∧ kd (kq ≤ k) ∧ jg w w')
  case atStart => exact ⟨(wrap64 (a1 - (l0.length : Int))), (0), (by first | rfl | (simp; done) | (simp [*]; done)), (by first | rfl | (simp; done) | (simp [*]; done)), H', ⟨Nat.le_refl _⟩, by repeat (first | exact jg.refl _ | apply jg.step)⟩
  case round =>
   clear H'
   try clear p2
   try clear c4
   try clear c4b0
   try clear c4b1
   obtain ⟨x1_1, x7_1, rfl, rfl, HA, HK1, ⟨m1, rfl⟩⟩ := hrel
   cases gk with
   | zero => exact absurd HA.out (by simp [qstmts.l0])
   | succ k1 =>
    have H := HA.out
    clear HA
    simp only [qstmts.l0] at H
    have HC5 := kd.mk H
    clear H
    go_upto_region 5 with (fail)
    go_cut [21] (fun v21 wc => ∃ (kq : Nat) (x21_4 : Bool), v21 = .bool x21_4 ∧ kd (qstmts.j1 kq l0 x1_1 a2 x7_1 x21_4 = some r) ∧ kd (kq ≤ k1) ∧ jg w wc)
    case first =>
     have H := HC5.out
     clear HC5
     by_cases c6 : x7_1 < (l0.length : Int)
     ·rw [if_pos c6] at H
      have c6b0 : decide (x7_1 < (l0.length : Int)) = true := decide_eq_true c6
      clear c6
      (first | rw [c6b0] | (simp only [jc, jd]; rw [c6b0]) | skip)
      have H' := kd.mk H
      clear H
      go_wp2
      go_meet
      case rel => exact ⟨_, (decide (x1_1 > 0)), (by first | rfl | (simp; done) | (simp [*]; done)), H', ⟨by have := HK1.out; first | omega | exact Nat.le_refl _⟩, by repeat (first | exact jg.refl _ | apply jg.step)⟩
     ·rw [if_neg c6] at H
      have c6b0 : decide (x7_1 < (l0.length : Int)) = false := decide_eq_false c6
      clear c6
      (first | rw [c6b0] | (simp only [jc, jd]; rw [c6b0]) | skip)
      have H' := kd.mk H
      clear H
      go_wp2
      go_meet
      case rel => exact ⟨_, (false), (by first | rfl | (simp; done) | (simp [*]; done)), H', ⟨by have := HK1.out; first | omega | exact Nat.le_refl _⟩, by repeat (first | exact jg.refl _ | apply jg.step)⟩
    case rest =>
     clear HC5
     try clear p2
     try clear c4
     try clear c4b0
     try clear c4b1
     try clear c5
     try clear c6
     try clear c6b0
     try clear p6
     try clear p2
     obtain ⟨kq, x21_4, rfl, HA, HJ4, ⟨mc4, rfl⟩⟩ := hcut
     cases kq with
     | zero => exact absurd HA.out (by simp [qstmts.j1])
     | succ kj4 =>
      have H := HA.out
      clear HA
      simp only [qstmts.j1] at H
      by_cases c7 : x21_4 = true
      ·subst c7
       replace H : (if 0 ≤ x7_1 then (if x7_1 < (l0.length : Int) then ((qexprs.f kj4 ((kt l0 x7_1).f2) x1_1 (wrap64 (a2 - 1))).bind fun t165 => (if t165 > 0 then ((qstmts.f kj4 ((kt l0 x7_1).f3) t165 (wrap64 (a2 - 1))).bind fun t167 => (if t167 > 0 then ((qstmts.f kj4 ((kt l0 x7_1).f4) t167 (wrap64 (a2 - 1))).bind fun t169 => (qstmts.l0 kj4 l0 t169 a2 (wrap64 (x7_1 + 1)))) else (qstmts.l0 kj4 l0 t167 a2 (wrap64 (x7_1 + 1))))) else (qstmts.l0 kj4 l0 t165 a2 (wrap64 (x7_1 + 1))))) else (none)) else (none)) = some r := by rw [if_pos rfl] at H; exact H
       by_cases c8 : 0 ≤ x7_1
       ·rw [if_pos c8] at H
        have c8b0 : decide (0 ≤ x7_1) = true := decide_eq_true c8
        clear c8
        by_cases c9 : x7_1 < (l0.length : Int)
        ·rw [if_pos c9] at H
         have c9b0 : decide (x7_1 < (l0.length : Int)) = true := decide_eq_true c9
         clear c9
         replace H := Option.bind_eq_some_iff.mp H
         obtain ⟨t165, A100, H⟩ := H
         replace H : (if t165 > 0 then ((qstmts.f kj4 ((kt l0 x7_1).f3) t165 (wrap64 (a2 - 1))).bind fun t167 => (if t167 > 0 then ((qstmts.f kj4 ((kt l0 x7_1).f4) t167 (wrap64 (a2 - 1))).bind fun t169 => (qstmts.l0 kj4 l0 t169 a2 (wrap64 (x7_1 + 1)))) else (qstmts.l0 kj4 l0 t167 a2 (wrap64 (x7_1 + 1))))) else (qstmts.l0 kj4 l0 t165 a2 (wrap64 (x7_1 + 1)))) = some r := H
         have A10 := kd.mk A100
         clear A100
         by_cases c11 : t165 > 0
         ·rw [if_pos c11] at H
          have c11b0 : decide (0 < t165) = true := decide_eq_true c11
          clear c11
          replace H := Option.bind_eq_some_iff.mp H
          obtain ⟨t167, A120, H⟩ := H
          replace H : (if t167 > 0 then ((qstmts.f kj4 ((kt l0 x7_1).f4) t167 (wrap64 (a2 - 1))).bind fun t169 => (qstmts.l0 kj4 l0 t169 a2 (wrap64 (x7_1 + 1)))) else (qstmts.l0 kj4 l0 t167 a2 (wrap64 (x7_1 + 1)))) = some r := H
          have A12 := kd.mk A120
          clear A120
          by_cases c13 : t167 > 0
          ·rw [if_pos c13] at H
           have c13b0 : decide (0 < t167) = true := decide_eq_true c13
           clear c13
           replace H := Option.bind_eq_some_iff.mp H
           obtain ⟨t169, A140, H⟩ := H
           replace H : (qstmts.l0 kj4 l0 t169 a2 (wrap64 (x7_1 + 1))) = some r := H
           have A14 := kd.mk A140
           clear A140
           have H' := kd.mk H
           clear H
           have p164 : 0 ≤ (x7_1 : Int) := of_decide_eq_true (by first | (with_reducible assumption) | assumption)
           have q164 : x7_1 < (l0.length : Int) := of_decide_eq_true (by first | (with_reducible assumption) | assumption)
           obtain ⟨ad164, A164_2, c164_2, A164_3, c164_3, A164_4, c164_4, e164, hx164_0, hx164_1, hx164_2, hx164_3, hx164_4, hl164_2, hi164_2, hl164_3, hi164_3, hl164_4, hi164_4⟩ := at_T43 HR0.out x7_1 p164 q164
           cases e164
           have HR164_2 := kd.mk hi164_2
           have HC164_2 := kd.mk hl164_2
           clear hi164_2 hl164_2
           have HR164_3 := kd.mk hi164_3
           have HC164_3 := kd.mk hl164_3
           clear hi164_3 hl164_3
           have HR164_4 := kd.mk hi164_4
           have HC164_4 := kd.mk hl164_4
           clear hi164_4 hl164_4
           replace p164 := eq_true p164
           replace q164 := eq_true q164
           go_wp2_with (first | ((with_reducible refine jb (f := 76) rfl ?_); refine jo (some 32) rfl rfl Tryd.func76 (by kernel_rfl) rfl #[.slice A164_2 ((kt l0 x7_1).f2).length c164_2, .int .i64 x1_1, .int .i64 (wrap64 (a2 - 1))] rfl (by (try simp only [List.map_toArray, List.map_cons, List.map_nil]); first | done | rfl | (simp only [List.length_drop, List.length_take]; rfl)) ?_; (with_reducible refine (qexprs.calls kj4 _ _ ((kt l0 x7_1).f2) x1_1 (wrap64 (a2 - 1)) t165 _ ?side1 ?side2 A10.out).mono ?_); (case side1 => repeat (first | exact HR164_2.out | (with_reducible refine Kd.C_alloc ?_ _) | (with_reducible refine Kd.C_drewN ?_ _) | (with_reducible refine Kd.C_drew ?_))); (case side2 => exact HC164_2.out); rintro e w' ⟨rfl, ⟨nd, rfl⟩⟩; refine ⟨_, rfl, ?_⟩; have p166 : 0 ≤ (x7_1 : Int) := of_decide_eq_true (by first | (with_reducible assumption) | assumption); have q166 : x7_1 < (l0.length : Int) := of_decide_eq_true (by first | (with_reducible assumption) | assumption); obtain ⟨ad166, A166_2, c166_2, A166_3, c166_3, A166_4, c166_4, e166, hx166_0, hx166_1, hx166_2, hx166_3, hx166_4, hl166_2, hi166_2, hl166_3, hi166_3, hl166_4, hi166_4⟩ := at_T43 HR0.out x7_1 p166 q166; obtain rfl : ad164 = ad166 := (by injection e166); have HR166_2 := kd.mk hi166_2; have HC166_2 := kd.mk hl166_2; clear hi166_2 hl166_2; have HR166_3 := kd.mk hi166_3; have HC166_3 := kd.mk hl166_3; clear hi166_3 hl166_3; have HR166_4 := kd.mk hi166_4; have HC166_4 := kd.mk hl166_4; clear hi166_4 hl166_4; replace p166 := eq_true p166; replace q166 := eq_true q166; have ea_ := Option.some.inj (hx164_2.symm.trans hx166_2); injection ea_ with ea_ en_ ec_; subst ea_; subst ec_; clear en_; have ea_ := Option.some.inj (hx164_3.symm.trans hx166_3); injection ea_ with ea_ en_ ec_; subst ea_; subst ec_; clear en_; have ea_ := Option.some.inj (hx164_4.symm.trans hx166_4); injection ea_ with ea_ en_ ec_; subst ea_; subst ec_; clear en_) | ((with_reducible refine jb (f := 57) rfl ?_); refine jo (some 43) rfl rfl Tryd.func57 (by kernel_rfl) rfl #[.slice A164_3 ((kt l0 x7_1).f3).length c164_3, .int .i64 t165, .int .i64 (wrap64 (a2 - 1))] rfl (by (try simp only [List.map_toArray, List.map_cons, List.map_nil]); first | done | rfl | (simp only [List.length_drop, List.length_take]; rfl)) ?_; (with_reducible refine (ih kj4 (by have := HK1.out; have := HJ4.out; omega) _ _ ((kt l0 x7_1).f3) t165 (wrap64 (a2 - 1)) t167 _ ?side1 ?side2 A12.out).mono ?_); (case side1 => repeat (first | exact HR166_3.out | (with_reducible refine Kd.C_alloc ?_ _) | (with_reducible refine Kd.C_drewN ?_ _) | (with_reducible refine Kd.C_drew ?_))); (case side2 => exact HC166_3.out); rintro e w' ⟨rfl, ⟨nd, rfl⟩⟩; refine ⟨_, rfl, ?_⟩; have p168 : 0 ≤ (x7_1 : Int) := of_decide_eq_true (by first | (with_reducible assumption) | assumption); have q168 : x7_1 < (l0.length : Int) := of_decide_eq_true (by first | (with_reducible assumption) | assumption); obtain ⟨ad168, A168_2, c168_2, A168_3, c168_3, A168_4, c168_4, e168, hx168_0, hx168_1, hx168_2, hx168_3, hx168_4, hl168_2, hi168_2, hl168_3, hi168_3, hl168_4, hi168_4⟩ := at_T43 HR0.out x7_1 p168 q168; obtain rfl : ad164 = ad168 := (by injection e168); have HR168_2 := kd.mk hi168_2; have HC168_2 := kd.mk hl168_2; clear hi168_2 hl168_2; have HR168_3 := kd.mk hi168_3; have HC168_3 := kd.mk hl168_3; clear hi168_3 hl168_3; have HR168_4 := kd.mk hi168_4; have HC168_4 := kd.mk hl168_4; clear hi168_4 hl168_4; replace p168 := eq_true p168; replace q168 := eq_true q168; have ea_ := Option.some.inj (hx164_2.symm.trans hx168_2); injection ea_ with ea_ en_ ec_; subst ea_; subst ec_; clear en_; have ea_ := Option.some.inj (hx164_3.symm.trans hx168_3); injection ea_ with ea_ en_ ec_; subst ea_; subst ec_; clear en_; have ea_ := Option.some.inj (hx164_4.symm.trans hx168_4); injection ea_ with ea_ en_ ec_; subst ea_; subst ec_; clear en_) | ((with_reducible refine jb (f := 57) rfl ?_); refine jo (some 54) rfl rfl Tryd.func57 (by kernel_rfl) rfl #[.slice A164_4 ((kt l0 x7_1).f4).length c164_4, .int .i64 t167, .int .i64 (wrap64 (a2 - 1))] rfl (by (try simp only [List.map_toArray, List.map_cons, List.map_nil]); first | done | rfl | (simp only [List.length_drop, List.length_take]; rfl)) ?_; (with_reducible refine (ih kj4 (by have := HK1.out; have := HJ4.out; omega) _ _ ((kt l0 x7_1).f4) t167 (wrap64 (a2 - 1)) t169 _ ?side1 ?side2 A14.out).mono ?_); (case side1 => repeat (first | exact HR168_4.out | (with_reducible refine Kd.C_alloc ?_ _) | (with_reducible refine Kd.C_drewN ?_ _) | (with_reducible refine Kd.C_drew ?_))); (case side2 => exact HC168_4.out); rintro e w' ⟨rfl, ⟨nd, rfl⟩⟩; refine ⟨_, rfl, ?_⟩))
           go_roundg kj4
           case measure => have := HK1.out; have := HJ4.out; omega
           case rel => exact ⟨(t169), (wrap64 (x7_1 + 1)), (by first | rfl | (simp; done) | (simp [*]; done)), (by first | rfl | (simp; done) | (simp [*]; done)), H', ⟨by have := HK1.out; have := HJ4.out; omega⟩, by repeat (first | exact jg.refl _ | apply jg.step)⟩
          ·rw [if_neg c13] at H
           have c13b0 : decide (0 < t167) = false := decide_eq_false c13
           clear c13
           have H' := kd.mk H
           clear H
           have p164 : 0 ≤ (x7_1 : Int) := of_decide_eq_true (by first | (with_reducible assumption) | assumption)
           have q164 : x7_1 < (l0.length : Int) := of_decide_eq_true (by first | (with_reducible assumption) | assumption)
           obtain ⟨ad164, A164_2, c164_2, A164_3, c164_3, A164_4, c164_4, e164, hx164_0, hx164_1, hx164_2, hx164_3, hx164_4, hl164_2, hi164_2, hl164_3, hi164_3, hl164_4, hi164_4⟩ := at_T43 HR0.out x7_1 p164 q164
           cases e164
           have HR164_2 := kd.mk hi164_2
           have HC164_2 := kd.mk hl164_2
           clear hi164_2 hl164_2
           have HR164_3 := kd.mk hi164_3
           have HC164_3 := kd.mk hl164_3
           clear hi164_3 hl164_3
           have HR164_4 := kd.mk hi164_4
           have HC164_4 := kd.mk hl164_4
           clear hi164_4 hl164_4
           replace p164 := eq_true p164
           replace q164 := eq_true q164
           go_wp2_with (first | ((with_reducible refine jb (f := 76) rfl ?_); refine jo (some 32) rfl rfl Tryd.func76 (by kernel_rfl) rfl #[.slice A164_2 ((kt l0 x7_1).f2).length c164_2, .int .i64 x1_1, .int .i64 (wrap64 (a2 - 1))] rfl (by (try simp only [List.map_toArray, List.map_cons, List.map_nil]); first | done | rfl | (simp only [List.length_drop, List.length_take]; rfl)) ?_; (with_reducible refine (qexprs.calls kj4 _ _ ((kt l0 x7_1).f2) x1_1 (wrap64 (a2 - 1)) t165 _ ?side1 ?side2 A10.out).mono ?_); (case side1 => repeat (first | exact HR164_2.out | (with_reducible refine Kd.C_alloc ?_ _) | (with_reducible refine Kd.C_drewN ?_ _) | (with_reducible refine Kd.C_drew ?_))); (case side2 => exact HC164_2.out); rintro e w' ⟨rfl, ⟨nd, rfl⟩⟩; refine ⟨_, rfl, ?_⟩; have p166 : 0 ≤ (x7_1 : Int) := of_decide_eq_true (by first | (with_reducible assumption) | assumption); have q166 : x7_1 < (l0.length : Int) := of_decide_eq_true (by first | (with_reducible assumption) | assumption); obtain ⟨ad166, A166_2, c166_2, A166_3, c166_3, A166_4, c166_4, e166, hx166_0, hx166_1, hx166_2, hx166_3, hx166_4, hl166_2, hi166_2, hl166_3, hi166_3, hl166_4, hi166_4⟩ := at_T43 HR0.out x7_1 p166 q166; obtain rfl : ad164 = ad166 := (by injection e166); have HR166_2 := kd.mk hi166_2; have HC166_2 := kd.mk hl166_2; clear hi166_2 hl166_2; have HR166_3 := kd.mk hi166_3; have HC166_3 := kd.mk hl166_3; clear hi166_3 hl166_3; have HR166_4 := kd.mk hi166_4; have HC166_4 := kd.mk hl166_4; clear hi166_4 hl166_4; replace p166 := eq_true p166; replace q166 := eq_true q166; have ea_ := Option.some.inj (hx164_2.symm.trans hx166_2); injection ea_ with ea_ en_ ec_; subst ea_; subst ec_; clear en_; have ea_ := Option.some.inj (hx164_3.symm.trans hx166_3); injection ea_ with ea_ en_ ec_; subst ea_; subst ec_; clear en_; have ea_ := Option.some.inj (hx164_4.symm.trans hx166_4); injection ea_ with ea_ en_ ec_; subst ea_; subst ec_; clear en_) | ((with_reducible refine jb (f := 57) rfl ?_); refine jo (some 43) rfl rfl Tryd.func57 (by kernel_rfl) rfl #[.slice A164_3 ((kt l0 x7_1).f3).length c164_3, .int .i64 t165, .int .i64 (wrap64 (a2 - 1))] rfl (by (try simp only [List.map_toArray, List.map_cons, List.map_nil]); first | done | rfl | (simp only [List.length_drop, List.length_take]; rfl)) ?_; (with_reducible refine (ih kj4 (by have := HK1.out; have := HJ4.out; omega) _ _ ((kt l0 x7_1).f3) t165 (wrap64 (a2 - 1)) t167 _ ?side1 ?side2 A12.out).mono ?_); (case side1 => repeat (first | exact HR166_3.out | (with_reducible refine Kd.C_alloc ?_ _) | (with_reducible refine Kd.C_drewN ?_ _) | (with_reducible refine Kd.C_drew ?_))); (case side2 => exact HC166_3.out); rintro e w' ⟨rfl, ⟨nd, rfl⟩⟩; refine ⟨_, rfl, ?_⟩))
           go_roundg kj4
           case measure => have := HK1.out; have := HJ4.out; omega
           case rel => exact ⟨(t167), (wrap64 (x7_1 + 1)), (by first | rfl | (simp; done) | (simp [*]; done)), (by first | rfl | (simp; done) | (simp [*]; done)), H', ⟨by have := HK1.out; have := HJ4.out; omega⟩, by repeat (first | exact jg.refl _ | apply jg.step)⟩
         ·rw [if_neg c11] at H
          have c11b0 : decide (0 < t165) = false := decide_eq_false c11
          clear c11
          have H' := kd.mk H
          clear H
          have p164 : 0 ≤ (x7_1 : Int) := of_decide_eq_true (by first | (with_reducible assumption) | assumption)
          have q164 : x7_1 < (l0.length : Int) := of_decide_eq_true (by first | (with_reducible assumption) | assumption)
          obtain ⟨ad164, A164_2, c164_2, A164_3, c164_3, A164_4, c164_4, e164, hx164_0, hx164_1, hx164_2, hx164_3, hx164_4, hl164_2, hi164_2, hl164_3, hi164_3, hl164_4, hi164_4⟩ := at_T43 HR0.out x7_1 p164 q164
          cases e164
          have HR164_2 := kd.mk hi164_2
          have HC164_2 := kd.mk hl164_2
          clear hi164_2 hl164_2
          have HR164_3 := kd.mk hi164_3
          have HC164_3 := kd.mk hl164_3
          clear hi164_3 hl164_3
          have HR164_4 := kd.mk hi164_4
          have HC164_4 := kd.mk hl164_4
          clear hi164_4 hl164_4
          replace p164 := eq_true p164
          replace q164 := eq_true q164
          go_wp2_with (first | ((with_reducible refine jb (f := 76) rfl ?_); refine jo (some 32) rfl rfl Tryd.func76 (by kernel_rfl) rfl #[.slice A164_2 ((kt l0 x7_1).f2).length c164_2, .int .i64 x1_1, .int .i64 (wrap64 (a2 - 1))] rfl (by (try simp only [List.map_toArray, List.map_cons, List.map_nil]); first | done | rfl | (simp only [List.length_drop, List.length_take]; rfl)) ?_; (with_reducible refine (qexprs.calls kj4 _ _ ((kt l0 x7_1).f2) x1_1 (wrap64 (a2 - 1)) t165 _ ?side1 ?side2 A10.out).mono ?_); (case side1 => repeat (first | exact HR164_2.out | (with_reducible refine Kd.C_alloc ?_ _) | (with_reducible refine Kd.C_drewN ?_ _) | (with_reducible refine Kd.C_drew ?_))); (case side2 => exact HC164_2.out); rintro e w' ⟨rfl, ⟨nd, rfl⟩⟩; refine ⟨_, rfl, ?_⟩))
          go_roundg kj4
          case measure => have := HK1.out; have := HJ4.out; omega
          case rel => exact ⟨(t165), (wrap64 (x7_1 + 1)), (by first | rfl | (simp; done) | (simp [*]; done)), (by first | rfl | (simp; done) | (simp [*]; done)), H', ⟨by have := HK1.out; have := HJ4.out; omega⟩, by repeat (first | exact jg.refl _ | apply jg.step)⟩
        ·rw [if_neg c9] at H
         exact absurd H (by simp)
       ·rw [if_neg c8] at H
        exact absurd H (by simp)
      ·replace c7 := Bool.eq_false_iff.mpr c7
       subst c7
       replace H : (some x1_1) = some r := by rw [if_neg (show ¬ (false = true) by decide)] at H; exact H
       obtain rfl := Option.some.inj H
       go_wp2
       go_ret
       exact ⟨by first | rfl | (simp; done) | (simp [*]; done), by repeat (first | exact jg.refl _ | apply jg.step)⟩
end Go.Proofs.YthnhdompfhkepaaDoor.Q
