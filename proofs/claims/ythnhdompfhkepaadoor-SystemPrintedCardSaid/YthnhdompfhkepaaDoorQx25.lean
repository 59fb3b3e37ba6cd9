import Derived.Test.YthnhdompfhkepaaDoorQx0
import Derived.Test.YthnhdompfhkepaaDoorQx14
import Derived.Test.YthnhdompfhkepaaDoorQx24
import Derived.Test.YthnhdompfhkepaaDoorPrint
namespace Go.Proofs.YthnhdompfhkepaaDoor.Q
open Go.RowKit Go.Proofs.YthnhdompfhkepaaDoorW.PrintWords Go.Proofs.YthnhdompfhkepaaDoorW.PrintLast Go.Proofs.YthnhdompfhkepaaDoorW.PrintMore
attribute [local go_sem] max2_int min2_int max_two min_two max_three min_three max_four min_four
set_option linter.unusedVariables false
set_option linter.unusedSimpArgs false
def tSystemPrinted.j0 : Nat → Bool → List ByteArray → List (S59) → List (S45) → List ByteArray → List (S59) → List (S45) → Option (Bool)
 | 0, _, _, _, _, _, _, _ => none
 | k + 1, x12, x239000, x239001, x239002, x240000, x240001, x240002 => if x12 = true then (some true) else ((Ext.yPrint.f k x239000 x239001 x239002).bind fun t242 => ((Ext.yPrint.f k x240000 x240001 x240002).bind fun t243 => ((ySame.f k x239000 x239001 x239002 x240000 x240001 x240002).bind fun t244 => (some ((t242.toList == t243.toList) == t244)))))
def tSystemPrinted.f (k : Nat) (l0_0 : List ByteArray) (l0_1 : List (S59)) (l0_2 : List (S45)) (l1_0 : List ByteArray) (l1_1 : List (S59)) (l1_2 : List (S45)) : Option (Bool) := (qSmall.f k l0_0 l0_1 l0_2 100).bind fun t240 => (if t240 = true then ((qSmall.f k l1_0 l1_1 l1_2 100).bind fun t241 => (tSystemPrinted.j0 k (!t241) l0_0 l0_1 l0_2 l1_0 l1_1 l1_2)) else (tSystemPrinted.j0 k true l0_0 l0_1 l0_2 l1_0 l1_1 l1_2))
theorem tSystemPrinted.mono_l : ∀ k, (∀ y0 y1 y2 y3 y4 y5 y6, LeO (tSystemPrinted.j0 k y0 y1 y2 y3 y4 y5 y6) (tSystemPrinted.j0 (k + 1) y0 y1 y2 y3 y4 y5 y6))
 | 0 => fun _ _ _ _ _ _ _ r h => by simp [tSystemPrinted.j0] at h
 | k + 1 => by
  have ih0 := tSystemPrinted.mono_l k
  ·intro y0 y1 y2 y3 y4 y5 y6
   unfold tSystemPrinted.j0
   repeat' first
   | (with_reducible exact ih0 _ _ _ _ _ _ _)
   | (with_reducible exact Ext.yPrint.mono _ _ _ _)
   | (with_reducible exact qSmall.mono _ _ _ _ _)
   | (with_reducible exact ySame.mono _ _ _ _ _ _ _)
   | (with_reducible exact LeO.refl _)
   | (with_reducible exact LeO.none _)
   | (with_reducible refine LeO.ite ?_ ?_)
   | (with_reducible refine LeO.bind ?_ (fun _ => ?_))
   | exact ih0 _ _ _ _ _ _ _
   | exact Ext.yPrint.mono _ _ _ _
   | exact qSmall.mono _ _ _ _ _
   | exact ySame.mono _ _ _ _ _ _ _
   | exact LeO.none _
   | refine LeO.ite ?_ ?_
   | refine LeO.bind ?_ (fun _ => ?_)
theorem tSystemPrinted.mono : ∀ a0 a1 a2 a3 a4 a5 k, LeO (tSystemPrinted.f k a0 a1 a2 a3 a4 a5) (tSystemPrinted.f (k + 1) a0 a1 a2 a3 a4 a5) := by
 intro a0 a1 a2 a3 a4 a5 k
 have ih0 := tSystemPrinted.mono_l k
 unfold tSystemPrinted.f
 repeat' first
  | (with_reducible exact ih0 _ _ _ _ _ _ _)
  | (with_reducible exact Ext.yPrint.mono _ _ _ _)
  | (with_reducible exact qSmall.mono _ _ _ _ _)
  | (with_reducible exact ySame.mono _ _ _ _ _ _ _)
  | (with_reducible exact LeO.refl _)
  | (with_reducible exact LeO.none _)
  | (with_reducible refine LeO.ite ?_ ?_)
  | (with_reducible refine LeO.bind ?_ (fun _ => ?_))
  | exact ih0 _ _ _ _ _ _ _
  | exact Ext.yPrint.mono _ _ _ _
  | exact qSmall.mono _ _ _ _ _
  | exact ySame.mono _ _ _ _ _ _ _
  | exact LeO.none _
  | refine LeO.ite ?_ ?_
  | refine LeO.bind ?_ (fun _ => ?_)
def tSystemPrinted.T3 : Bool × List (List Nat × List Nat) := (true, [([], []), ([0], [0]), ([], []), ([2, 1], [2]), ([1, 3], [1, 3]), ([], []), ([], []), ([5, 6, 3], [5, 6]), ([4, 7], [4, 7]), ([8, 7, 0, 1, 2, 3, 4, 5, 6, 7, 8], [8])])
def tSystemPrinted.B3 : List Nat := [0, 1, 0, 7, 15, 0, 0, 111, 255, 511]
theorem tSystemPrinted.tab3 : rtab .any (opsOf Tryd.f3 3) = tSystemPrinted.T3 := by kernel_rfl
theorem tSystemPrinted.bits3 : waitsOk tSystemPrinted.T3.2 tSystemPrinted.B3 = true := by kernel_rfl
set_option maxHeartbeats 8000000 in
set_option maxRecDepth 100000 in
theorem tSystemPrinted.calls (k : Nat) (A0_0 : Option Addr) (c0_0 : Nat) (l0_0 : List ByteArray) (A0_1 : Option Addr) (c0_1 : Nat) (l0_1 : List (S59)) (A0_2 : Option Addr) (c0_2 : Nat) (l0_2 : List (S45)) (A1_0 : Option Addr) (c1_0 : Nat) (l1_0 : List ByteArray) (A1_1 : Option Addr) (c1_1 : Nat) (l1_1 : List (S59)) (A1_2 : Option Addr) (c1_2 : Nat) (l1_2 : List (S45)) (r : Bool) (w : World) (hT : Ext.TAB w) (hr0_0 : Kd.C Kd.string w A0_0 l0_0.length l0_0) (hc0_0 : l0_0.length ≤ c0_0) (hr0_1 : Kd.C k59 w A0_1 l0_1.length l0_1) (hc0_1 : l0_1.length ≤ c0_1) (hr0_2 : Kd.C k45 w A0_2 l0_2.length l0_2) (hc0_2 : l0_2.length ≤ c0_2) (hr1_0 : Kd.C Kd.string w A1_0 l1_0.length l1_0) (hc1_0 : l1_0.length ≤ c1_0) (hr1_1 : Kd.C k59 w A1_1 l1_1.length l1_1) (hc1_1 : l1_1.length ≤ c1_1) (hr1_2 : Kd.C k45 w A1_2 l1_2.length l1_2) (hc1_2 : l1_2.length ≤ c1_2) (h : tSystemPrinted.f k l0_0 l0_1 l0_2 l1_0 l1_1 l1_2 = some r) :
 Calls Tryd.prog 3 #[.agg #[.slice A0_0 l0_0.length c0_0, .slice A0_1 l0_1.length c0_1, .slice A0_2 l0_2.length c0_2], .agg #[.slice A1_0 l1_0.length c1_0, .slice A1_1 l1_1.length c1_1, .slice A1_2 l1_2.length c1_2]] w fun e w' => e = .returned (.bool r) ∧ Below w.heap.size w w' := by
 have hu26 := Tryd.underlying26
 have HT := kd.mk hT
 clear hT
 have HR0_0 := kd.mk hr0_0
 have HC0_0 := kd.mk hc0_0
 clear hr0_0 hc0_0
 have HR0_1 := kd.mk hr0_1
 have HC0_1 := kd.mk hc0_1
 clear hr0_1 hc0_1
 have HR0_2 := kd.mk hr0_2
 have HC0_2 := kd.mk hc0_2
 clear hr0_2 hc0_2
 have HR1_0 := kd.mk hr1_0
 have HC1_0 := kd.mk hc1_0
 clear hr1_0 hc1_0
 have HR1_1 := kd.mk hr1_1
 have HC1_1 := kd.mk hc1_1
 clear hr1_1 hc1_1
 have HR1_2 := kd.mk hr1_2
 have HC1_2 := kd.mk hc1_2
 clear hr1_2 hc1_2
 have HB := kd.mk (Below.refl w.heap.size w)
 have H : ((qSmall.f k l0_0 l0_1 l0_2 100).bind fun t240 => (if t240 = true then ((qSmall.f k l1_0 l1_1 l1_2 100).bind fun t241 => (tSystemPrinted.j0 k (!t241) l0_0 l0_1 l0_2 l1_0 l1_1 l1_2)) else (tSystemPrinted.j0 k true l0_0 l0_1 l0_2 l1_0 l1_1 l1_2))) = some r := h
 clear h
 have HC3 := kd.mk H
 clear H
 go_enter Tryd.func3, Tryd.ntmps3
 go_upto_region 1 with (first | ((with_reducible refine ja (N := 2) rfl ?_); refine kz ?hg (N := 2) ?hd (cs := #[.slice A0_0 l0_0.length c0_0, .slice A0_1 l0_1.length c0_1, .slice A0_2 l0_2.length c0_2]) (t := 26) ?hr ?_; (case hd => rfl); (case hg => rfl); (case hr => first | (go_simp; done) | (go_simp; rfl)); intro gb238 hg w4 hbox hb; have n0_ := kd.mk (kr (by repeat (first | (with_reducible first | exact HB.out | apply ke | apply ka | apply kf) | exact HB.out)) hb); have n1_ := kd.mk (hbox); have n2_ := kd.mk ((by rw [hg]; exact (ks (by repeat (first | (with_reducible first | exact HB.out | apply ke | apply ka | apply kf) | exact HB.out))) : w.heap.size ≤ gb238)); have n3_ := kd.mk ((by rw [hg]; exact (ks (by repeat (first | (with_reducible first | exact HB.out | apply ke | apply ka | apply kf) | exact HB.out))) : w.heap.size ≤ gb238)); clear HB; have HB := n0_; have BK238 := n1_; have GW238 := n2_; have GE238 := n3_; clear n0_ n1_ n2_ n3_; clear hb hbox hg) | ((with_reducible refine ja (N := 3) rfl ?_); refine kz ?hg (N := 3) ?hd (cs := #[.slice A1_0 l1_0.length c1_0, .slice A1_1 l1_1.length c1_1, .slice A1_2 l1_2.length c1_2]) (t := 26) ?hr ?_; (case hd => rfl); (case hg => rfl); (case hr => first | (go_simp; done) | (go_simp; rfl)); intro gb239 hg w5 hbox hb; have n0_ := kd.mk (ku (g := gb238) (o := .cells #[.slice A0_0 l0_0.length c0_0, .slice A0_1 l0_1.length c0_1, .slice A0_2 l0_2.length c0_2] 26 (0, 0)) (by (with_reducible repeat (first | refine kg ?_ _ | refine kk ?_ | refine ki ?_ _)); exact BK238.out) hb); have n1_ := kd.mk (kr (by repeat (first | (with_reducible first | exact HB.out | apply ke | apply ka | apply kf | refine kj ?_ GE238.out) | exact HB.out)) hb); have n2_ := kd.mk (hbox); have n3_ := kd.mk ((by rw [hg]; exact (ks (by repeat (first | (with_reducible first | exact HB.out | apply ke | apply ka | apply kf | refine kj ?_ GE238.out) | exact HB.out))) : w.heap.size ≤ gb239)); have n4_ := kd.mk ((by rw [hg]; exact (ks (by repeat (first | (with_reducible first | exact HB.out | apply ke | apply ka | apply kf | refine kj ?_ GE238.out) | exact HB.out))) : w.heap.size ≤ gb239)); have n5_ := kd.mk ((by rw [hg]; exact Nat.ne_of_lt (jk (g := gb238) (o := .cells #[.slice A0_0 l0_0.length c0_0, .slice A0_1 l0_1.length c0_1, .slice A0_2 l0_2.length c0_2] 26 (0, 0)) (by (with_reducible repeat (first | refine kg ?_ _ | refine kk ?_ | refine ki ?_ _)); exact BK238.out)) : gb238 ≠ gb239)); have n6_ := kd.mk ((by rw [hg]; exact Nat.ne_of_gt (jk (g := gb238) (o := .cells #[.slice A0_0 l0_0.length c0_0, .slice A0_1 l0_1.length c0_1, .slice A0_2 l0_2.length c0_2] 26 (0, 0)) (by (with_reducible repeat (first | refine kg ?_ _ | refine kk ?_ | refine ki ?_ _)); exact BK238.out)) : gb239 ≠ gb238)); clear BK238; clear HB; have BK238 := n0_; have HB := n1_; have BK239 := n2_; have GW239 := n3_; have GE239 := n4_; have NB238_239 := n5_; have NB239_238 := n6_; clear n0_ n1_ n2_ n3_ n4_ n5_ n6_; clear hb hbox hg))
 (try simp only [Act.put, List.setIfInBounds_toArray, List.set_cons_zero, List.set_cons_succ])
 go_cut [12] (fun v12 wc => ∃ (kq : Nat) (x12_2 : Bool), v12 = .bool x12_2 ∧ kd (tSystemPrinted.j0 kq x12_2 l0_0 l0_1 l0_2 l1_0 l1_1 l1_2 = some r) ∧ kd (kq ≤ k) ∧ kd (wc.heap[gb238]? = some (.cells #[(.slice A0_0 l0_0.length c0_0), (.slice A0_1 l0_1.length c0_1), (.slice A0_2 l0_2.length c0_2)] 26 (0, 0))) ∧ kd (wc.heap[gb239]? = some (.cells #[(.slice A1_0 l1_0.length c1_0), (.slice A1_1 l1_1.length c1_1), (.slice A1_2 l1_2.length c1_2)] 26 (0, 0))) ∧ kd (Below w.heap.size w wc))
 case first =>
  have H := HC3.out
  clear HC3
  replace H := Option.bind_eq_some_iff.mp H
  obtain ⟨t240, A60, H⟩ := H
  replace H : (if t240 = true then ((qSmall.f k l1_0 l1_1 l1_2 100).bind fun t241 => (tSystemPrinted.j0 k (!t241) l0_0 l0_1 l0_2 l1_0 l1_1 l1_2)) else (tSystemPrinted.j0 k true l0_0 l0_1 l0_2 l1_0 l1_1 l1_2)) = some r := H
  have A6 := kd.mk A60
  clear A60
  by_cases c7 : t240 = true
  ·subst c7
   replace H : ((qSmall.f k l1_0 l1_1 l1_2 100).bind fun t241 => (tSystemPrinted.j0 k (!t241) l0_0 l0_1 l0_2 l1_0 l1_1 l1_2)) = some r := by rw [if_pos rfl] at H; exact H
   replace H := Option.bind_eq_some_iff.mp H
   obtain ⟨t241, A80, H⟩ := H
   replace H : (tSystemPrinted.j0 k (!t241) l0_0 l0_1 l0_2 l1_0 l1_1 l1_2) = some r := H
   have A8 := kd.mk A80
   clear A80
   have H' := kd.mk H
   clear H
   have hnb9 := NB238_239.out
   have hnc9 := NB239_238.out
   have hcz10_0 : w5.cell? ⟨gb238, 0, none⟩ = some (.slice A0_0 l0_0.length c0_0) := (kc BK238.out 0).trans rfl
   have hcz10_1 : w5.cell? ⟨gb238, 1, none⟩ = some (.slice A0_1 l0_1.length c0_1) := (kc BK238.out 1).trans rfl
   have hcz10_2 : w5.cell? ⟨gb238, 2, none⟩ = some (.slice A0_2 l0_2.length c0_2) := (kc BK238.out 2).trans rfl
   have hfz10_0 := kb BK238.out 0
   have hfz10_1 := kb BK238.out 1
   have hfz10_2 := kb BK238.out 2
   go_wp2_with (first | ((with_reducible refine jb (f := 11) rfl ?_); refine jo (some 6) rfl rfl Tryd.func11 (by kernel_rfl) rfl #[.agg #[.slice A0_0 l0_0.length c0_0, .slice A0_1 l0_1.length c0_1, .slice A0_2 l0_2.length c0_2], .int .i64 100] rfl (by (try simp only [List.map_toArray, List.map_cons, List.map_nil]); first | done | rfl | (simp only [List.length_drop, List.length_take]; rfl)) ?_; (with_reducible refine (qSmall.calls k _ _ l0_0 _ _ l0_1 _ _ l0_2 100 true _ ?side1 ?side2 ?side3 ?side4 ?side5 ?side6 A6.out).mono ?_); (case side1 => exact Kd.kx HR0_0.out HB.out); (case side2 => exact HC0_0.out); (case side3 => exact Kd.kx HR0_1.out HB.out); (case side4 => exact HC0_1.out); (case side5 => exact Kd.kx HR0_2.out HB.out); (case side6 => exact HC0_2.out); rintro e w11 ⟨rfl, hb⟩; refine ⟨_, rfl, ?_⟩; have n0_ := kd.mk (ku (g := gb238) (o := .cells #[.slice A0_0 l0_0.length c0_0, .slice A0_1 l0_1.length c0_1, .slice A0_2 l0_2.length c0_2] 26 (0, 0)) (by (with_reducible repeat (first | refine kg ?_ _ | refine kk ?_ | refine ki ?_ _)); exact BK238.out) hb); have n1_ := kd.mk (ku (g := gb239) (o := .cells #[.slice A1_0 l1_0.length c1_0, .slice A1_1 l1_1.length c1_1, .slice A1_2 l1_2.length c1_2] 26 (0, 0)) (by (with_reducible repeat (first | refine kg ?_ _ | refine kk ?_ | refine ki ?_ _)); exact BK239.out) hb); have n2_ := kd.mk (kr (by repeat (first | (with_reducible first | exact HB.out | apply ke | apply ka | apply kf | refine kj ?_ GE238.out | refine kj ?_ GE239.out) | exact HB.out)) hb); clear BK238; clear BK239; clear HB; have BK238 := n0_; have BK239 := n1_; have HB := n2_; clear n0_ n1_ n2_; (try clear hb); have hcz12_0 : w11.cell? ⟨gb239, 0, none⟩ = some (.slice A1_0 l1_0.length c1_0) := (kc BK239.out 0).trans rfl; have hcz12_1 : w11.cell? ⟨gb239, 1, none⟩ = some (.slice A1_1 l1_1.length c1_1) := (kc BK239.out 1).trans rfl; have hcz12_2 : w11.cell? ⟨gb239, 2, none⟩ = some (.slice A1_2 l1_2.length c1_2) := (kc BK239.out 2).trans rfl; have hfz12_0 := kb BK239.out 0; have hfz12_1 := kb BK239.out 1; have hfz12_2 := kb BK239.out 2) | (go_at_call 11; (with_reducible refine (qSmall.calls k _ _ l1_0 _ _ l1_1 _ _ l1_2 100 t241 _ ?side1 ?side2 ?side3 ?side4 ?side5 ?side6 A8.out).mono ?_); (case side1 => exact Kd.kx HR1_0.out HB.out); (case side2 => exact HC1_0.out); (case side3 => exact Kd.kx HR1_1.out HB.out); (case side4 => exact HC1_1.out); (case side5 => exact Kd.kx HR1_2.out HB.out); (case side6 => exact HC1_2.out); rintro e w13 ⟨rfl, hb⟩; have n0_ := kd.mk (ku (g := gb238) (o := .cells #[.slice A0_0 l0_0.length c0_0, .slice A0_1 l0_1.length c0_1, .slice A0_2 l0_2.length c0_2] 26 (0, 0)) (by (with_reducible repeat (first | refine kg ?_ _ | refine kk ?_ | refine ki ?_ _)); exact BK238.out) hb); have n1_ := kd.mk (ku (g := gb239) (o := .cells #[.slice A1_0 l1_0.length c1_0, .slice A1_1 l1_1.length c1_1, .slice A1_2 l1_2.length c1_2] 26 (0, 0)) (by (with_reducible repeat (first | refine kg ?_ _ | refine kk ?_ | refine ki ?_ _)); exact BK239.out) hb); have n2_ := kd.mk (kr (by repeat (first | (with_reducible first | exact HB.out | apply ke | apply ka | apply kf | refine kj ?_ GE238.out | refine kj ?_ GE239.out) | exact HB.out)) hb); clear BK238; clear BK239; clear HB; have BK238 := n0_; have BK239 := n1_; have HB := n2_; clear n0_ n1_ n2_; (try clear hb)))
   go_meet
   case rel => exact ⟨_, (!t241), (by first | rfl | (simp; done) | (simp [*]; done)), H', ⟨by first | omega | exact Nat.le_refl _⟩, ⟨by (with_reducible repeat (first | refine kg ?_ _ | refine kk ?_ | refine ki ?_ _)); exact BK238.out⟩, ⟨by (with_reducible repeat (first | refine kg ?_ _ | refine kk ?_ | refine ki ?_ _)); exact BK239.out⟩, ⟨by repeat (first | (with_reducible first | exact HB.out | apply ke | apply ka | apply kf | refine kj ?_ GE238.out | refine kj ?_ GE239.out) | exact HB.out)⟩⟩
  ·replace c7 := Bool.eq_false_iff.mpr c7
   subst c7
   replace H : (tSystemPrinted.j0 k true l0_0 l0_1 l0_2 l1_0 l1_1 l1_2) = some r := by rw [if_neg (show ¬ (false = true) by decide)] at H; exact H
   have H' := kd.mk H
   clear H
   have hnb14 := NB238_239.out
   have hnc14 := NB239_238.out
   have hcz15_0 : w5.cell? ⟨gb238, 0, none⟩ = some (.slice A0_0 l0_0.length c0_0) := (kc BK238.out 0).trans rfl
   have hcz15_1 : w5.cell? ⟨gb238, 1, none⟩ = some (.slice A0_1 l0_1.length c0_1) := (kc BK238.out 1).trans rfl
   have hcz15_2 : w5.cell? ⟨gb238, 2, none⟩ = some (.slice A0_2 l0_2.length c0_2) := (kc BK238.out 2).trans rfl
   have hfz15_0 := kb BK238.out 0
   have hfz15_1 := kb BK238.out 1
   have hfz15_2 := kb BK238.out 2
   go_wp2_with (first | ((with_reducible refine jb (f := 11) rfl ?_); refine jo (some 6) rfl rfl Tryd.func11 (by kernel_rfl) rfl #[.agg #[.slice A0_0 l0_0.length c0_0, .slice A0_1 l0_1.length c0_1, .slice A0_2 l0_2.length c0_2], .int .i64 100] rfl (by (try simp only [List.map_toArray, List.map_cons, List.map_nil]); first | done | rfl | (simp only [List.length_drop, List.length_take]; rfl)) ?_; (with_reducible refine (qSmall.calls k _ _ l0_0 _ _ l0_1 _ _ l0_2 100 false _ ?side1 ?side2 ?side3 ?side4 ?side5 ?side6 A6.out).mono ?_); (case side1 => exact Kd.kx HR0_0.out HB.out); (case side2 => exact HC0_0.out); (case side3 => exact Kd.kx HR0_1.out HB.out); (case side4 => exact HC0_1.out); (case side5 => exact Kd.kx HR0_2.out HB.out); (case side6 => exact HC0_2.out); rintro e w16 ⟨rfl, hb⟩; refine ⟨_, rfl, ?_⟩; have n0_ := kd.mk (ku (g := gb238) (o := .cells #[.slice A0_0 l0_0.length c0_0, .slice A0_1 l0_1.length c0_1, .slice A0_2 l0_2.length c0_2] 26 (0, 0)) (by (with_reducible repeat (first | refine kg ?_ _ | refine kk ?_ | refine ki ?_ _)); exact BK238.out) hb); have n1_ := kd.mk (ku (g := gb239) (o := .cells #[.slice A1_0 l1_0.length c1_0, .slice A1_1 l1_1.length c1_1, .slice A1_2 l1_2.length c1_2] 26 (0, 0)) (by (with_reducible repeat (first | refine kg ?_ _ | refine kk ?_ | refine ki ?_ _)); exact BK239.out) hb); have n2_ := kd.mk (kr (by repeat (first | (with_reducible first | exact HB.out | apply ke | apply ka | apply kf | refine kj ?_ GE238.out | refine kj ?_ GE239.out) | exact HB.out)) hb); clear BK238; clear BK239; clear HB; have BK238 := n0_; have BK239 := n1_; have HB := n2_; clear n0_ n1_ n2_; (try clear hb)))
   go_meet
   case rel => exact ⟨_, (true), (by first | rfl | (simp; done) | (simp [*]; done)), H', ⟨by first | omega | exact Nat.le_refl _⟩, ⟨by (with_reducible repeat (first | refine kg ?_ _ | refine kk ?_ | refine ki ?_ _)); exact BK238.out⟩, ⟨by (with_reducible repeat (first | refine kg ?_ _ | refine kk ?_ | refine ki ?_ _)); exact BK239.out⟩, ⟨by repeat (first | (with_reducible first | exact HB.out | apply ke | apply ka | apply kf | refine kj ?_ GE238.out | refine kj ?_ GE239.out) | exact HB.out)⟩⟩
 case rest =>
  clear HC3
  try clear c1
  try clear p2
  try clear c3
  try clear c7
  try clear c9
  try clear c11
  try clear c14
  try clear hcz10_0
  try clear hcz10_1
  try clear hcz10_2
  try clear hcz12_0
  try clear hcz12_1
  try clear hcz12_2
  try clear hcz15_0
  try clear hcz15_1
  try clear hcz15_2
  try clear hfz10_0
  try clear hfz10_1
  try clear hfz10_2
  try clear hfz12_0
  try clear hfz12_1
  try clear hfz12_2
  try clear hfz15_0
  try clear hfz15_1
  try clear hfz15_2
  obtain ⟨kq, x12_2, rfl, HA, HJ2, BK238, BK239, HB⟩ := hcut
  cases kq with
  | zero => exact absurd HA.out (by simp [tSystemPrinted.j0])
  | succ kj2 =>
   have H := HA.out
   clear HA
   simp only [tSystemPrinted.j0] at H
   by_cases c17 : x12_2 = true
   ·subst c17
    replace H : (some true) = some r := by rw [if_pos rfl] at H; exact H
    obtain rfl := Option.some.inj H
    go_wp2
    go_ret
    exact ⟨by first | rfl | (simp [kp, ko] <;> rfl) | (simp [*, kp, ko] <;> rfl), by repeat (first | (with_reducible first | exact HB.out | apply ke | apply ka | apply kf | refine kj ?_ GE238.out | refine kj ?_ GE239.out) | exact HB.out)⟩
   ·replace c17 := Bool.eq_false_iff.mpr c17
    subst c17
    replace H : ((Ext.yPrint.f kj2 l0_0 l0_1 l0_2).bind fun t242 => ((Ext.yPrint.f kj2 l1_0 l1_1 l1_2).bind fun t243 => ((ySame.f kj2 l0_0 l0_1 l0_2 l1_0 l1_1 l1_2).bind fun t244 => (some ((t242.toList == t243.toList) == t244))))) = some r := by rw [if_neg (show ¬ (false = true) by decide)] at H; exact H
    replace H := Option.bind_eq_some_iff.mp H
    obtain ⟨t242, A180, H⟩ := H
    replace H : ((Ext.yPrint.f kj2 l1_0 l1_1 l1_2).bind fun t243 => ((ySame.f kj2 l0_0 l0_1 l0_2 l1_0 l1_1 l1_2).bind fun t244 => (some ((t242.toList == t243.toList) == t244)))) = some r := H
    have A18 := kd.mk A180
    clear A180
    replace H := Option.bind_eq_some_iff.mp H
    obtain ⟨t243, A190, H⟩ := H
    replace H : ((ySame.f kj2 l0_0 l0_1 l0_2 l1_0 l1_1 l1_2).bind fun t244 => (some ((t242.toList == t243.toList) == t244))) = some r := H
    have A19 := kd.mk A190
    clear A190
    replace H := Option.bind_eq_some_iff.mp H
    obtain ⟨t244, A200, H⟩ := H
    replace H : (some ((t242.toList == t243.toList) == t244)) = some r := H
    have A20 := kd.mk A200
    clear A200
    obtain rfl := Option.some.inj H
    try go_wp2
    have n0_ := kd.mk (kk BK238.out)
    have n1_ := kd.mk (kk BK239.out)
    have n2_ := kd.mk (kf HB.out)
    clear BK238
    clear BK239
    clear HB
    have BK238 := n0_
    have BK239 := n1_
    have HB := n2_
    clear n0_ n1_ n2_
    refine start_ (n := 10) (S := fun w' => w'.cell? ⟨gb238, 0, none⟩ = some (.slice A0_0 l0_0.length c0_0) ∧ w'.cell? ⟨gb238, 1, none⟩ = some (.slice A0_1 l0_1.length c0_1) ∧ w'.cell? ⟨gb238, 2, none⟩ = some (.slice A0_2 l0_2.length c0_2) ∧ w'.cell? ⟨gb239, 0, none⟩ = some (.slice A1_0 l1_0.length c1_0) ∧ w'.cell? ⟨gb239, 1, none⟩ = some (.slice A1_1 l1_1.length c1_1) ∧ w'.cell? ⟨gb239, 2, none⟩ = some (.slice A1_2 l1_2.length c1_2)) (ds := []) #[false, false, false, false, false, false, false, false, false, false] (by kernel_rfl) rfl rfl ⟨(kc BK238.out 0).trans rfl, (kc BK238.out 1).trans rfl, (kc BK238.out 2).trans rfl, (kc BK239.out 0).trans rfl, (kc BK239.out 1).trans rfl, (kc BK239.out 2).trans rfl⟩ (fun hHeld => ?_); refine with_tabW tSystemPrinted.tab3 tSystemPrinted.bits3 (fun HT_ HW_ => ?_)
    generalize wc.drew = w21 at BK238 BK239 HB hHeld ⊢
    refine take_ (i := 0) (N := some 13) (v := ?_) (a' := ?_) #[true, false, false, false, false, false, false, false, false, false] rfl rfl (take_ofW HT_.out HW_.out (by kernel_rfl)) (fun _ _ _ h => h) (Or.inl ⟨by rfl, ?_⟩) hHeld ?_ ?_
    rotate_left
    ·rintro w' ⟨s0, s1, s2, s3, s4, s5⟩
     go_simp
     with_reducible rfl
    rotate_left
    ·simp only [Act.put, List.setIfInBounds_toArray, List.set_cons_zero, List.set_cons_succ, jc, jd]
     rfl
    refine take_ (i := 2) (N := some 15) (v := ?_) (a' := ?_) #[true, false, true, false, false, false, false, false, false, false] rfl rfl (take_ofW HT_.out HW_.out (by kernel_rfl)) (fun _ _ _ h => h) (Or.inl ⟨by rfl, ?_⟩) hHeld ?_ ?_
    rotate_left
    ·rintro w' ⟨s0, s1, s2, s3, s4, s5⟩
     go_simp
     with_reducible rfl
    rotate_left
    ·simp only [Act.put, List.setIfInBounds_toArray, List.set_cons_zero, List.set_cons_succ, jc, jd]
     rfl
    refine take_ (i := 5) (N := some 18) (v := ?_) (a' := ?_) #[true, false, true, false, false, true, false, false, false, false] rfl rfl (take_ofW HT_.out HW_.out (by kernel_rfl)) (fun _ _ _ h => h) (Or.inl ⟨by rfl, ?_⟩) hHeld ?_ ?_
    rotate_left
    ·rintro w' ⟨s0, s1, s2, s3, s4, s5⟩
     go_simp
     with_reducible rfl
    rotate_left
    ·simp only [Act.put, List.setIfInBounds_toArray, List.set_cons_zero, List.set_cons_succ, jc, jd]
     rfl
    refine take_ (i := 6) (N := some 19) (v := ?_) (a' := ?_) #[true, false, true, false, false, true, true, false, false, false] rfl rfl (take_ofW HT_.out HW_.out (by kernel_rfl)) (fun _ _ _ h => h) (Or.inl ⟨by rfl, ?_⟩) hHeld ?_ ?_
    rotate_left
    ·rintro w' ⟨s0, s1, s2, s3, s4, s5⟩
     go_simp
     with_reducible rfl
    rotate_left
    ·simp only [Act.put, List.setIfInBounds_toArray, List.set_cons_zero, List.set_cons_succ, jc, jd]
     rfl
    refine one_ (i := 1) (N := some 14) #[true, true, true, false, false, true, true, false, false, false] rfl rfl (one_of HT_.out (by kernel_rfl)) (by decide) (fun K hK => ?_)
    refine goes_ Tryd.func12 (by kernel_rfl) rfl #[.agg #[.slice A0_0 l0_0.length c0_0, .slice A0_1 l0_1.length c0_1, .slice A0_2 l0_2.length c0_2]] (by rfl) rfl rfl (by (try simp only [List.map_toArray, List.map_cons, List.map_nil]); first | done | rfl | (simp only [List.length_drop, List.length_take]; rfl)) ?_
    with_reducible refine (Ext.yPrint.calls kj2 _ _ l0_0 _ _ l0_1 _ _ l0_2 t242 _ ?side1 ?side2 ?side3 ?side4 ?side5 ?side6 ?side7 A18.out).mono ?_
    (case side1 => exact Ext.TAB.below HT.out (by repeat (first | (with_reducible first | exact HB.out | apply ke | apply ka | apply kf | refine kj ?_ GE238.out | refine kj ?_ GE239.out) | exact HB.out)))
    (case side2 => exact Kd.kx HR0_0.out HB.out)
    (case side3 => exact HC0_0.out)
    (case side4 => exact Kd.kx HR0_1.out HB.out)
    (case side5 => exact HC0_1.out)
    (case side6 => exact Kd.kx HR0_2.out HB.out)
    (case side7 => exact HC0_2.out)
    rintro e w22 ⟨rfl, hb⟩
    refine ⟨_, rfl, ?_⟩
    have n0_ := kd.mk (ku (g := gb238) (o := .cells #[.slice A0_0 l0_0.length c0_0, .slice A0_1 l0_1.length c0_1, .slice A0_2 l0_2.length c0_2] 26 (0, 0)) (by (with_reducible repeat (first | refine kg ?_ _ | refine kk ?_ | refine ki ?_ _)); exact BK238.out) hb)
    have n1_ := kd.mk (ku (g := gb239) (o := .cells #[.slice A1_0 l1_0.length c1_0, .slice A1_1 l1_1.length c1_1, .slice A1_2 l1_2.length c1_2] 26 (0, 0)) (by (with_reducible repeat (first | refine kg ?_ _ | refine kk ?_ | refine ki ?_ _)); exact BK239.out) hb)
    have n2_ := kd.mk (kr (by repeat (first | (with_reducible first | exact HB.out | apply ke | apply ka | apply kf | refine kj ?_ GE238.out | refine kj ?_ GE239.out) | exact HB.out)) hb)
    clear BK238
    clear BK239
    clear HB
    have BK238 := n0_
    have BK239 := n1_
    have HB := n2_
    clear n0_ n1_ n2_
    (try clear hb)
    refine hK.out _ _ ⟨(kc BK238.out 0).trans rfl, (kc BK238.out 1).trans rfl, (kc BK238.out 2).trans rfl, (kc BK239.out 0).trans rfl, (kc BK239.out 1).trans rfl, (kc BK239.out 2).trans rfl⟩ (fun hHeld => ?_)
    clear hK K
    refine norm_ (a' := ?_) ?_ ?_
    rotate_left
    ·show Act.put _ (some 14) _ = _
     simp only [Act.put, List.setIfInBounds_toArray, List.set_cons_zero, List.set_cons_succ, jc, jd]
     rfl
    refine one_ (i := 3) (N := some 16) #[true, true, true, true, false, true, true, false, false, false] rfl rfl (one_of HT_.out (by kernel_rfl)) (by decide) (fun K hK => ?_)
    refine goes_ Tryd.func12 (by kernel_rfl) rfl #[.agg #[.slice A1_0 l1_0.length c1_0, .slice A1_1 l1_1.length c1_1, .slice A1_2 l1_2.length c1_2]] (by rfl) rfl rfl (by (try simp only [List.map_toArray, List.map_cons, List.map_nil]); first | done | rfl | (simp only [List.length_drop, List.length_take]; rfl)) ?_
    with_reducible refine (Ext.yPrint.calls kj2 _ _ l1_0 _ _ l1_1 _ _ l1_2 t243 _ ?side1 ?side2 ?side3 ?side4 ?side5 ?side6 ?side7 A19.out).mono ?_
    (case side1 => exact Ext.TAB.below HT.out (by repeat (first | (with_reducible first | exact HB.out | apply ke | apply ka | apply kf | refine kj ?_ GE238.out | refine kj ?_ GE239.out) | exact HB.out)))
    (case side2 => exact Kd.kx HR1_0.out HB.out)
    (case side3 => exact HC1_0.out)
    (case side4 => exact Kd.kx HR1_1.out HB.out)
    (case side5 => exact HC1_1.out)
    (case side6 => exact Kd.kx HR1_2.out HB.out)
    (case side7 => exact HC1_2.out)
    rintro e w23 ⟨rfl, hb⟩
    refine ⟨_, rfl, ?_⟩
    have n0_ := kd.mk (ku (g := gb238) (o := .cells #[.slice A0_0 l0_0.length c0_0, .slice A0_1 l0_1.length c0_1, .slice A0_2 l0_2.length c0_2] 26 (0, 0)) (by (with_reducible repeat (first | refine kg ?_ _ | refine kk ?_ | refine ki ?_ _)); exact BK238.out) hb)
    have n1_ := kd.mk (ku (g := gb239) (o := .cells #[.slice A1_0 l1_0.length c1_0, .slice A1_1 l1_1.length c1_1, .slice A1_2 l1_2.length c1_2] 26 (0, 0)) (by (with_reducible repeat (first | refine kg ?_ _ | refine kk ?_ | refine ki ?_ _)); exact BK239.out) hb)
    have n2_ := kd.mk (kr (by repeat (first | (with_reducible first | exact HB.out | apply ke | apply ka | apply kf | refine kj ?_ GE238.out | refine kj ?_ GE239.out) | exact HB.out)) hb)
    clear BK238
    clear BK239
    clear HB
    have BK238 := n0_
    have BK239 := n1_
    have HB := n2_
    clear n0_ n1_ n2_
    (try clear hb)
    refine hK.out _ _ ⟨(kc BK238.out 0).trans rfl, (kc BK238.out 1).trans rfl, (kc BK238.out 2).trans rfl, (kc BK239.out 0).trans rfl, (kc BK239.out 1).trans rfl, (kc BK239.out 2).trans rfl⟩ (fun hHeld => ?_)
    clear hK K
    refine norm_ (a' := ?_) ?_ ?_
    rotate_left
    ·show Act.put _ (some 16) _ = _
     simp only [Act.put, List.setIfInBounds_toArray, List.set_cons_zero, List.set_cons_succ, jc, jd]
     rfl
    refine jq (i := 4) (N := some 17) (v := ?_) (a' := ?_) #[true, true, true, true, true, true, true, false, false, false] rfl rfl (any_of HT_.out (by kernel_rfl)) (fun _ _ _ h => h) (Or.inl ⟨by rfl, ?_⟩) ?_ ?_
    rotate_left
    ·intro w'
     go_simp
     with_reducible rfl
    rotate_left
    ·simp only [Act.put, List.setIfInBounds_toArray, List.set_cons_zero, List.set_cons_succ, jc, jd]
     rfl
    refine one_ (i := 7) (N := some 20) #[true, true, true, true, true, true, true, true, false, false] rfl rfl (one_of HT_.out (by kernel_rfl)) (by decide) (fun K hK => ?_)
    refine goes_ Tryd.func13 (by kernel_rfl) rfl #[.agg #[.slice A0_0 l0_0.length c0_0, .slice A0_1 l0_1.length c0_1, .slice A0_2 l0_2.length c0_2], .agg #[.slice A1_0 l1_0.length c1_0, .slice A1_1 l1_1.length c1_1, .slice A1_2 l1_2.length c1_2]] (by rfl) rfl rfl (by (try simp only [List.map_toArray, List.map_cons, List.map_nil]); first | done | rfl | (simp only [List.length_drop, List.length_take]; rfl)) ?_
    with_reducible refine (ySame.calls kj2 _ _ l0_0 _ _ l0_1 _ _ l0_2 _ _ l1_0 _ _ l1_1 _ _ l1_2 t244 _ ?side1 ?side2 ?side3 ?side4 ?side5 ?side6 ?side7 ?side8 ?side9 ?side10 ?side11 ?side12 A20.out).mono ?_
    (case side1 => exact Kd.kx HR0_0.out HB.out)
    (case side2 => exact HC0_0.out)
    (case side3 => exact Kd.kx HR0_1.out HB.out)
    (case side4 => exact HC0_1.out)
    (case side5 => exact Kd.kx HR0_2.out HB.out)
    (case side6 => exact HC0_2.out)
    (case side7 => exact Kd.kx HR1_0.out HB.out)
    (case side8 => exact HC1_0.out)
    (case side9 => exact Kd.kx HR1_1.out HB.out)
    (case side10 => exact HC1_1.out)
    (case side11 => exact Kd.kx HR1_2.out HB.out)
    (case side12 => exact HC1_2.out)
    rintro e w24 ⟨rfl, hb⟩
    refine ⟨_, rfl, ?_⟩
    have n0_ := kd.mk (ku (g := gb238) (o := .cells #[.slice A0_0 l0_0.length c0_0, .slice A0_1 l0_1.length c0_1, .slice A0_2 l0_2.length c0_2] 26 (0, 0)) (by (with_reducible repeat (first | refine kg ?_ _ | refine kk ?_ | refine ki ?_ _)); exact BK238.out) hb)
    have n1_ := kd.mk (ku (g := gb239) (o := .cells #[.slice A1_0 l1_0.length c1_0, .slice A1_1 l1_1.length c1_1, .slice A1_2 l1_2.length c1_2] 26 (0, 0)) (by (with_reducible repeat (first | refine kg ?_ _ | refine kk ?_ | refine ki ?_ _)); exact BK239.out) hb)
    have n2_ := kd.mk (kr (by repeat (first | (with_reducible first | exact HB.out | apply ke | apply ka | apply kf | refine kj ?_ GE238.out | refine kj ?_ GE239.out) | exact HB.out)) hb)
    clear BK238
    clear BK239
    clear HB
    have BK238 := n0_
    have BK239 := n1_
    have HB := n2_
    clear n0_ n1_ n2_
    (try clear hb)
    refine hK.out _ _ ⟨(kc BK238.out 0).trans rfl, (kc BK238.out 1).trans rfl, (kc BK238.out 2).trans rfl, (kc BK239.out 0).trans rfl, (kc BK239.out 1).trans rfl, (kc BK239.out 2).trans rfl⟩ (fun hHeld => ?_)
    clear hK K
    refine norm_ (a' := ?_) ?_ ?_
    rotate_left
    ·show Act.put _ (some 20) _ = _
     simp only [Act.put, List.setIfInBounds_toArray, List.set_cons_zero, List.set_cons_succ, jc, jd]
     rfl
    refine jq (i := 8) (N := some 21) (v := ?_) (a' := ?_) #[true, true, true, true, true, true, true, true, true, false] rfl rfl (any_of HT_.out (by kernel_rfl)) (fun _ _ _ h => h) (Or.inl ⟨by rfl, ?_⟩) ?_ ?_
    rotate_left
    ·intro w'
     go_simp
     with_reducible rfl
    rotate_left
    ·simp only [Act.put, List.setIfInBounds_toArray, List.set_cons_zero, List.set_cons_succ, jc, jd]
     rfl
    refine jq (i := 9) (N := some 4) (v := ?_) (a' := ?_) #[true, true, true, true, true, true, true, true, true, true] rfl rfl (any_of HT_.out (by kernel_rfl)) (fun _ _ _ h => h) (Or.inl ⟨by rfl, ?_⟩) ?_ ?_
    rotate_left
    ·intro w'
     go_simp
     with_reducible rfl
    rotate_left
    ·simp only [Act.put, List.setIfInBounds_toArray, List.set_cons_zero, List.set_cons_succ, jc, jd]
     rfl
    refine done_ (done_of HT_.out (by kernel_rfl)) ?_
    try go_wp2
    go_ret
    exact ⟨by first | rfl | (simp [kp, ko] <;> rfl) | (simp [*, kp, ko] <;> rfl), by repeat (first | (with_reducible first | exact HB.out | apply ke | apply ka | apply kf | refine kj ?_ GE238.out | refine kj ?_ GE239.out) | exact HB.out)⟩
end Go.Proofs.YthnhdompfhkepaaDoor.Q
