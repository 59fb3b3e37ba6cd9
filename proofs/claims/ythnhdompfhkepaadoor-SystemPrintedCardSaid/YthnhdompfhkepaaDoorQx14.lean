import Derived.Test.YthnhdompfhkepaaDoorQx0
import Derived.Test.YthnhdompfhkepaaDoorQx10
import Derived.Test.YthnhdompfhkepaaDoorQx13
namespace Go.Proofs.YthnhdompfhkepaaDoor.Q
open Go.RowKit Go.Proofs.YthnhdompfhkepaaDoorW.PrintWords Go.Proofs.YthnhdompfhkepaaDoorW.PrintLast Go.Proofs.YthnhdompfhkepaaDoorW.PrintMore
attribute [local go_sem] max2_int min2_int max_two min_two max_three min_three max_four min_four
set_option linter.unusedVariables false
set_option linter.unusedSimpArgs false
def qSmall.f (k : Nat) (l0_0 : List ByteArray) (l0_1 : List (S59)) (l0_2 : List (S45)) (a1 : Int) : Option (Bool) := (qFew.f k l0_0 l0_1 l0_2 a1).bind fun t175 => (if t175 = true then ((rRight.f k l0_0 l0_1 l0_2).bind fun t176 => (some t176)) else (some false))
theorem qSmall.mono : ∀ a0 a1 a2 a3 k, LeO (qSmall.f k a0 a1 a2 a3) (qSmall.f (k + 1) a0 a1 a2 a3) := by
 intro a0 a1 a2 a3 k
 unfold qSmall.f
 repeat' first
  | (with_reducible exact rRight.mono _ _ _ _)
  | (with_reducible exact qFew.mono _ _ _ _ _)
  | (with_reducible exact LeO.refl _)
  | (with_reducible exact LeO.none _)
  | (with_reducible refine LeO.ite ?_ ?_)
  | (with_reducible refine LeO.bind ?_ (fun _ => ?_))
  | exact rRight.mono _ _ _ _
  | exact qFew.mono _ _ _ _ _
  | exact LeO.none _
  | refine LeO.ite ?_ ?_
  | refine LeO.bind ?_ (fun _ => ?_)
set_option maxHeartbeats 8000000 in
set_option maxRecDepth 100000 in
theorem qSmall.calls (k : Nat) (A0_0 : Option Addr) (c0_0 : Nat) (l0_0 : List ByteArray) (A0_1 : Option Addr) (c0_1 : Nat) (l0_1 : List (S59)) (A0_2 : Option Addr) (c0_2 : Nat) (l0_2 : List (S45)) (a1 : Int) (r : Bool) (w : World) (hr0_0 : Kd.C Kd.string w A0_0 l0_0.length l0_0) (hc0_0 : l0_0.length ≤ c0_0) (hr0_1 : Kd.C k59 w A0_1 l0_1.length l0_1) (hc0_1 : l0_1.length ≤ c0_1) (hr0_2 : Kd.C k45 w A0_2 l0_2.length l0_2) (hc0_2 : l0_2.length ≤ c0_2) (h : qSmall.f k l0_0 l0_1 l0_2 a1 = some r) :
 Calls Tryd.prog 11 #[.agg #[.slice A0_0 l0_0.length c0_0, .slice A0_1 l0_1.length c0_1, .slice A0_2 l0_2.length c0_2], .int .i64 a1] w fun e w' => e = .returned (.bool r) ∧ Below w.heap.size w w' := by
 have hu26 := Tryd.underlying26
 have HR0_0 := kd.mk hr0_0
 have HC0_0 := kd.mk hc0_0
 clear hr0_0 hc0_0
 have HR0_1 := kd.mk hr0_1
 have HC0_1 := kd.mk hc0_1
 clear hr0_1 hc0_1
 have HR0_2 := kd.mk hr0_2
 have HC0_2 := kd.mk hc0_2
 clear hr0_2 hc0_2
 have HB := kd.mk (Below.refl w.heap.size w)
 have H : ((qFew.f k l0_0 l0_1 l0_2 a1).bind fun t175 => (if t175 = true then ((rRight.f k l0_0 l0_1 l0_2).bind fun t176 => (some t176)) else (some false))) = some r := h
 clear h
 replace H := Option.bind_eq_some_iff.mp H
 obtain ⟨t175, A30, H⟩ := H
 replace H : (if t175 = true then ((rRight.f k l0_0 l0_1 l0_2).bind fun t176 => (some t176)) else (some false)) = some r := H
 have A3 := kd.mk A30
 clear A30
 by_cases c4 : t175 = true
 ·subst c4
  replace H : ((rRight.f k l0_0 l0_1 l0_2).bind fun t176 => (some t176)) = some r := by rw [if_pos rfl] at H; exact H
  replace H := Option.bind_eq_some_iff.mp H
  obtain ⟨t176, A50, H⟩ := H
  replace H : (some t176) = some r := H
  have A5 := kd.mk A50
  clear A50
  obtain rfl := Option.some.inj H
  go_enter Tryd.func11, Tryd.ntmps11
  go_wp2_with (first | ((with_reducible refine ja (N := 2) rfl ?_); refine kz ?hg (N := 2) ?hd (cs := #[.slice A0_0 l0_0.length c0_0, .slice A0_1 l0_1.length c0_1, .slice A0_2 l0_2.length c0_2]) (t := 26) ?hr ?_; (case hd => rfl); (case hg => rfl); (case hr => first | (go_simp; done) | (go_simp; rfl)); intro gb174 hg w6 hbox hb; have n0_ := kd.mk (kr (by repeat (first | (with_reducible first | exact HB.out | apply ke | apply ka | apply kf) | exact HB.out)) hb); have n1_ := kd.mk (hbox); have n2_ := kd.mk ((by rw [hg]; exact (ks (by repeat (first | (with_reducible first | exact HB.out | apply ke | apply ka | apply kf) | exact HB.out))) : w.heap.size ≤ gb174)); have n3_ := kd.mk ((by rw [hg]; exact (ks (by repeat (first | (with_reducible first | exact HB.out | apply ke | apply ka | apply kf) | exact HB.out))) : w.heap.size ≤ gb174)); clear HB; have HB := n0_; have BK174 := n1_; have GW174 := n2_; have GE174 := n3_; clear n0_ n1_ n2_ n3_; clear hb hbox hg; have hcz7_0 : w6.cell? ⟨gb174, 0, none⟩ = some (.slice A0_0 l0_0.length c0_0) := (kc BK174.out 0).trans rfl; have hcz7_1 : w6.cell? ⟨gb174, 1, none⟩ = some (.slice A0_1 l0_1.length c0_1) := (kc BK174.out 1).trans rfl; have hcz7_2 : w6.cell? ⟨gb174, 2, none⟩ = some (.slice A0_2 l0_2.length c0_2) := (kc BK174.out 2).trans rfl; have hfz7_0 := kb BK174.out 0; have hfz7_1 := kb BK174.out 1; have hfz7_2 := kb BK174.out 2) | ((with_reducible refine jb (f := 27) rfl ?_); refine jo (some 7) rfl rfl Tryd.func27 (by kernel_rfl) rfl #[.agg #[.slice A0_0 l0_0.length c0_0, .slice A0_1 l0_1.length c0_1, .slice A0_2 l0_2.length c0_2], .int .i64 a1] rfl (by (try simp only [List.map_toArray, List.map_cons, List.map_nil]); first | done | rfl | (simp only [List.length_drop, List.length_take]; rfl)) ?_; (with_reducible refine (qFew.calls k _ _ l0_0 _ _ l0_1 _ _ l0_2 a1 true _ ?side1 ?side2 ?side3 ?side4 ?side5 ?side6 A3.out).mono ?_); (case side1 => exact Kd.kx HR0_0.out HB.out); (case side2 => exact HC0_0.out); (case side3 => exact Kd.kx HR0_1.out HB.out); (case side4 => exact HC0_1.out); (case side5 => exact Kd.kx HR0_2.out HB.out); (case side6 => exact HC0_2.out); rintro e w8 ⟨rfl, hb⟩; refine ⟨_, rfl, ?_⟩; have n0_ := kd.mk (ku (g := gb174) (o := .cells #[.slice A0_0 l0_0.length c0_0, .slice A0_1 l0_1.length c0_1, .slice A0_2 l0_2.length c0_2] 26 (0, 0)) (by (with_reducible repeat (first | refine kg ?_ _ | refine kk ?_ | refine ki ?_ _)); exact BK174.out) hb); have n1_ := kd.mk (kr (by repeat (first | (with_reducible first | exact HB.out | apply ke | apply ka | apply kf | refine kj ?_ GE174.out) | exact HB.out)) hb); clear BK174; clear HB; have BK174 := n0_; have HB := n1_; clear n0_ n1_; (try clear hb); have hcz9_0 : w8.cell? ⟨gb174, 0, none⟩ = some (.slice A0_0 l0_0.length c0_0) := (kc BK174.out 0).trans rfl; have hcz9_1 : w8.cell? ⟨gb174, 1, none⟩ = some (.slice A0_1 l0_1.length c0_1) := (kc BK174.out 1).trans rfl; have hcz9_2 : w8.cell? ⟨gb174, 2, none⟩ = some (.slice A0_2 l0_2.length c0_2) := (kc BK174.out 2).trans rfl; have hfz9_0 := kb BK174.out 0; have hfz9_1 := kb BK174.out 1; have hfz9_2 := kb BK174.out 2) | (go_at_call 17; (with_reducible refine (rRight.calls k _ _ l0_0 _ _ l0_1 _ _ l0_2 t176 _ ?side1 ?side2 ?side3 ?side4 ?side5 ?side6 A5.out).mono ?_); (case side1 => exact Kd.kx HR0_0.out HB.out); (case side2 => exact HC0_0.out); (case side3 => exact Kd.kx HR0_1.out HB.out); (case side4 => exact HC0_1.out); (case side5 => exact Kd.kx HR0_2.out HB.out); (case side6 => exact HC0_2.out); rintro e w10 ⟨rfl, hb⟩; have n0_ := kd.mk (ku (g := gb174) (o := .cells #[.slice A0_0 l0_0.length c0_0, .slice A0_1 l0_1.length c0_1, .slice A0_2 l0_2.length c0_2] 26 (0, 0)) (by (with_reducible repeat (first | refine kg ?_ _ | refine kk ?_ | refine ki ?_ _)); exact BK174.out) hb); have n1_ := kd.mk (kr (by repeat (first | (with_reducible first | exact HB.out | apply ke | apply ka | apply kf | refine kj ?_ GE174.out) | exact HB.out)) hb); clear BK174; clear HB; have BK174 := n0_; have HB := n1_; clear n0_ n1_; (try clear hb)))
  go_ret
  exact ⟨by first | rfl | (simp [kp, ko] <;> rfl) | (simp [*, kp, ko] <;> rfl), by repeat (first | (with_reducible first | exact HB.out | apply ke | apply ka | apply kf | refine kj ?_ GE174.out) | exact HB.out)⟩
 ·replace c4 := Bool.eq_false_iff.mpr c4
  subst c4
  replace H : (some false) = some r := by rw [if_neg (show ¬ (false = true) by decide)] at H; exact H
  obtain rfl := Option.some.inj H
  go_enter Tryd.func11, Tryd.ntmps11
  go_wp2_with (first | ((with_reducible refine ja (N := 2) rfl ?_); refine kz ?hg (N := 2) ?hd (cs := #[.slice A0_0 l0_0.length c0_0, .slice A0_1 l0_1.length c0_1, .slice A0_2 l0_2.length c0_2]) (t := 26) ?hr ?_; (case hd => rfl); (case hg => rfl); (case hr => first | (go_simp; done) | (go_simp; rfl)); intro gb174 hg w11 hbox hb; have n0_ := kd.mk (kr (by repeat (first | (with_reducible first | exact HB.out | apply ke | apply ka | apply kf) | exact HB.out)) hb); have n1_ := kd.mk (hbox); have n2_ := kd.mk ((by rw [hg]; exact (ks (by repeat (first | (with_reducible first | exact HB.out | apply ke | apply ka | apply kf) | exact HB.out))) : w.heap.size ≤ gb174)); have n3_ := kd.mk ((by rw [hg]; exact (ks (by repeat (first | (with_reducible first | exact HB.out | apply ke | apply ka | apply kf) | exact HB.out))) : w.heap.size ≤ gb174)); clear HB; have HB := n0_; have BK174 := n1_; have GW174 := n2_; have GE174 := n3_; clear n0_ n1_ n2_ n3_; clear hb hbox hg; have hcz12_0 : w11.cell? ⟨gb174, 0, none⟩ = some (.slice A0_0 l0_0.length c0_0) := (kc BK174.out 0).trans rfl; have hcz12_1 : w11.cell? ⟨gb174, 1, none⟩ = some (.slice A0_1 l0_1.length c0_1) := (kc BK174.out 1).trans rfl; have hcz12_2 : w11.cell? ⟨gb174, 2, none⟩ = some (.slice A0_2 l0_2.length c0_2) := (kc BK174.out 2).trans rfl; have hfz12_0 := kb BK174.out 0; have hfz12_1 := kb BK174.out 1; have hfz12_2 := kb BK174.out 2) | ((with_reducible refine jb (f := 27) rfl ?_); refine jo (some 7) rfl rfl Tryd.func27 (by kernel_rfl) rfl #[.agg #[.slice A0_0 l0_0.length c0_0, .slice A0_1 l0_1.length c0_1, .slice A0_2 l0_2.length c0_2], .int .i64 a1] rfl (by (try simp only [List.map_toArray, List.map_cons, List.map_nil]); first | done | rfl | (simp only [List.length_drop, List.length_take]; rfl)) ?_; (with_reducible refine (qFew.calls k _ _ l0_0 _ _ l0_1 _ _ l0_2 a1 false _ ?side1 ?side2 ?side3 ?side4 ?side5 ?side6 A3.out).mono ?_); (case side1 => exact Kd.kx HR0_0.out HB.out); (case side2 => exact HC0_0.out); (case side3 => exact Kd.kx HR0_1.out HB.out); (case side4 => exact HC0_1.out); (case side5 => exact Kd.kx HR0_2.out HB.out); (case side6 => exact HC0_2.out); rintro e w13 ⟨rfl, hb⟩; refine ⟨_, rfl, ?_⟩; have n0_ := kd.mk (ku (g := gb174) (o := .cells #[.slice A0_0 l0_0.length c0_0, .slice A0_1 l0_1.length c0_1, .slice A0_2 l0_2.length c0_2] 26 (0, 0)) (by (with_reducible repeat (first | refine kg ?_ _ | refine kk ?_ | refine ki ?_ _)); exact BK174.out) hb); have n1_ := kd.mk (kr (by repeat (first | (with_reducible first | exact HB.out | apply ke | apply ka | apply kf | refine kj ?_ GE174.out) | exact HB.out)) hb); clear BK174; clear HB; have BK174 := n0_; have HB := n1_; clear n0_ n1_; (try clear hb)))
  go_ret
  exact ⟨by first | rfl | (simp [kp, ko] <;> rfl) | (simp [*, kp, ko] <;> rfl), by repeat (first | (with_reducible first | exact HB.out | apply ke | apply ka | apply kf | refine kj ?_ GE174.out) | exact HB.out)⟩
def word_Text.f (a0 : Int) : Option (ByteArray) := (Ext.strconv_FormatUint.f (IntKind.u64.wrap (a0)) 10).bind fun t177 => (some t177)
set_option maxHeartbeats 8000000 in
set_option maxRecDepth 100000 in
theorem word_Text.calls (a0 : Int) (r : ByteArray) (w : World) (hT : Ext.TAB w) (h : word_Text.f a0 = some r) :
 Calls Tryd.prog 30 #[.int .u32 a0] w fun e w' => e = .returned (.string r) ∧ Below w.heap.size w w' := by
 have HT := kd.mk hT
 clear hT
 have HB := kd.mk (Below.refl w.heap.size w)
 have H : ((Ext.strconv_FormatUint.f (IntKind.u64.wrap (a0)) 10).bind fun t177 => (some t177)) = some r := h
 clear h
 replace H := Option.bind_eq_some_iff.mp H
 obtain ⟨t177, A20, H⟩ := H
 replace H : (some t177) = some r := H
 have A2 := kd.mk A20
 clear A20
 obtain rfl := Option.some.inj H
 go_enter Tryd.func30, Tryd.ntmps30
 go_wp2_with (first | ((with_reducible refine jb (f := 62) rfl ?_); refine jo (some 5) rfl rfl Tryd.func62 (by kernel_rfl) rfl #[.int .u64 (IntKind.u64.wrap (a0)), .int .i64 10] rfl (by (try simp only [List.map_toArray, List.map_cons, List.map_nil]); first | done | rfl | (simp only [List.length_drop, List.length_take]; rfl)) ?_; (with_reducible refine (Ext.strconv_FormatUint.calls (IntKind.u64.wrap (a0)) 10 t177 _ ?side1 A2.out).mono ?_); (case side1 => exact Ext.TAB.below HT.out (by repeat (first | (with_reducible first | exact HB.out | apply ke | apply ka | apply kf) | exact HB.out))); rintro e w3 ⟨rfl, hb⟩; refine ⟨_, rfl, ?_⟩; have n0_ := kd.mk (kr (by repeat (first | (with_reducible first | exact HB.out | apply ke | apply ka | apply kf) | exact HB.out)) hb); clear HB; have HB := n0_; clear n0_; (try clear hb)))
 go_ret
 exact ⟨by first | rfl | (simp [kp, ko] <;> rfl) | (simp [*, kp, ko] <;> rfl), by repeat (first | (with_reducible first | exact HB.out | apply ke | apply ka | apply kf) | exact HB.out)⟩
end Go.Proofs.YthnhdompfhkepaaDoor.Q
