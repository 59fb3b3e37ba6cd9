import Derived.Test.YthnhdompfhkepaaDoorQx0
import Derived.Test.YthnhdompfhkepaaDoorQx12
namespace Go.Proofs.YthnhdompfhkepaaDoor.Q
open Go.RowKit Go.Proofs.YthnhdompfhkepaaDoorW.PrintWords Go.Proofs.YthnhdompfhkepaaDoorW.PrintLast Go.Proofs.YthnhdompfhkepaaDoorW.PrintMore
attribute [local go_sem] max2_int min2_int max_two min_two max_three min_three max_four min_four
set_option linter.unusedVariables false
set_option linter.unusedSimpArgs false
mutual
def qFew.l0 : Nat → Int → Int → List ByteArray → List (S59) → List (S45) → Option (Bool)
 | 0, _, _, _, _, _ => none
 | k + 1, x5, x6, x171000, x171001, x171002 => if x6 < (x171002.length : Int) then (qFew.j1 k x5 x6 (decide (x5 > 0)) x171000 x171001 x171002) else (qFew.j1 k x5 x6 false x171000 x171001 x171002)
def qFew.j1 : Nat → Int → Int → Bool → List ByteArray → List (S59) → List (S45) → Option (Bool)
 | 0, _, _, _, _, _, _ => none
 | k + 1, x5, x6, x29, x171000, x171001, x171002 => if x29 = true then (if 0 ≤ x6 then (if x6 < (x171002.length : Int) then (if (wrap64 ((wrap64 (x5 - (((km x171002 x6).f1).length : Int))) - (((km x171002 x6).f2).length : Int))) > 0 then ((qstmts.f k ((km x171002 x6).f4) (wrap64 ((wrap64 (x5 - (((km x171002 x6).f1).length : Int))) - (((km x171002 x6).f2).length : Int))) 40).bind fun t173 => (qFew.l0 k t173 (wrap64 (x6 + 1)) x171000 x171001 x171002)) else (qFew.l0 k (wrap64 ((wrap64 (x5 - (((km x171002 x6).f1).length : Int))) - (((km x171002 x6).f2).length : Int))) (wrap64 (x6 + 1)) x171000 x171001 x171002)) else (none)) else (none)) else (some (decide (x5 > 0)))
end
def qFew.f (k : Nat) (l0_0 : List ByteArray) (l0_1 : List (S59)) (l0_2 : List (S45)) (a1 : Int) : Option (Bool) := qFew.l0 k (wrap64 ((wrap64 ((wrap64 (a1 - (l0_0.length : Int))) - (l0_1.length : Int))) - (l0_2.length : Int))) 0 l0_0 l0_1 l0_2
theorem qFew.mono_l : ∀ k, (∀ y0 y1 y2 y3 y4, LeO (qFew.l0 k y0 y1 y2 y3 y4) (qFew.l0 (k + 1) y0 y1 y2 y3 y4)) ∧ (∀ y0 y1 y2 y3 y4 y5, LeO (qFew.j1 k y0 y1 y2 y3 y4 y5) (qFew.j1 (k + 1) y0 y1 y2 y3 y4 y5))
 | 0 => ⟨fun _ _ _ _ _ r h => by simp [qFew.l0] at h, fun _ _ _ _ _ _ r h => by simp [qFew.j1] at h⟩
 | k + 1 => by
  obtain ⟨ih0, ih1⟩ := qFew.mono_l k
  refine ⟨?_, ?_⟩
  all_goals intros
  all_goals first | unfold qFew.l0 | unfold qFew.j1
  all_goals repeat' first
   | (with_reducible exact ih0 _ _ _ _ _)
   | (with_reducible exact ih1 _ _ _ _ _ _)
   | (with_reducible exact qstmts.mono _ _ _ _)
   | (with_reducible exact LeO.refl _)
   | (with_reducible exact LeO.none _)
   | (with_reducible refine LeO.ite ?_ ?_)
   | (with_reducible refine LeO.bind ?_ (fun _ => ?_))
   | exact ih0 _ _ _ _ _
   | exact ih1 _ _ _ _ _ _
   | exact qstmts.mono _ _ _ _
   | exact LeO.none _
   | refine LeO.ite ?_ ?_
   | refine LeO.bind ?_ (fun _ => ?_)
theorem qFew.mono : ∀ a0 a1 a2 a3 k, LeO (qFew.f k a0 a1 a2 a3) (qFew.f (k + 1) a0 a1 a2 a3) := by
 intro a0 a1 a2 a3 k
 obtain ⟨ih0, ih1⟩ := qFew.mono_l k
 unfold qFew.f
 repeat' first
  | (with_reducible exact ih0 _ _ _ _ _)
  | (with_reducible exact ih1 _ _ _ _ _ _)
  | (with_reducible exact qstmts.mono _ _ _ _)
  | (with_reducible exact LeO.refl _)
  | (with_reducible exact LeO.none _)
  | (with_reducible refine LeO.ite ?_ ?_)
  | (with_reducible refine LeO.bind ?_ (fun _ => ?_))
  | exact ih0 _ _ _ _ _
  | exact ih1 _ _ _ _ _ _
  | exact qstmts.mono _ _ _ _
  | exact LeO.none _
  | refine LeO.ite ?_ ?_
  | refine LeO.bind ?_ (fun _ => ?_)
set_option maxHeartbeats 8000000 in
set_option maxRecDepth 100000 in
theorem qFew.calls (k : Nat) (A0_0 : Option Addr) (c0_0 : Nat) (l0_0 : List ByteArray) (A0_1 : Option Addr) (c0_1 : Nat) (l0_1 : List (S59)) (A0_2 : Option Addr) (c0_2 : Nat) (l0_2 : List (S45)) (a1 : Int) (r : Bool) (w : World) (hr0_0 : Kd.C Kd.string w A0_0 l0_0.length l0_0) (hc0_0 : l0_0.length ≤ c0_0) (hr0_1 : Kd.C k59 w A0_1 l0_1.length l0_1) (hc0_1 : l0_1.length ≤ c0_1) (hr0_2 : Kd.C k45 w A0_2 l0_2.length l0_2) (hc0_2 : l0_2.length ≤ c0_2) (h : qFew.f k l0_0 l0_1 l0_2 a1 = some r) :
 Calls Tryd.prog 27 #[.agg #[.slice A0_0 l0_0.length c0_0, .slice A0_1 l0_1.length c0_1, .slice A0_2 l0_2.length c0_2], .int .i64 a1] w fun e w' => e = .returned (.bool r) ∧ Below w.heap.size w w' := by
 have hu26 := Tryd.underlying26
 have hu45 := Tryd.underlying45
 have HR0_0 := kd.mk hr0_0
 have HC0_0 := kd.mk hc0_0
 clear hr0_0 hc0_0
 have HR0_1 := kd.mk hr0_1
 have HC0_1 := kd.mk hc0_1
 clear hr0_1 hc0_1
 have HR0_2 := kd.mk hr0_2
 have HC0_2 := kd.mk hc0_2
 clear hr0_2 hc0_2
 have HB := kd.mk (Below.refl w.heap.size w)
 have H : (qFew.l0 k (wrap64 ((wrap64 ((wrap64 (a1 - (l0_0.length : Int))) - (l0_1.length : Int))) - (l0_2.length : Int))) 0 l0_0 l0_1 l0_2) = some r := h
 clear h
 have H' := kd.mk H
 clear H
 go_enter Tryd.func27, Tryd.ntmps27
 go_wp2_with (first | ((with_reducible refine ja (N := 2) rfl ?_); refine kz ?hg (N := 2) ?hd (cs := #[.slice A0_0 l0_0.length c0_0, .slice A0_1 l0_1.length c0_1, .slice A0_2 l0_2.length c0_2]) (t := 26) ?hr ?_; (case hd => rfl); (case hg => rfl); (case hr => first | (go_simp; done) | (go_simp; rfl)); intro gb170 hg w3 hbox hb; have n0_ := kd.mk (kr (by repeat (first | (with_reducible first | exact HB.out | apply ke | apply ka | apply kf) | exact HB.out)) hb); have n1_ := kd.mk (hbox); have n2_ := kd.mk ((by rw [hg]; exact (ks (by repeat (first | (with_reducible first | exact HB.out | apply ke | apply ka | apply kf) | exact HB.out))) : w.heap.size ≤ gb170)); have n3_ := kd.mk ((by rw [hg]; exact (ks (by repeat (first | (with_reducible first | exact HB.out | apply ke | apply ka | apply kf) | exact HB.out))) : w.heap.size ≤ gb170)); clear HB; have HB := n0_; have BK170 := n1_; have GW170 := n2_; have GE170 := n3_; clear n0_ n1_ n2_ n3_; clear hb hbox hg; have hcz4_0 : w3.cell? ⟨gb170, 0, none⟩ = some (.slice A0_0 l0_0.length c0_0) := (kc BK170.out 0).trans rfl; have hcz4_1 : w3.cell? ⟨gb170, 1, none⟩ = some (.slice A0_1 l0_1.length c0_1) := (kc BK170.out 1).trans rfl; have hcz4_2 : w3.cell? ⟨gb170, 2, none⟩ = some (.slice A0_2 l0_2.length c0_2) := (kc BK170.out 2).trans rfl; have hfz4_0 := kb BK170.out 0; have hfz4_1 := kb BK170.out 1; have hfz4_2 := kb BK170.out 2))
 go_loopg [5, 6] k (fun kq v5 v6 w' => ∃ (x5_1 : Int) (x6_1 : Int), v5 = .int .i64 x5_1 ∧ v6 = .int .i64 x6_1 ∧ kd (qFew.l0 kq x5_1 x6_1 l0_0 l0_1 l0_2 = some r) ∧ kd (kq ≤ k) ∧ kd (w'.heap[gb170]? = some (.cells #[(.slice A0_0 l0_0.length c0_0), (.slice A0_1 l0_1.length c0_1), (.slice A0_2 l0_2.length c0_2)] 26 (0, 0))) ∧ kd (Below w.heap.size w w'))
 case atStart => exact ⟨(wrap64 ((wrap64 ((wrap64 (a1 - (l0_0.length : Int))) - (l0_1.length : Int))) - (l0_2.length : Int))), (0), (by first | rfl | (simp; done) | (simp [*]; done)), (by first | rfl | (simp; done) | (simp [*]; done)), H', ⟨Nat.le_refl _⟩, ⟨by (with_reducible repeat (first | refine kg ?_ _ | refine kk ?_ | refine ki ?_ _)); exact BK170.out⟩, ⟨by repeat (first | (with_reducible first | exact HB.out | apply ke | apply ka | apply kf | refine kj ?_ GE170.out) | exact HB.out)⟩⟩
 case round =>
  clear H'
  try clear c2
  try clear p2
  try clear hcz4_0
  try clear hcz4_1
  try clear hcz4_2
  try clear hfz4_0
  try clear hfz4_1
  try clear hfz4_2
  obtain ⟨x5_1, x6_1, rfl, rfl, HA, HK1, BK170, HB⟩ := hrel
  cases gk with
  | zero => exact absurd HA.out (by simp [qFew.l0])
  | succ k1 =>
   have H := HA.out
   clear HA
   simp only [qFew.l0] at H
   have HC5 := kd.mk H
   clear H
   go_upto_region 3 with (fail)
   go_cut [29] (fun v29 wc => ∃ (kq : Nat) (x29_4 : Bool), v29 = .bool x29_4 ∧ kd (qFew.j1 kq x5_1 x6_1 x29_4 l0_0 l0_1 l0_2 = some r) ∧ kd (kq ≤ k1) ∧ kd (wc.heap[gb170]? = some (.cells #[(.slice A0_0 l0_0.length c0_0), (.slice A0_1 l0_1.length c0_1), (.slice A0_2 l0_2.length c0_2)] 26 (0, 0))) ∧ kd (Below w.heap.size w wc))
   case first =>
    have H := HC5.out
    clear HC5
    by_cases c6 : x6_1 < (l0_2.length : Int)
    ·rw [if_pos c6] at H
     have c6b0 : decide (x6_1 < (l0_2.length : Int)) = true := decide_eq_true c6
     clear c6
     (first | rw [c6b0] | (simp only [jc, jd]; rw [c6b0]) | skip)
     have H' := kd.mk H
     clear H
     have hcz7_0 : wr.cell? ⟨gb170, 0, none⟩ = some (.slice A0_0 l0_0.length c0_0) := (kc BK170.out 0).trans rfl
     have hcz7_1 : wr.cell? ⟨gb170, 1, none⟩ = some (.slice A0_1 l0_1.length c0_1) := (kc BK170.out 1).trans rfl
     have hcz7_2 : wr.cell? ⟨gb170, 2, none⟩ = some (.slice A0_2 l0_2.length c0_2) := (kc BK170.out 2).trans rfl
     have hfz7_0 := kb BK170.out 0
     have hfz7_1 := kb BK170.out 1
     have hfz7_2 := kb BK170.out 2
     go_wp2
     go_meet
     case rel => exact ⟨_, (decide (x5_1 > 0)), (by first | rfl | (simp; done) | (simp [*]; done)), H', ⟨by have := HK1.out; first | omega | exact Nat.le_refl _⟩, ⟨by (with_reducible repeat (first | refine kg ?_ _ | refine kk ?_ | refine ki ?_ _)); exact BK170.out⟩, ⟨by repeat (first | (with_reducible first | exact HB.out | apply ke | apply ka | apply kf | refine kj ?_ GE170.out) | exact HB.out)⟩⟩
    ·rw [if_neg c6] at H
     have c6b0 : decide (x6_1 < (l0_2.length : Int)) = false := decide_eq_false c6
     clear c6
     (first | rw [c6b0] | (simp only [jc, jd]; rw [c6b0]) | skip)
     have H' := kd.mk H
     clear H
     have hcz8_0 : wr.cell? ⟨gb170, 0, none⟩ = some (.slice A0_0 l0_0.length c0_0) := (kc BK170.out 0).trans rfl
     have hcz8_1 : wr.cell? ⟨gb170, 1, none⟩ = some (.slice A0_1 l0_1.length c0_1) := (kc BK170.out 1).trans rfl
     have hcz8_2 : wr.cell? ⟨gb170, 2, none⟩ = some (.slice A0_2 l0_2.length c0_2) := (kc BK170.out 2).trans rfl
     have hfz8_0 := kb BK170.out 0
     have hfz8_1 := kb BK170.out 1
     have hfz8_2 := kb BK170.out 2
     go_wp2
     go_meet
     case rel => exact ⟨_, (false), (by first | rfl | (simp; done) | (simp [*]; done)), H', ⟨by have := HK1.out; first | omega | exact Nat.le_refl _⟩, ⟨by (with_reducible repeat (first | refine kg ?_ _ | refine kk ?_ | refine ki ?_ _)); exact BK170.out⟩, ⟨by repeat (first | (with_reducible first | exact HB.out | apply ke | apply ka | apply kf | refine kj ?_ GE170.out) | exact HB.out)⟩⟩
   case rest =>
    clear HC5
    try clear c2
    try clear p2
    try clear c6
    try clear c6b0
    try clear p6
    try clear hcz4_0
    try clear hcz4_1
    try clear hcz4_2
    try clear hcz7_0
    try clear hcz7_1
    try clear hcz7_2
    try clear hcz8_0
    try clear hcz8_1
    try clear hcz8_2
    try clear hfz4_0
    try clear hfz4_1
    try clear hfz4_2
    try clear hfz7_0
    try clear hfz7_1
    try clear hfz7_2
    try clear hfz8_0
    try clear hfz8_1
    try clear hfz8_2
    try clear p2
    obtain ⟨kq, x29_4, rfl, HA, HJ4, BK170, HB⟩ := hcut
    cases kq with
    | zero => exact absurd HA.out (by simp [qFew.j1])
    | succ kj4 =>
     have H := HA.out
     clear HA
     simp only [qFew.j1] at H
     by_cases c9 : x29_4 = true
     ·subst c9
      replace H : (if 0 ≤ x6_1 then (if x6_1 < (l0_2.length : Int) then (if (wrap64 ((wrap64 (x5_1 - (((km l0_2 x6_1).f1).length : Int))) - (((km l0_2 x6_1).f2).length : Int))) > 0 then ((qstmts.f kj4 ((km l0_2 x6_1).f4) (wrap64 ((wrap64 (x5_1 - (((km l0_2 x6_1).f1).length : Int))) - (((km l0_2 x6_1).f2).length : Int))) 40).bind fun t173 => (qFew.l0 kj4 t173 (wrap64 (x6_1 + 1)) l0_0 l0_1 l0_2)) else (qFew.l0 kj4 (wrap64 ((wrap64 (x5_1 - (((km l0_2 x6_1).f1).length : Int))) - (((km l0_2 x6_1).f2).length : Int))) (wrap64 (x6_1 + 1)) l0_0 l0_1 l0_2)) else (none)) else (none)) = some r := by rw [if_pos rfl] at H; exact H
      by_cases c10 : 0 ≤ x6_1
      ·rw [if_pos c10] at H
       have c10b0 : decide (0 ≤ x6_1) = true := decide_eq_true c10
       clear c10
       by_cases c11 : x6_1 < (l0_2.length : Int)
       ·rw [if_pos c11] at H
        have c11b0 : decide (x6_1 < (l0_2.length : Int)) = true := decide_eq_true c11
        clear c11
        by_cases c12 : (wrap64 ((wrap64 (x5_1 - (((km l0_2 x6_1).f1).length : Int))) - (((km l0_2 x6_1).f2).length : Int))) > 0
        ·rw [if_pos c12] at H
         have c12b0 : decide (0 < (wrap64 ((wrap64 (x5_1 - (((km l0_2 x6_1).f1).length : Int))) - (((km l0_2 x6_1).f2).length : Int)))) = true := decide_eq_true c12
         clear c12
         replace H := Option.bind_eq_some_iff.mp H
         obtain ⟨t173, A130, H⟩ := H
         replace H : (qFew.l0 kj4 t173 (wrap64 (x6_1 + 1)) l0_0 l0_1 l0_2) = some r := H
         have A13 := kd.mk A130
         clear A130
         have H' := kd.mk H
         clear H
         have hcz14_0 : wc.cell? ⟨gb170, 0, none⟩ = some (.slice A0_0 l0_0.length c0_0) := (kc BK170.out 0).trans rfl
         have hcz14_1 : wc.cell? ⟨gb170, 1, none⟩ = some (.slice A0_1 l0_1.length c0_1) := (kc BK170.out 1).trans rfl
         have hcz14_2 : wc.cell? ⟨gb170, 2, none⟩ = some (.slice A0_2 l0_2.length c0_2) := (kc BK170.out 2).trans rfl
         have hfz14_0 := kb BK170.out 0
         have hfz14_1 := kb BK170.out 1
         have hfz14_2 := kb BK170.out 2
         have p171 : 0 ≤ (x6_1 : Int) := of_decide_eq_true (by first | (with_reducible assumption) | assumption)
         have q171 : x6_1 < (l0_2.length : Int) := of_decide_eq_true (by first | (with_reducible assumption) | assumption)
         obtain ⟨ad171, A171_1, c171_1, A171_2, c171_2, A171_4, c171_4, e171, hx171_0, hx171_1, hx171_2, hx171_3, hx171_4, hl171_1, hi171_1, hl171_2, hi171_2, hl171_4, hi171_4⟩ := at_T45 HR0_2.out x6_1 p171 q171
         cases e171
         replace hx171_0 := (HB.out.cell (World.block_lt_of_cell? w _ hx171_0)).trans hx171_0
         replace hx171_1 := (HB.out.cell (World.block_lt_of_cell? w _ hx171_1)).trans hx171_1
         replace hx171_2 := (HB.out.cell (World.block_lt_of_cell? w _ hx171_2)).trans hx171_2
         replace hx171_3 := (HB.out.cell (World.block_lt_of_cell? w _ hx171_3)).trans hx171_3
         replace hx171_4 := (HB.out.cell (World.block_lt_of_cell? w _ hx171_4)).trans hx171_4
         have HR171_1 := kd.mk hi171_1
         have HC171_1 := kd.mk hl171_1
         clear hi171_1 hl171_1
         have HR171_2 := kd.mk hi171_2
         have HC171_2 := kd.mk hl171_2
         clear hi171_2 hl171_2
         have HR171_4 := kd.mk hi171_4
         have HC171_4 := kd.mk hl171_4
         clear hi171_4 hl171_4
         replace p171 := eq_true p171
         replace q171 := eq_true q171
         go_wp2_with (first | ((with_reducible refine ja (N := 7) rfl ?_); refine kz ?hg (N := 7) ?hd (cs := #[.string (⟨#[]⟩ : ByteArray), .slice none 0 0, .slice none 0 0, .bool false, .slice none 0 0]) (t := 45) ?hr ?_; (case hd => rfl); (case hg => rfl); (case hr => first | (go_simp; done) | (go_simp; rfl)); intro gb172 hg w15 hbox hb; have n0_ := kd.mk (ku (g := gb170) (o := .cells #[.slice A0_0 l0_0.length c0_0, .slice A0_1 l0_1.length c0_1, .slice (some ad171) l0_2.length c0_2] 26 (0, 0)) (by (with_reducible repeat (first | refine kg ?_ _ | refine kk ?_ | refine ki ?_ _)); exact BK170.out) hb); have n1_ := kd.mk (kr (by repeat (first | (with_reducible first | exact HB.out | apply ke | apply ka | apply kf | refine kj ?_ GE170.out) | exact HB.out)) hb); have n2_ := kd.mk (hbox); have n3_ := kd.mk ((by rw [hg]; exact (ks (by repeat (first | (with_reducible first | exact HB.out | apply ke | apply ka | apply kf | refine kj ?_ GE170.out) | exact HB.out))) : w.heap.size ≤ gb172)); have n4_ := kd.mk ((by rw [hg]; exact (ks (by repeat (first | (with_reducible first | exact HB.out | apply ke | apply ka | apply kf | refine kj ?_ GE170.out) | exact HB.out))) : w.heap.size ≤ gb172)); have n5_ := kd.mk ((by rw [hg]; exact Nat.ne_of_lt (jk (g := gb170) (o := .cells #[.slice A0_0 l0_0.length c0_0, .slice A0_1 l0_1.length c0_1, .slice (some ad171) l0_2.length c0_2] 26 (0, 0)) (by (with_reducible repeat (first | refine kg ?_ _ | refine kk ?_ | refine ki ?_ _)); exact BK170.out)) : gb170 ≠ gb172)); have n6_ := kd.mk ((by rw [hg]; exact Nat.ne_of_gt (jk (g := gb170) (o := .cells #[.slice A0_0 l0_0.length c0_0, .slice A0_1 l0_1.length c0_1, .slice (some ad171) l0_2.length c0_2] 26 (0, 0)) (by (with_reducible repeat (first | refine kg ?_ _ | refine kk ?_ | refine ki ?_ _)); exact BK170.out)) : gb172 ≠ gb170)); clear BK170; clear HB; have BK170 := n0_; have HB := n1_; have BK172 := n2_; have GW172 := n3_; have GE172 := n4_; have NB170_172 := n5_; have NB172_170 := n6_; clear n0_ n1_ n2_ n3_ n4_ n5_ n6_; clear hb hbox hg; have hnb16 := NB172_170.out; have hnc16 := NB170_172.out; have hcz17_0 : w15.cell? ⟨gb172, 0, none⟩ = some (.string (⟨#[]⟩ : ByteArray)) := (kc BK172.out 0).trans rfl; have hcz17_1 : w15.cell? ⟨gb172, 1, none⟩ = some (.slice none 0 0) := (kc BK172.out 1).trans rfl; have hcz17_2 : w15.cell? ⟨gb172, 2, none⟩ = some (.slice none 0 0) := (kc BK172.out 2).trans rfl; have hcz17_3 : w15.cell? ⟨gb172, 3, none⟩ = some (.bool false) := (kc BK172.out 3).trans rfl; have hcz17_4 : w15.cell? ⟨gb172, 4, none⟩ = some (.slice none 0 0) := (kc BK172.out 4).trans rfl; have hfz17_0 := kb BK172.out 0; have hfz17_1 := kb BK172.out 1; have hfz17_2 := kb BK172.out 2; have hfz17_3 := kb BK172.out 3; have hfz17_4 := kb BK172.out 4) | ((with_reducible refine jb (f := 57) rfl ?_); refine jo (some 51) rfl rfl Tryd.func57 (by kernel_rfl) rfl #[.slice A171_4 ((km l0_2 x6_1).f4).length c171_4, .int .i64 (wrap64 ((wrap64 (x5_1 - (((km l0_2 x6_1).f1).length : Int))) - (((km l0_2 x6_1).f2).length : Int))), .int .i64 40] rfl (by (try simp only [List.map_toArray, List.map_cons, List.map_nil]); first | done | rfl | (simp only [List.length_drop, List.length_take]; rfl)) ?_; (with_reducible refine (qstmts.calls kj4 _ _ ((km l0_2 x6_1).f4) (wrap64 ((wrap64 (x5_1 - (((km l0_2 x6_1).f1).length : Int))) - (((km l0_2 x6_1).f2).length : Int))) 40 t173 _ ?side1 ?side2 A13.out).mono ?_); (case side1 => exact Kd.kx HR171_4.out (by repeat (first | (with_reducible first | exact HB.out | apply ke | apply ka | apply kf | refine kj ?_ GE170.out | refine kj ?_ GE172.out) | exact HB.out))); (case side2 => exact HC171_4.out); rintro e w' ⟨rfl, ⟨nd, rfl⟩⟩; refine ⟨_, rfl, ?_⟩))
         go_roundg kj4
         case measure => have := HK1.out; have := HJ4.out; omega
         case rel => exact ⟨(t173), (wrap64 (x6_1 + 1)), (by first | rfl | (simp; done) | (simp [*]; done)), (by first | rfl | (simp; done) | (simp [*]; done)), H', ⟨by have := HK1.out; have := HJ4.out; omega⟩, ⟨by (with_reducible repeat (first | refine kg ?_ _ | refine kk ?_ | refine ki ?_ _)); refine ji ?_ NB170_172.out _; (with_reducible repeat (first | refine kg ?_ _ | refine kk ?_ | refine ki ?_ _)); refine ji ?_ NB170_172.out _; (with_reducible repeat (first | refine kg ?_ _ | refine kk ?_ | refine ki ?_ _)); refine ji ?_ NB170_172.out _; (with_reducible repeat (first | refine kg ?_ _ | refine kk ?_ | refine ki ?_ _)); refine ji ?_ NB170_172.out _; (with_reducible repeat (first | refine kg ?_ _ | refine kk ?_ | refine ki ?_ _)); refine ji ?_ NB170_172.out _; (with_reducible repeat (first | refine kg ?_ _ | refine kk ?_ | refine ki ?_ _)); exact BK170.out⟩, ⟨by repeat (first | (with_reducible first | exact HB.out | apply ke | apply ka | apply kf | refine kj ?_ GE170.out | refine kj ?_ GE172.out) | exact HB.out)⟩⟩
        ·rw [if_neg c12] at H
         have c12b0 : decide (0 < (wrap64 ((wrap64 (x5_1 - (((km l0_2 x6_1).f1).length : Int))) - (((km l0_2 x6_1).f2).length : Int)))) = false := decide_eq_false c12
         clear c12
         have H' := kd.mk H
         clear H
         have hcz18_0 : wc.cell? ⟨gb170, 0, none⟩ = some (.slice A0_0 l0_0.length c0_0) := (kc BK170.out 0).trans rfl
         have hcz18_1 : wc.cell? ⟨gb170, 1, none⟩ = some (.slice A0_1 l0_1.length c0_1) := (kc BK170.out 1).trans rfl
         have hcz18_2 : wc.cell? ⟨gb170, 2, none⟩ = some (.slice A0_2 l0_2.length c0_2) := (kc BK170.out 2).trans rfl
         have hfz18_0 := kb BK170.out 0
         have hfz18_1 := kb BK170.out 1
         have hfz18_2 := kb BK170.out 2
         have p171 : 0 ≤ (x6_1 : Int) := of_decide_eq_true (by first | (with_reducible assumption) | assumption)
         have q171 : x6_1 < (l0_2.length : Int) := of_decide_eq_true (by first | (with_reducible assumption) | assumption)
         obtain ⟨ad171, A171_1, c171_1, A171_2, c171_2, A171_4, c171_4, e171, hx171_0, hx171_1, hx171_2, hx171_3, hx171_4, hl171_1, hi171_1, hl171_2, hi171_2, hl171_4, hi171_4⟩ := at_T45 HR0_2.out x6_1 p171 q171
         cases e171
         replace hx171_0 := (HB.out.cell (World.block_lt_of_cell? w _ hx171_0)).trans hx171_0
         replace hx171_1 := (HB.out.cell (World.block_lt_of_cell? w _ hx171_1)).trans hx171_1
         replace hx171_2 := (HB.out.cell (World.block_lt_of_cell? w _ hx171_2)).trans hx171_2
         replace hx171_3 := (HB.out.cell (World.block_lt_of_cell? w _ hx171_3)).trans hx171_3
         replace hx171_4 := (HB.out.cell (World.block_lt_of_cell? w _ hx171_4)).trans hx171_4
         have HR171_1 := kd.mk hi171_1
         have HC171_1 := kd.mk hl171_1
         clear hi171_1 hl171_1
         have HR171_2 := kd.mk hi171_2
         have HC171_2 := kd.mk hl171_2
         clear hi171_2 hl171_2
         have HR171_4 := kd.mk hi171_4
         have HC171_4 := kd.mk hl171_4
         clear hi171_4 hl171_4
         replace p171 := eq_true p171
         replace q171 := eq_true q171
         go_wp2_with (first | ((with_reducible refine ja (N := 7) rfl ?_); refine kz ?hg (N := 7) ?hd (cs := #[.string (⟨#[]⟩ : ByteArray), .slice none 0 0, .slice none 0 0, .bool false, .slice none 0 0]) (t := 45) ?hr ?_; (case hd => rfl); (case hg => rfl); (case hr => first | (go_simp; done) | (go_simp; rfl)); intro gb172 hg w19 hbox hb; have n0_ := kd.mk (ku (g := gb170) (o := .cells #[.slice A0_0 l0_0.length c0_0, .slice A0_1 l0_1.length c0_1, .slice (some ad171) l0_2.length c0_2] 26 (0, 0)) (by (with_reducible repeat (first | refine kg ?_ _ | refine kk ?_ | refine ki ?_ _)); exact BK170.out) hb); have n1_ := kd.mk (kr (by repeat (first | (with_reducible first | exact HB.out | apply ke | apply ka | apply kf | refine kj ?_ GE170.out) | exact HB.out)) hb); have n2_ := kd.mk (hbox); have n3_ := kd.mk ((by rw [hg]; exact (ks (by repeat (first | (with_reducible first | exact HB.out | apply ke | apply ka | apply kf | refine kj ?_ GE170.out) | exact HB.out))) : w.heap.size ≤ gb172)); have n4_ := kd.mk ((by rw [hg]; exact (ks (by repeat (first | (with_reducible first | exact HB.out | apply ke | apply ka | apply kf | refine kj ?_ GE170.out) | exact HB.out))) : w.heap.size ≤ gb172)); have n5_ := kd.mk ((by rw [hg]; exact Nat.ne_of_lt (jk (g := gb170) (o := .cells #[.slice A0_0 l0_0.length c0_0, .slice A0_1 l0_1.length c0_1, .slice (some ad171) l0_2.length c0_2] 26 (0, 0)) (by (with_reducible repeat (first | refine kg ?_ _ | refine kk ?_ | refine ki ?_ _)); exact BK170.out)) : gb170 ≠ gb172)); have n6_ := kd.mk ((by rw [hg]; exact Nat.ne_of_gt (jk (g := gb170) (o := .cells #[.slice A0_0 l0_0.length c0_0, .slice A0_1 l0_1.length c0_1, .slice (some ad171) l0_2.length c0_2] 26 (0, 0)) (by (with_reducible repeat (first | refine kg ?_ _ | refine kk ?_ | refine ki ?_ _)); exact BK170.out)) : gb172 ≠ gb170)); clear BK170; clear HB; have BK170 := n0_; have HB := n1_; have BK172 := n2_; have GW172 := n3_; have GE172 := n4_; have NB170_172 := n5_; have NB172_170 := n6_; clear n0_ n1_ n2_ n3_ n4_ n5_ n6_; clear hb hbox hg; have hnb20 := NB172_170.out; have hnc20 := NB170_172.out; have hcz21_0 : w19.cell? ⟨gb172, 0, none⟩ = some (.string (⟨#[]⟩ : ByteArray)) := (kc BK172.out 0).trans rfl; have hcz21_1 : w19.cell? ⟨gb172, 1, none⟩ = some (.slice none 0 0) := (kc BK172.out 1).trans rfl; have hcz21_2 : w19.cell? ⟨gb172, 2, none⟩ = some (.slice none 0 0) := (kc BK172.out 2).trans rfl; have hcz21_3 : w19.cell? ⟨gb172, 3, none⟩ = some (.bool false) := (kc BK172.out 3).trans rfl; have hcz21_4 : w19.cell? ⟨gb172, 4, none⟩ = some (.slice none 0 0) := (kc BK172.out 4).trans rfl; have hfz21_0 := kb BK172.out 0; have hfz21_1 := kb BK172.out 1; have hfz21_2 := kb BK172.out 2; have hfz21_3 := kb BK172.out 3; have hfz21_4 := kb BK172.out 4))
         go_roundg kj4
         case measure => have := HK1.out; have := HJ4.out; omega
         case rel => exact ⟨(wrap64 ((wrap64 (x5_1 - (((km l0_2 x6_1).f1).length : Int))) - (((km l0_2 x6_1).f2).length : Int))), (wrap64 (x6_1 + 1)), (by first | rfl | (simp; done) | (simp [*]; done)), (by first | rfl | (simp; done) | (simp [*]; done)), H', ⟨by have := HK1.out; have := HJ4.out; omega⟩, ⟨by (with_reducible repeat (first | refine kg ?_ _ | refine kk ?_ | refine ki ?_ _)); refine ji ?_ NB170_172.out _; (with_reducible repeat (first | refine kg ?_ _ | refine kk ?_ | refine ki ?_ _)); refine ji ?_ NB170_172.out _; (with_reducible repeat (first | refine kg ?_ _ | refine kk ?_ | refine ki ?_ _)); refine ji ?_ NB170_172.out _; (with_reducible repeat (first | refine kg ?_ _ | refine kk ?_ | refine ki ?_ _)); refine ji ?_ NB170_172.out _; (with_reducible repeat (first | refine kg ?_ _ | refine kk ?_ | refine ki ?_ _)); refine ji ?_ NB170_172.out _; (with_reducible repeat (first | refine kg ?_ _ | refine kk ?_ | refine ki ?_ _)); exact BK170.out⟩, ⟨by repeat (first | (with_reducible first | exact HB.out | apply ke | apply ka | apply kf | refine kj ?_ GE170.out | refine kj ?_ GE172.out) | exact HB.out)⟩⟩
       ·rw [if_neg c11] at H
        exact absurd H (by simp)
      ·rw [if_neg c10] at H
       exact absurd H (by simp)
     ·replace c9 := Bool.eq_false_iff.mpr c9
      subst c9
      replace H : (some (decide (x5_1 > 0))) = some r := by rw [if_neg (show ¬ (false = true) by decide)] at H; exact H
      obtain rfl := Option.some.inj H
      go_wp2
      go_ret
      exact ⟨by first | rfl | (simp [kp, ko] <;> rfl) | (simp [*, kp, ko] <;> rfl), by repeat (first | (with_reducible first | exact HB.out | apply ke | apply ka | apply kf | refine kj ?_ GE170.out) | exact HB.out)⟩
end Go.Proofs.YthnhdompfhkepaaDoor.Q
