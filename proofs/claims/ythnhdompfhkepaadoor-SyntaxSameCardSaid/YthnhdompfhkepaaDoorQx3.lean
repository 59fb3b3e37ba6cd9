import Derived.Test.YthnhdompfhkepaaDoorQx0
import Derived.Test.YthnhdompfhkepaaDoorQx2
namespace Go.Proofs.YthnhdompfhkepaaDoor.Q
open Go.RowKit Go.Proofs.YthnhdompfhkepaaDoorW.PrintWords Go.Proofs.YthnhdompfhkepaaDoorW.PrintLast Go.Proofs.YthnhdompfhkepaaDoorW.PrintMore
attribute [local go_sem] max2_int min2_int max_two min_two max_three min_three max_four min_four   -- for this text's walks alone
set_option linter.unusedVariables false
set_option linter.unusedSimpArgs false
mutual
def syntax_args.l0 : Nat → List ByteArray → List (S36) → Int → Int → Option (ByteArray)
 | 0, _, _, _, _ => none
 | k + 1, x3, x6, x7, x8 => if x8 < x7 then (if 0 ≤ x8 then (if x8 < (x6.length : Int) then ((syntax_Expr.f k ((rd_T36 x6 x8).f0) ((rd_T36 x6 x8).f1) ((rd_T36 x6 x8).f2) ((rd_T36 x6 x8).f3) ((rd_T36 x6 x8).f4)).bind fun t104 => (if x3.length < 8796093022208 then (syntax_args.l0 k (x3 ++ [t104]) x6 x7 (wrap64 (x8 + 1))) else (none))) else (none)) else (none)) else ((Ext.strings_Join.f x3 (⟨#[44, 32]⟩ : ByteArray)).bind fun t108 => (some t108))
def syntax_args.f : Nat → List (S36) → Option (ByteArray)
 | 0, _ => none
 | k + 1, l0 => syntax_args.l0 k ([] : List ByteArray) l0 (l0.length : Int) 0
def syntax_two.f : Nat → Int → Int → Int → ByteArray → List (S36) → ByteArray → Option (ByteArray)
 | 0, _, _, _, _, _, _ => none
 | k + 1, a0_0, a0_1, a0_2, a0_3, l0_4, a1 => if 0 < (l0_4.length : Int) then ((syntax_Expr.f k ((rd_T36 l0_4 0).f0) ((rd_T36 l0_4 0).f1) ((rd_T36 l0_4 0).f2) ((rd_T36 l0_4 0).f3) ((rd_T36 l0_4 0).f4)).bind fun t111 => (if 1 + t111.size ≤ 9223372036854775807 then (if ((⟨#[40]⟩ : ByteArray) ++ t111).size + 1 ≤ 9223372036854775807 then (if (((⟨#[40]⟩ : ByteArray) ++ t111) ++ (⟨#[32]⟩ : ByteArray)).size + a1.size ≤ 9223372036854775807 then (if ((((⟨#[40]⟩ : ByteArray) ++ t111) ++ (⟨#[32]⟩ : ByteArray)) ++ a1).size + 1 ≤ 9223372036854775807 then (if 1 < (l0_4.length : Int) then ((syntax_Expr.f k ((rd_T36 l0_4 1).f0) ((rd_T36 l0_4 1).f1) ((rd_T36 l0_4 1).f2) ((rd_T36 l0_4 1).f3) ((rd_T36 l0_4 1).f4)).bind fun t113 => (if (((((⟨#[40]⟩ : ByteArray) ++ t111) ++ (⟨#[32]⟩ : ByteArray)) ++ a1) ++ (⟨#[32]⟩ : ByteArray)).size + t113.size ≤ 9223372036854775807 then (if ((((((⟨#[40]⟩ : ByteArray) ++ t111) ++ (⟨#[32]⟩ : ByteArray)) ++ a1) ++ (⟨#[32]⟩ : ByteArray)) ++ t113).size + 1 ≤ 9223372036854775807 then (some (((((((⟨#[40]⟩ : ByteArray) ++ t111) ++ (⟨#[32]⟩ : ByteArray)) ++ a1) ++ (⟨#[32]⟩ : ByteArray)) ++ t113) ++ (⟨#[41]⟩ : ByteArray))) else (none)) else (none))) else (none)) else (none)) else (none)) else (none)) else (none))) else (none)
def syntax_Expr.f : Nat → Int → Int → Int → ByteArray → List (S36) → Option (ByteArray)
 | 0, _, _, _, _, _ => none
 | k + 1, a0_0, a0_1, a0_2, a0_3, l0_4 => if a0_0 = 1 then ((word_Text.f a0_2).bind fun t115 => (some t115)) else (if a0_0 = 2 then (some a0_3) else (if a0_0 = 3 then (if a0_3.size + 1 ≤ 9223372036854775807 then (if 0 < (l0_4.length : Int) then ((syntax_Expr.f k ((rd_T36 l0_4 0).f0) ((rd_T36 l0_4 0).f1) ((rd_T36 l0_4 0).f2) ((rd_T36 l0_4 0).f3) ((rd_T36 l0_4 0).f4)).bind fun t117 => (if (a0_3 ++ (⟨#[91]⟩ : ByteArray)).size + t117.size ≤ 9223372036854775807 then (if ((a0_3 ++ (⟨#[91]⟩ : ByteArray)) ++ t117).size + 1 ≤ 9223372036854775807 then (some (((a0_3 ++ (⟨#[91]⟩ : ByteArray)) ++ t117) ++ (⟨#[93]⟩ : ByteArray))) else (none)) else (none))) else (none)) else (none)) else (if a0_0 = 4 then (if a0_3.size + 1 ≤ 9223372036854775807 then ((syntax_args.f k l0_4).bind fun t118 => (if (a0_3 ++ (⟨#[40]⟩ : ByteArray)).size + t118.size ≤ 9223372036854775807 then (if ((a0_3 ++ (⟨#[40]⟩ : ByteArray)) ++ t118).size + 1 ≤ 9223372036854775807 then (some (((a0_3 ++ (⟨#[40]⟩ : ByteArray)) ++ t118) ++ (⟨#[41]⟩ : ByteArray))) else (none)) else (none))) else (none)) else (if a0_0 = 5 then (some (⟨#[103, 101, 116, 40, 41]⟩ : ByteArray)) else (if a0_0 = 6 then (if 0 ≤ (wrap64 (a0_1 - 4)) then (if (wrap64 (a0_1 - 4)) < 12 then ((syntax_two.f k a0_0 a0_1 a0_2 a0_3 l0_4 (rdOf ByteArray.empty Ext.signsL (wrap64 (a0_1 - 4)))).bind fun t120 => (some t120)) else (none)) else (none)) else (if a0_0 = 7 then (if 0 < (l0_4.length : Int) then ((syntax_Expr.f k ((rd_T36 l0_4 0).f0) ((rd_T36 l0_4 0).f1) ((rd_T36 l0_4 0).f2) ((rd_T36 l0_4 0).f3) ((rd_T36 l0_4 0).f4)).bind fun t122 => (if 1 + t122.size ≤ 9223372036854775807 then (some ((⟨#[33]⟩ : ByteArray) ++ t122)) else (none))) else (none)) else (if a0_0 = 8 then ((syntax_two.f k a0_0 a0_1 a0_2 a0_3 l0_4 (⟨#[38, 38]⟩ : ByteArray)).bind fun t123 => (some t123)) else ((syntax_two.f k a0_0 a0_1 a0_2 a0_3 l0_4 (⟨#[124, 124]⟩ : ByteArray)).bind fun t124 => (some t124)))))))))
end
theorem syntax_args.mono_l : ∀ k, (∀ y0, LeO (syntax_args.f k y0) (syntax_args.f (k + 1) y0)) ∧ (∀ y0 y1 y2 y3, LeO (syntax_args.l0 k y0 y1 y2 y3) (syntax_args.l0 (k + 1) y0 y1 y2 y3)) ∧ (∀ y0 y1 y2 y3 y4 y5, LeO (syntax_two.f k y0 y1 y2 y3 y4 y5) (syntax_two.f (k + 1) y0 y1 y2 y3 y4 y5)) ∧ (∀ y0 y1 y2 y3 y4, LeO (syntax_Expr.f k y0 y1 y2 y3 y4) (syntax_Expr.f (k + 1) y0 y1 y2 y3 y4))
 | 0 => ⟨fun _ r h => by simp [syntax_args.f] at h, fun _ _ _ _ r h => by simp [syntax_args.l0] at h, fun _ _ _ _ _ _ r h => by simp [syntax_two.f] at h, fun _ _ _ _ _ r h => by simp [syntax_Expr.f] at h⟩
 | k + 1 => by
  obtain ⟨ih0, ih1, ih2, ih3⟩ := syntax_args.mono_l k
  refine ⟨?_, ?_, ?_, ?_⟩
  ·intro y0
   unfold syntax_args.f
   repeat' first
   | (with_reducible exact ih0 _)
   | (with_reducible exact ih1 _ _ _ _)
   | (with_reducible exact ih2 _ _ _ _ _ _)
   | (with_reducible exact ih3 _ _ _ _ _)
   | (with_reducible exact LeO.refl _)
   | (with_reducible exact LeO.none _)
   | (with_reducible refine LeO.ite ?_ ?_)
   | (with_reducible refine LeO.bind ?_ (fun _ => ?_))
   | exact ih0 _
   | exact ih1 _ _ _ _
   | exact ih2 _ _ _ _ _ _
   | exact ih3 _ _ _ _ _
   | exact LeO.none _
   | refine LeO.ite ?_ ?_
   | refine LeO.bind ?_ (fun _ => ?_)
  ·intro y0 y1 y2 y3
   unfold syntax_args.l0
   repeat' first
   | (with_reducible exact ih0 _)
   | (with_reducible exact ih1 _ _ _ _)
   | (with_reducible exact ih2 _ _ _ _ _ _)
   | (with_reducible exact ih3 _ _ _ _ _)
   | (with_reducible exact LeO.refl _)
   | (with_reducible exact LeO.none _)
   | (with_reducible refine LeO.ite ?_ ?_)
   | (with_reducible refine LeO.bind ?_ (fun _ => ?_))
   | exact ih0 _
   | exact ih1 _ _ _ _
   | exact ih2 _ _ _ _ _ _
   | exact ih3 _ _ _ _ _
   | exact LeO.none _
   | refine LeO.ite ?_ ?_
   | refine LeO.bind ?_ (fun _ => ?_)
  ·intro y0 y1 y2 y3 y4 y5
   unfold syntax_two.f
   repeat' first
   | (with_reducible exact ih0 _)
   | (with_reducible exact ih1 _ _ _ _)
   | (with_reducible exact ih2 _ _ _ _ _ _)
   | (with_reducible exact ih3 _ _ _ _ _)
   | (with_reducible exact LeO.refl _)
   | (with_reducible exact LeO.none _)
   | (with_reducible refine LeO.ite ?_ ?_)
   | (with_reducible refine LeO.bind ?_ (fun _ => ?_))
   | exact ih0 _
   | exact ih1 _ _ _ _
   | exact ih2 _ _ _ _ _ _
   | exact ih3 _ _ _ _ _
   | exact LeO.none _
   | refine LeO.ite ?_ ?_
   | refine LeO.bind ?_ (fun _ => ?_)
  ·intro y0 y1 y2 y3 y4
   unfold syntax_Expr.f
   repeat' first
   | (with_reducible exact ih0 _)
   | (with_reducible exact ih1 _ _ _ _)
   | (with_reducible exact ih2 _ _ _ _ _ _)
   | (with_reducible exact ih3 _ _ _ _ _)
   | (with_reducible exact LeO.refl _)
   | (with_reducible exact LeO.none _)
   | (with_reducible refine LeO.ite ?_ ?_)
   | (with_reducible refine LeO.bind ?_ (fun _ => ?_))
   | exact ih0 _
   | exact ih1 _ _ _ _
   | exact ih2 _ _ _ _ _ _
   | exact ih3 _ _ _ _ _
   | exact LeO.none _
   | refine LeO.ite ?_ ?_
   | refine LeO.bind ?_ (fun _ => ?_)
theorem syntax_args.mono : ∀ a0 k, LeO (syntax_args.f k a0) (syntax_args.f (k + 1) a0) := by
 intro a0 k
 obtain ⟨ih0, ih1, ih2, ih3⟩ := syntax_args.mono_l k
 exact ih0 a0
theorem syntax_two.mono : ∀ a0 a1 a2 a3 a4 a5 k, LeO (syntax_two.f k a0 a1 a2 a3 a4 a5) (syntax_two.f (k + 1) a0 a1 a2 a3 a4 a5) := by
 intro a0 a1 a2 a3 a4 a5 k
 obtain ⟨ih0, ih1, ih2, ih3⟩ := syntax_args.mono_l k
 exact ih2 a0 a1 a2 a3 a4 a5
theorem syntax_Expr.mono : ∀ a0 a1 a2 a3 a4 k, LeO (syntax_Expr.f k a0 a1 a2 a3 a4) (syntax_Expr.f (k + 1) a0 a1 a2 a3 a4) := by
 intro a0 a1 a2 a3 a4 k
 obtain ⟨ih0, ih1, ih2, ih3⟩ := syntax_args.mono_l k
 exact ih3 a0 a1 a2 a3 a4
set_option maxHeartbeats 8000000 in
set_option maxRecDepth 100000 in
theorem syntax_args.calls_of (k : Nat) (ih_syntax_args : ∀ j_, j_ < k → ∀ (A0 : Option Addr) (c0 : Nat) (l0 : List (S36)) (r : ByteArray) (w : World) (hT : Go.Proofs.YthnhdompfhkepaaDoor.Ext.TAB w) (hr0 : Kd.C k36 w A0 l0.length l0) (hc0 : l0.length ≤ c0) (h : syntax_args.f j_ l0 = some r), Calls Tryd.prog 53 #[.slice A0 l0.length c0] w fun e w' => e = .returned (.string r) ∧ Below w.heap.size w w') (ih_syntax_two : ∀ j_, j_ < k → ∀ (a0_0 : Int) (a0_1 : Int) (a0_2 : Int) (a0_3 : ByteArray) (A0_4 : Option Addr) (c0_4 : Nat) (l0_4 : List (S36)) (a1 : ByteArray) (r : ByteArray) (w : World) (hT : Go.Proofs.YthnhdompfhkepaaDoor.Ext.TAB w) (hr0_4 : Kd.C k36 w A0_4 l0_4.length l0_4) (hc0_4 : l0_4.length ≤ c0_4) (h : syntax_two.f j_ a0_0 a0_1 a0_2 a0_3 l0_4 a1 = some r), Calls Tryd.prog 54 #[.agg #[.int .i64 a0_0, .int .i64 a0_1, .int .u32 a0_2, .string a0_3, .slice A0_4 l0_4.length c0_4], .string a1] w fun e w' => e = .returned (.string r) ∧ Below w.heap.size w w') (ih_syntax_Expr : ∀ j_, j_ < k → ∀ (a0_0 : Int) (a0_1 : Int) (a0_2 : Int) (a0_3 : ByteArray) (A0_4 : Option Addr) (c0_4 : Nat) (l0_4 : List (S36)) (r : ByteArray) (w : World) (hT : Go.Proofs.YthnhdompfhkepaaDoor.Ext.TAB w) (hr0_4 : Kd.C k36 w A0_4 l0_4.length l0_4) (hc0_4 : l0_4.length ≤ c0_4) (h : syntax_Expr.f j_ a0_0 a0_1 a0_2 a0_3 l0_4 = some r), Calls Tryd.prog 24 #[.agg #[.int .i64 a0_0, .int .i64 a0_1, .int .u32 a0_2, .string a0_3, .slice A0_4 l0_4.length c0_4]] w fun e w' => e = .returned (.string r) ∧ Below w.heap.size w w') : ∀ (A0 : Option Addr) (c0 : Nat) (l0 : List (S36)) (r : ByteArray) (w : World) (hT : Go.Proofs.YthnhdompfhkepaaDoor.Ext.TAB w) (hr0 : Kd.C k36 w A0 l0.length l0) (hc0 : l0.length ≤ c0) (h : syntax_args.f k l0 = some r), Calls Tryd.prog 53 #[.slice A0 l0.length c0] w fun e w' => e = .returned (.string r) ∧ Below w.heap.size w w' := by
 intro A0 c0 l0 r w hT hr0 hc0 h
 cases k with
 | zero => exact absurd h (by simp [syntax_args.f])
 | succ k =>
 simp only [syntax_args.f] at h
 have hu36 := Tryd.underlying36
 have HT := Aside0.mk hT
 clear hT
 have HR0 := Aside0.mk hr0
 have HC0 := Aside0.mk hc0
 clear hr0 hc0
 have HB := Aside0.mk (Below.refl w.heap.size w)
 have H : (syntax_args.l0 k ([] : List ByteArray) l0 (l0.length : Int) 0) = some r := h
 clear h
 have H' := Aside0.mk H
 clear H
 go_enter Tryd.func53, Tryd.ntmps53
 go_wp2
 go_loopg [3, 8] k (fun kq v3 v8 w' => ∃ (x3_1 : List ByteArray) (x8_1 : Int), v8 = .int .i64 x8_1 ∧ Aside0 (syntax_args.l0 kq x3_1 l0 (l0.length : Int) x8_1 = some r) ∧ Aside0 (kq ≤ k) ∧ Aside0 (Kd.R Kd.string 9 w' w.heap.size (fun _ => True) v3 x3_1) ∧ Aside0 (Below w.heap.size w w'))
 case atStart => exact ⟨(([] : List ByteArray)), (0), (by first | rfl | (simp; done) | (simp [*]; done)), H', ⟨Nat.le_refl _⟩, ⟨by first | exact Kd.R_nil _ _ _ _ _ | exact Kd.N_nil _ _ _ _ _ | exact Kd.V_nil _ _ _ _ _ | exact Kd.Q_nil _ _ _ _ _ | exact Kd.S_nil _ _ _ _ _⟩, ⟨by repeat (first | (with_reducible first | exact HB.out | apply below_alloc | apply pw_below_drewN | apply below_drew1) | exact HB.out)⟩⟩
 case round =>
  clear H'
  obtain ⟨x3_1, x8_1, rfl, HA, HK1, HO_3, HB⟩ := hrel
  cases gk with
  | zero => exact absurd HA.out (by simp [syntax_args.l0])
  | succ k1 =>
   have H := HA.out
   clear HA
   simp only [syntax_args.l0] at H
   by_cases c2 : x8_1 < (l0.length : Int)
   ·rw [if_pos c2] at H
    have c2b0 : decide (x8_1 < (l0.length : Int)) = true := decide_eq_true c2
    clear c2
    by_cases c3 : 0 ≤ x8_1
    ·rw [if_pos c3] at H
     have c3b0 : decide (0 ≤ x8_1) = true := decide_eq_true c3
     clear c3
     by_cases c4 : x8_1 < (l0.length : Int)
     ·rw [if_pos c4] at H
      have c4b0 : decide (x8_1 < (l0.length : Int)) = true := decide_eq_true c4
      clear c4
      replace H := Option.bind_eq_some_iff.mp H
      obtain ⟨t104, A50, H⟩ := H
      replace H : (if x3_1.length < 8796093022208 then (syntax_args.l0 k1 (x3_1 ++ [t104]) l0 (l0.length : Int) (wrap64 (x8_1 + 1))) else (none)) = some r := H
      have A5 := Aside0.mk A50
      clear A50
      by_cases c6 : x3_1.length < 8796093022208
      ·rw [if_pos c6] at H
       have LMc6 := Aside0.mk c6
       clear c6
       obtain ⟨y105, hy105⟩ : ∃ y_ : List ByteArray, y_ = (x3_1 ++ [t104]) := ⟨_, rfl⟩
       replace H : (syntax_args.l0 k1 y105 l0 (l0.length : Int) (wrap64 (x8_1 + 1))) = some r := by first | (rw [hy105]; with_reducible exact H) | (have H2_ := (Option.bind_some _ _).symm.trans H; rw [hy105]; with_reducible exact H2_) | (have H2_ := (Option.bind_some _ _).symm.trans H; with_reducible exact H2_) | with_reducible exact H | (rw [hy105]; exact H) | exact H
       have Ny105 := Aside0.mk hy105
       clear hy105
       have H' := Aside0.mk H
       clear H
       have p102 : 0 ≤ (x8_1 : Int) := of_decide_eq_true (by first | (with_reducible assumption) | assumption)
       have q102 : x8_1 < (l0.length : Int) := of_decide_eq_true (by first | (with_reducible assumption) | assumption)
       obtain ⟨ad102, A102_4, c102_4, e102, hx102_0, hx102_1, hx102_2, hx102_3, hx102_4, hl102_4, hi102_4⟩ := at_T36 HR0.out x8_1 p102 q102
       cases e102
       replace hx102_0 := (HB.out.cell (World.block_lt_of_cell? w _ hx102_0)).trans hx102_0
       replace hx102_1 := (HB.out.cell (World.block_lt_of_cell? w _ hx102_1)).trans hx102_1
       replace hx102_2 := (HB.out.cell (World.block_lt_of_cell? w _ hx102_2)).trans hx102_2
       replace hx102_3 := (HB.out.cell (World.block_lt_of_cell? w _ hx102_3)).trans hx102_3
       replace hx102_4 := (HB.out.cell (World.block_lt_of_cell? w _ hx102_4)).trans hx102_4
       have HR102_4 := Aside0.mk hi102_4
       have HC102_4 := Aside0.mk hl102_4
       clear hi102_4 hl102_4
       replace p102 := eq_true p102
       replace q102 := eq_true q102
       go_wp2_with (first | ((with_reducible refine gate_dst (N := 5) rfl ?_); refine box_event ?hg (N := 5) ?hd (cs := #[.int .i64 0, .int .i64 0, .int .u32 0, .string (⟨#[]⟩ : ByteArray), .slice none 0 0]) (t := 36) ?hr ?_; (case hd => rfl); (case hg => rfl); (case hr => first | (go_simp; done) | (go_simp; rfl)); intro gb103 hg w7 hbox hb; have n0_ := Aside0.mk (Kd.R_below (by (with_reducible repeat (first | apply Kd.R_alloc | apply Kd.R_drewN | apply Kd.R_drew)); exact HO_3.out) hb); have n1_ := Aside0.mk (below_step (by repeat (first | (with_reducible first | exact HB.out | apply below_alloc | apply pw_below_drewN | apply below_drew1) | exact HB.out)) hb); have n2_ := Aside0.mk (hbox); have n3_ := Aside0.mk ((by rw [hg]; exact (below_size (by repeat (first | (with_reducible first | exact HB.out | apply below_alloc | apply pw_below_drewN | apply below_drew1) | exact HB.out))) : w.heap.size ≤ gb103)); have n4_ := Aside0.mk ((by rw [hg]; exact (below_size (by repeat (first | (with_reducible first | exact HB.out | apply below_alloc | apply pw_below_drewN | apply below_drew1) | exact HB.out))) : w.heap.size ≤ gb103)); clear HO_3; clear HB; have HO_3 := n0_; have HB := n1_; have BK103 := n2_; have GW103 := n3_; have GE103 := n4_; clear n0_ n1_ n2_ n3_ n4_; clear hb hbox hg; have hcz8_0 : w7.cell? ⟨gb103, 0, none⟩ = some (.int .i64 0) := (blk_cell BK103.out 0).trans rfl; have hcz8_1 : w7.cell? ⟨gb103, 1, none⟩ = some (.int .i64 0) := (blk_cell BK103.out 1).trans rfl; have hcz8_2 : w7.cell? ⟨gb103, 2, none⟩ = some (.int .u32 0) := (blk_cell BK103.out 2).trans rfl; have hcz8_3 : w7.cell? ⟨gb103, 3, none⟩ = some (.string (⟨#[]⟩ : ByteArray)) := (blk_cell BK103.out 3).trans rfl; have hcz8_4 : w7.cell? ⟨gb103, 4, none⟩ = some (.slice none 0 0) := (blk_cell BK103.out 4).trans rfl; have hfz8_0 := blk_frozen BK103.out 0; have hfz8_1 := blk_frozen BK103.out 1; have hfz8_2 := blk_frozen BK103.out 2; have hfz8_3 := blk_frozen BK103.out 3; have hfz8_4 := blk_frozen BK103.out 4) | ((with_reducible refine gate_callee (f := 24) rfl ?_); refine goesL_ (some 14) rfl rfl Tryd.func24 (by kernel_rfl) rfl #[.agg #[.int .i64 ((rd_T36 l0 x8_1).f0), .int .i64 ((rd_T36 l0 x8_1).f1), .int .u32 ((rd_T36 l0 x8_1).f2), .string ((rd_T36 l0 x8_1).f3), .slice A102_4 ((rd_T36 l0 x8_1).f4).length c102_4]] rfl (by (try simp only [List.map_toArray, List.map_cons, List.map_nil]); first | done | rfl | (simp only [List.length_drop, List.length_take]; rfl)) ?_; (with_reducible refine (ih_syntax_Expr k1 (by have := HK1.out; omega) ((rd_T36 l0 x8_1).f0) ((rd_T36 l0 x8_1).f1) ((rd_T36 l0 x8_1).f2) ((rd_T36 l0 x8_1).f3) _ _ ((rd_T36 l0 x8_1).f4) t104 _ ?side1 ?side2 ?side3 A5.out).mono ?_); (case side1 => exact Go.Proofs.YthnhdompfhkepaaDoor.Ext.TAB.below HT.out (by repeat (first | (with_reducible first | exact HB.out | apply below_alloc | apply pw_below_drewN | apply below_drew1 | refine below_set ?_ GE103.out) | exact HB.out))); (case side2 => exact Kd.C_below HR102_4.out (by repeat (first | (with_reducible first | exact HB.out | apply below_alloc | apply pw_below_drewN | apply below_drew1 | refine below_set ?_ GE103.out) | exact HB.out))); (case side3 => exact HC102_4.out); rintro e w9 ⟨rfl, hb⟩; refine ⟨_, rfl, ?_⟩; have n0_ := Aside0.mk (Kd.R_below (by (with_reducible repeat (first | apply Kd.R_alloc | apply Kd.R_drewN | apply Kd.R_drew)); exact (Kd.R_mono (Kd.R_far (p := ⟨gb103, 4, none⟩) (Kd.R_far (p := ⟨gb103, 3, none⟩) (Kd.R_far (p := ⟨gb103, 2, none⟩) (Kd.R_far (p := ⟨gb103, 1, none⟩) (Kd.R_far (p := ⟨gb103, 0, none⟩) (Kd.R_types HO_3.out BK103.out (by decide)) (fun _ hk => hk.2) (.int .i64 ((rd_T36 l0 x8_1).f0))) (fun _ hk => hk.2) (.int .i64 ((rd_T36 l0 x8_1).f1))) (fun _ hk => hk.2) (.int .u32 ((rd_T36 l0 x8_1).f2))) (fun _ hk => hk.2) (.string ((rd_T36 l0 x8_1).f3))) (fun _ hk => hk.2) (.slice A102_4 ((rd_T36 l0 x8_1).f4).length c102_4)) (fun _ h_ => h_.1))) hb); have n1_ := Aside0.mk (blk_below (g := gb103) (o := .cells #[.int .i64 ((rd_T36 l0 x8_1).f0), .int .i64 ((rd_T36 l0 x8_1).f1), .int .u32 ((rd_T36 l0 x8_1).f2), .string ((rd_T36 l0 x8_1).f3), .slice A102_4 ((rd_T36 l0 x8_1).f4).length c102_4] 36 (0, 0)) (by (with_reducible repeat (first | refine blk_drewN ?_ _ | refine blk_drew ?_ | refine blk_alloc ?_ _)); refine blk_put (cs := #[.int .i64 ((rd_T36 l0 x8_1).f0), .int .i64 ((rd_T36 l0 x8_1).f1), .int .u32 ((rd_T36 l0 x8_1).f2), .string ((rd_T36 l0 x8_1).f3), .slice none 0 0]) ?_ 4 _ rfl; (with_reducible repeat (first | refine blk_drewN ?_ _ | refine blk_drew ?_ | refine blk_alloc ?_ _)); refine blk_put (cs := #[.int .i64 ((rd_T36 l0 x8_1).f0), .int .i64 ((rd_T36 l0 x8_1).f1), .int .u32 ((rd_T36 l0 x8_1).f2), .string (⟨#[]⟩ : ByteArray), .slice none 0 0]) ?_ 3 _ rfl; (with_reducible repeat (first | refine blk_drewN ?_ _ | refine blk_drew ?_ | refine blk_alloc ?_ _)); refine blk_put (cs := #[.int .i64 ((rd_T36 l0 x8_1).f0), .int .i64 ((rd_T36 l0 x8_1).f1), .int .u32 0, .string (⟨#[]⟩ : ByteArray), .slice none 0 0]) ?_ 2 _ rfl; (with_reducible repeat (first | refine blk_drewN ?_ _ | refine blk_drew ?_ | refine blk_alloc ?_ _)); refine blk_put (cs := #[.int .i64 ((rd_T36 l0 x8_1).f0), .int .i64 0, .int .u32 0, .string (⟨#[]⟩ : ByteArray), .slice none 0 0]) ?_ 1 _ rfl; (with_reducible repeat (first | refine blk_drewN ?_ _ | refine blk_drew ?_ | refine blk_alloc ?_ _)); refine blk_put (cs := #[.int .i64 0, .int .i64 0, .int .u32 0, .string (⟨#[]⟩ : ByteArray), .slice none 0 0]) ?_ 0 _ rfl; (with_reducible repeat (first | refine blk_drewN ?_ _ | refine blk_drew ?_ | refine blk_alloc ?_ _)); exact BK103.out) hb); have n2_ := Aside0.mk (below_step (by repeat (first | (with_reducible first | exact HB.out | apply below_alloc | apply pw_below_drewN | apply below_drew1 | refine below_set ?_ GE103.out) | exact HB.out)) hb); clear HO_3; clear BK103; clear HB; have HO_3 := n0_; have BK103 := n1_; have HB := n2_; clear n0_ n1_ n2_; (try clear hb); (try clear hb2); (try clear hk); (try clear hi)) | ((with_reducible refine gate_builtin (b := .append) (xs := #[.tmp 12, .tmp 15]) rfl ?_); at_builtin; refine Kd.R_append Kd.string (w0 := w) w.heap.size rfl (.tmp 12) (.tmp 15) 22 9 (.string ⟨#[]⟩) 16 rfl Tryd.underlying22 info9 rfl (by decide) (by omega) u3 x3_1 t104 [.string t104] (fun _ => True) (fun _ => False) rfl rfl ?aP (fun _ hk => hk.elim) ?aF ?aO ?aB ?aS ?aL ?_; (case aP => exact rfl); (case aB => exact (by repeat (first | (with_reducible first | exact HB.out | apply below_alloc | apply pw_below_drewN | apply below_drew1 | refine below_set ?_ GE103.out) | exact HB.out))); (case aF => exact (fun _ _ => trivial)); (case aO => exact (by (with_reducible repeat (first | apply Kd.R_alloc | apply Kd.R_drewN | apply Kd.R_drew)); exact HO_3.out)); (case aS => exact (below_size (by repeat (first | (with_reducible first | exact HB.out | apply below_alloc | apply pw_below_drewN | apply below_drew1 | refine below_set ?_ GE103.out) | exact HB.out)))); (case aL => have := LMc6.out; omega); intro v106 w10 ho hb hg hat; rw [← Ny105.out] at ho; have n0_ := Aside0.mk (blk_grown (g := gb103) (o := .cells #[.int .i64 ((rd_T36 l0 x8_1).f0), .int .i64 ((rd_T36 l0 x8_1).f1), .int .u32 ((rd_T36 l0 x8_1).f2), .string ((rd_T36 l0 x8_1).f3), .slice A102_4 ((rd_T36 l0 x8_1).f4).length c102_4] 36 (0, 0)) (by (with_reducible repeat (first | refine blk_drewN ?_ _ | refine blk_drew ?_ | refine blk_alloc ?_ _)); exact BK103.out) hg (Kd.R_ne HO_3.out BK103.out (by decide))); have n1_ := Aside0.mk (hb); have n2_ := Aside0.mk (ho); clear BK103; clear HB; clear HO_3; have BK103 := n0_; have HB := n1_; have HO107 := n2_; clear n0_ n1_ n2_; clear ho hb hg hat))
       go_roundg k1
       case measure => have := HK1.out; omega
       case rel => exact ⟨(y105), (wrap64 (x8_1 + 1)), (by first | rfl | (simp; done) | (simp [*]; done)), H', ⟨by have := HK1.out; omega⟩, ⟨by (with_reducible repeat (first | apply Kd.R_alloc | apply Kd.R_drewN | apply Kd.R_drew)); exact HO107.out⟩, ⟨by repeat (first | (with_reducible first | exact HB.out | apply below_alloc | apply pw_below_drewN | apply below_drew1 | refine below_set ?_ GE103.out) | exact HB.out)⟩⟩
      ·rw [if_neg c6] at H
       exact absurd H (by simp)
     ·rw [if_neg c4] at H
      exact absurd H (by simp)
    ·rw [if_neg c3] at H
     exact absurd H (by simp)
   ·rw [if_neg c2] at H
    have c2b0 : decide (x8_1 < (l0.length : Int)) = false := decide_eq_false c2
    clear c2
    replace H := Option.bind_eq_some_iff.mp H
    obtain ⟨t108, A110, H⟩ := H
    replace H : (some t108) = some r := H
    have A11 := Aside0.mk A110
    clear A110
    obtain rfl := Option.some.inj H
    obtain ⟨Ao12, co12, eo12⟩ := Kd.R_slice HO_3.out
    subst eo12
    go_wp2_with (first | ((with_reducible refine gate_callee (f := 29) rfl ?_); refine goesL_ (some 19) rfl rfl Tryd.func29 (by kernel_rfl) rfl #[.slice Ao12 x3_1.length co12, .string (⟨#[44, 32]⟩ : ByteArray)] rfl (by (try simp only [List.map_toArray, List.map_cons, List.map_nil]); first | done | rfl | (simp only [List.length_drop, List.length_take]; rfl)) ?_; (with_reducible refine (Ext.strings_Join.calls _ _ x3_1 (⟨#[44, 32]⟩ : ByteArray) t108 _ ?side1 ?side2 A11.out).mono ?_); (case side1 => repeat (first | exact (Kd.R_reads' HO_3.out).2.2 | (with_reducible refine Kd.C_alloc ?_ _) | (with_reducible refine Kd.C_drewN ?_ _) | (with_reducible refine Kd.C_drew ?_))); (case side2 => exact (Kd.R_reads' HO_3.out).2.1); rintro e w13 ⟨rfl, hb⟩; refine ⟨_, rfl, ?_⟩; have n0_ := Aside0.mk (Kd.R_below (by (with_reducible repeat (first | apply Kd.R_alloc | apply Kd.R_drewN | apply Kd.R_drew)); exact HO_3.out) hb); have n1_ := Aside0.mk (below_step (by repeat (first | (with_reducible first | exact HB.out | apply below_alloc | apply pw_below_drewN | apply below_drew1) | exact HB.out)) hb); clear HO_3; clear HB; have HO_3 := n0_; have HB := n1_; clear n0_ n1_; (try clear hb); (try clear hb2); (try clear hk); (try clear hi)))
    go_ret
    exact ⟨by first | rfl | (simp [errW_none, errW_some] <;> rfl) | (simp [*, errW_none, errW_some] <;> rfl), by repeat (first | (with_reducible first | exact HB.out | apply below_alloc | apply pw_below_drewN | apply below_drew1) | exact HB.out)⟩
def syntax_two.T1 : Bool × List (List Nat × List Nat) := (true, [([], []), ([0], [0]), ([1], [1]), ([2], [2]), ([3], [3]), ([4], [4]), ([5], [5]), ([], []), ([6, 7], [6, 7]), ([8], [8]), ([], []), ([10], [10]), ([11], [11]), ([12], [12]), ([13, 4], [13]), ([9, 14], [9, 14]), ([15], [15]), ([16, 14, 0, 1, 2, 3, 4, 5, 6, 7, 8, 9, 10, 11, 12, 13, 14, 15, 16], [16])])
def syntax_two.B1 : List Nat := [0, 1, 3, 7, 15, 31, 63, 0, 255, 511, 0, 1024, 3072, 7168, 15391, 32767, 65535, 131071]
theorem syntax_two.tab1 : rtab .any (opsOf Tryd.f54 1) = syntax_two.T1 := by kernel_rfl
theorem syntax_two.bits1 : waitsOk syntax_two.T1.2 syntax_two.B1 = true := by kernel_rfl
set_option maxHeartbeats 8000000 in
set_option maxRecDepth 100000 in
theorem syntax_two.calls_of (k : Nat) (ih_syntax_args : ∀ j_, j_ < k → ∀ (A0 : Option Addr) (c0 : Nat) (l0 : List (S36)) (r : ByteArray) (w : World) (hT : Go.Proofs.YthnhdompfhkepaaDoor.Ext.TAB w) (hr0 : Kd.C k36 w A0 l0.length l0) (hc0 : l0.length ≤ c0) (h : syntax_args.f j_ l0 = some r), Calls Tryd.prog 53 #[.slice A0 l0.length c0] w fun e w' => e = .returned (.string r) ∧ Below w.heap.size w w') (ih_syntax_two : ∀ j_, j_ < k → ∀ (a0_0 : Int) (a0_1 : Int) (a0_2 : Int) (a0_3 : ByteArray) (A0_4 : Option Addr) (c0_4 : Nat) (l0_4 : List (S36)) (a1 : ByteArray) (r : ByteArray) (w : World) (hT : Go.Proofs.YthnhdompfhkepaaDoor.Ext.TAB w) (hr0_4 : Kd.C k36 w A0_4 l0_4.length l0_4) (hc0_4 : l0_4.length ≤ c0_4) (h : syntax_two.f j_ a0_0 a0_1 a0_2 a0_3 l0_4 a1 = some r), Calls Tryd.prog 54 #[.agg #[.int .i64 a0_0, .int .i64 a0_1, .int .u32 a0_2, .string a0_3, .slice A0_4 l0_4.length c0_4], .string a1] w fun e w' => e = .returned (.string r) ∧ Below w.heap.size w w') (ih_syntax_Expr : ∀ j_, j_ < k → ∀ (a0_0 : Int) (a0_1 : Int) (a0_2 : Int) (a0_3 : ByteArray) (A0_4 : Option Addr) (c0_4 : Nat) (l0_4 : List (S36)) (r : ByteArray) (w : World) (hT : Go.Proofs.YthnhdompfhkepaaDoor.Ext.TAB w) (hr0_4 : Kd.C k36 w A0_4 l0_4.length l0_4) (hc0_4 : l0_4.length ≤ c0_4) (h : syntax_Expr.f j_ a0_0 a0_1 a0_2 a0_3 l0_4 = some r), Calls Tryd.prog 24 #[.agg #[.int .i64 a0_0, .int .i64 a0_1, .int .u32 a0_2, .string a0_3, .slice A0_4 l0_4.length c0_4]] w fun e w' => e = .returned (.string r) ∧ Below w.heap.size w w') : ∀ (a0_0 : Int) (a0_1 : Int) (a0_2 : Int) (a0_3 : ByteArray) (A0_4 : Option Addr) (c0_4 : Nat) (l0_4 : List (S36)) (a1 : ByteArray) (r : ByteArray) (w : World) (hT : Go.Proofs.YthnhdompfhkepaaDoor.Ext.TAB w) (hr0_4 : Kd.C k36 w A0_4 l0_4.length l0_4) (hc0_4 : l0_4.length ≤ c0_4) (h : syntax_two.f k a0_0 a0_1 a0_2 a0_3 l0_4 a1 = some r), Calls Tryd.prog 54 #[.agg #[.int .i64 a0_0, .int .i64 a0_1, .int .u32 a0_2, .string a0_3, .slice A0_4 l0_4.length c0_4], .string a1] w fun e w' => e = .returned (.string r) ∧ Below w.heap.size w w' := by
 intro a0_0 a0_1 a0_2 a0_3 A0_4 c0_4 l0_4 a1 r w hT hr0_4 hc0_4 h
 cases k with
 | zero => exact absurd h (by simp [syntax_two.f])
 | succ k =>
 simp only [syntax_two.f] at h
 have hu36 := Tryd.underlying36
 have HT := Aside0.mk hT
 clear hT
 have HR0_4 := Aside0.mk hr0_4
 have HC0_4 := Aside0.mk hc0_4
 clear hr0_4 hc0_4
 have HB := Aside0.mk (Below.refl w.heap.size w)
 have H : (if 0 < (l0_4.length : Int) then ((syntax_Expr.f k ((rd_T36 l0_4 0).f0) ((rd_T36 l0_4 0).f1) ((rd_T36 l0_4 0).f2) ((rd_T36 l0_4 0).f3) ((rd_T36 l0_4 0).f4)).bind fun t111 => (if 1 + t111.size ≤ 9223372036854775807 then (if ((⟨#[40]⟩ : ByteArray) ++ t111).size + 1 ≤ 9223372036854775807 then (if (((⟨#[40]⟩ : ByteArray) ++ t111) ++ (⟨#[32]⟩ : ByteArray)).size + a1.size ≤ 9223372036854775807 then (if ((((⟨#[40]⟩ : ByteArray) ++ t111) ++ (⟨#[32]⟩ : ByteArray)) ++ a1).size + 1 ≤ 9223372036854775807 then (if 1 < (l0_4.length : Int) then ((syntax_Expr.f k ((rd_T36 l0_4 1).f0) ((rd_T36 l0_4 1).f1) ((rd_T36 l0_4 1).f2) ((rd_T36 l0_4 1).f3) ((rd_T36 l0_4 1).f4)).bind fun t113 => (if (((((⟨#[40]⟩ : ByteArray) ++ t111) ++ (⟨#[32]⟩ : ByteArray)) ++ a1) ++ (⟨#[32]⟩ : ByteArray)).size + t113.size ≤ 9223372036854775807 then (if ((((((⟨#[40]⟩ : ByteArray) ++ t111) ++ (⟨#[32]⟩ : ByteArray)) ++ a1) ++ (⟨#[32]⟩ : ByteArray)) ++ t113).size + 1 ≤ 9223372036854775807 then (some (((((((⟨#[40]⟩ : ByteArray) ++ t111) ++ (⟨#[32]⟩ : ByteArray)) ++ a1) ++ (⟨#[32]⟩ : ByteArray)) ++ t113) ++ (⟨#[41]⟩ : ByteArray))) else (none)) else (none))) else (none)) else (none)) else (none)) else (none)) else (none))) else (none)) = some r := h
 clear h
 by_cases c3 : 0 < (l0_4.length : Int)
 ·rw [if_pos c3] at H
  have c3b0 : decide (0 < (l0_4.length : Int)) = true := decide_eq_true c3
  have c3b1 : decide (0 < l0_4.length) = true := decide_eq_true (by omega)
  clear c3
  replace H := Option.bind_eq_some_iff.mp H
  obtain ⟨t111, A40, H⟩ := H
  replace H : (if 1 + t111.size ≤ 9223372036854775807 then (if ((⟨#[40]⟩ : ByteArray) ++ t111).size + 1 ≤ 9223372036854775807 then (if (((⟨#[40]⟩ : ByteArray) ++ t111) ++ (⟨#[32]⟩ : ByteArray)).size + a1.size ≤ 9223372036854775807 then (if ((((⟨#[40]⟩ : ByteArray) ++ t111) ++ (⟨#[32]⟩ : ByteArray)) ++ a1).size + 1 ≤ 9223372036854775807 then (if 1 < (l0_4.length : Int) then ((syntax_Expr.f k ((rd_T36 l0_4 1).f0) ((rd_T36 l0_4 1).f1) ((rd_T36 l0_4 1).f2) ((rd_T36 l0_4 1).f3) ((rd_T36 l0_4 1).f4)).bind fun t113 => (if (((((⟨#[40]⟩ : ByteArray) ++ t111) ++ (⟨#[32]⟩ : ByteArray)) ++ a1) ++ (⟨#[32]⟩ : ByteArray)).size + t113.size ≤ 9223372036854775807 then (if ((((((⟨#[40]⟩ : ByteArray) ++ t111) ++ (⟨#[32]⟩ : ByteArray)) ++ a1) ++ (⟨#[32]⟩ : ByteArray)) ++ t113).size + 1 ≤ 9223372036854775807 then (some (((((((⟨#[40]⟩ : ByteArray) ++ t111) ++ (⟨#[32]⟩ : ByteArray)) ++ a1) ++ (⟨#[32]⟩ : ByteArray)) ++ t113) ++ (⟨#[41]⟩ : ByteArray))) else (none)) else (none))) else (none)) else (none)) else (none)) else (none)) else (none)) = some r := H
  have A4 := Aside0.mk A40
  clear A40
  by_cases c5 : 1 + t111.size ≤ 9223372036854775807
  ·rw [if_pos c5] at H
   have c5b0 := eq_true c5
   have c5b1 : decide (1 + t111.size ≤ 9223372036854775807) = true := decide_eq_true c5
   try have c5b2 : (9223372036854775807 < 1 + t111.size) = False := eq_false (Nat.not_lt.2 c5)
   by_cases c6 : ((⟨#[40]⟩ : ByteArray) ++ t111).size + 1 ≤ 9223372036854775807
   ·rw [if_pos c6] at H
    have c6b0 := eq_true c6
    have c6b1 : decide (((⟨#[40]⟩ : ByteArray) ++ t111).size + 1 ≤ 9223372036854775807) = true := decide_eq_true c6
    try have c6b2 : (9223372036854775807 < ((⟨#[40]⟩ : ByteArray) ++ t111).size + 1) = False := eq_false (Nat.not_lt.2 c6)
    (try simp only [ByteArray.size_append, show (⟨#[40]⟩ : ByteArray).size = 1 from rfl] at c6b2)
    by_cases c7 : (((⟨#[40]⟩ : ByteArray) ++ t111) ++ (⟨#[32]⟩ : ByteArray)).size + a1.size ≤ 9223372036854775807
    ·rw [if_pos c7] at H
     have c7b0 := eq_true c7
     have c7b1 : decide ((((⟨#[40]⟩ : ByteArray) ++ t111) ++ (⟨#[32]⟩ : ByteArray)).size + a1.size ≤ 9223372036854775807) = true := decide_eq_true c7
     try have c7b2 : (9223372036854775807 < (((⟨#[40]⟩ : ByteArray) ++ t111) ++ (⟨#[32]⟩ : ByteArray)).size + a1.size) = False := eq_false (Nat.not_lt.2 c7)
     (try simp only [ByteArray.size_append, show (⟨#[40]⟩ : ByteArray).size = 1 from rfl, show (⟨#[32]⟩ : ByteArray).size = 1 from rfl] at c7b2)
     by_cases c8 : ((((⟨#[40]⟩ : ByteArray) ++ t111) ++ (⟨#[32]⟩ : ByteArray)) ++ a1).size + 1 ≤ 9223372036854775807
     ·rw [if_pos c8] at H
      have c8b0 := eq_true c8
      have c8b1 : decide (((((⟨#[40]⟩ : ByteArray) ++ t111) ++ (⟨#[32]⟩ : ByteArray)) ++ a1).size + 1 ≤ 9223372036854775807) = true := decide_eq_true c8
      try have c8b2 : (9223372036854775807 < ((((⟨#[40]⟩ : ByteArray) ++ t111) ++ (⟨#[32]⟩ : ByteArray)) ++ a1).size + 1) = False := eq_false (Nat.not_lt.2 c8)
      (try simp only [ByteArray.size_append, show (⟨#[40]⟩ : ByteArray).size = 1 from rfl, show (⟨#[32]⟩ : ByteArray).size = 1 from rfl] at c8b2)
      by_cases c9 : 1 < (l0_4.length : Int)
      ·rw [if_pos c9] at H
       have c9b0 : decide (1 < (l0_4.length : Int)) = true := decide_eq_true c9
       have c9b1 : decide (1 < l0_4.length) = true := decide_eq_true (by omega)
       clear c9
       replace H := Option.bind_eq_some_iff.mp H
       obtain ⟨t113, A100, H⟩ := H
       replace H : (if (((((⟨#[40]⟩ : ByteArray) ++ t111) ++ (⟨#[32]⟩ : ByteArray)) ++ a1) ++ (⟨#[32]⟩ : ByteArray)).size + t113.size ≤ 9223372036854775807 then (if ((((((⟨#[40]⟩ : ByteArray) ++ t111) ++ (⟨#[32]⟩ : ByteArray)) ++ a1) ++ (⟨#[32]⟩ : ByteArray)) ++ t113).size + 1 ≤ 9223372036854775807 then (some (((((((⟨#[40]⟩ : ByteArray) ++ t111) ++ (⟨#[32]⟩ : ByteArray)) ++ a1) ++ (⟨#[32]⟩ : ByteArray)) ++ t113) ++ (⟨#[41]⟩ : ByteArray))) else (none)) else (none)) = some r := H
       have A10 := Aside0.mk A100
       clear A100
       by_cases c11 : (((((⟨#[40]⟩ : ByteArray) ++ t111) ++ (⟨#[32]⟩ : ByteArray)) ++ a1) ++ (⟨#[32]⟩ : ByteArray)).size + t113.size ≤ 9223372036854775807
       ·rw [if_pos c11] at H
        have c11b0 := eq_true c11
        have c11b1 : decide ((((((⟨#[40]⟩ : ByteArray) ++ t111) ++ (⟨#[32]⟩ : ByteArray)) ++ a1) ++ (⟨#[32]⟩ : ByteArray)).size + t113.size ≤ 9223372036854775807) = true := decide_eq_true c11
        try have c11b2 : (9223372036854775807 < (((((⟨#[40]⟩ : ByteArray) ++ t111) ++ (⟨#[32]⟩ : ByteArray)) ++ a1) ++ (⟨#[32]⟩ : ByteArray)).size + t113.size) = False := eq_false (Nat.not_lt.2 c11)
        (try simp only [ByteArray.size_append, show (⟨#[40]⟩ : ByteArray).size = 1 from rfl, show (⟨#[32]⟩ : ByteArray).size = 1 from rfl] at c11b2)
        by_cases c12 : ((((((⟨#[40]⟩ : ByteArray) ++ t111) ++ (⟨#[32]⟩ : ByteArray)) ++ a1) ++ (⟨#[32]⟩ : ByteArray)) ++ t113).size + 1 ≤ 9223372036854775807
        ·rw [if_pos c12] at H
         have c12b0 := eq_true c12
         have c12b1 : decide (((((((⟨#[40]⟩ : ByteArray) ++ t111) ++ (⟨#[32]⟩ : ByteArray)) ++ a1) ++ (⟨#[32]⟩ : ByteArray)) ++ t113).size + 1 ≤ 9223372036854775807) = true := decide_eq_true c12
         try have c12b2 : (9223372036854775807 < ((((((⟨#[40]⟩ : ByteArray) ++ t111) ++ (⟨#[32]⟩ : ByteArray)) ++ a1) ++ (⟨#[32]⟩ : ByteArray)) ++ t113).size + 1) = False := eq_false (Nat.not_lt.2 c12)
         (try simp only [ByteArray.size_append, show (⟨#[40]⟩ : ByteArray).size = 1 from rfl, show (⟨#[32]⟩ : ByteArray).size = 1 from rfl] at c12b2)
         obtain rfl := Option.some.inj H
         go_enter Tryd.func54, Tryd.ntmps54
         try go_wp2_with (first | ((with_reducible refine gate_dst (N := 2) rfl ?_); refine box_event ?hg (N := 2) ?hd (cs := #[.int .i64 a0_0, .int .i64 a0_1, .int .u32 a0_2, .string a0_3, .slice A0_4 l0_4.length c0_4]) (t := 36) ?hr ?_; (case hd => rfl); (case hg => rfl); (case hr => first | (go_simp; done) | (go_simp; rfl)); intro gb109 hg w13 hbox hb; have n0_ := Aside0.mk (below_step (by repeat (first | (with_reducible first | exact HB.out | apply below_alloc | apply pw_below_drewN | apply below_drew1) | exact HB.out)) hb); have n1_ := Aside0.mk (hbox); have n2_ := Aside0.mk ((by rw [hg]; exact (below_size (by repeat (first | (with_reducible first | exact HB.out | apply below_alloc | apply pw_below_drewN | apply below_drew1) | exact HB.out))) : w.heap.size ≤ gb109)); have n3_ := Aside0.mk ((by rw [hg]; exact (below_size (by repeat (first | (with_reducible first | exact HB.out | apply below_alloc | apply pw_below_drewN | apply below_drew1) | exact HB.out))) : w.heap.size ≤ gb109)); clear HB; have HB := n0_; have BK109 := n1_; have GW109 := n2_; have GE109 := n3_; clear n0_ n1_ n2_ n3_; clear hb hbox hg))
         have n0_ := Aside0.mk (blk_drew BK109.out)
         have n1_ := Aside0.mk (below_drew1 HB.out)
         clear BK109
         clear HB
         have BK109 := n0_
         have HB := n1_
         clear n0_ n1_
         have p110 : 0 ≤ (0 : Int) := (by omega)
         have q110 : 0 < (l0_4.length : Int) := of_decide_eq_true (by first | (with_reducible assumption) | assumption)
         obtain ⟨ad110, A110_4, c110_4, e110, hx110_0, hx110_1, hx110_2, hx110_3, hx110_4, hl110_4, hi110_4⟩ := at_T36 HR0_4.out 0 p110 q110
         have hw110_4 := hx110_4
         (try rw [show ((0 : Int)).toNat = 0 from rfl] at hw110_4)
         (try rw [show 0 * 5 = 0 from rfl] at hw110_4)
         (try rw [Addr.add_zero'] at hw110_4)
         have hw110_3 := hx110_3
         (try rw [show ((0 : Int)).toNat = 0 from rfl] at hw110_3)
         (try rw [show 0 * 5 = 0 from rfl] at hw110_3)
         (try rw [Addr.add_zero'] at hw110_3)
         have hw110_2 := hx110_2
         (try rw [show ((0 : Int)).toNat = 0 from rfl] at hw110_2)
         (try rw [show 0 * 5 = 0 from rfl] at hw110_2)
         (try rw [Addr.add_zero'] at hw110_2)
         have hw110_1 := hx110_1
         (try rw [show ((0 : Int)).toNat = 0 from rfl] at hw110_1)
         (try rw [show 0 * 5 = 0 from rfl] at hw110_1)
         (try rw [Addr.add_zero'] at hw110_1)
         have hw110_0 := hx110_0
         (try rw [show ((0 : Int)).toNat = 0 from rfl] at hw110_0)
         (try rw [show 0 * 5 = 0 from rfl] at hw110_0)
         (try rw [Addr.add_zero'] at hw110_0)
         cases e110
         have qi110 : (0 < l0_4.length) = True := eq_true (by omega)
         (try rw [show ((0 : Int)).toNat = 0 from rfl] at hx110_0)
         (try rw [show 0 * 5 = 0 from rfl] at hx110_0)
         (try rw [Addr.add_zero'] at hx110_0)
         (try rw [show ((0 : Int)).toNat = 0 from rfl] at hx110_1)
         (try rw [show 0 * 5 = 0 from rfl] at hx110_1)
         (try rw [Addr.add_zero'] at hx110_1)
         (try rw [show ((0 : Int)).toNat = 0 from rfl] at hx110_2)
         (try rw [show 0 * 5 = 0 from rfl] at hx110_2)
         (try rw [Addr.add_zero'] at hx110_2)
         (try rw [show ((0 : Int)).toNat = 0 from rfl] at hx110_3)
         (try rw [show 0 * 5 = 0 from rfl] at hx110_3)
         (try rw [Addr.add_zero'] at hx110_3)
         (try rw [show ((0 : Int)).toNat = 0 from rfl] at hx110_4)
         (try rw [show 0 * 5 = 0 from rfl] at hx110_4)
         (try rw [Addr.add_zero'] at hx110_4)
         replace hx110_0 := (HB.out.cell (World.block_lt_of_cell? w _ hx110_0)).trans hx110_0
         replace hx110_1 := (HB.out.cell (World.block_lt_of_cell? w _ hx110_1)).trans hx110_1
         replace hx110_2 := (HB.out.cell (World.block_lt_of_cell? w _ hx110_2)).trans hx110_2
         replace hx110_3 := (HB.out.cell (World.block_lt_of_cell? w _ hx110_3)).trans hx110_3
         replace hx110_4 := (HB.out.cell (World.block_lt_of_cell? w _ hx110_4)).trans hx110_4
         have HR110_4 := Aside0.mk hi110_4
         have HC110_4 := Aside0.mk hl110_4
         clear hi110_4 hl110_4
         replace p110 := eq_true p110
         replace q110 := eq_true q110
         have p112 : 0 ≤ (1 : Int) := (by omega)
         have q112 : 1 < (l0_4.length : Int) := of_decide_eq_true (by first | (with_reducible assumption) | assumption)
         obtain ⟨ad112, A112_4, c112_4, e112, hx112_0, hx112_1, hx112_2, hx112_3, hx112_4, hl112_4, hi112_4⟩ := at_T36 HR0_4.out 1 p112 q112
         have hw112_4 := hx112_4
         (try rw [show ((1 : Int)).toNat = 1 from rfl] at hw112_4)
         (try rw [show 1 * 5 = 5 from rfl] at hw112_4)
         (try simp only [Nat.reduceMul, Nat.reduceEqDiff, Go.Addr.add, ↓reduceIte] at hw112_4)
         have hw112_3 := hx112_3
         (try rw [show ((1 : Int)).toNat = 1 from rfl] at hw112_3)
         (try rw [show 1 * 5 = 5 from rfl] at hw112_3)
         (try simp only [Nat.reduceMul, Nat.reduceEqDiff, Go.Addr.add, ↓reduceIte] at hw112_3)
         have hw112_2 := hx112_2
         (try rw [show ((1 : Int)).toNat = 1 from rfl] at hw112_2)
         (try rw [show 1 * 5 = 5 from rfl] at hw112_2)
         (try simp only [Nat.reduceMul, Nat.reduceEqDiff, Go.Addr.add, ↓reduceIte] at hw112_2)
         have hw112_1 := hx112_1
         (try rw [show ((1 : Int)).toNat = 1 from rfl] at hw112_1)
         (try rw [show 1 * 5 = 5 from rfl] at hw112_1)
         (try simp only [Nat.reduceMul, Nat.reduceEqDiff, Go.Addr.add, ↓reduceIte] at hw112_1)
         have hw112_0 := hx112_0
         (try rw [show ((1 : Int)).toNat = 1 from rfl] at hw112_0)
         (try rw [show 1 * 5 = 5 from rfl] at hw112_0)
         (try simp only [Nat.reduceMul, Nat.reduceEqDiff, Go.Addr.add, ↓reduceIte] at hw112_0)
         obtain rfl : ad110 = ad112 := (by injection e112)
         (try simp only [show (1 : Int).toNat = 1 from rfl, Nat.reduceMul, Nat.reduceEqDiff, Go.Addr.add, ↓reduceIte] at hx112_0)
         (try simp only [show (1 : Int).toNat = 1 from rfl, Nat.reduceMul, Nat.reduceEqDiff, Go.Addr.add, ↓reduceIte] at hx112_1)
         (try simp only [show (1 : Int).toNat = 1 from rfl, Nat.reduceMul, Nat.reduceEqDiff, Go.Addr.add, ↓reduceIte] at hx112_2)
         (try simp only [show (1 : Int).toNat = 1 from rfl, Nat.reduceMul, Nat.reduceEqDiff, Go.Addr.add, ↓reduceIte] at hx112_3)
         (try simp only [show (1 : Int).toNat = 1 from rfl, Nat.reduceMul, Nat.reduceEqDiff, Go.Addr.add, ↓reduceIte] at hx112_4)
         have qi112 : (1 < l0_4.length) = True := eq_true (by omega)
         (try rw [show ((1 : Int)).toNat = 1 from rfl] at hx112_0)
         (try rw [show 1 * 5 = 5 from rfl] at hx112_0)
         (try rw [show ((1 : Int)).toNat = 1 from rfl] at hx112_1)
         (try rw [show 1 * 5 = 5 from rfl] at hx112_1)
         (try rw [show ((1 : Int)).toNat = 1 from rfl] at hx112_2)
         (try rw [show 1 * 5 = 5 from rfl] at hx112_2)
         (try rw [show ((1 : Int)).toNat = 1 from rfl] at hx112_3)
         (try rw [show 1 * 5 = 5 from rfl] at hx112_3)
         (try rw [show ((1 : Int)).toNat = 1 from rfl] at hx112_4)
         (try rw [show 1 * 5 = 5 from rfl] at hx112_4)
         replace hx112_0 := (HB.out.cell (World.block_lt_of_cell? w _ hx112_0)).trans hx112_0
         replace hx112_1 := (HB.out.cell (World.block_lt_of_cell? w _ hx112_1)).trans hx112_1
         replace hx112_2 := (HB.out.cell (World.block_lt_of_cell? w _ hx112_2)).trans hx112_2
         replace hx112_3 := (HB.out.cell (World.block_lt_of_cell? w _ hx112_3)).trans hx112_3
         replace hx112_4 := (HB.out.cell (World.block_lt_of_cell? w _ hx112_4)).trans hx112_4
         have HR112_4 := Aside0.mk hi112_4
         have HC112_4 := Aside0.mk hl112_4
         clear hi112_4 hl112_4
         replace p112 := eq_true p112
         replace q112 := eq_true q112
         refine start_ (n := 18) (S := fun w' => w'.cell? ⟨gb109, 0, none⟩ = some (.int .i64 a0_0) ∧ w'.cell? ⟨gb109, 1, none⟩ = some (.int .i64 a0_1) ∧ w'.cell? ⟨gb109, 2, none⟩ = some (.int .u32 a0_2) ∧ w'.cell? ⟨gb109, 3, none⟩ = some (.string a0_3) ∧ w'.cell? ⟨gb109, 4, none⟩ = some (.slice (some ad110) l0_4.length c0_4) ∧ w'.cell? ad110 = some (.int .i64 ((rd_T36 l0_4 0).f0)) ∧ w'.cell? ⟨ad110.block, ad110.off + 1, none⟩ = some (.int .i64 ((rd_T36 l0_4 0).f1)) ∧ w'.cell? ⟨ad110.block, ad110.off + 2, none⟩ = some (.int .u32 ((rd_T36 l0_4 0).f2)) ∧ w'.cell? ⟨ad110.block, ad110.off + 3, none⟩ = some (.string ((rd_T36 l0_4 0).f3)) ∧ w'.cell? ⟨ad110.block, ad110.off + 4, none⟩ = some (.slice A110_4 ((rd_T36 l0_4 0).f4).length c110_4) ∧ w'.cell? ⟨ad110.block, ad110.off + 5, none⟩ = some (.int .i64 ((rd_T36 l0_4 1).f0)) ∧ w'.cell? ⟨ad110.block, ad110.off + 5 + 1, none⟩ = some (.int .i64 ((rd_T36 l0_4 1).f1)) ∧ w'.cell? ⟨ad110.block, ad110.off + 5 + 2, none⟩ = some (.int .u32 ((rd_T36 l0_4 1).f2)) ∧ w'.cell? ⟨ad110.block, ad110.off + 5 + 3, none⟩ = some (.string ((rd_T36 l0_4 1).f3)) ∧ w'.cell? ⟨ad110.block, ad110.off + 5 + 4, none⟩ = some (.slice A112_4 ((rd_T36 l0_4 1).f4).length c112_4)) (ds := []) #[false, false, false, false, false, false, false, false, false, false, false, false, false, false, false, false, false, false] (by kernel_rfl) rfl rfl ⟨(blk_cell BK109.out 0).trans rfl, (blk_cell BK109.out 1).trans rfl, (blk_cell BK109.out 2).trans rfl, (blk_cell BK109.out 3).trans rfl, (blk_cell BK109.out 4).trans rfl, ((HB.out.cell (World.block_lt_of_cell? w _ hw110_0)).trans hw110_0), ((HB.out.cell (World.block_lt_of_cell? w _ hw110_1)).trans hw110_1), ((HB.out.cell (World.block_lt_of_cell? w _ hw110_2)).trans hw110_2), ((HB.out.cell (World.block_lt_of_cell? w _ hw110_3)).trans hw110_3), ((HB.out.cell (World.block_lt_of_cell? w _ hw110_4)).trans hw110_4), ((HB.out.cell (World.block_lt_of_cell? w _ hw112_0)).trans hw112_0), ((HB.out.cell (World.block_lt_of_cell? w _ hw112_1)).trans hw112_1), ((HB.out.cell (World.block_lt_of_cell? w _ hw112_2)).trans hw112_2), ((HB.out.cell (World.block_lt_of_cell? w _ hw112_3)).trans hw112_3), ((HB.out.cell (World.block_lt_of_cell? w _ hw112_4)).trans hw112_4)⟩ (fun hHeld => ?_); refine with_tabW syntax_two.tab1 syntax_two.bits1 (fun HT_ HW_ => ?_)
         generalize w13.drew = w14 at BK109 HB HR110_4 HR112_4 hx110_0 hx110_1 hx110_2 hx110_3 hx110_4 hx112_0 hx112_1 hx112_2 hx112_3 hx112_4 hHeld ⊢
         refine pure_ (i := 0) (N := some 5) (v := ?_) (a' := ?_) #[true, false, false, false, false, false, false, false, false, false, false, false, false, false, false, false, false, false] rfl rfl (any_of HT_.out (by kernel_rfl)) (fun _ _ _ h => h) (Or.inl ⟨by rfl, ?_⟩) ?_ ?_
         rotate_left
         ·intro w'
          go_simp
          with_reducible rfl
         rotate_left
         ·simp only [Act.put, List.setIfInBounds_toArray, List.set_cons_zero, List.set_cons_succ, i64_w, i32_w]
          rfl
         refine pure_ (i := 7) (N := some 12) (v := ?_) (a' := ?_) #[true, false, false, false, false, false, false, true, false, false, false, false, false, false, false, false, false, false] rfl rfl (any_of HT_.out (by kernel_rfl)) (fun _ _ _ h => h) (Or.inl ⟨by rfl, ?_⟩) ?_ ?_
         rotate_left
         ·intro w'
          go_simp
          with_reducible rfl
         rotate_left
         ·simp only [Act.put, List.setIfInBounds_toArray, List.set_cons_zero, List.set_cons_succ, i64_w, i32_w]
          rfl
         refine pure_ (i := 10) (N := some 15) (v := ?_) (a' := ?_) #[true, false, false, false, false, false, false, true, false, false, true, false, false, false, false, false, false, false] rfl rfl (any_of HT_.out (by kernel_rfl)) (fun _ _ _ h => h) (Or.inl ⟨by rfl, ?_⟩) ?_ ?_
         rotate_left
         ·intro w'
          go_simp
          with_reducible rfl
         rotate_left
         ·simp only [Act.put, List.setIfInBounds_toArray, List.set_cons_zero, List.set_cons_succ, i64_w, i32_w]
          rfl
         refine take_ (i := 1) (N := some 6) (v := ?_) (a' := ?_) #[true, true, false, false, false, false, false, true, false, false, true, false, false, false, false, false, false, false] rfl rfl (take_ofW HT_.out HW_.out (by kernel_rfl)) (fun _ _ _ h => h) (Or.inl ⟨by rfl, ?_⟩) hHeld ?_ ?_
         rotate_left
         ·rintro w' ⟨s0, s1, s2, s3, s4, s5, s6, s7, s8, s9, s10, s11, s12, s13, s14⟩
          go_simp
          with_reducible rfl
         rotate_left
         ·simp only [Act.put, List.setIfInBounds_toArray, List.set_cons_zero, List.set_cons_succ, i64_w, i32_w]
          rfl
         refine pure_ (i := 2) (N := some 7) (v := ?_) (a' := ?_) #[true, true, true, false, false, false, false, true, false, false, true, false, false, false, false, false, false, false] rfl rfl (any_of HT_.out (by kernel_rfl)) (fun _ _ _ h => h) (Or.inl ⟨by rfl, ?_⟩) ?_ ?_
         rotate_left
         ·intro w'
          go_simp
          with_reducible rfl
         rotate_left
         ·simp only [Act.put, List.setIfInBounds_toArray, List.set_cons_zero, List.set_cons_succ, i64_w, i32_w]
          rfl
         refine take_ (i := 3) (N := some 8) (v := ?_) (a' := ?_) #[true, true, true, true, false, false, false, true, false, false, true, false, false, false, false, false, false, false] rfl rfl (take_ofW HT_.out HW_.out (by kernel_rfl)) (fun _ _ _ h => h) (Or.inl ⟨by rfl, ?_⟩) hHeld ?_ ?_
         rotate_left
         ·rintro w' ⟨s0, s1, s2, s3, s4, s5, s6, s7, s8, s9, s10, s11, s12, s13, s14⟩
          go_simp
          with_reducible rfl
         rotate_left
         ·simp only [Act.put, List.setIfInBounds_toArray, List.set_cons_zero, List.set_cons_succ, i64_w, i32_w]
          rfl
         refine take_ (i := 11) (N := some 16) (v := ?_) (a' := ?_) #[true, true, true, true, false, false, false, true, false, false, true, true, false, false, false, false, false, false] rfl rfl (take_ofW HT_.out HW_.out (by kernel_rfl)) (fun _ _ _ h => h) (Or.inl ⟨by rfl, ?_⟩) hHeld ?_ ?_
         rotate_left
         ·rintro w' ⟨s0, s1, s2, s3, s4, s5, s6, s7, s8, s9, s10, s11, s12, s13, s14⟩
          go_simp
          with_reducible rfl
         rotate_left
         ·simp only [Act.put, List.setIfInBounds_toArray, List.set_cons_zero, List.set_cons_succ, i64_w, i32_w]
          rfl
         refine pure_ (i := 12) (N := some 17) (v := ?_) (a' := ?_) #[true, true, true, true, false, false, false, true, false, false, true, true, true, false, false, false, false, false] rfl rfl (any_of HT_.out (by kernel_rfl)) (fun _ _ _ h => h) (Or.inl ⟨by rfl, ?_⟩) ?_ ?_
         rotate_left
         ·intro w'
          go_simp
          with_reducible rfl
         rotate_left
         ·simp only [Act.put, List.setIfInBounds_toArray, List.set_cons_zero, List.set_cons_succ, i64_w, i32_w]
          rfl
         refine take_ (i := 13) (N := some 18) (v := ?_) (a' := ?_) #[true, true, true, true, false, false, false, true, false, false, true, true, true, true, false, false, false, false] rfl rfl (take_ofW HT_.out HW_.out (by kernel_rfl)) (fun _ _ _ h => h) (Or.inl ⟨by rfl, ?_⟩) hHeld ?_ ?_
         rotate_left
         ·rintro w' ⟨s0, s1, s2, s3, s4, s5, s6, s7, s8, s9, s10, s11, s12, s13, s14⟩
          go_simp
          with_reducible rfl
         rotate_left
         ·simp only [Act.put, List.setIfInBounds_toArray, List.set_cons_zero, List.set_cons_succ, i64_w, i32_w]
          rfl
         refine one_ (i := 4) (N := some 9) #[true, true, true, true, true, false, false, true, false, false, true, true, true, true, false, false, false, false] rfl rfl (one_of HT_.out (by kernel_rfl)) (by decide) (fun K hK => ?_)
         refine goes_ Tryd.func24 (by kernel_rfl) rfl #[.agg #[.int .i64 ((rd_T36 l0_4 0).f0), .int .i64 ((rd_T36 l0_4 0).f1), .int .u32 ((rd_T36 l0_4 0).f2), .string ((rd_T36 l0_4 0).f3), .slice A110_4 ((rd_T36 l0_4 0).f4).length c110_4]] (by rfl) rfl rfl (by (try simp only [List.map_toArray, List.map_cons, List.map_nil]); first | done | rfl | (simp only [List.length_drop, List.length_take]; rfl)) ?_
         with_reducible refine (ih_syntax_Expr k (by omega) ((rd_T36 l0_4 0).f0) ((rd_T36 l0_4 0).f1) ((rd_T36 l0_4 0).f2) ((rd_T36 l0_4 0).f3) _ _ ((rd_T36 l0_4 0).f4) t111 _ ?side1 ?side2 ?side3 A4.out).mono ?_
         (case side1 => exact Go.Proofs.YthnhdompfhkepaaDoor.Ext.TAB.below HT.out (by repeat (first | (with_reducible first | exact HB.out | apply below_alloc | apply pw_below_drewN | apply below_drew1 | refine below_set ?_ GE109.out) | exact HB.out)))
         (case side2 => repeat (first | exact (Kd.C_below HR110_4.out HB.out) | (with_reducible refine Kd.C_alloc ?_ _) | (with_reducible refine Kd.C_drewN ?_ _) | (with_reducible refine Kd.C_drew ?_)))
         (case side3 => exact HC110_4.out)
         rintro e w15 ⟨rfl, hb⟩
         refine ⟨_, rfl, ?_⟩
         have n0_ := Aside0.mk (blk_below (g := gb109) (o := .cells #[.int .i64 a0_0, .int .i64 a0_1, .int .u32 a0_2, .string a0_3, .slice (some ad110) l0_4.length c0_4] 36 (0, 0)) (by (with_reducible repeat (first | refine blk_drewN ?_ _ | refine blk_drew ?_ | refine blk_alloc ?_ _)); exact BK109.out) hb)
         have n1_ := Aside0.mk (below_step (by repeat (first | (with_reducible first | exact HB.out | apply below_alloc | apply pw_below_drewN | apply below_drew1 | refine below_set ?_ GE109.out) | exact HB.out)) hb)
         clear BK109
         clear HB
         have BK109 := n0_
         have HB := n1_
         clear n0_ n1_
         (try clear hb)
         (try clear hb2)
         (try clear hk)
         (try clear hi)
         refine hK.out _ _ ⟨(blk_cell BK109.out 0).trans rfl, (blk_cell BK109.out 1).trans rfl, (blk_cell BK109.out 2).trans rfl, (blk_cell BK109.out 3).trans rfl, (blk_cell BK109.out 4).trans rfl, ((HB.out.cell (World.block_lt_of_cell? w _ hw110_0)).trans hw110_0), ((HB.out.cell (World.block_lt_of_cell? w _ hw110_1)).trans hw110_1), ((HB.out.cell (World.block_lt_of_cell? w _ hw110_2)).trans hw110_2), ((HB.out.cell (World.block_lt_of_cell? w _ hw110_3)).trans hw110_3), ((HB.out.cell (World.block_lt_of_cell? w _ hw110_4)).trans hw110_4), ((HB.out.cell (World.block_lt_of_cell? w _ hw112_0)).trans hw112_0), ((HB.out.cell (World.block_lt_of_cell? w _ hw112_1)).trans hw112_1), ((HB.out.cell (World.block_lt_of_cell? w _ hw112_2)).trans hw112_2), ((HB.out.cell (World.block_lt_of_cell? w _ hw112_3)).trans hw112_3), ((HB.out.cell (World.block_lt_of_cell? w _ hw112_4)).trans hw112_4)⟩ (fun hHeld => ?_)
         clear hK K
         refine norm_ (a' := ?_) ?_ ?_
         rotate_left
         ·show Act.put _ (some 9) _ = _
          simp only [Act.put, List.setIfInBounds_toArray, List.set_cons_zero, List.set_cons_succ, i64_w, i32_w]
          rfl
         refine pure_ (i := 5) (N := some 10) (v := ?_) (a' := ?_) #[true, true, true, true, true, true, false, true, false, false, true, true, true, true, false, false, false, false] rfl rfl (any_of HT_.out (by kernel_rfl)) (fun _ _ _ h => h) (Or.inl ⟨by rfl, ?_⟩) ?_ ?_
         rotate_left
         ·intro w'
          go_simp
          with_reducible rfl
         rotate_left
         ·simp only [Act.put, List.setIfInBounds_toArray, List.set_cons_zero, List.set_cons_succ, i64_w, i32_w]
          rfl
         refine pure_ (i := 6) (N := some 11) (v := ?_) (a' := ?_) #[true, true, true, true, true, true, true, true, false, false, true, true, true, true, false, false, false, false] rfl rfl (any_of HT_.out (by kernel_rfl)) (fun _ _ _ h => h) (Or.inl ⟨by rfl, ?_⟩) ?_ ?_
         rotate_left
         ·intro w'
          go_simp
          with_reducible rfl
         rotate_left
         ·simp only [Act.put, List.setIfInBounds_toArray, List.set_cons_zero, List.set_cons_succ, i64_w, i32_w]
          rfl
         refine pure_ (i := 8) (N := some 13) (v := ?_) (a' := ?_) #[true, true, true, true, true, true, true, true, true, false, true, true, true, true, false, false, false, false] rfl rfl (any_of HT_.out (by kernel_rfl)) (fun _ _ _ h => h) (Or.inl ⟨by rfl, ?_⟩) ?_ ?_
         rotate_left
         ·intro w'
          go_simp
          with_reducible rfl
         rotate_left
         ·simp only [Act.put, List.setIfInBounds_toArray, List.set_cons_zero, List.set_cons_succ, i64_w, i32_w]
          rfl
         refine pure_ (i := 9) (N := some 14) (v := ?_) (a' := ?_) #[true, true, true, true, true, true, true, true, true, true, true, true, true, true, false, false, false, false] rfl rfl (any_of HT_.out (by kernel_rfl)) (fun _ _ _ h => h) (Or.inl ⟨by rfl, ?_⟩) ?_ ?_
         rotate_left
         ·intro w'
          go_simp
          with_reducible rfl
         rotate_left
         ·simp only [Act.put, List.setIfInBounds_toArray, List.set_cons_zero, List.set_cons_succ, i64_w, i32_w]
          rfl
         refine one_ (i := 14) (N := some 19) #[true, true, true, true, true, true, true, true, true, true, true, true, true, true, true, false, false, false] rfl rfl (one_of HT_.out (by kernel_rfl)) (by decide) (fun K hK => ?_)
         refine goes_ Tryd.func24 (by kernel_rfl) rfl #[.agg #[.int .i64 ((rd_T36 l0_4 1).f0), .int .i64 ((rd_T36 l0_4 1).f1), .int .u32 ((rd_T36 l0_4 1).f2), .string ((rd_T36 l0_4 1).f3), .slice A112_4 ((rd_T36 l0_4 1).f4).length c112_4]] (by rfl) rfl rfl (by (try simp only [List.map_toArray, List.map_cons, List.map_nil]); first | done | rfl | (simp only [List.length_drop, List.length_take]; rfl)) ?_
         with_reducible refine (ih_syntax_Expr k (by omega) ((rd_T36 l0_4 1).f0) ((rd_T36 l0_4 1).f1) ((rd_T36 l0_4 1).f2) ((rd_T36 l0_4 1).f3) _ _ ((rd_T36 l0_4 1).f4) t113 _ ?side1 ?side2 ?side3 A10.out).mono ?_
         (case side1 => exact Go.Proofs.YthnhdompfhkepaaDoor.Ext.TAB.below HT.out (by repeat (first | (with_reducible first | exact HB.out | apply below_alloc | apply pw_below_drewN | apply below_drew1 | refine below_set ?_ GE109.out) | exact HB.out)))
         (case side2 => repeat (first | exact (Kd.C_below HR112_4.out HB.out) | (with_reducible refine Kd.C_alloc ?_ _) | (with_reducible refine Kd.C_drewN ?_ _) | (with_reducible refine Kd.C_drew ?_)))
         (case side3 => exact HC112_4.out)
         rintro e w16 ⟨rfl, hb⟩
         refine ⟨_, rfl, ?_⟩
         have n0_ := Aside0.mk (blk_below (g := gb109) (o := .cells #[.int .i64 a0_0, .int .i64 a0_1, .int .u32 a0_2, .string a0_3, .slice (some ad110) l0_4.length c0_4] 36 (0, 0)) (by (with_reducible repeat (first | refine blk_drewN ?_ _ | refine blk_drew ?_ | refine blk_alloc ?_ _)); exact BK109.out) hb)
         have n1_ := Aside0.mk (below_step (by repeat (first | (with_reducible first | exact HB.out | apply below_alloc | apply pw_below_drewN | apply below_drew1 | refine below_set ?_ GE109.out) | exact HB.out)) hb)
         clear BK109
         clear HB
         have BK109 := n0_
         have HB := n1_
         clear n0_ n1_
         (try clear hb)
         (try clear hb2)
         (try clear hk)
         (try clear hi)
         refine hK.out _ _ ⟨(blk_cell BK109.out 0).trans rfl, (blk_cell BK109.out 1).trans rfl, (blk_cell BK109.out 2).trans rfl, (blk_cell BK109.out 3).trans rfl, (blk_cell BK109.out 4).trans rfl, ((HB.out.cell (World.block_lt_of_cell? w _ hw110_0)).trans hw110_0), ((HB.out.cell (World.block_lt_of_cell? w _ hw110_1)).trans hw110_1), ((HB.out.cell (World.block_lt_of_cell? w _ hw110_2)).trans hw110_2), ((HB.out.cell (World.block_lt_of_cell? w _ hw110_3)).trans hw110_3), ((HB.out.cell (World.block_lt_of_cell? w _ hw110_4)).trans hw110_4), ((HB.out.cell (World.block_lt_of_cell? w _ hw112_0)).trans hw112_0), ((HB.out.cell (World.block_lt_of_cell? w _ hw112_1)).trans hw112_1), ((HB.out.cell (World.block_lt_of_cell? w _ hw112_2)).trans hw112_2), ((HB.out.cell (World.block_lt_of_cell? w _ hw112_3)).trans hw112_3), ((HB.out.cell (World.block_lt_of_cell? w _ hw112_4)).trans hw112_4)⟩ (fun hHeld => ?_)
         clear hK K
         refine norm_ (a' := ?_) ?_ ?_
         rotate_left
         ·show Act.put _ (some 19) _ = _
          simp only [Act.put, List.setIfInBounds_toArray, List.set_cons_zero, List.set_cons_succ, i64_w, i32_w]
          rfl
         refine pure_ (i := 15) (N := some 20) (v := ?_) (a' := ?_) #[true, true, true, true, true, true, true, true, true, true, true, true, true, true, true, true, false, false] rfl rfl (any_of HT_.out (by kernel_rfl)) (fun _ _ _ h => h) (Or.inl ⟨by rfl, ?_⟩) ?_ ?_
         rotate_left
         ·intro w'
          go_simp
          with_reducible rfl
         rotate_left
         ·simp only [Act.put, List.setIfInBounds_toArray, List.set_cons_zero, List.set_cons_succ, i64_w, i32_w]
          rfl
         refine pure_ (i := 16) (N := some 21) (v := ?_) (a' := ?_) #[true, true, true, true, true, true, true, true, true, true, true, true, true, true, true, true, true, false] rfl rfl (any_of HT_.out (by kernel_rfl)) (fun _ _ _ h => h) (Or.inl ⟨by rfl, ?_⟩) ?_ ?_
         rotate_left
         ·intro w'
          go_simp
          with_reducible rfl
         rotate_left
         ·simp only [Act.put, List.setIfInBounds_toArray, List.set_cons_zero, List.set_cons_succ, i64_w, i32_w]
          rfl
         refine pure_ (i := 17) (N := some 4) (v := ?_) (a' := ?_) #[true, true, true, true, true, true, true, true, true, true, true, true, true, true, true, true, true, true] rfl rfl (any_of HT_.out (by kernel_rfl)) (fun _ _ _ h => h) (Or.inl ⟨by rfl, ?_⟩) ?_ ?_
         rotate_left
         ·intro w'
          go_simp
          with_reducible rfl
         rotate_left
         ·simp only [Act.put, List.setIfInBounds_toArray, List.set_cons_zero, List.set_cons_succ, i64_w, i32_w]
          rfl
         refine done_ (done_of HT_.out (by kernel_rfl)) ?_
         try go_wp2
         go_ret
         exact ⟨by first | rfl | (simp [errW_none, errW_some] <;> rfl) | (simp [*, errW_none, errW_some] <;> rfl), by repeat (first | (with_reducible first | exact HB.out | apply below_alloc | apply pw_below_drewN | apply below_drew1 | refine below_set ?_ GE109.out) | exact HB.out)⟩
        ·rw [if_neg c12] at H
         exact absurd H (by simp)
       ·rw [if_neg c11] at H
        exact absurd H (by simp)
      ·rw [if_neg c9] at H
       exact absurd H (by simp)
     ·rw [if_neg c8] at H
      exact absurd H (by simp)
    ·rw [if_neg c7] at H
     exact absurd H (by simp)
   ·rw [if_neg c6] at H
    exact absurd H (by simp)
  ·rw [if_neg c5] at H
   exact absurd H (by simp)
 ·rw [if_neg c3] at H
  exact absurd H (by simp)
def syntax_Expr.T7 : Bool × List (List Nat × List Nat) := (true, [([], []), ([0], [0]), ([1], [1]), ([], []), ([3], [3]), ([4], [4]), ([5], [5]), ([6], [6]), ([2, 7], [2, 7]), ([8], [8]), ([9, 7, 0, 1, 2, 3, 4, 5, 6, 7, 8, 9], [9])])
def syntax_Expr.B7 : List Nat := [0, 1, 3, 0, 8, 24, 56, 120, 255, 511, 1023]
theorem syntax_Expr.tab7 : rtab .any (opsOf Tryd.f24 7) = syntax_Expr.T7 := by kernel_rfl
theorem syntax_Expr.bits7 : waitsOk syntax_Expr.T7.2 syntax_Expr.B7 = true := by kernel_rfl
def syntax_Expr.T9 : Bool × List (List Nat × List Nat) := (true, [([], []), ([0], [0]), ([1], [1]), ([], []), ([3], [3]), ([4], [4]), ([2, 5], [2, 5]), ([6], [6]), ([7, 5, 0, 1, 2, 3, 4, 5, 6, 7], [7])])
def syntax_Expr.B9 : List Nat := [0, 1, 3, 0, 8, 24, 63, 127, 255]
theorem syntax_Expr.tab9 : rtab .any (opsOf Tryd.f24 9) = syntax_Expr.T9 := by kernel_rfl
theorem syntax_Expr.bits9 : waitsOk syntax_Expr.T9.2 syntax_Expr.B9 = true := by kernel_rfl
def syntax_Expr.T13 : Bool × List (List Nat × List Nat) := (true, [([], []), ([], []), ([1], [1]), ([2], [2]), ([3], [3]), ([4], [4]), ([0, 5], [0, 5]), ([6, 6, 0, 1, 2, 3, 4, 5, 6], [6])])
def syntax_Expr.B13 : List Nat := [0, 0, 2, 6, 14, 30, 63, 127]
theorem syntax_Expr.tab13 : rtab .any (opsOf Tryd.f24 13) = syntax_Expr.T13 := by kernel_rfl
theorem syntax_Expr.bits13 : waitsOk syntax_Expr.T13.2 syntax_Expr.B13 = true := by kernel_rfl
set_option maxHeartbeats 8000000 in
set_option maxRecDepth 100000 in
theorem syntax_Expr.calls_of (k : Nat) (ih_syntax_args : ∀ j_, j_ < k → ∀ (A0 : Option Addr) (c0 : Nat) (l0 : List (S36)) (r : ByteArray) (w : World) (hT : Go.Proofs.YthnhdompfhkepaaDoor.Ext.TAB w) (hr0 : Kd.C k36 w A0 l0.length l0) (hc0 : l0.length ≤ c0) (h : syntax_args.f j_ l0 = some r), Calls Tryd.prog 53 #[.slice A0 l0.length c0] w fun e w' => e = .returned (.string r) ∧ Below w.heap.size w w') (ih_syntax_two : ∀ j_, j_ < k → ∀ (a0_0 : Int) (a0_1 : Int) (a0_2 : Int) (a0_3 : ByteArray) (A0_4 : Option Addr) (c0_4 : Nat) (l0_4 : List (S36)) (a1 : ByteArray) (r : ByteArray) (w : World) (hT : Go.Proofs.YthnhdompfhkepaaDoor.Ext.TAB w) (hr0_4 : Kd.C k36 w A0_4 l0_4.length l0_4) (hc0_4 : l0_4.length ≤ c0_4) (h : syntax_two.f j_ a0_0 a0_1 a0_2 a0_3 l0_4 a1 = some r), Calls Tryd.prog 54 #[.agg #[.int .i64 a0_0, .int .i64 a0_1, .int .u32 a0_2, .string a0_3, .slice A0_4 l0_4.length c0_4], .string a1] w fun e w' => e = .returned (.string r) ∧ Below w.heap.size w w') (ih_syntax_Expr : ∀ j_, j_ < k → ∀ (a0_0 : Int) (a0_1 : Int) (a0_2 : Int) (a0_3 : ByteArray) (A0_4 : Option Addr) (c0_4 : Nat) (l0_4 : List (S36)) (r : ByteArray) (w : World) (hT : Go.Proofs.YthnhdompfhkepaaDoor.Ext.TAB w) (hr0_4 : Kd.C k36 w A0_4 l0_4.length l0_4) (hc0_4 : l0_4.length ≤ c0_4) (h : syntax_Expr.f j_ a0_0 a0_1 a0_2 a0_3 l0_4 = some r), Calls Tryd.prog 24 #[.agg #[.int .i64 a0_0, .int .i64 a0_1, .int .u32 a0_2, .string a0_3, .slice A0_4 l0_4.length c0_4]] w fun e w' => e = .returned (.string r) ∧ Below w.heap.size w w') : ∀ (a0_0 : Int) (a0_1 : Int) (a0_2 : Int) (a0_3 : ByteArray) (A0_4 : Option Addr) (c0_4 : Nat) (l0_4 : List (S36)) (r : ByteArray) (w : World) (hT : Go.Proofs.YthnhdompfhkepaaDoor.Ext.TAB w) (hr0_4 : Kd.C k36 w A0_4 l0_4.length l0_4) (hc0_4 : l0_4.length ≤ c0_4) (h : syntax_Expr.f k a0_0 a0_1 a0_2 a0_3 l0_4 = some r), Calls Tryd.prog 24 #[.agg #[.int .i64 a0_0, .int .i64 a0_1, .int .u32 a0_2, .string a0_3, .slice A0_4 l0_4.length c0_4]] w fun e w' => e = .returned (.string r) ∧ Below w.heap.size w w' := by
 intro a0_0 a0_1 a0_2 a0_3 A0_4 c0_4 l0_4 r w hT hr0_4 hc0_4 h
 cases k with
 | zero => exact absurd h (by simp [syntax_Expr.f])
 | succ k =>
 simp only [syntax_Expr.f] at h
 have hu36 := Tryd.underlying36
 have HT := Aside0.mk hT
 have HRg0 := Aside0.mk (Go.Proofs.YthnhdompfhkepaaDoor.Ext.signsL_C HT.out)
 have HCg0 := Aside0.mk (show Ext.signsL.length ≤ 12 from by decide)
 clear hT
 have HR0_4 := Aside0.mk hr0_4
 have HC0_4 := Aside0.mk hc0_4
 clear hr0_4 hc0_4
 have HB := Aside0.mk (Below.refl w.heap.size w)
 have H : (if a0_0 = 1 then ((word_Text.f a0_2).bind fun t115 => (some t115)) else (if a0_0 = 2 then (some a0_3) else (if a0_0 = 3 then (if a0_3.size + 1 ≤ 9223372036854775807 then (if 0 < (l0_4.length : Int) then ((syntax_Expr.f k ((rd_T36 l0_4 0).f0) ((rd_T36 l0_4 0).f1) ((rd_T36 l0_4 0).f2) ((rd_T36 l0_4 0).f3) ((rd_T36 l0_4 0).f4)).bind fun t117 => (if (a0_3 ++ (⟨#[91]⟩ : ByteArray)).size + t117.size ≤ 9223372036854775807 then (if ((a0_3 ++ (⟨#[91]⟩ : ByteArray)) ++ t117).size + 1 ≤ 9223372036854775807 then (some (((a0_3 ++ (⟨#[91]⟩ : ByteArray)) ++ t117) ++ (⟨#[93]⟩ : ByteArray))) else (none)) else (none))) else (none)) else (none)) else (if a0_0 = 4 then (if a0_3.size + 1 ≤ 9223372036854775807 then ((syntax_args.f k l0_4).bind fun t118 => (if (a0_3 ++ (⟨#[40]⟩ : ByteArray)).size + t118.size ≤ 9223372036854775807 then (if ((a0_3 ++ (⟨#[40]⟩ : ByteArray)) ++ t118).size + 1 ≤ 9223372036854775807 then (some (((a0_3 ++ (⟨#[40]⟩ : ByteArray)) ++ t118) ++ (⟨#[41]⟩ : ByteArray))) else (none)) else (none))) else (none)) else (if a0_0 = 5 then (some (⟨#[103, 101, 116, 40, 41]⟩ : ByteArray)) else (if a0_0 = 6 then (if 0 ≤ (wrap64 (a0_1 - 4)) then (if (wrap64 (a0_1 - 4)) < 12 then ((syntax_two.f k a0_0 a0_1 a0_2 a0_3 l0_4 (rdOf ByteArray.empty Ext.signsL (wrap64 (a0_1 - 4)))).bind fun t120 => (some t120)) else (none)) else (none)) else (if a0_0 = 7 then (if 0 < (l0_4.length : Int) then ((syntax_Expr.f k ((rd_T36 l0_4 0).f0) ((rd_T36 l0_4 0).f1) ((rd_T36 l0_4 0).f2) ((rd_T36 l0_4 0).f3) ((rd_T36 l0_4 0).f4)).bind fun t122 => (if 1 + t122.size ≤ 9223372036854775807 then (some ((⟨#[33]⟩ : ByteArray) ++ t122)) else (none))) else (none)) else (if a0_0 = 8 then ((syntax_two.f k a0_0 a0_1 a0_2 a0_3 l0_4 (⟨#[38, 38]⟩ : ByteArray)).bind fun t123 => (some t123)) else ((syntax_two.f k a0_0 a0_1 a0_2 a0_3 l0_4 (⟨#[124, 124]⟩ : ByteArray)).bind fun t124 => (some t124)))))))))) = some r := h
 clear h
 by_cases c2 : a0_0 = 1
 ·rw [if_pos c2] at H
  have c2b0 : (a0_0 == 1) = true := beq_iff_eq.mpr c2
  have c2b1 : (a0_0 != 1) = false := bne_eq_false_iff_eq.mpr c2
  clear c2
  replace H := Option.bind_eq_some_iff.mp H
  obtain ⟨t115, A30, H⟩ := H
  replace H : (some t115) = some r := H
  have A3 := Aside0.mk A30
  clear A30
  obtain rfl := Option.some.inj H
  go_enter Tryd.func24, Tryd.ntmps24
  go_wp2_with (first | ((with_reducible refine gate_dst (N := 1) rfl ?_); refine box_event ?hg (N := 1) ?hd (cs := #[.int .i64 a0_0, .int .i64 a0_1, .int .u32 a0_2, .string a0_3, .slice A0_4 l0_4.length c0_4]) (t := 36) ?hr ?_; (case hd => rfl); (case hg => rfl); (case hr => first | (go_simp; done) | (go_simp; rfl)); intro gb114 hg w4 hbox hb; have n0_ := Aside0.mk (below_step (by repeat (first | (with_reducible first | exact HB.out | apply below_alloc | apply pw_below_drewN | apply below_drew1) | exact HB.out)) hb); have n1_ := Aside0.mk (hbox); have n2_ := Aside0.mk ((by rw [hg]; exact (below_size (by repeat (first | (with_reducible first | exact HB.out | apply below_alloc | apply pw_below_drewN | apply below_drew1) | exact HB.out))) : w.heap.size ≤ gb114)); have n3_ := Aside0.mk ((by rw [hg]; exact (below_size (by repeat (first | (with_reducible first | exact HB.out | apply below_alloc | apply pw_below_drewN | apply below_drew1) | exact HB.out))) : w.heap.size ≤ gb114)); clear HB; have HB := n0_; have BK114 := n1_; have GW114 := n2_; have GE114 := n3_; clear n0_ n1_ n2_ n3_; clear hb hbox hg; have hcz5_0 : w4.cell? ⟨gb114, 0, none⟩ = some (.int .i64 a0_0) := (blk_cell BK114.out 0).trans rfl; have hcz5_1 : w4.cell? ⟨gb114, 1, none⟩ = some (.int .i64 a0_1) := (blk_cell BK114.out 1).trans rfl; have hcz5_2 : w4.cell? ⟨gb114, 2, none⟩ = some (.int .u32 a0_2) := (blk_cell BK114.out 2).trans rfl; have hcz5_3 : w4.cell? ⟨gb114, 3, none⟩ = some (.string a0_3) := (blk_cell BK114.out 3).trans rfl; have hcz5_4 : w4.cell? ⟨gb114, 4, none⟩ = some (.slice A0_4 l0_4.length c0_4) := (blk_cell BK114.out 4).trans rfl; have hfz5_0 := blk_frozen BK114.out 0; have hfz5_1 := blk_frozen BK114.out 1; have hfz5_2 := blk_frozen BK114.out 2; have hfz5_3 := blk_frozen BK114.out 3; have hfz5_4 := blk_frozen BK114.out 4) | ((with_reducible refine gate_callee (f := 30) rfl ?_); refine goesL_ (some 9) rfl rfl Tryd.func30 (by kernel_rfl) rfl #[.int .u32 a0_2] rfl (by (try simp only [List.map_toArray, List.map_cons, List.map_nil]); first | done | rfl | (simp only [List.length_drop, List.length_take]; rfl)) ?_; (with_reducible refine (word_Text.calls a0_2 t115 _ ?side1 A3.out).mono ?_); (case side1 => exact Go.Proofs.YthnhdompfhkepaaDoor.Ext.TAB.below HT.out (by repeat (first | (with_reducible first | exact HB.out | apply below_alloc | apply pw_below_drewN | apply below_drew1 | refine below_set ?_ GE114.out) | exact HB.out))); rintro e w6 ⟨rfl, hb⟩; refine ⟨_, rfl, ?_⟩; have n0_ := Aside0.mk (blk_below (g := gb114) (o := .cells #[.int .i64 a0_0, .int .i64 a0_1, .int .u32 a0_2, .string a0_3, .slice A0_4 l0_4.length c0_4] 36 (0, 0)) (by (with_reducible repeat (first | refine blk_drewN ?_ _ | refine blk_drew ?_ | refine blk_alloc ?_ _)); exact BK114.out) hb); have n1_ := Aside0.mk (below_step (by repeat (first | (with_reducible first | exact HB.out | apply below_alloc | apply pw_below_drewN | apply below_drew1 | refine below_set ?_ GE114.out) | exact HB.out)) hb); clear BK114; clear HB; have BK114 := n0_; have HB := n1_; clear n0_ n1_; (try clear hb); (try clear hb2); (try clear hk); (try clear hi)))
  go_ret
  exact ⟨by first | rfl | (simp [errW_none, errW_some] <;> rfl) | (simp [*, errW_none, errW_some] <;> rfl), by repeat (first | (with_reducible first | exact HB.out | apply below_alloc | apply pw_below_drewN | apply below_drew1 | refine below_set ?_ GE114.out) | exact HB.out)⟩
 ·rw [if_neg c2] at H
  have c2b0 : (a0_0 == 1) = false := beq_eq_false_iff_ne.mpr c2
  have c2b1 : (a0_0 != 1) = true := bne_iff_ne.mpr c2
  by_cases c7 : a0_0 = 2
  ·rw [if_pos c7] at H
   have c7b0 : (a0_0 == 2) = true := beq_iff_eq.mpr c7
   have c7b1 : (a0_0 != 2) = false := bne_eq_false_iff_eq.mpr c7
   clear c7
   obtain rfl := Option.some.inj H
   go_enter Tryd.func24, Tryd.ntmps24
   go_wp2_with (first | ((with_reducible refine gate_dst (N := 1) rfl ?_); refine box_event ?hg (N := 1) ?hd (cs := #[.int .i64 a0_0, .int .i64 a0_1, .int .u32 a0_2, .string a0_3, .slice A0_4 l0_4.length c0_4]) (t := 36) ?hr ?_; (case hd => rfl); (case hg => rfl); (case hr => first | (go_simp; done) | (go_simp; rfl)); intro gb114 hg w8 hbox hb; have n0_ := Aside0.mk (below_step (by repeat (first | (with_reducible first | exact HB.out | apply below_alloc | apply pw_below_drewN | apply below_drew1) | exact HB.out)) hb); have n1_ := Aside0.mk (hbox); have n2_ := Aside0.mk ((by rw [hg]; exact (below_size (by repeat (first | (with_reducible first | exact HB.out | apply below_alloc | apply pw_below_drewN | apply below_drew1) | exact HB.out))) : w.heap.size ≤ gb114)); have n3_ := Aside0.mk ((by rw [hg]; exact (below_size (by repeat (first | (with_reducible first | exact HB.out | apply below_alloc | apply pw_below_drewN | apply below_drew1) | exact HB.out))) : w.heap.size ≤ gb114)); clear HB; have HB := n0_; have BK114 := n1_; have GW114 := n2_; have GE114 := n3_; clear n0_ n1_ n2_ n3_; clear hb hbox hg; have hcz9_0 : w8.cell? ⟨gb114, 0, none⟩ = some (.int .i64 a0_0) := (blk_cell BK114.out 0).trans rfl; have hcz9_1 : w8.cell? ⟨gb114, 1, none⟩ = some (.int .i64 a0_1) := (blk_cell BK114.out 1).trans rfl; have hcz9_2 : w8.cell? ⟨gb114, 2, none⟩ = some (.int .u32 a0_2) := (blk_cell BK114.out 2).trans rfl; have hcz9_3 : w8.cell? ⟨gb114, 3, none⟩ = some (.string a0_3) := (blk_cell BK114.out 3).trans rfl; have hcz9_4 : w8.cell? ⟨gb114, 4, none⟩ = some (.slice A0_4 l0_4.length c0_4) := (blk_cell BK114.out 4).trans rfl; have hfz9_0 := blk_frozen BK114.out 0; have hfz9_1 := blk_frozen BK114.out 1; have hfz9_2 := blk_frozen BK114.out 2; have hfz9_3 := blk_frozen BK114.out 3; have hfz9_4 := blk_frozen BK114.out 4))
   go_ret
   exact ⟨by first | rfl | (simp [errW_none, errW_some] <;> rfl) | (simp [*, errW_none, errW_some] <;> rfl), by repeat (first | (with_reducible first | exact HB.out | apply below_alloc | apply pw_below_drewN | apply below_drew1 | refine below_set ?_ GE114.out) | exact HB.out)⟩
  ·rw [if_neg c7] at H
   have c7b0 : (a0_0 == 2) = false := beq_eq_false_iff_ne.mpr c7
   have c7b1 : (a0_0 != 2) = true := bne_iff_ne.mpr c7
   by_cases c10 : a0_0 = 3
   ·rw [if_pos c10] at H
    have c10b0 : (a0_0 == 3) = true := beq_iff_eq.mpr c10
    have c10b1 : (a0_0 != 3) = false := bne_eq_false_iff_eq.mpr c10
    clear c10
    by_cases c11 : a0_3.size + 1 ≤ 9223372036854775807
    ·rw [if_pos c11] at H
     have c11b0 := eq_true c11
     have c11b1 : decide (a0_3.size + 1 ≤ 9223372036854775807) = true := decide_eq_true c11
     try have c11b2 : (9223372036854775807 < a0_3.size + 1) = False := eq_false (Nat.not_lt.2 c11)
     by_cases c12 : 0 < (l0_4.length : Int)
     ·rw [if_pos c12] at H
      have c12b0 : decide (0 < (l0_4.length : Int)) = true := decide_eq_true c12
      have c12b1 : decide (0 < l0_4.length) = true := decide_eq_true (by omega)
      clear c12
      replace H := Option.bind_eq_some_iff.mp H
      obtain ⟨t117, A130, H⟩ := H
      replace H : (if (a0_3 ++ (⟨#[91]⟩ : ByteArray)).size + t117.size ≤ 9223372036854775807 then (if ((a0_3 ++ (⟨#[91]⟩ : ByteArray)) ++ t117).size + 1 ≤ 9223372036854775807 then (some (((a0_3 ++ (⟨#[91]⟩ : ByteArray)) ++ t117) ++ (⟨#[93]⟩ : ByteArray))) else (none)) else (none)) = some r := H
      have A13 := Aside0.mk A130
      clear A130
      by_cases c14 : (a0_3 ++ (⟨#[91]⟩ : ByteArray)).size + t117.size ≤ 9223372036854775807
      ·rw [if_pos c14] at H
       have c14b0 := eq_true c14
       have c14b1 : decide ((a0_3 ++ (⟨#[91]⟩ : ByteArray)).size + t117.size ≤ 9223372036854775807) = true := decide_eq_true c14
       try have c14b2 : (9223372036854775807 < (a0_3 ++ (⟨#[91]⟩ : ByteArray)).size + t117.size) = False := eq_false (Nat.not_lt.2 c14)
       (try simp only [ByteArray.size_append, show (⟨#[91]⟩ : ByteArray).size = 1 from rfl] at c14b2)
       by_cases c15 : ((a0_3 ++ (⟨#[91]⟩ : ByteArray)) ++ t117).size + 1 ≤ 9223372036854775807
       ·rw [if_pos c15] at H
        have c15b0 := eq_true c15
        have c15b1 : decide (((a0_3 ++ (⟨#[91]⟩ : ByteArray)) ++ t117).size + 1 ≤ 9223372036854775807) = true := decide_eq_true c15
        try have c15b2 : (9223372036854775807 < ((a0_3 ++ (⟨#[91]⟩ : ByteArray)) ++ t117).size + 1) = False := eq_false (Nat.not_lt.2 c15)
        (try simp only [ByteArray.size_append, show (⟨#[91]⟩ : ByteArray).size = 1 from rfl] at c15b2)
        obtain rfl := Option.some.inj H
        go_enter Tryd.func24, Tryd.ntmps24
        try go_wp2_with (first | ((with_reducible refine gate_dst (N := 1) rfl ?_); refine box_event ?hg (N := 1) ?hd (cs := #[.int .i64 a0_0, .int .i64 a0_1, .int .u32 a0_2, .string a0_3, .slice A0_4 l0_4.length c0_4]) (t := 36) ?hr ?_; (case hd => rfl); (case hg => rfl); (case hr => first | (go_simp; done) | (go_simp; rfl)); intro gb114 hg w16 hbox hb; have n0_ := Aside0.mk (below_step (by repeat (first | (with_reducible first | exact HB.out | apply below_alloc | apply pw_below_drewN | apply below_drew1) | exact HB.out)) hb); have n1_ := Aside0.mk (hbox); have n2_ := Aside0.mk ((by rw [hg]; exact (below_size (by repeat (first | (with_reducible first | exact HB.out | apply below_alloc | apply pw_below_drewN | apply below_drew1) | exact HB.out))) : w.heap.size ≤ gb114)); have n3_ := Aside0.mk ((by rw [hg]; exact (below_size (by repeat (first | (with_reducible first | exact HB.out | apply below_alloc | apply pw_below_drewN | apply below_drew1) | exact HB.out))) : w.heap.size ≤ gb114)); clear HB; have HB := n0_; have BK114 := n1_; have GW114 := n2_; have GE114 := n3_; clear n0_ n1_ n2_ n3_; clear hb hbox hg; have hcz17_0 : w16.cell? ⟨gb114, 0, none⟩ = some (.int .i64 a0_0) := (blk_cell BK114.out 0).trans rfl; have hcz17_1 : w16.cell? ⟨gb114, 1, none⟩ = some (.int .i64 a0_1) := (blk_cell BK114.out 1).trans rfl; have hcz17_2 : w16.cell? ⟨gb114, 2, none⟩ = some (.int .u32 a0_2) := (blk_cell BK114.out 2).trans rfl; have hcz17_3 : w16.cell? ⟨gb114, 3, none⟩ = some (.string a0_3) := (blk_cell BK114.out 3).trans rfl; have hcz17_4 : w16.cell? ⟨gb114, 4, none⟩ = some (.slice A0_4 l0_4.length c0_4) := (blk_cell BK114.out 4).trans rfl; have hfz17_0 := blk_frozen BK114.out 0; have hfz17_1 := blk_frozen BK114.out 1; have hfz17_2 := blk_frozen BK114.out 2; have hfz17_3 := blk_frozen BK114.out 3; have hfz17_4 := blk_frozen BK114.out 4))
        have n0_ := Aside0.mk (blk_drew BK114.out)
        have n1_ := Aside0.mk (below_drew1 HB.out)
        clear BK114
        clear HB
        have BK114 := n0_
        have HB := n1_
        clear n0_ n1_
        have p116 : 0 ≤ (0 : Int) := (by omega)
        have q116 : 0 < (l0_4.length : Int) := of_decide_eq_true (by first | (with_reducible assumption) | assumption)
        obtain ⟨ad116, A116_4, c116_4, e116, hx116_0, hx116_1, hx116_2, hx116_3, hx116_4, hl116_4, hi116_4⟩ := at_T36 HR0_4.out 0 p116 q116
        have hw116_4 := hx116_4
        (try rw [show ((0 : Int)).toNat = 0 from rfl] at hw116_4)
        (try rw [show 0 * 5 = 0 from rfl] at hw116_4)
        (try rw [Addr.add_zero'] at hw116_4)
        have hw116_3 := hx116_3
        (try rw [show ((0 : Int)).toNat = 0 from rfl] at hw116_3)
        (try rw [show 0 * 5 = 0 from rfl] at hw116_3)
        (try rw [Addr.add_zero'] at hw116_3)
        have hw116_2 := hx116_2
        (try rw [show ((0 : Int)).toNat = 0 from rfl] at hw116_2)
        (try rw [show 0 * 5 = 0 from rfl] at hw116_2)
        (try rw [Addr.add_zero'] at hw116_2)
        have hw116_1 := hx116_1
        (try rw [show ((0 : Int)).toNat = 0 from rfl] at hw116_1)
        (try rw [show 0 * 5 = 0 from rfl] at hw116_1)
        (try rw [Addr.add_zero'] at hw116_1)
        have hw116_0 := hx116_0
        (try rw [show ((0 : Int)).toNat = 0 from rfl] at hw116_0)
        (try rw [show 0 * 5 = 0 from rfl] at hw116_0)
        (try rw [Addr.add_zero'] at hw116_0)
        cases e116
        have qi116 : (0 < l0_4.length) = True := eq_true (by omega)
        (try rw [show ((0 : Int)).toNat = 0 from rfl] at hx116_0)
        (try rw [show 0 * 5 = 0 from rfl] at hx116_0)
        (try rw [Addr.add_zero'] at hx116_0)
        (try rw [show ((0 : Int)).toNat = 0 from rfl] at hx116_1)
        (try rw [show 0 * 5 = 0 from rfl] at hx116_1)
        (try rw [Addr.add_zero'] at hx116_1)
        (try rw [show ((0 : Int)).toNat = 0 from rfl] at hx116_2)
        (try rw [show 0 * 5 = 0 from rfl] at hx116_2)
        (try rw [Addr.add_zero'] at hx116_2)
        (try rw [show ((0 : Int)).toNat = 0 from rfl] at hx116_3)
        (try rw [show 0 * 5 = 0 from rfl] at hx116_3)
        (try rw [Addr.add_zero'] at hx116_3)
        (try rw [show ((0 : Int)).toNat = 0 from rfl] at hx116_4)
        (try rw [show 0 * 5 = 0 from rfl] at hx116_4)
        (try rw [Addr.add_zero'] at hx116_4)
        replace hx116_0 := (HB.out.cell (World.block_lt_of_cell? w _ hx116_0)).trans hx116_0
        replace hx116_1 := (HB.out.cell (World.block_lt_of_cell? w _ hx116_1)).trans hx116_1
        replace hx116_2 := (HB.out.cell (World.block_lt_of_cell? w _ hx116_2)).trans hx116_2
        replace hx116_3 := (HB.out.cell (World.block_lt_of_cell? w _ hx116_3)).trans hx116_3
        replace hx116_4 := (HB.out.cell (World.block_lt_of_cell? w _ hx116_4)).trans hx116_4
        have HR116_4 := Aside0.mk hi116_4
        have HC116_4 := Aside0.mk hl116_4
        clear hi116_4 hl116_4
        replace p116 := eq_true p116
        replace q116 := eq_true q116
        refine start_ (n := 11) (S := fun w' => w'.cell? ⟨gb114, 0, none⟩ = some (.int .i64 a0_0) ∧ w'.cell? ⟨gb114, 1, none⟩ = some (.int .i64 a0_1) ∧ w'.cell? ⟨gb114, 2, none⟩ = some (.int .u32 a0_2) ∧ w'.cell? ⟨gb114, 3, none⟩ = some (.string a0_3) ∧ w'.cell? ⟨gb114, 4, none⟩ = some (.slice (some ad116) l0_4.length c0_4) ∧ w'.cell? ad116 = some (.int .i64 ((rd_T36 l0_4 0).f0)) ∧ w'.cell? ⟨ad116.block, ad116.off + 1, none⟩ = some (.int .i64 ((rd_T36 l0_4 0).f1)) ∧ w'.cell? ⟨ad116.block, ad116.off + 2, none⟩ = some (.int .u32 ((rd_T36 l0_4 0).f2)) ∧ w'.cell? ⟨ad116.block, ad116.off + 3, none⟩ = some (.string ((rd_T36 l0_4 0).f3)) ∧ w'.cell? ⟨ad116.block, ad116.off + 4, none⟩ = some (.slice A116_4 ((rd_T36 l0_4 0).f4).length c116_4)) (ds := []) #[false, false, false, false, false, false, false, false, false, false, false] (by kernel_rfl) rfl rfl ⟨(blk_cell BK114.out 0).trans rfl, (blk_cell BK114.out 1).trans rfl, (blk_cell BK114.out 2).trans rfl, (blk_cell BK114.out 3).trans rfl, (blk_cell BK114.out 4).trans rfl, ((HB.out.cell (World.block_lt_of_cell? w _ hw116_0)).trans hw116_0), ((HB.out.cell (World.block_lt_of_cell? w _ hw116_1)).trans hw116_1), ((HB.out.cell (World.block_lt_of_cell? w _ hw116_2)).trans hw116_2), ((HB.out.cell (World.block_lt_of_cell? w _ hw116_3)).trans hw116_3), ((HB.out.cell (World.block_lt_of_cell? w _ hw116_4)).trans hw116_4)⟩ (fun hHeld => ?_); refine with_tabW syntax_Expr.tab7 syntax_Expr.bits7 (fun HT_ HW_ => ?_)
        generalize w16.drew = w18 at BK114 HB HR116_4 hx116_0 hx116_1 hx116_2 hx116_3 hx116_4 hHeld ⊢
        refine pure_ (i := 0) (N := some 16) (v := ?_) (a' := ?_) #[true, false, false, false, false, false, false, false, false, false, false] rfl rfl (any_of HT_.out (by kernel_rfl)) (fun _ _ _ h => h) (Or.inl ⟨by rfl, ?_⟩) ?_ ?_
        rotate_left
        ·intro w'
         go_simp
         with_reducible rfl
        rotate_left
        ·simp only [Act.put, List.setIfInBounds_toArray, List.set_cons_zero, List.set_cons_succ, i64_w, i32_w]
         rfl
        refine pure_ (i := 3) (N := some 19) (v := ?_) (a' := ?_) #[true, false, false, true, false, false, false, false, false, false, false] rfl rfl (any_of HT_.out (by kernel_rfl)) (fun _ _ _ h => h) (Or.inl ⟨by rfl, ?_⟩) ?_ ?_
        rotate_left
        ·intro w'
         go_simp
         with_reducible rfl
        rotate_left
        ·simp only [Act.put, List.setIfInBounds_toArray, List.set_cons_zero, List.set_cons_succ, i64_w, i32_w]
         rfl
        refine take_ (i := 1) (N := some 17) (v := ?_) (a' := ?_) #[true, true, false, true, false, false, false, false, false, false, false] rfl rfl (take_ofW HT_.out HW_.out (by kernel_rfl)) (fun _ _ _ h => h) (Or.inl ⟨by rfl, ?_⟩) hHeld ?_ ?_
        rotate_left
        ·rintro w' ⟨s0, s1, s2, s3, s4, s5, s6, s7, s8, s9⟩
         go_simp
         with_reducible rfl
        rotate_left
        ·simp only [Act.put, List.setIfInBounds_toArray, List.set_cons_zero, List.set_cons_succ, i64_w, i32_w]
         rfl
        refine pure_ (i := 2) (N := some 18) (v := ?_) (a' := ?_) #[true, true, true, true, false, false, false, false, false, false, false] rfl rfl (any_of HT_.out (by kernel_rfl)) (fun _ _ _ h => h) (Or.inl ⟨by rfl, ?_⟩) ?_ ?_
        rotate_left
        ·intro w'
         go_simp
         with_reducible rfl
        rotate_left
        ·simp only [Act.put, List.setIfInBounds_toArray, List.set_cons_zero, List.set_cons_succ, i64_w, i32_w]
         rfl
        refine take_ (i := 4) (N := some 20) (v := ?_) (a' := ?_) #[true, true, true, true, true, false, false, false, false, false, false] rfl rfl (take_ofW HT_.out HW_.out (by kernel_rfl)) (fun _ _ _ h => h) (Or.inl ⟨by rfl, ?_⟩) hHeld ?_ ?_
        rotate_left
        ·rintro w' ⟨s0, s1, s2, s3, s4, s5, s6, s7, s8, s9⟩
         go_simp
         with_reducible rfl
        rotate_left
        ·simp only [Act.put, List.setIfInBounds_toArray, List.set_cons_zero, List.set_cons_succ, i64_w, i32_w]
         rfl
        refine pure_ (i := 5) (N := some 21) (v := ?_) (a' := ?_) #[true, true, true, true, true, true, false, false, false, false, false] rfl rfl (any_of HT_.out (by kernel_rfl)) (fun _ _ _ h => h) (Or.inl ⟨by rfl, ?_⟩) ?_ ?_
        rotate_left
        ·intro w'
         go_simp
         with_reducible rfl
        rotate_left
        ·simp only [Act.put, List.setIfInBounds_toArray, List.set_cons_zero, List.set_cons_succ, i64_w, i32_w]
         rfl
        refine take_ (i := 6) (N := some 22) (v := ?_) (a' := ?_) #[true, true, true, true, true, true, true, false, false, false, false] rfl rfl (take_ofW HT_.out HW_.out (by kernel_rfl)) (fun _ _ _ h => h) (Or.inl ⟨by rfl, ?_⟩) hHeld ?_ ?_
        rotate_left
        ·rintro w' ⟨s0, s1, s2, s3, s4, s5, s6, s7, s8, s9⟩
         go_simp
         with_reducible rfl
        rotate_left
        ·simp only [Act.put, List.setIfInBounds_toArray, List.set_cons_zero, List.set_cons_succ, i64_w, i32_w]
         rfl
        refine one_ (i := 7) (N := some 23) #[true, true, true, true, true, true, true, true, false, false, false] rfl rfl (one_of HT_.out (by kernel_rfl)) (by decide) (fun K hK => ?_)
        refine goes_ Tryd.func24 (by kernel_rfl) rfl #[.agg #[.int .i64 ((rd_T36 l0_4 0).f0), .int .i64 ((rd_T36 l0_4 0).f1), .int .u32 ((rd_T36 l0_4 0).f2), .string ((rd_T36 l0_4 0).f3), .slice A116_4 ((rd_T36 l0_4 0).f4).length c116_4]] (by rfl) rfl rfl (by (try simp only [List.map_toArray, List.map_cons, List.map_nil]); first | done | rfl | (simp only [List.length_drop, List.length_take]; rfl)) ?_
        with_reducible refine (ih_syntax_Expr k (by omega) ((rd_T36 l0_4 0).f0) ((rd_T36 l0_4 0).f1) ((rd_T36 l0_4 0).f2) ((rd_T36 l0_4 0).f3) _ _ ((rd_T36 l0_4 0).f4) t117 _ ?side1 ?side2 ?side3 A13.out).mono ?_
        (case side1 => exact Go.Proofs.YthnhdompfhkepaaDoor.Ext.TAB.below HT.out (by repeat (first | (with_reducible first | exact HB.out | apply below_alloc | apply pw_below_drewN | apply below_drew1 | refine below_set ?_ GE114.out) | exact HB.out)))
        (case side2 => repeat (first | exact (Kd.C_below HR116_4.out HB.out) | (with_reducible refine Kd.C_alloc ?_ _) | (with_reducible refine Kd.C_drewN ?_ _) | (with_reducible refine Kd.C_drew ?_)))
        (case side3 => exact HC116_4.out)
        rintro e w19 ⟨rfl, hb⟩
        refine ⟨_, rfl, ?_⟩
        have n0_ := Aside0.mk (blk_below (g := gb114) (o := .cells #[.int .i64 a0_0, .int .i64 a0_1, .int .u32 a0_2, .string a0_3, .slice (some ad116) l0_4.length c0_4] 36 (0, 0)) (by (with_reducible repeat (first | refine blk_drewN ?_ _ | refine blk_drew ?_ | refine blk_alloc ?_ _)); exact BK114.out) hb)
        have n1_ := Aside0.mk (below_step (by repeat (first | (with_reducible first | exact HB.out | apply below_alloc | apply pw_below_drewN | apply below_drew1 | refine below_set ?_ GE114.out) | exact HB.out)) hb)
        clear BK114
        clear HB
        have BK114 := n0_
        have HB := n1_
        clear n0_ n1_
        (try clear hb)
        (try clear hb2)
        (try clear hk)
        (try clear hi)
        refine hK.out _ _ ⟨(blk_cell BK114.out 0).trans rfl, (blk_cell BK114.out 1).trans rfl, (blk_cell BK114.out 2).trans rfl, (blk_cell BK114.out 3).trans rfl, (blk_cell BK114.out 4).trans rfl, ((HB.out.cell (World.block_lt_of_cell? w _ hw116_0)).trans hw116_0), ((HB.out.cell (World.block_lt_of_cell? w _ hw116_1)).trans hw116_1), ((HB.out.cell (World.block_lt_of_cell? w _ hw116_2)).trans hw116_2), ((HB.out.cell (World.block_lt_of_cell? w _ hw116_3)).trans hw116_3), ((HB.out.cell (World.block_lt_of_cell? w _ hw116_4)).trans hw116_4)⟩ (fun hHeld => ?_)
        clear hK K
        refine norm_ (a' := ?_) ?_ ?_
        rotate_left
        ·show Act.put _ (some 23) _ = _
         simp only [Act.put, List.setIfInBounds_toArray, List.set_cons_zero, List.set_cons_succ, i64_w, i32_w]
         rfl
        refine pure_ (i := 8) (N := some 24) (v := ?_) (a' := ?_) #[true, true, true, true, true, true, true, true, true, false, false] rfl rfl (any_of HT_.out (by kernel_rfl)) (fun _ _ _ h => h) (Or.inl ⟨by rfl, ?_⟩) ?_ ?_
        rotate_left
        ·intro w'
         go_simp
         with_reducible rfl
        rotate_left
        ·simp only [Act.put, List.setIfInBounds_toArray, List.set_cons_zero, List.set_cons_succ, i64_w, i32_w]
         rfl
        refine pure_ (i := 9) (N := some 25) (v := ?_) (a' := ?_) #[true, true, true, true, true, true, true, true, true, true, false] rfl rfl (any_of HT_.out (by kernel_rfl)) (fun _ _ _ h => h) (Or.inl ⟨by rfl, ?_⟩) ?_ ?_
        rotate_left
        ·intro w'
         go_simp
         with_reducible rfl
        rotate_left
        ·simp only [Act.put, List.setIfInBounds_toArray, List.set_cons_zero, List.set_cons_succ, i64_w, i32_w]
         rfl
        refine pure_ (i := 10) (N := some 2) (v := ?_) (a' := ?_) #[true, true, true, true, true, true, true, true, true, true, true] rfl rfl (any_of HT_.out (by kernel_rfl)) (fun _ _ _ h => h) (Or.inl ⟨by rfl, ?_⟩) ?_ ?_
        rotate_left
        ·intro w'
         go_simp
         with_reducible rfl
        rotate_left
        ·simp only [Act.put, List.setIfInBounds_toArray, List.set_cons_zero, List.set_cons_succ, i64_w, i32_w]
         rfl
        refine done_ (done_of HT_.out (by kernel_rfl)) ?_
        try go_wp2
        go_ret
        exact ⟨by first | rfl | (simp [errW_none, errW_some] <;> rfl) | (simp [*, errW_none, errW_some] <;> rfl), by repeat (first | (with_reducible first | exact HB.out | apply below_alloc | apply pw_below_drewN | apply below_drew1 | refine below_set ?_ GE114.out) | exact HB.out)⟩
       ·rw [if_neg c15] at H
        exact absurd H (by simp)
      ·rw [if_neg c14] at H
       exact absurd H (by simp)
     ·rw [if_neg c12] at H
      exact absurd H (by simp)
    ·rw [if_neg c11] at H
     exact absurd H (by simp)
   ·rw [if_neg c10] at H
    have c10b0 : (a0_0 == 3) = false := beq_eq_false_iff_ne.mpr c10
    have c10b1 : (a0_0 != 3) = true := bne_iff_ne.mpr c10
    by_cases c20 : a0_0 = 4
    ·rw [if_pos c20] at H
     have c20b0 : (a0_0 == 4) = true := beq_iff_eq.mpr c20
     have c20b1 : (a0_0 != 4) = false := bne_eq_false_iff_eq.mpr c20
     clear c20
     by_cases c21 : a0_3.size + 1 ≤ 9223372036854775807
     ·rw [if_pos c21] at H
      have c21b0 := eq_true c21
      have c21b1 : decide (a0_3.size + 1 ≤ 9223372036854775807) = true := decide_eq_true c21
      try have c21b2 : (9223372036854775807 < a0_3.size + 1) = False := eq_false (Nat.not_lt.2 c21)
      replace H := Option.bind_eq_some_iff.mp H
      obtain ⟨t118, A220, H⟩ := H
      replace H : (if (a0_3 ++ (⟨#[40]⟩ : ByteArray)).size + t118.size ≤ 9223372036854775807 then (if ((a0_3 ++ (⟨#[40]⟩ : ByteArray)) ++ t118).size + 1 ≤ 9223372036854775807 then (some (((a0_3 ++ (⟨#[40]⟩ : ByteArray)) ++ t118) ++ (⟨#[41]⟩ : ByteArray))) else (none)) else (none)) = some r := H
      have A22 := Aside0.mk A220
      clear A220
      by_cases c23 : (a0_3 ++ (⟨#[40]⟩ : ByteArray)).size + t118.size ≤ 9223372036854775807
      ·rw [if_pos c23] at H
       have c23b0 := eq_true c23
       have c23b1 : decide ((a0_3 ++ (⟨#[40]⟩ : ByteArray)).size + t118.size ≤ 9223372036854775807) = true := decide_eq_true c23
       try have c23b2 : (9223372036854775807 < (a0_3 ++ (⟨#[40]⟩ : ByteArray)).size + t118.size) = False := eq_false (Nat.not_lt.2 c23)
       (try simp only [ByteArray.size_append, show (⟨#[40]⟩ : ByteArray).size = 1 from rfl] at c23b2)
       by_cases c24 : ((a0_3 ++ (⟨#[40]⟩ : ByteArray)) ++ t118).size + 1 ≤ 9223372036854775807
       ·rw [if_pos c24] at H
        have c24b0 := eq_true c24
        have c24b1 : decide (((a0_3 ++ (⟨#[40]⟩ : ByteArray)) ++ t118).size + 1 ≤ 9223372036854775807) = true := decide_eq_true c24
        try have c24b2 : (9223372036854775807 < ((a0_3 ++ (⟨#[40]⟩ : ByteArray)) ++ t118).size + 1) = False := eq_false (Nat.not_lt.2 c24)
        (try simp only [ByteArray.size_append, show (⟨#[40]⟩ : ByteArray).size = 1 from rfl] at c24b2)
        obtain rfl := Option.some.inj H
        go_enter Tryd.func24, Tryd.ntmps24
        try go_wp2_with (first | ((with_reducible refine gate_dst (N := 1) rfl ?_); refine box_event ?hg (N := 1) ?hd (cs := #[.int .i64 a0_0, .int .i64 a0_1, .int .u32 a0_2, .string a0_3, .slice A0_4 l0_4.length c0_4]) (t := 36) ?hr ?_; (case hd => rfl); (case hg => rfl); (case hr => first | (go_simp; done) | (go_simp; rfl)); intro gb114 hg w25 hbox hb; have n0_ := Aside0.mk (below_step (by repeat (first | (with_reducible first | exact HB.out | apply below_alloc | apply pw_below_drewN | apply below_drew1) | exact HB.out)) hb); have n1_ := Aside0.mk (hbox); have n2_ := Aside0.mk ((by rw [hg]; exact (below_size (by repeat (first | (with_reducible first | exact HB.out | apply below_alloc | apply pw_below_drewN | apply below_drew1) | exact HB.out))) : w.heap.size ≤ gb114)); have n3_ := Aside0.mk ((by rw [hg]; exact (below_size (by repeat (first | (with_reducible first | exact HB.out | apply below_alloc | apply pw_below_drewN | apply below_drew1) | exact HB.out))) : w.heap.size ≤ gb114)); clear HB; have HB := n0_; have BK114 := n1_; have GW114 := n2_; have GE114 := n3_; clear n0_ n1_ n2_ n3_; clear hb hbox hg; have hcz26_0 : w25.cell? ⟨gb114, 0, none⟩ = some (.int .i64 a0_0) := (blk_cell BK114.out 0).trans rfl; have hcz26_1 : w25.cell? ⟨gb114, 1, none⟩ = some (.int .i64 a0_1) := (blk_cell BK114.out 1).trans rfl; have hcz26_2 : w25.cell? ⟨gb114, 2, none⟩ = some (.int .u32 a0_2) := (blk_cell BK114.out 2).trans rfl; have hcz26_3 : w25.cell? ⟨gb114, 3, none⟩ = some (.string a0_3) := (blk_cell BK114.out 3).trans rfl; have hcz26_4 : w25.cell? ⟨gb114, 4, none⟩ = some (.slice A0_4 l0_4.length c0_4) := (blk_cell BK114.out 4).trans rfl; have hfz26_0 := blk_frozen BK114.out 0; have hfz26_1 := blk_frozen BK114.out 1; have hfz26_2 := blk_frozen BK114.out 2; have hfz26_3 := blk_frozen BK114.out 3; have hfz26_4 := blk_frozen BK114.out 4))
        have n0_ := Aside0.mk (blk_drew BK114.out)
        have n1_ := Aside0.mk (below_drew1 HB.out)
        clear BK114
        clear HB
        have BK114 := n0_
        have HB := n1_
        clear n0_ n1_
        refine start_ (n := 9) (S := fun w' => w'.cell? ⟨gb114, 0, none⟩ = some (.int .i64 a0_0) ∧ w'.cell? ⟨gb114, 1, none⟩ = some (.int .i64 a0_1) ∧ w'.cell? ⟨gb114, 2, none⟩ = some (.int .u32 a0_2) ∧ w'.cell? ⟨gb114, 3, none⟩ = some (.string a0_3) ∧ w'.cell? ⟨gb114, 4, none⟩ = some (.slice A0_4 l0_4.length c0_4)) (ds := []) #[false, false, false, false, false, false, false, false, false] (by kernel_rfl) rfl rfl ⟨(blk_cell BK114.out 0).trans rfl, (blk_cell BK114.out 1).trans rfl, (blk_cell BK114.out 2).trans rfl, (blk_cell BK114.out 3).trans rfl, (blk_cell BK114.out 4).trans rfl⟩ (fun hHeld => ?_); refine with_tabW syntax_Expr.tab9 syntax_Expr.bits9 (fun HT_ HW_ => ?_)
        generalize w25.drew = w27 at BK114 HB hHeld ⊢
        refine pure_ (i := 0) (N := some 28) (v := ?_) (a' := ?_) #[true, false, false, false, false, false, false, false, false] rfl rfl (any_of HT_.out (by kernel_rfl)) (fun _ _ _ h => h) (Or.inl ⟨by rfl, ?_⟩) ?_ ?_
        rotate_left
        ·intro w'
         go_simp
         with_reducible rfl
        rotate_left
        ·simp only [Act.put, List.setIfInBounds_toArray, List.set_cons_zero, List.set_cons_succ, i64_w, i32_w]
         rfl
        refine pure_ (i := 3) (N := some 31) (v := ?_) (a' := ?_) #[true, false, false, true, false, false, false, false, false] rfl rfl (any_of HT_.out (by kernel_rfl)) (fun _ _ _ h => h) (Or.inl ⟨by rfl, ?_⟩) ?_ ?_
        rotate_left
        ·intro w'
         go_simp
         with_reducible rfl
        rotate_left
        ·simp only [Act.put, List.setIfInBounds_toArray, List.set_cons_zero, List.set_cons_succ, i64_w, i32_w]
         rfl
        refine take_ (i := 1) (N := some 29) (v := ?_) (a' := ?_) #[true, true, false, true, false, false, false, false, false] rfl rfl (take_ofW HT_.out HW_.out (by kernel_rfl)) (fun _ _ _ h => h) (Or.inl ⟨by rfl, ?_⟩) hHeld ?_ ?_
        rotate_left
        ·rintro w' ⟨s0, s1, s2, s3, s4⟩
         go_simp
         with_reducible rfl
        rotate_left
        ·simp only [Act.put, List.setIfInBounds_toArray, List.set_cons_zero, List.set_cons_succ, i64_w, i32_w]
         rfl
        refine pure_ (i := 2) (N := some 30) (v := ?_) (a' := ?_) #[true, true, true, true, false, false, false, false, false] rfl rfl (any_of HT_.out (by kernel_rfl)) (fun _ _ _ h => h) (Or.inl ⟨by rfl, ?_⟩) ?_ ?_
        rotate_left
        ·intro w'
         go_simp
         with_reducible rfl
        rotate_left
        ·simp only [Act.put, List.setIfInBounds_toArray, List.set_cons_zero, List.set_cons_succ, i64_w, i32_w]
         rfl
        refine take_ (i := 4) (N := some 32) (v := ?_) (a' := ?_) #[true, true, true, true, true, false, false, false, false] rfl rfl (take_ofW HT_.out HW_.out (by kernel_rfl)) (fun _ _ _ h => h) (Or.inl ⟨by rfl, ?_⟩) hHeld ?_ ?_
        rotate_left
        ·rintro w' ⟨s0, s1, s2, s3, s4⟩
         go_simp
         with_reducible rfl
        rotate_left
        ·simp only [Act.put, List.setIfInBounds_toArray, List.set_cons_zero, List.set_cons_succ, i64_w, i32_w]
         rfl
        refine one_ (i := 5) (N := some 33) #[true, true, true, true, true, true, false, false, false] rfl rfl (one_of HT_.out (by kernel_rfl)) (by decide) (fun K hK => ?_)
        refine goes_ Tryd.func53 (by kernel_rfl) rfl #[.slice A0_4 l0_4.length c0_4] (by rfl) rfl rfl (by (try simp only [List.map_toArray, List.map_cons, List.map_nil]); first | done | rfl | (simp only [List.length_drop, List.length_take]; rfl)) ?_
        with_reducible refine (ih_syntax_args k (by omega) _ _ l0_4 t118 _ ?side1 ?side2 ?side3 A22.out).mono ?_
        (case side1 => exact Go.Proofs.YthnhdompfhkepaaDoor.Ext.TAB.below HT.out (by repeat (first | (with_reducible first | exact HB.out | apply below_alloc | apply pw_below_drewN | apply below_drew1 | refine below_set ?_ GE114.out) | exact HB.out)))
        (case side2 => repeat (first | exact (Kd.C_below HR0_4.out HB.out) | (with_reducible refine Kd.C_alloc ?_ _) | (with_reducible refine Kd.C_drewN ?_ _) | (with_reducible refine Kd.C_drew ?_)))
        (case side3 => exact HC0_4.out)
        rintro e w28 ⟨rfl, hb⟩
        refine ⟨_, rfl, ?_⟩
        have n0_ := Aside0.mk (blk_below (g := gb114) (o := .cells #[.int .i64 a0_0, .int .i64 a0_1, .int .u32 a0_2, .string a0_3, .slice A0_4 l0_4.length c0_4] 36 (0, 0)) (by (with_reducible repeat (first | refine blk_drewN ?_ _ | refine blk_drew ?_ | refine blk_alloc ?_ _)); exact BK114.out) hb)
        have n1_ := Aside0.mk (below_step (by repeat (first | (with_reducible first | exact HB.out | apply below_alloc | apply pw_below_drewN | apply below_drew1 | refine below_set ?_ GE114.out) | exact HB.out)) hb)
        clear BK114
        clear HB
        have BK114 := n0_
        have HB := n1_
        clear n0_ n1_
        (try clear hb)
        (try clear hb2)
        (try clear hk)
        (try clear hi)
        refine hK.out _ _ ⟨(blk_cell BK114.out 0).trans rfl, (blk_cell BK114.out 1).trans rfl, (blk_cell BK114.out 2).trans rfl, (blk_cell BK114.out 3).trans rfl, (blk_cell BK114.out 4).trans rfl⟩ (fun hHeld => ?_)
        clear hK K
        refine norm_ (a' := ?_) ?_ ?_
        rotate_left
        ·show Act.put _ (some 33) _ = _
         simp only [Act.put, List.setIfInBounds_toArray, List.set_cons_zero, List.set_cons_succ, i64_w, i32_w]
         rfl
        refine pure_ (i := 6) (N := some 34) (v := ?_) (a' := ?_) #[true, true, true, true, true, true, true, false, false] rfl rfl (any_of HT_.out (by kernel_rfl)) (fun _ _ _ h => h) (Or.inl ⟨by rfl, ?_⟩) ?_ ?_
        rotate_left
        ·intro w'
         go_simp
         with_reducible rfl
        rotate_left
        ·simp only [Act.put, List.setIfInBounds_toArray, List.set_cons_zero, List.set_cons_succ, i64_w, i32_w]
         rfl
        refine pure_ (i := 7) (N := some 35) (v := ?_) (a' := ?_) #[true, true, true, true, true, true, true, true, false] rfl rfl (any_of HT_.out (by kernel_rfl)) (fun _ _ _ h => h) (Or.inl ⟨by rfl, ?_⟩) ?_ ?_
        rotate_left
        ·intro w'
         go_simp
         with_reducible rfl
        rotate_left
        ·simp only [Act.put, List.setIfInBounds_toArray, List.set_cons_zero, List.set_cons_succ, i64_w, i32_w]
         rfl
        refine pure_ (i := 8) (N := some 2) (v := ?_) (a' := ?_) #[true, true, true, true, true, true, true, true, true] rfl rfl (any_of HT_.out (by kernel_rfl)) (fun _ _ _ h => h) (Or.inl ⟨by rfl, ?_⟩) ?_ ?_
        rotate_left
        ·intro w'
         go_simp
         with_reducible rfl
        rotate_left
        ·simp only [Act.put, List.setIfInBounds_toArray, List.set_cons_zero, List.set_cons_succ, i64_w, i32_w]
         rfl
        refine done_ (done_of HT_.out (by kernel_rfl)) ?_
        try go_wp2
        go_ret
        exact ⟨by first | rfl | (simp [errW_none, errW_some] <;> rfl) | (simp [*, errW_none, errW_some] <;> rfl), by repeat (first | (with_reducible first | exact HB.out | apply below_alloc | apply pw_below_drewN | apply below_drew1 | refine below_set ?_ GE114.out) | exact HB.out)⟩
       ·rw [if_neg c24] at H
        exact absurd H (by simp)
      ·rw [if_neg c23] at H
       exact absurd H (by simp)
     ·rw [if_neg c21] at H
      exact absurd H (by simp)
    ·rw [if_neg c20] at H
     have c20b0 : (a0_0 == 4) = false := beq_eq_false_iff_ne.mpr c20
     have c20b1 : (a0_0 != 4) = true := bne_iff_ne.mpr c20
     by_cases c29 : a0_0 = 5
     ·rw [if_pos c29] at H
      have c29b0 : (a0_0 == 5) = true := beq_iff_eq.mpr c29
      have c29b1 : (a0_0 != 5) = false := bne_eq_false_iff_eq.mpr c29
      clear c29
      obtain rfl := Option.some.inj H
      go_enter Tryd.func24, Tryd.ntmps24
      go_wp2_with (first | ((with_reducible refine gate_dst (N := 1) rfl ?_); refine box_event ?hg (N := 1) ?hd (cs := #[.int .i64 a0_0, .int .i64 a0_1, .int .u32 a0_2, .string a0_3, .slice A0_4 l0_4.length c0_4]) (t := 36) ?hr ?_; (case hd => rfl); (case hg => rfl); (case hr => first | (go_simp; done) | (go_simp; rfl)); intro gb114 hg w30 hbox hb; have n0_ := Aside0.mk (below_step (by repeat (first | (with_reducible first | exact HB.out | apply below_alloc | apply pw_below_drewN | apply below_drew1) | exact HB.out)) hb); have n1_ := Aside0.mk (hbox); have n2_ := Aside0.mk ((by rw [hg]; exact (below_size (by repeat (first | (with_reducible first | exact HB.out | apply below_alloc | apply pw_below_drewN | apply below_drew1) | exact HB.out))) : w.heap.size ≤ gb114)); have n3_ := Aside0.mk ((by rw [hg]; exact (below_size (by repeat (first | (with_reducible first | exact HB.out | apply below_alloc | apply pw_below_drewN | apply below_drew1) | exact HB.out))) : w.heap.size ≤ gb114)); clear HB; have HB := n0_; have BK114 := n1_; have GW114 := n2_; have GE114 := n3_; clear n0_ n1_ n2_ n3_; clear hb hbox hg; have hcz31_0 : w30.cell? ⟨gb114, 0, none⟩ = some (.int .i64 a0_0) := (blk_cell BK114.out 0).trans rfl; have hcz31_1 : w30.cell? ⟨gb114, 1, none⟩ = some (.int .i64 a0_1) := (blk_cell BK114.out 1).trans rfl; have hcz31_2 : w30.cell? ⟨gb114, 2, none⟩ = some (.int .u32 a0_2) := (blk_cell BK114.out 2).trans rfl; have hcz31_3 : w30.cell? ⟨gb114, 3, none⟩ = some (.string a0_3) := (blk_cell BK114.out 3).trans rfl; have hcz31_4 : w30.cell? ⟨gb114, 4, none⟩ = some (.slice A0_4 l0_4.length c0_4) := (blk_cell BK114.out 4).trans rfl; have hfz31_0 := blk_frozen BK114.out 0; have hfz31_1 := blk_frozen BK114.out 1; have hfz31_2 := blk_frozen BK114.out 2; have hfz31_3 := blk_frozen BK114.out 3; have hfz31_4 := blk_frozen BK114.out 4))
      go_ret
      exact ⟨by first | rfl | (simp [errW_none, errW_some] <;> rfl) | (simp [*, errW_none, errW_some] <;> rfl), by repeat (first | (with_reducible first | exact HB.out | apply below_alloc | apply pw_below_drewN | apply below_drew1 | refine below_set ?_ GE114.out) | exact HB.out)⟩
     ·rw [if_neg c29] at H
      have c29b0 : (a0_0 == 5) = false := beq_eq_false_iff_ne.mpr c29
      have c29b1 : (a0_0 != 5) = true := bne_iff_ne.mpr c29
      by_cases c32 : a0_0 = 6
      ·rw [if_pos c32] at H
       have c32b0 : (a0_0 == 6) = true := beq_iff_eq.mpr c32
       have c32b1 : (a0_0 != 6) = false := bne_eq_false_iff_eq.mpr c32
       clear c32
       obtain ⟨ji33, hji33⟩ : ∃ j_ : Int, (wrap64 (a0_1 - 4)) = j_ := ⟨_, rfl⟩
       replace H : (if 0 ≤ (ji33) then (if (ji33) < 12 then ((syntax_two.f k a0_0 a0_1 a0_2 a0_3 l0_4 (rdOf ByteArray.empty Ext.signsL (ji33))).bind fun t120 => (some t120)) else (none)) else (none)) = some r := by first | (rw [hji33] at H; exact H) | (simp only [hji33] at H ⊢; exact H)
       have hji33w : (IntKind.i64.wrap (a0_1 - 4)) = ji33 := (i64_w _).trans hji33
       by_cases c34 : 0 ≤ (ji33)
       ·rw [if_pos c34] at H
        have c34b0 : decide (0 ≤ (ji33)) = true := decide_eq_true c34
        clear c34
        by_cases c35 : (ji33) < 12
        ·rw [if_pos c35] at H
         have c35b0 : decide ((ji33) < 12) = true := decide_eq_true c35
         clear c35
         replace H := Option.bind_eq_some_iff.mp H
         obtain ⟨t120, A360, H⟩ := H
         replace H : (some t120) = some r := H
         have A36 := Aside0.mk A360
         clear A360
         obtain rfl := Option.some.inj H
         go_enter Tryd.func24, Tryd.ntmps24
         try go_wp2_with (first | ((with_reducible refine gate_dst (N := 1) rfl ?_); refine box_event ?hg (N := 1) ?hd (cs := #[.int .i64 a0_0, .int .i64 a0_1, .int .u32 a0_2, .string a0_3, .slice A0_4 l0_4.length c0_4]) (t := 36) ?hr ?_; (case hd => rfl); (case hg => rfl); (case hr => first | (go_simp; done) | (go_simp; rfl)); intro gb114 hg w37 hbox hb; have n0_ := Aside0.mk (below_step (by repeat (first | (with_reducible first | exact HB.out | apply below_alloc | apply pw_below_drewN | apply below_drew1) | exact HB.out)) hb); have n1_ := Aside0.mk (hbox); have n2_ := Aside0.mk ((by rw [hg]; exact (below_size (by repeat (first | (with_reducible first | exact HB.out | apply below_alloc | apply pw_below_drewN | apply below_drew1) | exact HB.out))) : w.heap.size ≤ gb114)); have n3_ := Aside0.mk ((by rw [hg]; exact (below_size (by repeat (first | (with_reducible first | exact HB.out | apply below_alloc | apply pw_below_drewN | apply below_drew1) | exact HB.out))) : w.heap.size ≤ gb114)); clear HB; have HB := n0_; have BK114 := n1_; have GW114 := n2_; have GE114 := n3_; clear n0_ n1_ n2_ n3_; clear hb hbox hg; have hcz38_0 : w37.cell? ⟨gb114, 0, none⟩ = some (.int .i64 a0_0) := (blk_cell BK114.out 0).trans rfl; have hcz38_1 : w37.cell? ⟨gb114, 1, none⟩ = some (.int .i64 a0_1) := (blk_cell BK114.out 1).trans rfl; have hcz38_2 : w37.cell? ⟨gb114, 2, none⟩ = some (.int .u32 a0_2) := (blk_cell BK114.out 2).trans rfl; have hcz38_3 : w37.cell? ⟨gb114, 3, none⟩ = some (.string a0_3) := (blk_cell BK114.out 3).trans rfl; have hcz38_4 : w37.cell? ⟨gb114, 4, none⟩ = some (.slice A0_4 l0_4.length c0_4) := (blk_cell BK114.out 4).trans rfl; have hfz38_0 := blk_frozen BK114.out 0; have hfz38_1 := blk_frozen BK114.out 1; have hfz38_2 := blk_frozen BK114.out 2; have hfz38_3 := blk_frozen BK114.out 3; have hfz38_4 := blk_frozen BK114.out 4))
         have n0_ := Aside0.mk (blk_drew BK114.out)
         have n1_ := Aside0.mk (below_drew1 HB.out)
         clear BK114
         clear HB
         have BK114 := n0_
         have HB := n1_
         clear n0_ n1_
         have p119 : 0 ≤ ((ji33) : Int) := of_decide_eq_true (by first | (with_reducible assumption) | assumption)
         have q119 : (ji33) < (Ext.signsL.length : Int) := (by have h_ : ((ji33) : Int) < (12 : Int) := of_decide_eq_true (by first | (with_reducible assumption) | assumption); exact h_)
         obtain ⟨ad119, e119, hx119_0⟩ := Kd.at_string HRg0.out (ji33) p119 q119
         have qh119 := 0
         have qg119 : ((ji33) < (12 : Int)) = True := eq_true (of_decide_eq_true (by first | (with_reducible assumption) | assumption))
         obtain rfl : (⟨0, 0, none⟩ : Addr) = ad119 := (by injection e119)
         (first | simp only [add_plain] at hx119_0 | simp only [add_at] at hx119_0 | simp only [Addr.add, Nat.zero_add] at hx119_0 | skip)
         have hw119_0 := hx119_0
         replace hx119_0 := (HB.out.cell (World.block_lt_of_cell? w _ hx119_0)).trans hx119_0
         replace p119 := eq_true p119
         replace q119 := eq_true q119
         refine start_ (n := 8) (S := fun w' => w'.cell? ⟨gb114, 0, none⟩ = some (.int .i64 a0_0) ∧ w'.cell? ⟨gb114, 1, none⟩ = some (.int .i64 a0_1) ∧ w'.cell? ⟨gb114, 2, none⟩ = some (.int .u32 a0_2) ∧ w'.cell? ⟨gb114, 3, none⟩ = some (.string a0_3) ∧ w'.cell? ⟨gb114, 4, none⟩ = some (.slice A0_4 l0_4.length c0_4) ∧ w'.cell? ⟨0, ((ji33)).toNat, none⟩ = some (.string (rdOf ByteArray.empty Ext.signsL (ji33)))) (ds := []) #[false, false, false, false, false, false, false, false] (by kernel_rfl) rfl rfl ⟨(blk_cell BK114.out 0).trans rfl, (blk_cell BK114.out 1).trans rfl, (blk_cell BK114.out 2).trans rfl, (blk_cell BK114.out 3).trans rfl, (blk_cell BK114.out 4).trans rfl, ((HB.out.cell (World.block_lt_of_cell? w _ hw119_0)).trans hw119_0)⟩ (fun hHeld => ?_); refine with_tabW syntax_Expr.tab13 syntax_Expr.bits13 (fun HT_ HW_ => ?_)
         generalize w37.drew = w39 at BK114 HB hx119_0 hHeld ⊢
         refine pure_ (i := 1) (N := some 41) (v := ?_) (a' := ?_) #[false, true, false, false, false, false, false, false] rfl rfl (any_of HT_.out (by kernel_rfl)) (fun _ _ _ h => h) (Or.inl ⟨by rfl, ?_⟩) ?_ ?_
         rotate_left
         ·intro w'
          go_simp
          with_reducible rfl
         rotate_left
         ·simp only [Act.put, List.setIfInBounds_toArray, List.set_cons_zero, List.set_cons_succ, i64_w, i32_w]
          rfl
         refine take_ (i := 0) (N := some 40) (v := ?_) (a' := ?_) #[true, true, false, false, false, false, false, false] rfl rfl (take_ofW HT_.out HW_.out (by kernel_rfl)) (fun _ _ _ h => h) (Or.inl ⟨by rfl, ?_⟩) hHeld ?_ ?_
         rotate_left
         ·rintro w' ⟨s0, s1, s2, s3, s4, s5⟩
          go_simp
          with_reducible rfl
         rotate_left
         ·simp only [Act.put, List.setIfInBounds_toArray, List.set_cons_zero, List.set_cons_succ, i64_w, i32_w]
          rfl
         refine take_ (i := 2) (N := some 42) (v := ?_) (a' := ?_) #[true, true, true, false, false, false, false, false] rfl rfl (take_ofW HT_.out HW_.out (by kernel_rfl)) (fun _ _ _ h => h) (Or.inl ⟨by rfl, ?_⟩) hHeld ?_ ?_
         rotate_left
         ·rintro w' ⟨s0, s1, s2, s3, s4, s5⟩
          go_simp
          with_reducible rfl
         rotate_left
         ·simp only [Act.put, List.setIfInBounds_toArray, List.set_cons_zero, List.set_cons_succ, i64_w, i32_w]
          rfl
         refine pure_ (i := 3) (N := some 43) (v := ?_) (a' := ?_) #[true, true, true, true, false, false, false, false] rfl rfl (any_of HT_.out (by kernel_rfl)) (fun _ _ _ h => h) (Or.inl ⟨by rfl, ?_⟩) ?_ ?_
         rotate_left
         ·intro w'
          go_simp
          with_reducible rfl
         rotate_left
         ·simp only [Act.put, List.setIfInBounds_toArray, List.set_cons_zero, List.set_cons_succ, i64_w, i32_w]
          rfl
         refine pure_ (i := 4) (N := some 44) (v := ?_) (a' := ?_) #[true, true, true, true, true, false, false, false] rfl rfl (any_of HT_.out (by kernel_rfl)) (fun _ _ _ h => h) (Or.inl ⟨by rfl, ?_⟩) ?_ ?_
         rotate_left
         ·intro w'
          go_simp
          with_reducible rfl
         rotate_left
         ·simp only [Act.put, List.setIfInBounds_toArray, List.set_cons_zero, List.set_cons_succ, i64_w, i32_w]
          rfl
         refine take_ (i := 5) (N := some 45) (v := ?_) (a' := ?_) #[true, true, true, true, true, true, false, false] rfl rfl (take_ofW HT_.out HW_.out (by kernel_rfl)) (fun _ _ _ h => h) (Or.inl ⟨by rfl, ?_⟩) hHeld ?_ ?_
         rotate_left
         ·rintro w' ⟨s0, s1, s2, s3, s4, s5⟩
          go_simp
          with_reducible rfl
         rotate_left
         ·simp only [Act.put, List.setIfInBounds_toArray, List.set_cons_zero, List.set_cons_succ, i64_w, i32_w]
          rfl
         refine one_ (i := 6) (N := some 46) #[true, true, true, true, true, true, true, false] rfl rfl (one_of HT_.out (by kernel_rfl)) (by decide) (fun K hK => ?_)
         refine goes_ Tryd.func54 (by kernel_rfl) rfl #[.agg #[.int .i64 a0_0, .int .i64 a0_1, .int .u32 a0_2, .string a0_3, .slice A0_4 l0_4.length c0_4], .string (rdOf ByteArray.empty Ext.signsL (ji33))] (by rfl) rfl rfl (by (try simp only [List.map_toArray, List.map_cons, List.map_nil]); first | done | (simp only [hji33]; rfl) | rfl | (simp only [List.length_drop, List.length_take]; rfl)) ?_
         with_reducible refine (ih_syntax_two k (by omega) a0_0 a0_1 a0_2 a0_3 _ _ l0_4 (rdOf ByteArray.empty Ext.signsL (ji33)) t120 _ ?side1 ?side2 ?side3 A36.out).mono ?_
         (case side1 => exact Go.Proofs.YthnhdompfhkepaaDoor.Ext.TAB.below HT.out (by repeat (first | (with_reducible first | exact HB.out | apply below_alloc | apply pw_below_drewN | apply below_drew1 | refine below_set ?_ GE114.out) | exact HB.out)))
         (case side2 => repeat (first | exact (Kd.C_below HR0_4.out HB.out) | (with_reducible refine Kd.C_alloc ?_ _) | (with_reducible refine Kd.C_drewN ?_ _) | (with_reducible refine Kd.C_drew ?_)))
         (case side3 => exact HC0_4.out)
         rintro e w40 ⟨rfl, hb⟩
         refine ⟨_, rfl, ?_⟩
         have n0_ := Aside0.mk (blk_below (g := gb114) (o := .cells #[.int .i64 a0_0, .int .i64 a0_1, .int .u32 a0_2, .string a0_3, .slice A0_4 l0_4.length c0_4] 36 (0, 0)) (by (with_reducible repeat (first | refine blk_drewN ?_ _ | refine blk_drew ?_ | refine blk_alloc ?_ _)); exact BK114.out) hb)
         have n1_ := Aside0.mk (below_step (by repeat (first | (with_reducible first | exact HB.out | apply below_alloc | apply pw_below_drewN | apply below_drew1 | refine below_set ?_ GE114.out) | exact HB.out)) hb)
         clear BK114
         clear HB
         have BK114 := n0_
         have HB := n1_
         clear n0_ n1_
         (try clear hb)
         (try clear hb2)
         (try clear hk)
         (try clear hi)
         refine hK.out _ _ ⟨(blk_cell BK114.out 0).trans rfl, (blk_cell BK114.out 1).trans rfl, (blk_cell BK114.out 2).trans rfl, (blk_cell BK114.out 3).trans rfl, (blk_cell BK114.out 4).trans rfl, ((HB.out.cell (World.block_lt_of_cell? w _ hw119_0)).trans hw119_0)⟩ (fun hHeld => ?_)
         clear hK K
         refine norm_ (a' := ?_) ?_ ?_
         rotate_left
         ·show Act.put _ (some 46) _ = _
          simp only [Act.put, List.setIfInBounds_toArray, List.set_cons_zero, List.set_cons_succ, i64_w, i32_w]
          rfl
         refine pure_ (i := 7) (N := some 2) (v := ?_) (a' := ?_) #[true, true, true, true, true, true, true, true] rfl rfl (any_of HT_.out (by kernel_rfl)) (fun _ _ _ h => h) (Or.inl ⟨by rfl, ?_⟩) ?_ ?_
         rotate_left
         ·intro w'
          go_simp
          with_reducible rfl
         rotate_left
         ·simp only [Act.put, List.setIfInBounds_toArray, List.set_cons_zero, List.set_cons_succ, i64_w, i32_w]
          rfl
         refine done_ (done_of HT_.out (by kernel_rfl)) ?_
         try go_wp2
         go_ret
         exact ⟨by first | rfl | (simp [errW_none, errW_some] <;> rfl) | (simp only [← hji33]; first | rfl | (simp [errW_none, errW_some] <;> rfl)) | (simp [*, errW_none, errW_some] <;> rfl), by repeat (first | (with_reducible first | exact HB.out | apply below_alloc | apply pw_below_drewN | apply below_drew1 | refine below_set ?_ GE114.out) | exact HB.out)⟩
        ·rw [if_neg c35] at H
         exact absurd H (by simp)
       ·rw [if_neg c34] at H
        exact absurd H (by simp)
      ·rw [if_neg c32] at H
       have c32b0 : (a0_0 == 6) = false := beq_eq_false_iff_ne.mpr c32
       have c32b1 : (a0_0 != 6) = true := bne_iff_ne.mpr c32
       by_cases c41 : a0_0 = 7
       ·rw [if_pos c41] at H
        have c41b0 : (a0_0 == 7) = true := beq_iff_eq.mpr c41
        have c41b1 : (a0_0 != 7) = false := bne_eq_false_iff_eq.mpr c41
        clear c41
        by_cases c42 : 0 < (l0_4.length : Int)
        ·rw [if_pos c42] at H
         have c42b0 : decide (0 < (l0_4.length : Int)) = true := decide_eq_true c42
         have c42b1 : decide (0 < l0_4.length) = true := decide_eq_true (by omega)
         clear c42
         replace H := Option.bind_eq_some_iff.mp H
         obtain ⟨t122, A430, H⟩ := H
         replace H : (if 1 + t122.size ≤ 9223372036854775807 then (some ((⟨#[33]⟩ : ByteArray) ++ t122)) else (none)) = some r := H
         have A43 := Aside0.mk A430
         clear A430
         by_cases c44 : 1 + t122.size ≤ 9223372036854775807
         ·rw [if_pos c44] at H
          have c44b0 := eq_true c44
          have c44b1 : decide (1 + t122.size ≤ 9223372036854775807) = true := decide_eq_true c44
          try have c44b2 : (9223372036854775807 < 1 + t122.size) = False := eq_false (Nat.not_lt.2 c44)
          obtain rfl := Option.some.inj H
          go_enter Tryd.func24, Tryd.ntmps24
          go_wp2_with (first | ((with_reducible refine gate_dst (N := 1) rfl ?_); refine box_event ?hg (N := 1) ?hd (cs := #[.int .i64 a0_0, .int .i64 a0_1, .int .u32 a0_2, .string a0_3, .slice A0_4 l0_4.length c0_4]) (t := 36) ?hr ?_; (case hd => rfl); (case hg => rfl); (case hr => first | (go_simp; done) | (go_simp; rfl)); intro gb114 hg w45 hbox hb; have n0_ := Aside0.mk (below_step (by repeat (first | (with_reducible first | exact HB.out | apply below_alloc | apply pw_below_drewN | apply below_drew1) | exact HB.out)) hb); have n1_ := Aside0.mk (hbox); have n2_ := Aside0.mk ((by rw [hg]; exact (below_size (by repeat (first | (with_reducible first | exact HB.out | apply below_alloc | apply pw_below_drewN | apply below_drew1) | exact HB.out))) : w.heap.size ≤ gb114)); have n3_ := Aside0.mk ((by rw [hg]; exact (below_size (by repeat (first | (with_reducible first | exact HB.out | apply below_alloc | apply pw_below_drewN | apply below_drew1) | exact HB.out))) : w.heap.size ≤ gb114)); clear HB; have HB := n0_; have BK114 := n1_; have GW114 := n2_; have GE114 := n3_; clear n0_ n1_ n2_ n3_; clear hb hbox hg; have hcz46_0 : w45.cell? ⟨gb114, 0, none⟩ = some (.int .i64 a0_0) := (blk_cell BK114.out 0).trans rfl; have hcz46_1 : w45.cell? ⟨gb114, 1, none⟩ = some (.int .i64 a0_1) := (blk_cell BK114.out 1).trans rfl; have hcz46_2 : w45.cell? ⟨gb114, 2, none⟩ = some (.int .u32 a0_2) := (blk_cell BK114.out 2).trans rfl; have hcz46_3 : w45.cell? ⟨gb114, 3, none⟩ = some (.string a0_3) := (blk_cell BK114.out 3).trans rfl; have hcz46_4 : w45.cell? ⟨gb114, 4, none⟩ = some (.slice A0_4 l0_4.length c0_4) := (blk_cell BK114.out 4).trans rfl; have hfz46_0 := blk_frozen BK114.out 0; have hfz46_1 := blk_frozen BK114.out 1; have hfz46_2 := blk_frozen BK114.out 2; have hfz46_3 := blk_frozen BK114.out 3; have hfz46_4 := blk_frozen BK114.out 4; have p121 : 0 ≤ (0 : Int) := (by omega); have q121 : 0 < (l0_4.length : Int) := of_decide_eq_true (by first | (with_reducible assumption) | assumption); obtain ⟨ad121, A121_4, c121_4, e121, hx121_0, hx121_1, hx121_2, hx121_3, hx121_4, hl121_4, hi121_4⟩ := at_T36 HR0_4.out 0 p121 q121; cases e121; have qi121 : (0 < l0_4.length) = True := eq_true (by omega); (try rw [show ((0 : Int)).toNat = 0 from rfl] at hx121_0); (try rw [show 0 * 5 = 0 from rfl] at hx121_0); (try rw [Addr.add_zero'] at hx121_0); (try rw [show ((0 : Int)).toNat = 0 from rfl] at hx121_1); (try rw [show 0 * 5 = 0 from rfl] at hx121_1); (try rw [Addr.add_zero'] at hx121_1); (try rw [show ((0 : Int)).toNat = 0 from rfl] at hx121_2); (try rw [show 0 * 5 = 0 from rfl] at hx121_2); (try rw [Addr.add_zero'] at hx121_2); (try rw [show ((0 : Int)).toNat = 0 from rfl] at hx121_3); (try rw [show 0 * 5 = 0 from rfl] at hx121_3); (try rw [Addr.add_zero'] at hx121_3); (try rw [show ((0 : Int)).toNat = 0 from rfl] at hx121_4); (try rw [show 0 * 5 = 0 from rfl] at hx121_4); (try rw [Addr.add_zero'] at hx121_4); replace hx121_0 := (HB.out.cell (World.block_lt_of_cell? w _ hx121_0)).trans hx121_0; replace hx121_1 := (HB.out.cell (World.block_lt_of_cell? w _ hx121_1)).trans hx121_1; replace hx121_2 := (HB.out.cell (World.block_lt_of_cell? w _ hx121_2)).trans hx121_2; replace hx121_3 := (HB.out.cell (World.block_lt_of_cell? w _ hx121_3)).trans hx121_3; replace hx121_4 := (HB.out.cell (World.block_lt_of_cell? w _ hx121_4)).trans hx121_4; have HR121_4 := Aside0.mk hi121_4; have HC121_4 := Aside0.mk hl121_4; clear hi121_4 hl121_4; replace p121 := eq_true p121; replace q121 := eq_true q121) | ((with_reducible refine gate_callee (f := 24) rfl ?_); refine goesL_ (some 53) rfl rfl Tryd.func24 (by kernel_rfl) rfl #[.agg #[.int .i64 ((rd_T36 l0_4 0).f0), .int .i64 ((rd_T36 l0_4 0).f1), .int .u32 ((rd_T36 l0_4 0).f2), .string ((rd_T36 l0_4 0).f3), .slice A121_4 ((rd_T36 l0_4 0).f4).length c121_4]] rfl (by (try simp only [List.map_toArray, List.map_cons, List.map_nil]); first | done | rfl | (simp only [List.length_drop, List.length_take]; rfl)) ?_; (with_reducible refine (ih_syntax_Expr k (by omega) ((rd_T36 l0_4 0).f0) ((rd_T36 l0_4 0).f1) ((rd_T36 l0_4 0).f2) ((rd_T36 l0_4 0).f3) _ _ ((rd_T36 l0_4 0).f4) t122 _ ?side1 ?side2 ?side3 A43.out).mono ?_); (case side1 => exact Go.Proofs.YthnhdompfhkepaaDoor.Ext.TAB.below HT.out (by repeat (first | (with_reducible first | exact HB.out | apply below_alloc | apply pw_below_drewN | apply below_drew1 | refine below_set ?_ GE114.out) | exact HB.out))); (case side2 => repeat (first | exact (Kd.C_below HR121_4.out HB.out) | (with_reducible refine Kd.C_alloc ?_ _) | (with_reducible refine Kd.C_drewN ?_ _) | (with_reducible refine Kd.C_drew ?_))); (case side3 => exact HC121_4.out); rintro e w47 ⟨rfl, hb⟩; refine ⟨_, rfl, ?_⟩; have n0_ := Aside0.mk (blk_below (g := gb114) (o := .cells #[.int .i64 a0_0, .int .i64 a0_1, .int .u32 a0_2, .string a0_3, .slice (some ad121) l0_4.length c0_4] 36 (0, 0)) (by (with_reducible repeat (first | refine blk_drewN ?_ _ | refine blk_drew ?_ | refine blk_alloc ?_ _)); exact BK114.out) hb); have n1_ := Aside0.mk (below_step (by repeat (first | (with_reducible first | exact HB.out | apply below_alloc | apply pw_below_drewN | apply below_drew1 | refine below_set ?_ GE114.out) | exact HB.out)) hb); clear BK114; clear HB; have BK114 := n0_; have HB := n1_; clear n0_ n1_; (try clear hb); (try clear hb2); (try clear hk); (try clear hi)))
          go_ret
          exact ⟨by first | rfl | (simp [errW_none, errW_some] <;> rfl) | (simp [*, errW_none, errW_some] <;> rfl), by repeat (first | (with_reducible first | exact HB.out | apply below_alloc | apply pw_below_drewN | apply below_drew1 | refine below_set ?_ GE114.out) | exact HB.out)⟩
         ·rw [if_neg c44] at H
          exact absurd H (by simp)
        ·rw [if_neg c42] at H
         exact absurd H (by simp)
       ·rw [if_neg c41] at H
        have c41b0 : (a0_0 == 7) = false := beq_eq_false_iff_ne.mpr c41
        have c41b1 : (a0_0 != 7) = true := bne_iff_ne.mpr c41
        by_cases c48 : a0_0 = 8
        ·rw [if_pos c48] at H
         have c48b0 : (a0_0 == 8) = true := beq_iff_eq.mpr c48
         have c48b1 : (a0_0 != 8) = false := bne_eq_false_iff_eq.mpr c48
         clear c48
         replace H := Option.bind_eq_some_iff.mp H
         obtain ⟨t123, A490, H⟩ := H
         replace H : (some t123) = some r := H
         have A49 := Aside0.mk A490
         clear A490
         obtain rfl := Option.some.inj H
         go_enter Tryd.func24, Tryd.ntmps24
         go_wp2_with (first | ((with_reducible refine gate_dst (N := 1) rfl ?_); refine box_event ?hg (N := 1) ?hd (cs := #[.int .i64 a0_0, .int .i64 a0_1, .int .u32 a0_2, .string a0_3, .slice A0_4 l0_4.length c0_4]) (t := 36) ?hr ?_; (case hd => rfl); (case hg => rfl); (case hr => first | (go_simp; done) | (go_simp; rfl)); intro gb114 hg w50 hbox hb; have n0_ := Aside0.mk (below_step (by repeat (first | (with_reducible first | exact HB.out | apply below_alloc | apply pw_below_drewN | apply below_drew1) | exact HB.out)) hb); have n1_ := Aside0.mk (hbox); have n2_ := Aside0.mk ((by rw [hg]; exact (below_size (by repeat (first | (with_reducible first | exact HB.out | apply below_alloc | apply pw_below_drewN | apply below_drew1) | exact HB.out))) : w.heap.size ≤ gb114)); have n3_ := Aside0.mk ((by rw [hg]; exact (below_size (by repeat (first | (with_reducible first | exact HB.out | apply below_alloc | apply pw_below_drewN | apply below_drew1) | exact HB.out))) : w.heap.size ≤ gb114)); clear HB; have HB := n0_; have BK114 := n1_; have GW114 := n2_; have GE114 := n3_; clear n0_ n1_ n2_ n3_; clear hb hbox hg; have hcz51_0 : w50.cell? ⟨gb114, 0, none⟩ = some (.int .i64 a0_0) := (blk_cell BK114.out 0).trans rfl; have hcz51_1 : w50.cell? ⟨gb114, 1, none⟩ = some (.int .i64 a0_1) := (blk_cell BK114.out 1).trans rfl; have hcz51_2 : w50.cell? ⟨gb114, 2, none⟩ = some (.int .u32 a0_2) := (blk_cell BK114.out 2).trans rfl; have hcz51_3 : w50.cell? ⟨gb114, 3, none⟩ = some (.string a0_3) := (blk_cell BK114.out 3).trans rfl; have hcz51_4 : w50.cell? ⟨gb114, 4, none⟩ = some (.slice A0_4 l0_4.length c0_4) := (blk_cell BK114.out 4).trans rfl; have hfz51_0 := blk_frozen BK114.out 0; have hfz51_1 := blk_frozen BK114.out 1; have hfz51_2 := blk_frozen BK114.out 2; have hfz51_3 := blk_frozen BK114.out 3; have hfz51_4 := blk_frozen BK114.out 4) | ((with_reducible refine gate_callee (f := 54) rfl ?_); refine goesL_ (some 58) rfl rfl Tryd.func54 (by kernel_rfl) rfl #[.agg #[.int .i64 a0_0, .int .i64 a0_1, .int .u32 a0_2, .string a0_3, .slice A0_4 l0_4.length c0_4], .string (⟨#[38, 38]⟩ : ByteArray)] rfl (by (try simp only [List.map_toArray, List.map_cons, List.map_nil]); first | done | rfl | (simp only [List.length_drop, List.length_take]; rfl)) ?_; (with_reducible refine (ih_syntax_two k (by omega) a0_0 a0_1 a0_2 a0_3 _ _ l0_4 (⟨#[38, 38]⟩ : ByteArray) t123 _ ?side1 ?side2 ?side3 A49.out).mono ?_); (case side1 => exact Go.Proofs.YthnhdompfhkepaaDoor.Ext.TAB.below HT.out (by repeat (first | (with_reducible first | exact HB.out | apply below_alloc | apply pw_below_drewN | apply below_drew1 | refine below_set ?_ GE114.out) | exact HB.out))); (case side2 => repeat (first | exact (Kd.C_below HR0_4.out HB.out) | (with_reducible refine Kd.C_alloc ?_ _) | (with_reducible refine Kd.C_drewN ?_ _) | (with_reducible refine Kd.C_drew ?_))); (case side3 => exact HC0_4.out); rintro e w52 ⟨rfl, hb⟩; refine ⟨_, rfl, ?_⟩; have n0_ := Aside0.mk (blk_below (g := gb114) (o := .cells #[.int .i64 a0_0, .int .i64 a0_1, .int .u32 a0_2, .string a0_3, .slice A0_4 l0_4.length c0_4] 36 (0, 0)) (by (with_reducible repeat (first | refine blk_drewN ?_ _ | refine blk_drew ?_ | refine blk_alloc ?_ _)); exact BK114.out) hb); have n1_ := Aside0.mk (below_step (by repeat (first | (with_reducible first | exact HB.out | apply below_alloc | apply pw_below_drewN | apply below_drew1 | refine below_set ?_ GE114.out) | exact HB.out)) hb); clear BK114; clear HB; have BK114 := n0_; have HB := n1_; clear n0_ n1_; (try clear hb); (try clear hb2); (try clear hk); (try clear hi)))
         go_ret
         exact ⟨by first | rfl | (simp [errW_none, errW_some] <;> rfl) | (simp [*, errW_none, errW_some] <;> rfl), by repeat (first | (with_reducible first | exact HB.out | apply below_alloc | apply pw_below_drewN | apply below_drew1 | refine below_set ?_ GE114.out) | exact HB.out)⟩
        ·rw [if_neg c48] at H
         have c48b0 : (a0_0 == 8) = false := beq_eq_false_iff_ne.mpr c48
         have c48b1 : (a0_0 != 8) = true := bne_iff_ne.mpr c48
         replace H := Option.bind_eq_some_iff.mp H
         obtain ⟨t124, A530, H⟩ := H
         replace H : (some t124) = some r := H
         have A53 := Aside0.mk A530
         clear A530
         obtain rfl := Option.some.inj H
         go_enter Tryd.func24, Tryd.ntmps24
         go_wp2_with (first | ((with_reducible refine gate_dst (N := 1) rfl ?_); refine box_event ?hg (N := 1) ?hd (cs := #[.int .i64 a0_0, .int .i64 a0_1, .int .u32 a0_2, .string a0_3, .slice A0_4 l0_4.length c0_4]) (t := 36) ?hr ?_; (case hd => rfl); (case hg => rfl); (case hr => first | (go_simp; done) | (go_simp; rfl)); intro gb114 hg w54 hbox hb; have n0_ := Aside0.mk (below_step (by repeat (first | (with_reducible first | exact HB.out | apply below_alloc | apply pw_below_drewN | apply below_drew1) | exact HB.out)) hb); have n1_ := Aside0.mk (hbox); have n2_ := Aside0.mk ((by rw [hg]; exact (below_size (by repeat (first | (with_reducible first | exact HB.out | apply below_alloc | apply pw_below_drewN | apply below_drew1) | exact HB.out))) : w.heap.size ≤ gb114)); have n3_ := Aside0.mk ((by rw [hg]; exact (below_size (by repeat (first | (with_reducible first | exact HB.out | apply below_alloc | apply pw_below_drewN | apply below_drew1) | exact HB.out))) : w.heap.size ≤ gb114)); clear HB; have HB := n0_; have BK114 := n1_; have GW114 := n2_; have GE114 := n3_; clear n0_ n1_ n2_ n3_; clear hb hbox hg; have hcz55_0 : w54.cell? ⟨gb114, 0, none⟩ = some (.int .i64 a0_0) := (blk_cell BK114.out 0).trans rfl; have hcz55_1 : w54.cell? ⟨gb114, 1, none⟩ = some (.int .i64 a0_1) := (blk_cell BK114.out 1).trans rfl; have hcz55_2 : w54.cell? ⟨gb114, 2, none⟩ = some (.int .u32 a0_2) := (blk_cell BK114.out 2).trans rfl; have hcz55_3 : w54.cell? ⟨gb114, 3, none⟩ = some (.string a0_3) := (blk_cell BK114.out 3).trans rfl; have hcz55_4 : w54.cell? ⟨gb114, 4, none⟩ = some (.slice A0_4 l0_4.length c0_4) := (blk_cell BK114.out 4).trans rfl; have hfz55_0 := blk_frozen BK114.out 0; have hfz55_1 := blk_frozen BK114.out 1; have hfz55_2 := blk_frozen BK114.out 2; have hfz55_3 := blk_frozen BK114.out 3; have hfz55_4 := blk_frozen BK114.out 4) | ((with_reducible refine gate_callee (f := 54) rfl ?_); refine goesL_ (some 60) rfl rfl Tryd.func54 (by kernel_rfl) rfl #[.agg #[.int .i64 a0_0, .int .i64 a0_1, .int .u32 a0_2, .string a0_3, .slice A0_4 l0_4.length c0_4], .string (⟨#[124, 124]⟩ : ByteArray)] rfl (by (try simp only [List.map_toArray, List.map_cons, List.map_nil]); first | done | rfl | (simp only [List.length_drop, List.length_take]; rfl)) ?_; (with_reducible refine (ih_syntax_two k (by omega) a0_0 a0_1 a0_2 a0_3 _ _ l0_4 (⟨#[124, 124]⟩ : ByteArray) t124 _ ?side1 ?side2 ?side3 A53.out).mono ?_); (case side1 => exact Go.Proofs.YthnhdompfhkepaaDoor.Ext.TAB.below HT.out (by repeat (first | (with_reducible first | exact HB.out | apply below_alloc | apply pw_below_drewN | apply below_drew1 | refine below_set ?_ GE114.out) | exact HB.out))); (case side2 => repeat (first | exact (Kd.C_below HR0_4.out HB.out) | (with_reducible refine Kd.C_alloc ?_ _) | (with_reducible refine Kd.C_drewN ?_ _) | (with_reducible refine Kd.C_drew ?_))); (case side3 => exact HC0_4.out); rintro e w56 ⟨rfl, hb⟩; refine ⟨_, rfl, ?_⟩; have n0_ := Aside0.mk (blk_below (g := gb114) (o := .cells #[.int .i64 a0_0, .int .i64 a0_1, .int .u32 a0_2, .string a0_3, .slice A0_4 l0_4.length c0_4] 36 (0, 0)) (by (with_reducible repeat (first | refine blk_drewN ?_ _ | refine blk_drew ?_ | refine blk_alloc ?_ _)); exact BK114.out) hb); have n1_ := Aside0.mk (below_step (by repeat (first | (with_reducible first | exact HB.out | apply below_alloc | apply pw_below_drewN | apply below_drew1 | refine below_set ?_ GE114.out) | exact HB.out)) hb); clear BK114; clear HB; have BK114 := n0_; have HB := n1_; clear n0_ n1_; (try clear hb); (try clear hb2); (try clear hk); (try clear hi)))
         go_ret
         exact ⟨by first | rfl | (simp [errW_none, errW_some] <;> rfl) | (simp [*, errW_none, errW_some] <;> rfl), by repeat (first | (with_reducible first | exact HB.out | apply below_alloc | apply pw_below_drewN | apply below_drew1 | refine below_set ?_ GE114.out) | exact HB.out)⟩
theorem syntax_args.all_calls (k : Nat) : (∀ (A0 : Option Addr) (c0 : Nat) (l0 : List (S36)) (r : ByteArray) (w : World) (hT : Go.Proofs.YthnhdompfhkepaaDoor.Ext.TAB w) (hr0 : Kd.C k36 w A0 l0.length l0) (hc0 : l0.length ≤ c0) (h : syntax_args.f k l0 = some r), Calls Tryd.prog 53 #[.slice A0 l0.length c0] w fun e w' => e = .returned (.string r) ∧ Below w.heap.size w w') ∧ (∀ (a0_0 : Int) (a0_1 : Int) (a0_2 : Int) (a0_3 : ByteArray) (A0_4 : Option Addr) (c0_4 : Nat) (l0_4 : List (S36)) (a1 : ByteArray) (r : ByteArray) (w : World) (hT : Go.Proofs.YthnhdompfhkepaaDoor.Ext.TAB w) (hr0_4 : Kd.C k36 w A0_4 l0_4.length l0_4) (hc0_4 : l0_4.length ≤ c0_4) (h : syntax_two.f k a0_0 a0_1 a0_2 a0_3 l0_4 a1 = some r), Calls Tryd.prog 54 #[.agg #[.int .i64 a0_0, .int .i64 a0_1, .int .u32 a0_2, .string a0_3, .slice A0_4 l0_4.length c0_4], .string a1] w fun e w' => e = .returned (.string r) ∧ Below w.heap.size w w') ∧ (∀ (a0_0 : Int) (a0_1 : Int) (a0_2 : Int) (a0_3 : ByteArray) (A0_4 : Option Addr) (c0_4 : Nat) (l0_4 : List (S36)) (r : ByteArray) (w : World) (hT : Go.Proofs.YthnhdompfhkepaaDoor.Ext.TAB w) (hr0_4 : Kd.C k36 w A0_4 l0_4.length l0_4) (hc0_4 : l0_4.length ≤ c0_4) (h : syntax_Expr.f k a0_0 a0_1 a0_2 a0_3 l0_4 = some r), Calls Tryd.prog 24 #[.agg #[.int .i64 a0_0, .int .i64 a0_1, .int .u32 a0_2, .string a0_3, .slice A0_4 l0_4.length c0_4]] w fun e w' => e = .returned (.string r) ∧ Below w.heap.size w w') := by
 induction k using Nat.strongRecOn with
 | _ k ih =>
 exact ⟨syntax_args.calls_of k (fun j_ h_ => (ih j_ h_).1) (fun j_ h_ => (ih j_ h_).2.1) (fun j_ h_ => (ih j_ h_).2.2), syntax_two.calls_of k (fun j_ h_ => (ih j_ h_).1) (fun j_ h_ => (ih j_ h_).2.1) (fun j_ h_ => (ih j_ h_).2.2), syntax_Expr.calls_of k (fun j_ h_ => (ih j_ h_).1) (fun j_ h_ => (ih j_ h_).2.1) (fun j_ h_ => (ih j_ h_).2.2)⟩
theorem syntax_args.calls (k : Nat) : ∀ (A0 : Option Addr) (c0 : Nat) (l0 : List (S36)) (r : ByteArray) (w : World) (hT : Go.Proofs.YthnhdompfhkepaaDoor.Ext.TAB w) (hr0 : Kd.C k36 w A0 l0.length l0) (hc0 : l0.length ≤ c0) (h : syntax_args.f k l0 = some r), Calls Tryd.prog 53 #[.slice A0 l0.length c0] w fun e w' => e = .returned (.string r) ∧ Below w.heap.size w w' := (syntax_args.all_calls k).1
theorem syntax_two.calls (k : Nat) : ∀ (a0_0 : Int) (a0_1 : Int) (a0_2 : Int) (a0_3 : ByteArray) (A0_4 : Option Addr) (c0_4 : Nat) (l0_4 : List (S36)) (a1 : ByteArray) (r : ByteArray) (w : World) (hT : Go.Proofs.YthnhdompfhkepaaDoor.Ext.TAB w) (hr0_4 : Kd.C k36 w A0_4 l0_4.length l0_4) (hc0_4 : l0_4.length ≤ c0_4) (h : syntax_two.f k a0_0 a0_1 a0_2 a0_3 l0_4 a1 = some r), Calls Tryd.prog 54 #[.agg #[.int .i64 a0_0, .int .i64 a0_1, .int .u32 a0_2, .string a0_3, .slice A0_4 l0_4.length c0_4], .string a1] w fun e w' => e = .returned (.string r) ∧ Below w.heap.size w w' := (syntax_args.all_calls k).2.1
theorem syntax_Expr.calls (k : Nat) : ∀ (a0_0 : Int) (a0_1 : Int) (a0_2 : Int) (a0_3 : ByteArray) (A0_4 : Option Addr) (c0_4 : Nat) (l0_4 : List (S36)) (r : ByteArray) (w : World) (hT : Go.Proofs.YthnhdompfhkepaaDoor.Ext.TAB w) (hr0_4 : Kd.C k36 w A0_4 l0_4.length l0_4) (hc0_4 : l0_4.length ≤ c0_4) (h : syntax_Expr.f k a0_0 a0_1 a0_2 a0_3 l0_4 = some r), Calls Tryd.prog 24 #[.agg #[.int .i64 a0_0, .int .i64 a0_1, .int .u32 a0_2, .string a0_3, .slice A0_4 l0_4.length c0_4]] w fun e w' => e = .returned (.string r) ∧ Below w.heap.size w w' := (syntax_args.all_calls k).2.2
end Go.Proofs.YthnhdompfhkepaaDoor.Q
