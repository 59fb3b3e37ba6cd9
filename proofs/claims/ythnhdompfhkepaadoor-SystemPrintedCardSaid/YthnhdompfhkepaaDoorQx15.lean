import Derived.Test.YthnhdompfhkepaaDoorQx0
import Derived.Test.YthnhdompfhkepaaDoorQx14
namespace Go.Proofs.YthnhdompfhkepaaDoor.Q
open Go.RowKit Go.Proofs.YthnhdompfhkepaaDoorW.PrintWords Go.Proofs.YthnhdompfhkepaaDoorW.PrintLast Go.Proofs.YthnhdompfhkepaaDoorW.PrintMore
attribute [local go_sem] max2_int min2_int max_two min_two max_three min_three max_four min_four
set_option linter.unusedVariables false
set_option linter.unusedSimpArgs false
mutual
def yargs.l0 : Nat → List ByteArray → List (S36) → Int → Int → Option (ByteArray)
 | 0, _, _, _, _ => none
 | k + 1, x3, x6, x7, x8 => if x8 < x7 then (if 0 ≤ x8 then (if x8 < (x6.length : Int) then ((yExpr.f k ((kn x6 x8).f0) ((kn x6 x8).f1) ((kn x6 x8).f2) ((kn x6 x8).f3) ((kn x6 x8).f4)).bind fun t180 => (if x3.length < 8796093022208 then (yargs.l0 k (x3 ++ [t180]) x6 x7 (wrap64 (x8 + 1))) else (none))) else (none)) else (none)) else ((Ext.strings_Join.f x3 (⟨#[44, 32]⟩ : ByteArray)).bind fun t184 => (some t184))
def yargs.f : Nat → List (S36) → Option (ByteArray)
 | 0, _ => none
 | k + 1, l0 => yargs.l0 k ([] : List ByteArray) l0 (l0.length : Int) 0
def ytwo.f : Nat → Int → Int → Int → ByteArray → List (S36) → ByteArray → Option (ByteArray)
 | 0, _, _, _, _, _, _ => none
 | k + 1, a0_0, a0_1, a0_2, a0_3, l0_4, a1 => if 0 < (l0_4.length : Int) then ((yExpr.f k ((kn l0_4 0).f0) ((kn l0_4 0).f1) ((kn l0_4 0).f2) ((kn l0_4 0).f3) ((kn l0_4 0).f4)).bind fun t187 => (if 1 + t187.size ≤ 9223372036854775807 then (if ((⟨#[40]⟩ : ByteArray) ++ t187).size + 1 ≤ 9223372036854775807 then (if (((⟨#[40]⟩ : ByteArray) ++ t187) ++ (⟨#[32]⟩ : ByteArray)).size + a1.size ≤ 9223372036854775807 then (if ((((⟨#[40]⟩ : ByteArray) ++ t187) ++ (⟨#[32]⟩ : ByteArray)) ++ a1).size + 1 ≤ 9223372036854775807 then (if 1 < (l0_4.length : Int) then ((yExpr.f k ((kn l0_4 1).f0) ((kn l0_4 1).f1) ((kn l0_4 1).f2) ((kn l0_4 1).f3) ((kn l0_4 1).f4)).bind fun t189 => (if (((((⟨#[40]⟩ : ByteArray) ++ t187) ++ (⟨#[32]⟩ : ByteArray)) ++ a1) ++ (⟨#[32]⟩ : ByteArray)).size + t189.size ≤ 9223372036854775807 then (if ((((((⟨#[40]⟩ : ByteArray) ++ t187) ++ (⟨#[32]⟩ : ByteArray)) ++ a1) ++ (⟨#[32]⟩ : ByteArray)) ++ t189).size + 1 ≤ 9223372036854775807 then (some (((((((⟨#[40]⟩ : ByteArray) ++ t187) ++ (⟨#[32]⟩ : ByteArray)) ++ a1) ++ (⟨#[32]⟩ : ByteArray)) ++ t189) ++ (⟨#[41]⟩ : ByteArray))) else (none)) else (none))) else (none)) else (none)) else (none)) else (none)) else (none))) else (none)
def yExpr.f : Nat → Int → Int → Int → ByteArray → List (S36) → Option (ByteArray)
 | 0, _, _, _, _, _ => none
 | k + 1, a0_0, a0_1, a0_2, a0_3, l0_4 => if a0_0 = 1 then ((word_Text.f a0_2).bind fun t191 => (some t191)) else (if a0_0 = 2 then (some a0_3) else (if a0_0 = 3 then (if a0_3.size + 1 ≤ 9223372036854775807 then (if 0 < (l0_4.length : Int) then ((yExpr.f k ((kn l0_4 0).f0) ((kn l0_4 0).f1) ((kn l0_4 0).f2) ((kn l0_4 0).f3) ((kn l0_4 0).f4)).bind fun t193 => (if (a0_3 ++ (⟨#[91]⟩ : ByteArray)).size + t193.size ≤ 9223372036854775807 then (if ((a0_3 ++ (⟨#[91]⟩ : ByteArray)) ++ t193).size + 1 ≤ 9223372036854775807 then (some (((a0_3 ++ (⟨#[91]⟩ : ByteArray)) ++ t193) ++ (⟨#[93]⟩ : ByteArray))) else (none)) else (none))) else (none)) else (none)) else (if a0_0 = 4 then (if a0_3.size + 1 ≤ 9223372036854775807 then ((yargs.f k l0_4).bind fun t194 => (if (a0_3 ++ (⟨#[40]⟩ : ByteArray)).size + t194.size ≤ 9223372036854775807 then (if ((a0_3 ++ (⟨#[40]⟩ : ByteArray)) ++ t194).size + 1 ≤ 9223372036854775807 then (some (((a0_3 ++ (⟨#[40]⟩ : ByteArray)) ++ t194) ++ (⟨#[41]⟩ : ByteArray))) else (none)) else (none))) else (none)) else (if a0_0 = 5 then (some (⟨#[103, 101, 116, 40, 41]⟩ : ByteArray)) else (if a0_0 = 6 then (if 0 ≤ (wrap64 (a0_1 - 4)) then (if (wrap64 (a0_1 - 4)) < 12 then ((ytwo.f k a0_0 a0_1 a0_2 a0_3 l0_4 (rdOf ByteArray.empty Ext.signsL (wrap64 (a0_1 - 4)))).bind fun t196 => (some t196)) else (none)) else (none)) else (if a0_0 = 7 then (if 0 < (l0_4.length : Int) then ((yExpr.f k ((kn l0_4 0).f0) ((kn l0_4 0).f1) ((kn l0_4 0).f2) ((kn l0_4 0).f3) ((kn l0_4 0).f4)).bind fun t198 => (if 1 + t198.size ≤ 9223372036854775807 then (some ((⟨#[33]⟩ : ByteArray) ++ t198)) else (none))) else (none)) else (if a0_0 = 8 then ((ytwo.f k a0_0 a0_1 a0_2 a0_3 l0_4 (⟨#[38, 38]⟩ : ByteArray)).bind fun t199 => (some t199)) else ((ytwo.f k a0_0 a0_1 a0_2 a0_3 l0_4 (⟨#[124, 124]⟩ : ByteArray)).bind fun t200 => (some t200)))))))))
end
theorem yargs.mono_l : ∀ k, (∀ y0, LeO (yargs.f k y0) (yargs.f (k + 1) y0)) ∧ (∀ y0 y1 y2 y3, LeO (yargs.l0 k y0 y1 y2 y3) (yargs.l0 (k + 1) y0 y1 y2 y3)) ∧ (∀ y0 y1 y2 y3 y4 y5, LeO (ytwo.f k y0 y1 y2 y3 y4 y5) (ytwo.f (k + 1) y0 y1 y2 y3 y4 y5)) ∧ (∀ y0 y1 y2 y3 y4, LeO (yExpr.f k y0 y1 y2 y3 y4) (yExpr.f (k + 1) y0 y1 y2 y3 y4))
 | 0 => ⟨fun _ r h => by simp [yargs.f] at h, fun _ _ _ _ r h => by simp [yargs.l0] at h, fun _ _ _ _ _ _ r h => by simp [ytwo.f] at h, fun _ _ _ _ _ r h => by simp [yExpr.f] at h⟩
 | k + 1 => by
  obtain ⟨ih0, ih1, ih2, ih3⟩ := yargs.mono_l k
  refine ⟨?_, ?_, ?_, ?_⟩
  all_goals intros
  all_goals first | unfold yargs.f | unfold yargs.l0 | unfold ytwo.f | unfold yExpr.f
  all_goals repeat' first
   | (with_reducible exact ih0 _)
   | (with_reducible exact ih1 _ _ _ _)
   | (with_reducible exact ih2 _ _ _ _ _ _)
   | (with_reducible exact ih3 _ _ _ _ _)
   | (with_reducible exact LeO.refl _)
   | (with_reducible exact LeO.none _)
   | (with_reducible refine LeO.ite ?_ ?_)
   | (with_reducible refine LeO.bind ?_ (fun _ => ?_))
   | exact ih0 _
   | exact ih1 _ _ _ _
   | exact ih2 _ _ _ _ _ _
   | exact ih3 _ _ _ _ _
   | exact LeO.none _
   | refine LeO.ite ?_ ?_
   | refine LeO.bind ?_ (fun _ => ?_)
theorem yargs.mono : ∀ a0 k, LeO (yargs.f k a0) (yargs.f (k + 1) a0) := by
 intro a0 k
 obtain ⟨ih0, ih1, ih2, ih3⟩ := yargs.mono_l k
 exact ih0 a0
theorem ytwo.mono : ∀ a0 a1 a2 a3 a4 a5 k, LeO (ytwo.f k a0 a1 a2 a3 a4 a5) (ytwo.f (k + 1) a0 a1 a2 a3 a4 a5) := by
 intro a0 a1 a2 a3 a4 a5 k
 obtain ⟨ih0, ih1, ih2, ih3⟩ := yargs.mono_l k
 exact ih2 a0 a1 a2 a3 a4 a5
theorem yExpr.mono : ∀ a0 a1 a2 a3 a4 k, LeO (yExpr.f k a0 a1 a2 a3 a4) (yExpr.f (k + 1) a0 a1 a2 a3 a4) := by
 intro a0 a1 a2 a3 a4 k
 obtain ⟨ih0, ih1, ih2, ih3⟩ := yargs.mono_l k
 exact ih3 a0 a1 a2 a3 a4
set_option maxHeartbeats 8000000 in
set_option maxRecDepth 100000 in
theorem yargs.calls_of (k : Nat) (ihyargs : ∀ j_, j_ < k → ∀ (A0 : Option Addr) (c0 : Nat) (l0 : List (S36)) (r : ByteArray) (w : World) (hT : Ext.TAB w) (hr0 : Kd.C k36 w A0 l0.length l0) (hc0 : l0.length ≤ c0) (h : yargs.f j_ l0 = some r), Calls Tryd.prog 53 #[.slice A0 l0.length c0] w fun e w' => e = .returned (.string r) ∧ Below w.heap.size w w') (ihytwo : ∀ j_, j_ < k → ∀ (a0_0 : Int) (a0_1 : Int) (a0_2 : Int) (a0_3 : ByteArray) (A0_4 : Option Addr) (c0_4 : Nat) (l0_4 : List (S36)) (a1 : ByteArray) (r : ByteArray) (w : World) (hT : Ext.TAB w) (hr0_4 : Kd.C k36 w A0_4 l0_4.length l0_4) (hc0_4 : l0_4.length ≤ c0_4) (h : ytwo.f j_ a0_0 a0_1 a0_2 a0_3 l0_4 a1 = some r), Calls Tryd.prog 54 #[.agg #[.int .i64 a0_0, .int .i64 a0_1, .int .u32 a0_2, .string a0_3, .slice A0_4 l0_4.length c0_4], .string a1] w fun e w' => e = .returned (.string r) ∧ Below w.heap.size w w') (ihyExpr : ∀ j_, j_ < k → ∀ (a0_0 : Int) (a0_1 : Int) (a0_2 : Int) (a0_3 : ByteArray) (A0_4 : Option Addr) (c0_4 : Nat) (l0_4 : List (S36)) (r : ByteArray) (w : World) (hT : Ext.TAB w) (hr0_4 : Kd.C k36 w A0_4 l0_4.length l0_4) (hc0_4 : l0_4.length ≤ c0_4) (h : yExpr.f j_ a0_0 a0_1 a0_2 a0_3 l0_4 = some r), Calls Tryd.prog 24 #[.agg #[.int .i64 a0_0, .int .i64 a0_1, .int .u32 a0_2, .string a0_3, .slice A0_4 l0_4.length c0_4]] w fun e w' => e = .returned (.string r) ∧ Below w.heap.size w w') : ∀ (A0 : Option Addr) (c0 : Nat) (l0 : List (S36)) (r : ByteArray) (w : World) (hT : Ext.TAB w) (hr0 : Kd.C k36 w A0 l0.length l0) (hc0 : l0.length ≤ c0) (h : yargs.f k l0 = some r), Calls Tryd.prog 53 #[.slice A0 l0.length c0] w fun e w' => e = .returned (.string r) ∧ Below w.heap.size w w' := by
 intro A0 c0 l0 r w hT hr0 hc0 h
 cases k with
 | zero => exact absurd h (by simp [yargs.f])
 | succ k =>
 simp only [yargs.f] at h
 have hu36 := Tryd.underlying36
 have HT := kd.mk hT
 clear hT
 have HR0 := kd.mk hr0
 have HC0 := kd.mk hc0
 clear hr0 hc0
 have HB := kd.mk (Below.refl w.heap.size w)
 have H : (yargs.l0 k ([] : List ByteArray) l0 (l0.length : Int) 0) = some r := h
 clear h
 have H' := kd.mk H
 clear H
 go_enter Tryd.func53, Tryd.ntmps53
 go_wp2
 go_loopg [3, 8] k (fun kq v3 v8 w' => ∃ (x3_1 : List ByteArray) (x8_1 : Int), v8 = .int .i64 x8_1 ∧ kd (yargs.l0 kq x3_1 l0 (l0.length : Int) x8_1 = some r) ∧ kd (kq ≤ k) ∧ kd (Kd.R Kd.string 9 w' w.heap.size (fun _ => True) v3 x3_1) ∧ kd (Below w.heap.size w w'))
 case atStart => exact ⟨(([] : List ByteArray)), (0), (by first | rfl | (simp; done) | (simp [*]; done)), H', ⟨Nat.le_refl _⟩, ⟨by first | exact Kd.R_nil _ _ _ _ _ | exact Kd.N_nil _ _ _ _ _ | exact Kd.V_nil _ _ _ _ _ | exact Kd.Q_nil _ _ _ _ _ | exact Kd.S_nil _ _ _ _ _⟩, ⟨by repeat (first | (with_reducible first | exact HB.out | apply ke | apply ka | apply kf) | exact HB.out)⟩⟩
 case round =>
  clear H'
  obtain ⟨x3_1, x8_1, rfl, HA, HK1, HO_3, HB⟩ := hrel
  cases gk with
  | zero => exact absurd HA.out (by simp [yargs.l0])
  | succ k1 =>
   have H := HA.out
   clear HA
   simp only [yargs.l0] at H
   by_cases c2 : x8_1 < (l0.length : Int)
   ·rw [if_pos c2] at H
    have c2b0 : decide (x8_1 < (l0.length : Int)) = true := decide_eq_true c2
    clear c2
    by_cases c3 : 0 ≤ x8_1
    ·rw [if_pos c3] at H
     have c3b0 : decide (0 ≤ x8_1) = true := decide_eq_true c3
     clear c3
     by_cases c4 : x8_1 < (l0.length : Int)
     ·rw [if_pos c4] at H
      have c4b0 : decide (x8_1 < (l0.length : Int)) = true := decide_eq_true c4
      clear c4
      replace H := Option.bind_eq_some_iff.mp H
      obtain ⟨t180, A50, H⟩ := H
      replace H : (if x3_1.length < 8796093022208 then (yargs.l0 k1 (x3_1 ++ [t180]) l0 (l0.length : Int) (wrap64 (x8_1 + 1))) else (none)) = some r := H
      have A5 := kd.mk A50
      clear A50
      by_cases c6 : x3_1.length < 8796093022208
      ·rw [if_pos c6] at H
       have LMc6 := kd.mk c6
       clear c6
       obtain ⟨y181, hy181⟩ : ∃ y_ : List ByteArray, y_ = (x3_1 ++ [t180]) := ⟨_, rfl⟩
       replace H : (yargs.l0 k1 y181 l0 (l0.length : Int) (wrap64 (x8_1 + 1))) = some r := by first | (rw [hy181]; with_reducible exact H) | (have H2_ := (Option.bind_some _ _).symm.trans H; rw [hy181]; with_reducible exact H2_) | (have H2_ := (Option.bind_some _ _).symm.trans H; with_reducible exact H2_) | with_reducible exact H | (rw [hy181]; exact H) | exact H
       have Ny181 := kd.mk hy181
       clear hy181
       have H' := kd.mk H
       clear H
       have p178 : 0 ≤ (x8_1 : Int) := of_decide_eq_true (by first | (with_reducible assumption) | assumption)
       have q178 : x8_1 < (l0.length : Int) := of_decide_eq_true (by first | (with_reducible assumption) | assumption)
       obtain ⟨ad178, A178_4, c178_4, e178, hx178_0, hx178_1, hx178_2, hx178_3, hx178_4, hl178_4, hi178_4⟩ := at_T36 HR0.out x8_1 p178 q178
       cases e178
       replace hx178_0 := (HB.out.cell (World.block_lt_of_cell? w _ hx178_0)).trans hx178_0
       replace hx178_1 := (HB.out.cell (World.block_lt_of_cell? w _ hx178_1)).trans hx178_1
       replace hx178_2 := (HB.out.cell (World.block_lt_of_cell? w _ hx178_2)).trans hx178_2
       replace hx178_3 := (HB.out.cell (World.block_lt_of_cell? w _ hx178_3)).trans hx178_3
       replace hx178_4 := (HB.out.cell (World.block_lt_of_cell? w _ hx178_4)).trans hx178_4
       have HR178_4 := kd.mk hi178_4
       have HC178_4 := kd.mk hl178_4
       clear hi178_4 hl178_4
       replace p178 := eq_true p178
       replace q178 := eq_true q178
       go_wp2_with (first | ((with_reducible refine ja (N := 5) rfl ?_); refine kz ?hg (N := 5) ?hd (cs := #[.int .i64 0, .int .i64 0, .int .u32 0, .string (⟨#[]⟩ : ByteArray), .slice none 0 0]) (t := 36) ?hr ?_; (case hd => rfl); (case hg => rfl); (case hr => first | (go_simp; done) | (go_simp; rfl)); intro gb179 hg w7 hbox hb; have n0_ := kd.mk (Kd.R_below (by (with_reducible repeat (first | apply Kd.R_alloc | apply Kd.R_drewN | apply Kd.R_drew)); exact HO_3.out) hb); have n1_ := kd.mk (kr (by repeat (first | (with_reducible first | exact HB.out | apply ke | apply ka | apply kf) | exact HB.out)) hb); have n2_ := kd.mk (hbox); have n3_ := kd.mk ((by rw [hg]; exact (ks (by repeat (first | (with_reducible first | exact HB.out | apply ke | apply ka | apply kf) | exact HB.out))) : w.heap.size ≤ gb179)); have n4_ := kd.mk ((by rw [hg]; exact (ks (by repeat (first | (with_reducible first | exact HB.out | apply ke | apply ka | apply kf) | exact HB.out))) : w.heap.size ≤ gb179)); clear HO_3; clear HB; have HO_3 := n0_; have HB := n1_; have BK179 := n2_; have GW179 := n3_; have GE179 := n4_; clear n0_ n1_ n2_ n3_ n4_; clear hb hbox hg; have hcz8_0 : w7.cell? ⟨gb179, 0, none⟩ = some (.int .i64 0) := (kc BK179.out 0).trans rfl; have hcz8_1 : w7.cell? ⟨gb179, 1, none⟩ = some (.int .i64 0) := (kc BK179.out 1).trans rfl; have hcz8_2 : w7.cell? ⟨gb179, 2, none⟩ = some (.int .u32 0) := (kc BK179.out 2).trans rfl; have hcz8_3 : w7.cell? ⟨gb179, 3, none⟩ = some (.string (⟨#[]⟩ : ByteArray)) := (kc BK179.out 3).trans rfl; have hcz8_4 : w7.cell? ⟨gb179, 4, none⟩ = some (.slice none 0 0) := (kc BK179.out 4).trans rfl; have hfz8_0 := kb BK179.out 0; have hfz8_1 := kb BK179.out 1; have hfz8_2 := kb BK179.out 2; have hfz8_3 := kb BK179.out 3; have hfz8_4 := kb BK179.out 4) | ((with_reducible refine jb (f := 24) rfl ?_); refine jo (some 14) rfl rfl Tryd.func24 (by kernel_rfl) rfl #[.agg #[.int .i64 ((kn l0 x8_1).f0), .int .i64 ((kn l0 x8_1).f1), .int .u32 ((kn l0 x8_1).f2), .string ((kn l0 x8_1).f3), .slice A178_4 ((kn l0 x8_1).f4).length c178_4]] rfl (by (try simp only [List.map_toArray, List.map_cons, List.map_nil]); first | done | rfl | (simp only [List.length_drop, List.length_take]; rfl)) ?_; (with_reducible refine (ihyExpr k1 (by have := HK1.out; omega) ((kn l0 x8_1).f0) ((kn l0 x8_1).f1) ((kn l0 x8_1).f2) ((kn l0 x8_1).f3) _ _ ((kn l0 x8_1).f4) t180 _ ?side1 ?side2 ?side3 A5.out).mono ?_); (case side1 => exact Ext.TAB.below HT.out (by repeat (first | (with_reducible first | exact HB.out | apply ke | apply ka | apply kf | refine kj ?_ GE179.out) | exact HB.out))); (case side2 => exact Kd.kx HR178_4.out (by repeat (first | (with_reducible first | exact HB.out | apply ke | apply ka | apply kf | refine kj ?_ GE179.out) | exact HB.out))); (case side3 => exact HC178_4.out); rintro e w9 ⟨rfl, hb⟩; refine ⟨_, rfl, ?_⟩; have n0_ := kd.mk (Kd.R_below (by (with_reducible repeat (first | apply Kd.R_alloc | apply Kd.R_drewN | apply Kd.R_drew)); exact (Kd.R_mono (Kd.R_far (p := ⟨gb179, 4, none⟩) (Kd.R_far (p := ⟨gb179, 3, none⟩) (Kd.R_far (p := ⟨gb179, 2, none⟩) (Kd.R_far (p := ⟨gb179, 1, none⟩) (Kd.R_far (p := ⟨gb179, 0, none⟩) (Kd.R_types HO_3.out BK179.out (by decide)) (fun _ hk => hk.2) (.int .i64 ((kn l0 x8_1).f0))) (fun _ hk => hk.2) (.int .i64 ((kn l0 x8_1).f1))) (fun _ hk => hk.2) (.int .u32 ((kn l0 x8_1).f2))) (fun _ hk => hk.2) (.string ((kn l0 x8_1).f3))) (fun _ hk => hk.2) (.slice A178_4 ((kn l0 x8_1).f4).length c178_4)) (fun _ h_ => h_.1))) hb); have n1_ := kd.mk (ku (g := gb179) (o := .cells #[.int .i64 ((kn l0 x8_1).f0), .int .i64 ((kn l0 x8_1).f1), .int .u32 ((kn l0 x8_1).f2), .string ((kn l0 x8_1).f3), .slice A178_4 ((kn l0 x8_1).f4).length c178_4] 36 (0, 0)) (by (with_reducible repeat (first | refine kg ?_ _ | refine kk ?_ | refine ki ?_ _)); refine ky (cs := #[.int .i64 ((kn l0 x8_1).f0), .int .i64 ((kn l0 x8_1).f1), .int .u32 ((kn l0 x8_1).f2), .string ((kn l0 x8_1).f3), .slice none 0 0]) ?_ 4 _ rfl; (with_reducible repeat (first | refine kg ?_ _ | refine kk ?_ | refine ki ?_ _)); refine ky (cs := #[.int .i64 ((kn l0 x8_1).f0), .int .i64 ((kn l0 x8_1).f1), .int .u32 ((kn l0 x8_1).f2), .string (⟨#[]⟩ : ByteArray), .slice none 0 0]) ?_ 3 _ rfl; (with_reducible repeat (first | refine kg ?_ _ | refine kk ?_ | refine ki ?_ _)); refine ky (cs := #[.int .i64 ((kn l0 x8_1).f0), .int .i64 ((kn l0 x8_1).f1), .int .u32 0, .string (⟨#[]⟩ : ByteArray), .slice none 0 0]) ?_ 2 _ rfl; (with_reducible repeat (first | refine kg ?_ _ | refine kk ?_ | refine ki ?_ _)); refine ky (cs := #[.int .i64 ((kn l0 x8_1).f0), .int .i64 0, .int .u32 0, .string (⟨#[]⟩ : ByteArray), .slice none 0 0]) ?_ 1 _ rfl; (with_reducible repeat (first | refine kg ?_ _ | refine kk ?_ | refine ki ?_ _)); refine ky (cs := #[.int .i64 0, .int .i64 0, .int .u32 0, .string (⟨#[]⟩ : ByteArray), .slice none 0 0]) ?_ 0 _ rfl; (with_reducible repeat (first | refine kg ?_ _ | refine kk ?_ | refine ki ?_ _)); exact BK179.out) hb); have n2_ := kd.mk (kr (by repeat (first | (with_reducible first | exact HB.out | apply ke | apply ka | apply kf | refine kj ?_ GE179.out) | exact HB.out)) hb); clear HO_3; clear BK179; clear HB; have HO_3 := n0_; have BK179 := n1_; have HB := n2_; clear n0_ n1_ n2_; (try clear hb)) | ((with_reducible refine gate_builtin (b := .append) (xs := #[.tmp 12, .tmp 15]) rfl ?_); at_builtin; refine Kd.R_append Kd.string (w0 := w) w.heap.size rfl (.tmp 12) (.tmp 15) 22 9 (.string ⟨#[]⟩) 16 rfl Tryd.underlying22 info9 rfl (by decide) (by omega) u3 x3_1 t180 [.string t180] (fun _ => True) (fun _ => False) rfl rfl ?aP (fun _ hk => hk.elim) ?aF ?aO ?aB ?aS ?aL ?_; (case aP => exact rfl); (case aB => exact (by repeat (first | (with_reducible first | exact HB.out | apply ke | apply ka | apply kf | refine kj ?_ GE179.out) | exact HB.out))); (case aF => exact (fun _ _ => trivial)); (case aO => exact (by (with_reducible repeat (first | apply Kd.R_alloc | apply Kd.R_drewN | apply Kd.R_drew)); exact HO_3.out)); (case aS => exact (ks (by repeat (first | (with_reducible first | exact HB.out | apply ke | apply ka | apply kf | refine kj ?_ GE179.out) | exact HB.out)))); (case aL => have := LMc6.out; omega); intro v182 w10 ho hb hg hat; rw [← Ny181.out] at ho; have n0_ := kd.mk (blk_grown (g := gb179) (o := .cells #[.int .i64 ((kn l0 x8_1).f0), .int .i64 ((kn l0 x8_1).f1), .int .u32 ((kn l0 x8_1).f2), .string ((kn l0 x8_1).f3), .slice A178_4 ((kn l0 x8_1).f4).length c178_4] 36 (0, 0)) (by (with_reducible repeat (first | refine kg ?_ _ | refine kk ?_ | refine ki ?_ _)); exact BK179.out) hg (Kd.R_ne HO_3.out BK179.out (by decide))); have n1_ := kd.mk (hb); have n2_ := kd.mk (ho); clear BK179; clear HB; clear HO_3; have BK179 := n0_; have HB := n1_; have HO183 := n2_; clear n0_ n1_ n2_; clear ho hb hg hat))
       go_roundg k1
       case measure => have := HK1.out; omega
       case rel => exact ⟨(y181), (wrap64 (x8_1 + 1)), (by first | rfl | (simp; done) | (simp [*]; done)), H', ⟨by have := HK1.out; omega⟩, ⟨by (with_reducible repeat (first | apply Kd.R_alloc | apply Kd.R_drewN | apply Kd.R_drew)); exact HO183.out⟩, ⟨by repeat (first | (with_reducible first | exact HB.out | apply ke | apply ka | apply kf | refine kj ?_ GE179.out) | exact HB.out)⟩⟩
      ·rw [if_neg c6] at H
       exact absurd H (by simp)
     ·rw [if_neg c4] at H
      exact absurd H (by simp)
    ·rw [if_neg c3] at H
     exact absurd H (by simp)
   ·rw [if_neg c2] at H
    have c2b0 : decide (x8_1 < (l0.length : Int)) = false := decide_eq_false c2
    clear c2
    replace H := Option.bind_eq_some_iff.mp H
    obtain ⟨t184, A110, H⟩ := H
    replace H : (some t184) = some r := H
    have A11 := kd.mk A110
    clear A110
    obtain rfl := Option.some.inj H
    obtain ⟨Ao12, co12, eo12⟩ := Kd.R_slice HO_3.out
    subst eo12
    go_wp2_with (first | ((with_reducible refine jb (f := 29) rfl ?_); refine jo (some 19) rfl rfl Tryd.func29 (by kernel_rfl) rfl #[.slice Ao12 x3_1.length co12, .string (⟨#[44, 32]⟩ : ByteArray)] rfl (by (try simp only [List.map_toArray, List.map_cons, List.map_nil]); first | done | rfl | (simp only [List.length_drop, List.length_take]; rfl)) ?_; (with_reducible refine (Ext.strings_Join.calls _ _ x3_1 (⟨#[44, 32]⟩ : ByteArray) t184 _ ?side1 ?side2 A11.out).mono ?_); (case side1 => repeat (first | exact (Kd.R_reads' HO_3.out).2.2 | (with_reducible refine Kd.C_alloc ?_ _) | (with_reducible refine Kd.C_drewN ?_ _) | (with_reducible refine Kd.C_drew ?_))); (case side2 => exact (Kd.R_reads' HO_3.out).2.1); rintro e w13 ⟨rfl, hb⟩; refine ⟨_, rfl, ?_⟩; have n0_ := kd.mk (Kd.R_below (by (with_reducible repeat (first | apply Kd.R_alloc | apply Kd.R_drewN | apply Kd.R_drew)); exact HO_3.out) hb); have n1_ := kd.mk (kr (by repeat (first | (with_reducible first | exact HB.out | apply ke | apply ka | apply kf) | exact HB.out)) hb); clear HO_3; clear HB; have HO_3 := n0_; have HB := n1_; clear n0_ n1_; (try clear hb)))
    go_ret
    exact ⟨by first | rfl | (simp [kp, ko] <;> rfl) | (simp [*, kp, ko] <;> rfl), by repeat (first | (with_reducible first | exact HB.out | apply ke | apply ka | apply kf) | exact HB.out)⟩
def ytwo.T1 : Bool × List (List Nat × List Nat) := (true, [([], []), ([0], [0]), ([1], [1]), ([2], [2]), ([3], [3]), ([4], [4]), ([5], [5]), ([], []), ([6, 7], [6, 7]), ([8], [8]), ([], []), ([10], [10]), ([11], [11]), ([12], [12]), ([13, 4], [13]), ([9, 14], [9, 14]), ([15], [15]), ([16, 14, 0, 1, 2, 3, 4, 5, 6, 7, 8, 9, 10, 11, 12, 13, 14, 15, 16], [16])])
def ytwo.B1 : List Nat := [0, 1, 3, 7, 15, 31, 63, 0, 255, 511, 0, 1024, 3072, 7168, 15391, 32767, 65535, 131071]
theorem ytwo.tab1 : rtab .any (opsOf Tryd.f54 1) = ytwo.T1 := by kernel_rfl
theorem ytwo.bits1 : waitsOk ytwo.T1.2 ytwo.B1 = true := by kernel_rfl
set_option maxHeartbeats 8000000 in
set_option maxRecDepth 100000 in
theorem ytwo.calls_of (k : Nat) (ihyargs : ∀ j_, j_ < k → ∀ (A0 : Option Addr) (c0 : Nat) (l0 : List (S36)) (r : ByteArray) (w : World) (hT : Ext.TAB w) (hr0 : Kd.C k36 w A0 l0.length l0) (hc0 : l0.length ≤ c0) (h : yargs.f j_ l0 = some r), Calls Tryd.prog 53 #[.slice A0 l0.length c0] w fun e w' => e = .returned (.string r) ∧ Below w.heap.size w w') (ihytwo : ∀ j_, j_ < k → ∀ (a0_0 : Int) (a0_1 : Int) (a0_2 : Int) (a0_3 : ByteArray) (A0_4 : Option Addr) (c0_4 : Nat) (l0_4 : List (S36)) (a1 : ByteArray) (r : ByteArray) (w : World) (hT : Ext.TAB w) (hr0_4 : Kd.C k36 w A0_4 l0_4.length l0_4) (hc0_4 : l0_4.length ≤ c0_4) (h : ytwo.f j_ a0_0 a0_1 a0_2 a0_3 l0_4 a1 = some r), Calls Tryd.prog 54 #[.agg #[.int .i64 a0_0, .int .i64 a0_1, .int .u32 a0_2, .string a0_3, .slice A0_4 l0_4.length c0_4], .string a1] w fun e w' => e = .returned (.string r) ∧ Below w.heap.size w w') (ihyExpr : ∀ j_, j_ < k → ∀ (a0_0 : Int) (a0_1 : Int) (a0_2 : Int) (a0_3 : ByteArray) (A0_4 : Option Addr) (c0_4 : Nat) (l0_4 : List (S36)) (r : ByteArray) (w : World) (hT : Ext.TAB w) (hr0_4 : Kd.C k36 w A0_4 l0_4.length l0_4) (hc0_4 : l0_4.length ≤ c0_4) (h : yExpr.f j_ a0_0 a0_1 a0_2 a0_3 l0_4 = some r), Calls Tryd.prog 24 #[.agg #[.int .i64 a0_0, .int .i64 a0_1, .int .u32 a0_2, .string a0_3, .slice A0_4 l0_4.length c0_4]] w fun e w' => e = .returned (.string r) ∧ Below w.heap.size w w') : ∀ (a0_0 : Int) (a0_1 : Int) (a0_2 : Int) (a0_3 : ByteArray) (A0_4 : Option Addr) (c0_4 : Nat) (l0_4 : List (S36)) (a1 : ByteArray) (r : ByteArray) (w : World) (hT : Ext.TAB w) (hr0_4 : Kd.C k36 w A0_4 l0_4.length l0_4) (hc0_4 : l0_4.length ≤ c0_4) (h : ytwo.f k a0_0 a0_1 a0_2 a0_3 l0_4 a1 = some r), Calls Tryd.prog 54 #[.agg #[.int .i64 a0_0, .int .i64 a0_1, .int .u32 a0_2, .string a0_3, .slice A0_4 l0_4.length c0_4], .string a1] w fun e w' => e = .returned (.string r) ∧ Below w.heap.size w w' := by
 intro a0_0 a0_1 a0_2 a0_3 A0_4 c0_4 l0_4 a1 r w hT hr0_4 hc0_4 h
 cases k with
 | zero => exact absurd h (by simp [ytwo.f])
 | succ k =>
 simp only [ytwo.f] at h
 have hu36 := Tryd.underlying36
 have HT := kd.mk hT
 clear hT
 have HR0_4 := kd.mk hr0_4
 have HC0_4 := kd.mk hc0_4
 clear hr0_4 hc0_4
 have HB := kd.mk (Below.refl w.heap.size w)
 have H : (if 0 < (l0_4.length : Int) then ((yExpr.f k ((kn l0_4 0).f0) ((kn l0_4 0).f1) ((kn l0_4 0).f2) ((kn l0_4 0).f3) ((kn l0_4 0).f4)).bind fun t187 => (if 1 + t187.size ≤ 9223372036854775807 then (if ((⟨#[40]⟩ : ByteArray) ++ t187).size + 1 ≤ 9223372036854775807 then (if (((⟨#[40]⟩ : ByteArray) ++ t187) ++ (⟨#[32]⟩ : ByteArray)).size + a1.size ≤ 9223372036854775807 then (if ((((⟨#[40]⟩ : ByteArray) ++ t187) ++ (⟨#[32]⟩ : ByteArray)) ++ a1).size + 1 ≤ 9223372036854775807 then (if 1 < (l0_4.length : Int) then ((yExpr.f k ((kn l0_4 1).f0) ((kn l0_4 1).f1) ((kn l0_4 1).f2) ((kn l0_4 1).f3) ((kn l0_4 1).f4)).bind fun t189 => (if (((((⟨#[40]⟩ : ByteArray) ++ t187) ++ (⟨#[32]⟩ : ByteArray)) ++ a1) ++ (⟨#[32]⟩ : ByteArray)).size + t189.size ≤ 9223372036854775807 then (if ((((((⟨#[40]⟩ : ByteArray) ++ t187) ++ (⟨#[32]⟩ : ByteArray)) ++ a1) ++ (⟨#[32]⟩ : ByteArray)) ++ t189).size + 1 ≤ 9223372036854775807 then (some (((((((⟨#[40]⟩ : ByteArray) ++ t187) ++ (⟨#[32]⟩ : ByteArray)) ++ a1) ++ (⟨#[32]⟩ : ByteArray)) ++ t189) ++ (⟨#[41]⟩ : ByteArray))) else (none)) else (none))) else (none)) else (none)) else (none)) else (none)) else (none))) else (none)) = some r := h
 clear h
 by_cases c3 : 0 < (l0_4.length : Int)
 ·rw [if_pos c3] at H
  have c3b0 : decide (0 < (l0_4.length : Int)) = true := decide_eq_true c3
  have c3b1 : decide (0 < l0_4.length) = true := decide_eq_true (by omega)
  clear c3
  replace H := Option.bind_eq_some_iff.mp H
  obtain ⟨t187, A40, H⟩ := H
  replace H : (if 1 + t187.size ≤ 9223372036854775807 then (if ((⟨#[40]⟩ : ByteArray) ++ t187).size + 1 ≤ 9223372036854775807 then (if (((⟨#[40]⟩ : ByteArray) ++ t187) ++ (⟨#[32]⟩ : ByteArray)).size + a1.size ≤ 9223372036854775807 then (if ((((⟨#[40]⟩ : ByteArray) ++ t187) ++ (⟨#[32]⟩ : ByteArray)) ++ a1).size + 1 ≤ 9223372036854775807 then (if 1 < (l0_4.length : Int) then ((yExpr.f k ((kn l0_4 1).f0) ((kn l0_4 1).f1) ((kn l0_4 1).f2) ((kn l0_4 1).f3) ((kn l0_4 1).f4)).bind fun t189 => (if (((((⟨#[40]⟩ : ByteArray) ++ t187) ++ (⟨#[32]⟩ : ByteArray)) ++ a1) ++ (⟨#[32]⟩ : ByteArray)).size + t189.size ≤ 9223372036854775807 then (if ((((((⟨#[40]⟩ : ByteArray) ++ t187) ++ (⟨#[32]⟩ : ByteArray)) ++ a1) ++ (⟨#[32]⟩ : ByteArray)) ++ t189).size + 1 ≤ 9223372036854775807 then (some (((((((⟨#[40]⟩ : ByteArray) ++ t187) ++ (⟨#[32]⟩ : ByteArray)) ++ a1) ++ (⟨#[32]⟩ : ByteArray)) ++ t189) ++ (⟨#[41]⟩ : ByteArray))) else (none)) else (none))) else (none)) else (none)) else (none)) else (none)) else (none)) = some r := H
  have A4 := kd.mk A40
  clear A40
  by_cases c5 : 1 + t187.size ≤ 9223372036854775807
  ·rw [if_pos c5] at H
   have c5b0 := eq_true c5
   have c5b1 : decide (1 + t187.size ≤ 9223372036854775807) = true := decide_eq_true c5
   try have c5b2 : (9223372036854775807 < 1 + t187.size) = False := eq_false (Nat.not_lt.2 c5)
   by_cases c6 : ((⟨#[40]⟩ : ByteArray) ++ t187).size + 1 ≤ 9223372036854775807
   ·rw [if_pos c6] at H
    have c6b0 := eq_true c6
    have c6b1 : decide (((⟨#[40]⟩ : ByteArray) ++ t187).size + 1 ≤ 9223372036854775807) = true := decide_eq_true c6
    try have c6b2 : (9223372036854775807 < ((⟨#[40]⟩ : ByteArray) ++ t187).size + 1) = False := eq_false (Nat.not_lt.2 c6)
    (try simp only [ByteArray.size_append, show (⟨#[40]⟩ : ByteArray).size = 1 from rfl] at c6b2)
    by_cases c7 : (((⟨#[40]⟩ : ByteArray) ++ t187) ++ (⟨#[32]⟩ : ByteArray)).size + a1.size ≤ 9223372036854775807
    ·rw [if_pos c7] at H
     have c7b0 := eq_true c7
     have c7b1 : decide ((((⟨#[40]⟩ : ByteArray) ++ t187) ++ (⟨#[32]⟩ : ByteArray)).size + a1.size ≤ 9223372036854775807) = true := decide_eq_true c7
     try have c7b2 : (9223372036854775807 < (((⟨#[40]⟩ : ByteArray) ++ t187) ++ (⟨#[32]⟩ : ByteArray)).size + a1.size) = False := eq_false (Nat.not_lt.2 c7)
     (try simp only [ByteArray.size_append, show (⟨#[40]⟩ : ByteArray).size = 1 from rfl, show (⟨#[32]⟩ : ByteArray).size = 1 from rfl] at c7b2)
     by_cases c8 : ((((⟨#[40]⟩ : ByteArray) ++ t187) ++ (⟨#[32]⟩ : ByteArray)) ++ a1).size + 1 ≤ 9223372036854775807
     ·rw [if_pos c8] at H
      have c8b0 := eq_true c8
      have c8b1 : decide (((((⟨#[40]⟩ : ByteArray) ++ t187) ++ (⟨#[32]⟩ : ByteArray)) ++ a1).size + 1 ≤ 9223372036854775807) = true := decide_eq_true c8
      try have c8b2 : (9223372036854775807 < ((((⟨#[40]⟩ : ByteArray) ++ t187) ++ (⟨#[32]⟩ : ByteArray)) ++ a1).size + 1) = False := eq_false (Nat.not_lt.2 c8)
      (try simp only [ByteArray.size_append, show (⟨#[40]⟩ : ByteArray).size = 1 from rfl, show (⟨#[32]⟩ : ByteArray).size = 1 from rfl] at c8b2)
      by_cases c9 : 1 < (l0_4.length : Int)
      ·rw [if_pos c9] at H
       have c9b0 : decide (1 < (l0_4.length : Int)) = true := decide_eq_true c9
       have c9b1 : decide (1 < l0_4.length) = true := decide_eq_true (by omega)
       clear c9
       replace H := Option.bind_eq_some_iff.mp H
       obtain ⟨t189, A100, H⟩ := H
       replace H : (if (((((⟨#[40]⟩ : ByteArray) ++ t187) ++ (⟨#[32]⟩ : ByteArray)) ++ a1) ++ (⟨#[32]⟩ : ByteArray)).size + t189.size ≤ 9223372036854775807 then (if ((((((⟨#[40]⟩ : ByteArray) ++ t187) ++ (⟨#[32]⟩ : ByteArray)) ++ a1) ++ (⟨#[32]⟩ : ByteArray)) ++ t189).size + 1 ≤ 9223372036854775807 then (some (((((((⟨#[40]⟩ : ByteArray) ++ t187) ++ (⟨#[32]⟩ : ByteArray)) ++ a1) ++ (⟨#[32]⟩ : ByteArray)) ++ t189) ++ (⟨#[41]⟩ : ByteArray))) else (none)) else (none)) = some r := H
       have A10 := kd.mk A100
       clear A100
       by_cases c11 : (((((⟨#[40]⟩ : ByteArray) ++ t187) ++ (⟨#[32]⟩ : ByteArray)) ++ a1) ++ (⟨#[32]⟩ : ByteArray)).size + t189.size ≤ 9223372036854775807
       ·rw [if_pos c11] at H
        have c11b0 := eq_true c11
        have c11b1 : decide ((((((⟨#[40]⟩ : ByteArray) ++ t187) ++ (⟨#[32]⟩ : ByteArray)) ++ a1) ++ (⟨#[32]⟩ : ByteArray)).size + t189.size ≤ 9223372036854775807) = true := decide_eq_true c11
        try have c11b2 : (9223372036854775807 < (((((⟨#[40]⟩ : ByteArray) ++ t187) ++ (⟨#[32]⟩ : ByteArray)) ++ a1) ++ (⟨#[32]⟩ : ByteArray)).size + t189.size) = False := eq_false (Nat.not_lt.2 c11)
        (try simp only [ByteArray.size_append, show (⟨#[40]⟩ : ByteArray).size = 1 from rfl, show (⟨#[32]⟩ : ByteArray).size = 1 from rfl] at c11b2)
        by_cases c12 : ((((((⟨#[40]⟩ : ByteArray) ++ t187) ++ (⟨#[32]⟩ : ByteArray)) ++ a1) ++ (⟨#[32]⟩ : ByteArray)) ++ t189).size + 1 ≤ 9223372036854775807
        ·rw [if_pos c12] at H
         have c12b0 := eq_true c12
         have c12b1 : decide (((((((⟨#[40]⟩ : ByteArray) ++ t187) ++ (⟨#[32]⟩ : ByteArray)) ++ a1) ++ (⟨#[32]⟩ : ByteArray)) ++ t189).size + 1 ≤ 9223372036854775807) = true := decide_eq_true c12
         try have c12b2 : (9223372036854775807 < ((((((⟨#[40]⟩ : ByteArray) ++ t187) ++ (⟨#[32]⟩ : ByteArray)) ++ a1) ++ (⟨#[32]⟩ : ByteArray)) ++ t189).size + 1) = False := eq_false (Nat.not_lt.2 c12)
         (try simp only [ByteArray.size_append, show (⟨#[40]⟩ : ByteArray).size = 1 from rfl, show (⟨#[32]⟩ : ByteArray).size = 1 from rfl] at c12b2)
         obtain rfl := Option.some.inj H
         go_enter Tryd.func54, Tryd.ntmps54
         try go_wp2_with (first | ((with_reducible refine ja (N := 2) rfl ?_); refine kz ?hg (N := 2) ?hd (cs := #[.int .i64 a0_0, .int .i64 a0_1, .int .u32 a0_2, .string a0_3, .slice A0_4 l0_4.length c0_4]) (t := 36) ?hr ?_; (case hd => rfl); (case hg => rfl); (case hr => first | (go_simp; done) | (go_simp; rfl)); intro gb185 hg w13 hbox hb; have n0_ := kd.mk (kr (by repeat (first | (with_reducible first | exact HB.out | apply ke | apply ka | apply kf) | exact HB.out)) hb); have n1_ := kd.mk (hbox); have n2_ := kd.mk ((by rw [hg]; exact (ks (by repeat (first | (with_reducible first | exact HB.out | apply ke | apply ka | apply kf) | exact HB.out))) : w.heap.size ≤ gb185)); have n3_ := kd.mk ((by rw [hg]; exact (ks (by repeat (first | (with_reducible first | exact HB.out | apply ke | apply ka | apply kf) | exact HB.out))) : w.heap.size ≤ gb185)); clear HB; have HB := n0_; have BK185 := n1_; have GW185 := n2_; have GE185 := n3_; clear n0_ n1_ n2_ n3_; clear hb hbox hg))
         have n0_ := kd.mk (kk BK185.out)
         have n1_ := kd.mk (kf HB.out)
         clear BK185
         clear HB
         have BK185 := n0_
         have HB := n1_
         clear n0_ n1_
         have p186 : 0 ≤ (0 : Int) := (by omega)
         have q186 : 0 < (l0_4.length : Int) := of_decide_eq_true (by first | (with_reducible assumption) | assumption)
         obtain ⟨ad186, A186_4, c186_4, e186, hx186_0, hx186_1, hx186_2, hx186_3, hx186_4, hl186_4, hi186_4⟩ := at_T36 HR0_4.out 0 p186 q186
         have hw186_4 := hx186_4
         (try rw [show ((0 : Int)).toNat = 0 from rfl] at hw186_4)
         (try rw [show 0 * 5 = 0 from rfl] at hw186_4)
         (try rw [Addr.add_zero'] at hw186_4)
         have hw186_3 := hx186_3
         (try rw [show ((0 : Int)).toNat = 0 from rfl] at hw186_3)
         (try rw [show 0 * 5 = 0 from rfl] at hw186_3)
         (try rw [Addr.add_zero'] at hw186_3)
         have hw186_2 := hx186_2
         (try rw [show ((0 : Int)).toNat = 0 from rfl] at hw186_2)
         (try rw [show 0 * 5 = 0 from rfl] at hw186_2)
         (try rw [Addr.add_zero'] at hw186_2)
         have hw186_1 := hx186_1
         (try rw [show ((0 : Int)).toNat = 0 from rfl] at hw186_1)
         (try rw [show 0 * 5 = 0 from rfl] at hw186_1)
         (try rw [Addr.add_zero'] at hw186_1)
         have hw186_0 := hx186_0
         (try rw [show ((0 : Int)).toNat = 0 from rfl] at hw186_0)
         (try rw [show 0 * 5 = 0 from rfl] at hw186_0)
         (try rw [Addr.add_zero'] at hw186_0)
         cases e186
         have qi186 : (0 < l0_4.length) = True := eq_true (by omega)
         (try rw [show ((0 : Int)).toNat = 0 from rfl] at hx186_0)
         (try rw [show 0 * 5 = 0 from rfl] at hx186_0)
         (try rw [Addr.add_zero'] at hx186_0)
         (try rw [show ((0 : Int)).toNat = 0 from rfl] at hx186_1)
         (try rw [show 0 * 5 = 0 from rfl] at hx186_1)
         (try rw [Addr.add_zero'] at hx186_1)
         (try rw [show ((0 : Int)).toNat = 0 from rfl] at hx186_2)
         (try rw [show 0 * 5 = 0 from rfl] at hx186_2)
         (try rw [Addr.add_zero'] at hx186_2)
         (try rw [show ((0 : Int)).toNat = 0 from rfl] at hx186_3)
         (try rw [show 0 * 5 = 0 from rfl] at hx186_3)
         (try rw [Addr.add_zero'] at hx186_3)
         (try rw [show ((0 : Int)).toNat = 0 from rfl] at hx186_4)
         (try rw [show 0 * 5 = 0 from rfl] at hx186_4)
         (try rw [Addr.add_zero'] at hx186_4)
         replace hx186_0 := (HB.out.cell (World.block_lt_of_cell? w _ hx186_0)).trans hx186_0
         replace hx186_1 := (HB.out.cell (World.block_lt_of_cell? w _ hx186_1)).trans hx186_1
         replace hx186_2 := (HB.out.cell (World.block_lt_of_cell? w _ hx186_2)).trans hx186_2
         replace hx186_3 := (HB.out.cell (World.block_lt_of_cell? w _ hx186_3)).trans hx186_3
         replace hx186_4 := (HB.out.cell (World.block_lt_of_cell? w _ hx186_4)).trans hx186_4
         have HR186_4 := kd.mk hi186_4
         have HC186_4 := kd.mk hl186_4
         clear hi186_4 hl186_4
         replace p186 := eq_true p186
         replace q186 := eq_true q186
         have p188 : 0 ≤ (1 : Int) := (by omega)
         have q188 : 1 < (l0_4.length : Int) := of_decide_eq_true (by first | (with_reducible assumption) | assumption)
         obtain ⟨ad188, A188_4, c188_4, e188, hx188_0, hx188_1, hx188_2, hx188_3, hx188_4, hl188_4, hi188_4⟩ := at_T36 HR0_4.out 1 p188 q188
         have hw188_4 := hx188_4
         (try rw [show ((1 : Int)).toNat = 1 from rfl] at hw188_4)
         (try rw [show 1 * 5 = 5 from rfl] at hw188_4)
         (try simp only [Nat.reduceMul, Nat.reduceEqDiff, Go.Addr.add, ↓reduceIte] at hw188_4)
         have hw188_3 := hx188_3
         (try rw [show ((1 : Int)).toNat = 1 from rfl] at hw188_3)
         (try rw [show 1 * 5 = 5 from rfl] at hw188_3)
         (try simp only [Nat.reduceMul, Nat.reduceEqDiff, Go.Addr.add, ↓reduceIte] at hw188_3)
         have hw188_2 := hx188_2
         (try rw [show ((1 : Int)).toNat = 1 from rfl] at hw188_2)
         (try rw [show 1 * 5 = 5 from rfl] at hw188_2)
         (try simp only [Nat.reduceMul, Nat.reduceEqDiff, Go.Addr.add, ↓reduceIte] at hw188_2)
         have hw188_1 := hx188_1
         (try rw [show ((1 : Int)).toNat = 1 from rfl] at hw188_1)
         (try rw [show 1 * 5 = 5 from rfl] at hw188_1)
         (try simp only [Nat.reduceMul, Nat.reduceEqDiff, Go.Addr.add, ↓reduceIte] at hw188_1)
         have hw188_0 := hx188_0
         (try rw [show ((1 : Int)).toNat = 1 from rfl] at hw188_0)
         (try rw [show 1 * 5 = 5 from rfl] at hw188_0)
         (try simp only [Nat.reduceMul, Nat.reduceEqDiff, Go.Addr.add, ↓reduceIte] at hw188_0)
         obtain rfl : ad186 = ad188 := (by injection e188)
         (try simp only [show (1 : Int).toNat = 1 from rfl, Nat.reduceMul, Nat.reduceEqDiff, Go.Addr.add, ↓reduceIte] at hx188_0)
         (try simp only [show (1 : Int).toNat = 1 from rfl, Nat.reduceMul, Nat.reduceEqDiff, Go.Addr.add, ↓reduceIte] at hx188_1)
         (try simp only [show (1 : Int).toNat = 1 from rfl, Nat.reduceMul, Nat.reduceEqDiff, Go.Addr.add, ↓reduceIte] at hx188_2)
         (try simp only [show (1 : Int).toNat = 1 from rfl, Nat.reduceMul, Nat.reduceEqDiff, Go.Addr.add, ↓reduceIte] at hx188_3)
         (try simp only [show (1 : Int).toNat = 1 from rfl, Nat.reduceMul, Nat.reduceEqDiff, Go.Addr.add, ↓reduceIte] at hx188_4)
         have qi188 : (1 < l0_4.length) = True := eq_true (by omega)
         (try rw [show ((1 : Int)).toNat = 1 from rfl] at hx188_0)
         (try rw [show 1 * 5 = 5 from rfl] at hx188_0)
         (try rw [show ((1 : Int)).toNat = 1 from rfl] at hx188_1)
         (try rw [show 1 * 5 = 5 from rfl] at hx188_1)
         (try rw [show ((1 : Int)).toNat = 1 from rfl] at hx188_2)
         (try rw [show 1 * 5 = 5 from rfl] at hx188_2)
         (try rw [show ((1 : Int)).toNat = 1 from rfl] at hx188_3)
         (try rw [show 1 * 5 = 5 from rfl] at hx188_3)
         (try rw [show ((1 : Int)).toNat = 1 from rfl] at hx188_4)
         (try rw [show 1 * 5 = 5 from rfl] at hx188_4)
         replace hx188_0 := (HB.out.cell (World.block_lt_of_cell? w _ hx188_0)).trans hx188_0
         replace hx188_1 := (HB.out.cell (World.block_lt_of_cell? w _ hx188_1)).trans hx188_1
         replace hx188_2 := (HB.out.cell (World.block_lt_of_cell? w _ hx188_2)).trans hx188_2
         replace hx188_3 := (HB.out.cell (World.block_lt_of_cell? w _ hx188_3)).trans hx188_3
         replace hx188_4 := (HB.out.cell (World.block_lt_of_cell? w _ hx188_4)).trans hx188_4
         have HR188_4 := kd.mk hi188_4
         have HC188_4 := kd.mk hl188_4
         clear hi188_4 hl188_4
         replace p188 := eq_true p188
         replace q188 := eq_true q188
         refine start_ (n := 18) (S := fun w' => w'.cell? ⟨gb185, 0, none⟩ = some (.int .i64 a0_0) ∧ w'.cell? ⟨gb185, 1, none⟩ = some (.int .i64 a0_1) ∧ w'.cell? ⟨gb185, 2, none⟩ = some (.int .u32 a0_2) ∧ w'.cell? ⟨gb185, 3, none⟩ = some (.string a0_3) ∧ w'.cell? ⟨gb185, 4, none⟩ = some (.slice (some ad186) l0_4.length c0_4) ∧ w'.cell? ad186 = some (.int .i64 ((kn l0_4 0).f0)) ∧ w'.cell? ⟨ad186.block, ad186.off + 1, none⟩ = some (.int .i64 ((kn l0_4 0).f1)) ∧ w'.cell? ⟨ad186.block, ad186.off + 2, none⟩ = some (.int .u32 ((kn l0_4 0).f2)) ∧ w'.cell? ⟨ad186.block, ad186.off + 3, none⟩ = some (.string ((kn l0_4 0).f3)) ∧ w'.cell? ⟨ad186.block, ad186.off + 4, none⟩ = some (.slice A186_4 ((kn l0_4 0).f4).length c186_4) ∧ w'.cell? ⟨ad186.block, ad186.off + 5, none⟩ = some (.int .i64 ((kn l0_4 1).f0)) ∧ w'.cell? ⟨ad186.block, ad186.off + 5 + 1, none⟩ = some (.int .i64 ((kn l0_4 1).f1)) ∧ w'.cell? ⟨ad186.block, ad186.off + 5 + 2, none⟩ = some (.int .u32 ((kn l0_4 1).f2)) ∧ w'.cell? ⟨ad186.block, ad186.off + 5 + 3, none⟩ = some (.string ((kn l0_4 1).f3)) ∧ w'.cell? ⟨ad186.block, ad186.off + 5 + 4, none⟩ = some (.slice A188_4 ((kn l0_4 1).f4).length c188_4)) (ds := []) #[false, false, false, false, false, false, false, false, false, false, false, false, false, false, false, false, false, false] (by kernel_rfl) rfl rfl ⟨(kc BK185.out 0).trans rfl, (kc BK185.out 1).trans rfl, (kc BK185.out 2).trans rfl, (kc BK185.out 3).trans rfl, (kc BK185.out 4).trans rfl, ((HB.out.cell (World.block_lt_of_cell? w _ hw186_0)).trans hw186_0), ((HB.out.cell (World.block_lt_of_cell? w _ hw186_1)).trans hw186_1), ((HB.out.cell (World.block_lt_of_cell? w _ hw186_2)).trans hw186_2), ((HB.out.cell (World.block_lt_of_cell? w _ hw186_3)).trans hw186_3), ((HB.out.cell (World.block_lt_of_cell? w _ hw186_4)).trans hw186_4), ((HB.out.cell (World.block_lt_of_cell? w _ hw188_0)).trans hw188_0), ((HB.out.cell (World.block_lt_of_cell? w _ hw188_1)).trans hw188_1), ((HB.out.cell (World.block_lt_of_cell? w _ hw188_2)).trans hw188_2), ((HB.out.cell (World.block_lt_of_cell? w _ hw188_3)).trans hw188_3), ((HB.out.cell (World.block_lt_of_cell? w _ hw188_4)).trans hw188_4)⟩ (fun hHeld => ?_); refine with_tabW ytwo.tab1 ytwo.bits1 (fun HT_ HW_ => ?_)
         generalize w13.drew = w14 at BK185 HB HR186_4 HR188_4 hx186_0 hx186_1 hx186_2 hx186_3 hx186_4 hx188_0 hx188_1 hx188_2 hx188_3 hx188_4 hHeld ⊢
         refine jq (i := 0) (N := some 5) (v := ?_) (a' := ?_) #[true, false, false, false, false, false, false, false, false, false, false, false, false, false, false, false, false, false] rfl rfl (any_of HT_.out (by kernel_rfl)) (fun _ _ _ h => h) (Or.inl ⟨by rfl, ?_⟩) ?_ ?_
         rotate_left
         ·intro w'
          go_simp
          with_reducible rfl
         rotate_left
         ·simp only [Act.put, List.setIfInBounds_toArray, List.set_cons_zero, List.set_cons_succ, jc, jd]
          rfl
         refine jq (i := 7) (N := some 12) (v := ?_) (a' := ?_) #[true, false, false, false, false, false, false, true, false, false, false, false, false, false, false, false, false, false] rfl rfl (any_of HT_.out (by kernel_rfl)) (fun _ _ _ h => h) (Or.inl ⟨by rfl, ?_⟩) ?_ ?_
         rotate_left
         ·intro w'
          go_simp
          with_reducible rfl
         rotate_left
         ·simp only [Act.put, List.setIfInBounds_toArray, List.set_cons_zero, List.set_cons_succ, jc, jd]
          rfl
         refine jq (i := 10) (N := some 15) (v := ?_) (a' := ?_) #[true, false, false, false, false, false, false, true, false, false, true, false, false, false, false, false, false, false] rfl rfl (any_of HT_.out (by kernel_rfl)) (fun _ _ _ h => h) (Or.inl ⟨by rfl, ?_⟩) ?_ ?_
         rotate_left
         ·intro w'
          go_simp
          with_reducible rfl
         rotate_left
         ·simp only [Act.put, List.setIfInBounds_toArray, List.set_cons_zero, List.set_cons_succ, jc, jd]
          rfl
         refine take_ (i := 1) (N := some 6) (v := ?_) (a' := ?_) #[true, true, false, false, false, false, false, true, false, false, true, false, false, false, false, false, false, false] rfl rfl (take_ofW HT_.out HW_.out (by kernel_rfl)) (fun _ _ _ h => h) (Or.inl ⟨by rfl, ?_⟩) hHeld ?_ ?_
         rotate_left
         ·rintro w' ⟨s0, s1, s2, s3, s4, s5, s6, s7, s8, s9, s10, s11, s12, s13, s14⟩
          go_simp
          with_reducible rfl
         rotate_left
         ·simp only [Act.put, List.setIfInBounds_toArray, List.set_cons_zero, List.set_cons_succ, jc, jd]
          rfl
         refine jq (i := 2) (N := some 7) (v := ?_) (a' := ?_) #[true, true, true, false, false, false, false, true, false, false, true, false, false, false, false, false, false, false] rfl rfl (any_of HT_.out (by kernel_rfl)) (fun _ _ _ h => h) (Or.inl ⟨by rfl, ?_⟩) ?_ ?_
         rotate_left
         ·intro w'
          go_simp
          with_reducible rfl
         rotate_left
         ·simp only [Act.put, List.setIfInBounds_toArray, List.set_cons_zero, List.set_cons_succ, jc, jd]
          rfl
         refine take_ (i := 3) (N := some 8) (v := ?_) (a' := ?_) #[true, true, true, true, false, false, false, true, false, false, true, false, false, false, false, false, false, false] rfl rfl (take_ofW HT_.out HW_.out (by kernel_rfl)) (fun _ _ _ h => h) (Or.inl ⟨by rfl, ?_⟩) hHeld ?_ ?_
         rotate_left
         ·rintro w' ⟨s0, s1, s2, s3, s4, s5, s6, s7, s8, s9, s10, s11, s12, s13, s14⟩
          go_simp
          with_reducible rfl
         rotate_left
         ·simp only [Act.put, List.setIfInBounds_toArray, List.set_cons_zero, List.set_cons_succ, jc, jd]
          rfl
         refine take_ (i := 11) (N := some 16) (v := ?_) (a' := ?_) #[true, true, true, true, false, false, false, true, false, false, true, true, false, false, false, false, false, false] rfl rfl (take_ofW HT_.out HW_.out (by kernel_rfl)) (fun _ _ _ h => h) (Or.inl ⟨by rfl, ?_⟩) hHeld ?_ ?_
         rotate_left
         ·rintro w' ⟨s0, s1, s2, s3, s4, s5, s6, s7, s8, s9, s10, s11, s12, s13, s14⟩
          go_simp
          with_reducible rfl
         rotate_left
         ·simp only [Act.put, List.setIfInBounds_toArray, List.set_cons_zero, List.set_cons_succ, jc, jd]
          rfl
         refine jq (i := 12) (N := some 17) (v := ?_) (a' := ?_) #[true, true, true, true, false, false, false, true, false, false, true, true, true, false, false, false, false, false] rfl rfl (any_of HT_.out (by kernel_rfl)) (fun _ _ _ h => h) (Or.inl ⟨by rfl, ?_⟩) ?_ ?_
         rotate_left
         ·intro w'
          go_simp
          with_reducible rfl
         rotate_left
         ·simp only [Act.put, List.setIfInBounds_toArray, List.set_cons_zero, List.set_cons_succ, jc, jd]
          rfl
         refine take_ (i := 13) (N := some 18) (v := ?_) (a' := ?_) #[true, true, true, true, false, false, false, true, false, false, true, true, true, true, false, false, false, false] rfl rfl (take_ofW HT_.out HW_.out (by kernel_rfl)) (fun _ _ _ h => h) (Or.inl ⟨by rfl, ?_⟩) hHeld ?_ ?_
         rotate_left
         ·rintro w' ⟨s0, s1, s2, s3, s4, s5, s6, s7, s8, s9, s10, s11, s12, s13, s14⟩
          go_simp
          with_reducible rfl
         rotate_left
         ·simp only [Act.put, List.setIfInBounds_toArray, List.set_cons_zero, List.set_cons_succ, jc, jd]
          rfl
         refine one_ (i := 4) (N := some 9) #[true, true, true, true, true, false, false, true, false, false, true, true, true, true, false, false, false, false] rfl rfl (one_of HT_.out (by kernel_rfl)) (by decide) (fun K hK => ?_)
         refine goes_ Tryd.func24 (by kernel_rfl) rfl #[.agg #[.int .i64 ((kn l0_4 0).f0), .int .i64 ((kn l0_4 0).f1), .int .u32 ((kn l0_4 0).f2), .string ((kn l0_4 0).f3), .slice A186_4 ((kn l0_4 0).f4).length c186_4]] (by rfl) rfl rfl (by (try simp only [List.map_toArray, List.map_cons, List.map_nil]); first | done | rfl | (simp only [List.length_drop, List.length_take]; rfl)) ?_
         with_reducible refine (ihyExpr k (by omega) ((kn l0_4 0).f0) ((kn l0_4 0).f1) ((kn l0_4 0).f2) ((kn l0_4 0).f3) _ _ ((kn l0_4 0).f4) t187 _ ?side1 ?side2 ?side3 A4.out).mono ?_
         (case side1 => exact Ext.TAB.below HT.out (by repeat (first | (with_reducible first | exact HB.out | apply ke | apply ka | apply kf | refine kj ?_ GE185.out) | exact HB.out)))
         (case side2 => exact Kd.kx HR186_4.out HB.out)
         (case side3 => exact HC186_4.out)
         rintro e w15 ⟨rfl, hb⟩
         refine ⟨_, rfl, ?_⟩
         have n0_ := kd.mk (ku (g := gb185) (o := .cells #[.int .i64 a0_0, .int .i64 a0_1, .int .u32 a0_2, .string a0_3, .slice (some ad186) l0_4.length c0_4] 36 (0, 0)) (by (with_reducible repeat (first | refine kg ?_ _ | refine kk ?_ | refine ki ?_ _)); exact BK185.out) hb)
         have n1_ := kd.mk (kr (by repeat (first | (with_reducible first | exact HB.out | apply ke | apply ka | apply kf | refine kj ?_ GE185.out) | exact HB.out)) hb)
         clear BK185
         clear HB
         have BK185 := n0_
         have HB := n1_
         clear n0_ n1_
         (try clear hb)
         refine hK.out _ _ ⟨(kc BK185.out 0).trans rfl, (kc BK185.out 1).trans rfl, (kc BK185.out 2).trans rfl, (kc BK185.out 3).trans rfl, (kc BK185.out 4).trans rfl, ((HB.out.cell (World.block_lt_of_cell? w _ hw186_0)).trans hw186_0), ((HB.out.cell (World.block_lt_of_cell? w _ hw186_1)).trans hw186_1), ((HB.out.cell (World.block_lt_of_cell? w _ hw186_2)).trans hw186_2), ((HB.out.cell (World.block_lt_of_cell? w _ hw186_3)).trans hw186_3), ((HB.out.cell (World.block_lt_of_cell? w _ hw186_4)).trans hw186_4), ((HB.out.cell (World.block_lt_of_cell? w _ hw188_0)).trans hw188_0), ((HB.out.cell (World.block_lt_of_cell? w _ hw188_1)).trans hw188_1), ((HB.out.cell (World.block_lt_of_cell? w _ hw188_2)).trans hw188_2), ((HB.out.cell (World.block_lt_of_cell? w _ hw188_3)).trans hw188_3), ((HB.out.cell (World.block_lt_of_cell? w _ hw188_4)).trans hw188_4)⟩ (fun hHeld => ?_)
         clear hK K
         refine norm_ (a' := ?_) ?_ ?_
         rotate_left
         ·show Act.put _ (some 9) _ = _
          simp only [Act.put, List.setIfInBounds_toArray, List.set_cons_zero, List.set_cons_succ, jc, jd]
          rfl
         refine jq (i := 5) (N := some 10) (v := ?_) (a' := ?_) #[true, true, true, true, true, true, false, true, false, false, true, true, true, true, false, false, false, false] rfl rfl (any_of HT_.out (by kernel_rfl)) (fun _ _ _ h => h) (Or.inl ⟨by rfl, ?_⟩) ?_ ?_
         rotate_left
         ·intro w'
          go_simp
          with_reducible rfl
         rotate_left
         ·simp only [Act.put, List.setIfInBounds_toArray, List.set_cons_zero, List.set_cons_succ, jc, jd]
          rfl
         refine jq (i := 6) (N := some 11) (v := ?_) (a' := ?_) #[true, true, true, true, true, true, true, true, false, false, true, true, true, true, false, false, false, false] rfl rfl (any_of HT_.out (by kernel_rfl)) (fun _ _ _ h => h) (Or.inl ⟨by rfl, ?_⟩) ?_ ?_
         rotate_left
         ·intro w'
          go_simp
          with_reducible rfl
         rotate_left
         ·simp only [Act.put, List.setIfInBounds_toArray, List.set_cons_zero, List.set_cons_succ, jc, jd]
          rfl
         refine jq (i := 8) (N := some 13) (v := ?_) (a' := ?_) #[true, true, true, true, true, true, true, true, true, false, true, true, true, true, false, false, false, false] rfl rfl (any_of HT_.out (by kernel_rfl)) (fun _ _ _ h => h) (Or.inl ⟨by rfl, ?_⟩) ?_ ?_
         rotate_left
         ·intro w'
          go_simp
          with_reducible rfl
         rotate_left
         ·simp only [Act.put, List.setIfInBounds_toArray, List.set_cons_zero, List.set_cons_succ, jc, jd]
          rfl
         refine jq (i := 9) (N := some 14) (v := ?_) (a' := ?_) #[true, true, true, true, true, true, true, true, true, true, true, true, true, true, false, false, false, false] rfl rfl (any_of HT_.out (by kernel_rfl)) (fun _ _ _ h => h) (Or.inl ⟨by rfl, ?_⟩) ?_ ?_
         rotate_left
         ·intro w'
          go_simp
          with_reducible rfl
         rotate_left
         ·simp only [Act.put, List.setIfInBounds_toArray, List.set_cons_zero, List.set_cons_succ, jc, jd]
          rfl
         refine one_ (i := 14) (N := some 19) #[true, true, true, true, true, true, true, true, true, true, true, true, true, true, true, false, false, false] rfl rfl (one_of HT_.out (by kernel_rfl)) (by decide) (fun K hK => ?_)
         refine goes_ Tryd.func24 (by kernel_rfl) rfl #[.agg #[.int .i64 ((kn l0_4 1).f0), .int .i64 ((kn l0_4 1).f1), .int .u32 ((kn l0_4 1).f2), .string ((kn l0_4 1).f3), .slice A188_4 ((kn l0_4 1).f4).length c188_4]] (by rfl) rfl rfl (by (try simp only [List.map_toArray, List.map_cons, List.map_nil]); first | done | rfl | (simp only [List.length_drop, List.length_take]; rfl)) ?_
         with_reducible refine (ihyExpr k (by omega) ((kn l0_4 1).f0) ((kn l0_4 1).f1) ((kn l0_4 1).f2) ((kn l0_4 1).f3) _ _ ((kn l0_4 1).f4) t189 _ ?side1 ?side2 ?side3 A10.out).mono ?_
         (case side1 => exact Ext.TAB.below HT.out (by repeat (first | (with_reducible first | exact HB.out | apply ke | apply ka | apply kf | refine kj ?_ GE185.out) | exact HB.out)))
         (case side2 => exact Kd.kx HR188_4.out HB.out)
         (case side3 => exact HC188_4.out)
         rintro e w16 ⟨rfl, hb⟩
         refine ⟨_, rfl, ?_⟩
         have n0_ := kd.mk (ku (g := gb185) (o := .cells #[.int .i64 a0_0, .int .i64 a0_1, .int .u32 a0_2, .string a0_3, .slice (some ad186) l0_4.length c0_4] 36 (0, 0)) (by (with_reducible repeat (first | refine kg ?_ _ | refine kk ?_ | refine ki ?_ _)); exact BK185.out) hb)
         have n1_ := kd.mk (kr (by repeat (first | (with_reducible first | exact HB.out | apply ke | apply ka | apply kf | refine kj ?_ GE185.out) | exact HB.out)) hb)
         clear BK185
         clear HB
         have BK185 := n0_
         have HB := n1_
         clear n0_ n1_
         (try clear hb)
         refine hK.out _ _ ⟨(kc BK185.out 0).trans rfl, (kc BK185.out 1).trans rfl, (kc BK185.out 2).trans rfl, (kc BK185.out 3).trans rfl, (kc BK185.out 4).trans rfl, ((HB.out.cell (World.block_lt_of_cell? w _ hw186_0)).trans hw186_0), ((HB.out.cell (World.block_lt_of_cell? w _ hw186_1)).trans hw186_1), ((HB.out.cell (World.block_lt_of_cell? w _ hw186_2)).trans hw186_2), ((HB.out.cell (World.block_lt_of_cell? w _ hw186_3)).trans hw186_3), ((HB.out.cell (World.block_lt_of_cell? w _ hw186_4)).trans hw186_4), ((HB.out.cell (World.block_lt_of_cell? w _ hw188_0)).trans hw188_0), ((HB.out.cell (World.block_lt_of_cell? w _ hw188_1)).trans hw188_1), ((HB.out.cell (World.block_lt_of_cell? w _ hw188_2)).trans hw188_2), ((HB.out.cell (World.block_lt_of_cell? w _ hw188_3)).trans hw188_3), ((HB.out.cell (World.block_lt_of_cell? w _ hw188_4)).trans hw188_4)⟩ (fun hHeld => ?_)
         clear hK K
         refine norm_ (a' := ?_) ?_ ?_
         rotate_left
         ·show Act.put _ (some 19) _ = _
          simp only [Act.put, List.setIfInBounds_toArray, List.set_cons_zero, List.set_cons_succ, jc, jd]
          rfl
         refine jq (i := 15) (N := some 20) (v := ?_) (a' := ?_) #[true, true, true, true, true, true, true, true, true, true, true, true, true, true, true, true, false, false] rfl rfl (any_of HT_.out (by kernel_rfl)) (fun _ _ _ h => h) (Or.inl ⟨by rfl, ?_⟩) ?_ ?_
         rotate_left
         ·intro w'
          go_simp
          with_reducible rfl
         rotate_left
         ·simp only [Act.put, List.setIfInBounds_toArray, List.set_cons_zero, List.set_cons_succ, jc, jd]
          rfl
         refine jq (i := 16) (N := some 21) (v := ?_) (a' := ?_) #[true, true, true, true, true, true, true, true, true, true, true, true, true, true, true, true, true, false] rfl rfl (any_of HT_.out (by kernel_rfl)) (fun _ _ _ h => h) (Or.inl ⟨by rfl, ?_⟩) ?_ ?_
         rotate_left
         ·intro w'
          go_simp
          with_reducible rfl
         rotate_left
         ·simp only [Act.put, List.setIfInBounds_toArray, List.set_cons_zero, List.set_cons_succ, jc, jd]
          rfl
         refine jq (i := 17) (N := some 4) (v := ?_) (a' := ?_) #[true, true, true, true, true, true, true, true, true, true, true, true, true, true, true, true, true, true] rfl rfl (any_of HT_.out (by kernel_rfl)) (fun _ _ _ h => h) (Or.inl ⟨by rfl, ?_⟩) ?_ ?_
         rotate_left
         ·intro w'
          go_simp
          with_reducible rfl
         rotate_left
         ·simp only [Act.put, List.setIfInBounds_toArray, List.set_cons_zero, List.set_cons_succ, jc, jd]
          rfl
         refine done_ (done_of HT_.out (by kernel_rfl)) ?_
         try go_wp2
         go_ret
         exact ⟨by first | rfl | (simp [kp, ko] <;> rfl) | (simp [*, kp, ko] <;> rfl), by repeat (first | (with_reducible first | exact HB.out | apply ke | apply ka | apply kf | refine kj ?_ GE185.out) | exact HB.out)⟩
        ·rw [if_neg c12] at H
         exact absurd H (by simp)
       ·rw [if_neg c11] at H
        exact absurd H (by simp)
      ·rw [if_neg c9] at H
       exact absurd H (by simp)
     ·rw [if_neg c8] at H
      exact absurd H (by simp)
    ·rw [if_neg c7] at H
     exact absurd H (by simp)
   ·rw [if_neg c6] at H
    exact absurd H (by simp)
  ·rw [if_neg c5] at H
   exact absurd H (by simp)
 ·rw [if_neg c3] at H
  exact absurd H (by simp)
def yExpr.T7 : Bool × List (List Nat × List Nat) := (true, [([], []), ([0], [0]), ([1], [1]), ([], []), ([3], [3]), ([4], [4]), ([5], [5]), ([6], [6]), ([2, 7], [2, 7]), ([8], [8]), ([9, 7, 0, 1, 2, 3, 4, 5, 6, 7, 8, 9], [9])])
def yExpr.B7 : List Nat := [0, 1, 3, 0, 8, 24, 56, 120, 255, 511, 1023]
theorem yExpr.tab7 : rtab .any (opsOf Tryd.f24 7) = yExpr.T7 := by kernel_rfl
theorem yExpr.bits7 : waitsOk yExpr.T7.2 yExpr.B7 = true := by kernel_rfl
def yExpr.T9 : Bool × List (List Nat × List Nat) := (true, [([], []), ([0], [0]), ([1], [1]), ([], []), ([3], [3]), ([4], [4]), ([2, 5], [2, 5]), ([6], [6]), ([7, 5, 0, 1, 2, 3, 4, 5, 6, 7], [7])])
def yExpr.B9 : List Nat := [0, 1, 3, 0, 8, 24, 63, 127, 255]
theorem yExpr.tab9 : rtab .any (opsOf Tryd.f24 9) = yExpr.T9 := by kernel_rfl
theorem yExpr.bits9 : waitsOk yExpr.T9.2 yExpr.B9 = true := by kernel_rfl
def yExpr.T13 : Bool × List (List Nat × List Nat) := (true, [([], []), ([], []), ([1], [1]), ([2], [2]), ([3], [3]), ([4], [4]), ([0, 5], [0, 5]), ([6, 6, 0, 1, 2, 3, 4, 5, 6], [6])])
def yExpr.B13 : List Nat := [0, 0, 2, 6, 14, 30, 63, 127]
theorem yExpr.tab13 : rtab .any (opsOf Tryd.f24 13) = yExpr.T13 := by kernel_rfl
theorem yExpr.bits13 : waitsOk yExpr.T13.2 yExpr.B13 = true := by kernel_rfl
set_option maxHeartbeats 8000000 in
set_option maxRecDepth 100000 in
theorem yExpr.calls_of (k : Nat) (ihyargs : ∀ j_, j_ < k → ∀ (A0 : Option Addr) (c0 : Nat) (l0 : List (S36)) (r : ByteArray) (w : World) (hT : Ext.TAB w) (hr0 : Kd.C k36 w A0 l0.length l0) (hc0 : l0.length ≤ c0) (h : yargs.f j_ l0 = some r), Calls Tryd.prog 53 #[.slice A0 l0.length c0] w fun e w' => e = .returned (.string r) ∧ Below w.heap.size w w') (ihytwo : ∀ j_, j_ < k → ∀ (a0_0 : Int) (a0_1 : Int) (a0_2 : Int) (a0_3 : ByteArray) (A0_4 : Option Addr) (c0_4 : Nat) (l0_4 : List (S36)) (a1 : ByteArray) (r : ByteArray) (w : World) (hT : Ext.TAB w) (hr0_4 : Kd.C k36 w A0_4 l0_4.length l0_4) (hc0_4 : l0_4.length ≤ c0_4) (h : ytwo.f j_ a0_0 a0_1 a0_2 a0_3 l0_4 a1 = some r), Calls Tryd.prog 54 #[.agg #[.int .i64 a0_0, .int .i64 a0_1, .int .u32 a0_2, .string a0_3, .slice A0_4 l0_4.length c0_4], .string a1] w fun e w' => e = .returned (.string r) ∧ Below w.heap.size w w') (ihyExpr : ∀ j_, j_ < k → ∀ (a0_0 : Int) (a0_1 : Int) (a0_2 : Int) (a0_3 : ByteArray) (A0_4 : Option Addr) (c0_4 : Nat) (l0_4 : List (S36)) (r : ByteArray) (w : World) (hT : Ext.TAB w) (hr0_4 : Kd.C k36 w A0_4 l0_4.length l0_4) (hc0_4 : l0_4.length ≤ c0_4) (h : yExpr.f j_ a0_0 a0_1 a0_2 a0_3 l0_4 = some r), Calls Tryd.prog 24 #[.agg #[.int .i64 a0_0, .int .i64 a0_1, .int .u32 a0_2, .string a0_3, .slice A0_4 l0_4.length c0_4]] w fun e w' => e = .returned (.string r) ∧ Below w.heap.size w w') : ∀ (a0_0 : Int) (a0_1 : Int) (a0_2 : Int) (a0_3 : ByteArray) (A0_4 : Option Addr) (c0_4 : Nat) (l0_4 : List (S36)) (r : ByteArray) (w : World) (hT : Ext.TAB w) (hr0_4 : Kd.C k36 w A0_4 l0_4.length l0_4) (hc0_4 : l0_4.length ≤ c0_4) (h : yExpr.f k a0_0 a0_1 a0_2 a0_3 l0_4 = some r), Calls Tryd.prog 24 #[.agg #[.int .i64 a0_0, .int .i64 a0_1, .int .u32 a0_2, .string a0_3, .slice A0_4 l0_4.length c0_4]] w fun e w' => e = .returned (.string r) ∧ Below w.heap.size w w' := by
 intro a0_0 a0_1 a0_2 a0_3 A0_4 c0_4 l0_4 r w hT hr0_4 hc0_4 h
 cases k with
 | zero => exact absurd h (by simp [yExpr.f])
 | succ k =>
 simp only [yExpr.f] at h
 have hu36 := Tryd.underlying36
 have HT := kd.mk hT
 have HRg0 := kd.mk (Ext.signsL_C HT.out)
 have HCg0 := kd.mk (show Ext.signsL.length ≤ 12 from by decide)
 clear hT
 have HR0_4 := kd.mk hr0_4
 have HC0_4 := kd.mk hc0_4
 clear hr0_4 hc0_4
 have HB := kd.mk (Below.refl w.heap.size w)
 have H : (if a0_0 = 1 then ((word_Text.f a0_2).bind fun t191 => (some t191)) else (if a0_0 = 2 then (some a0_3) else (if a0_0 = 3 then (if a0_3.size + 1 ≤ 9223372036854775807 then (if 0 < (l0_4.length : Int) then ((yExpr.f k ((kn l0_4 0).f0) ((kn l0_4 0).f1) ((kn l0_4 0).f2) ((kn l0_4 0).f3) ((kn l0_4 0).f4)).bind fun t193 => (if (a0_3 ++ (⟨#[91]⟩ : ByteArray)).size + t193.size ≤ 9223372036854775807 then (if ((a0_3 ++ (⟨#[91]⟩ : ByteArray)) ++ t193).size + 1 ≤ 9223372036854775807 then (some (((a0_3 ++ (⟨#[91]⟩ : ByteArray)) ++ t193) ++ (⟨#[93]⟩ : ByteArray))) else (none)) else (none))) else (none)) else (none)) else (if a0_0 = 4 then (if a0_3.size + 1 ≤ 9223372036854775807 then ((yargs.f k l0_4).bind fun t194 => (if (a0_3 ++ (⟨#[40]⟩ : ByteArray)).size + t194.size ≤ 9223372036854775807 then (if ((a0_3 ++ (⟨#[40]⟩ : ByteArray)) ++ t194).size + 1 ≤ 9223372036854775807 then (some (((a0_3 ++ (⟨#[40]⟩ : ByteArray)) ++ t194) ++ (⟨#[41]⟩ : ByteArray))) else (none)) else (none))) else (none)) else (if a0_0 = 5 then (some (⟨#[103, 101, 116, 40, 41]⟩ : ByteArray)) else (if a0_0 = 6 then (if 0 ≤ (wrap64 (a0_1 - 4)) then (if (wrap64 (a0_1 - 4)) < 12 then ((ytwo.f k a0_0 a0_1 a0_2 a0_3 l0_4 (rdOf ByteArray.empty Ext.signsL (wrap64 (a0_1 - 4)))).bind fun t196 => (some t196)) else (none)) else (none)) else (if a0_0 = 7 then (if 0 < (l0_4.length : Int) then ((yExpr.f k ((kn l0_4 0).f0) ((kn l0_4 0).f1) ((kn l0_4 0).f2) ((kn l0_4 0).f3) ((kn l0_4 0).f4)).bind fun t198 => (if 1 + t198.size ≤ 9223372036854775807 then (some ((⟨#[33]⟩ : ByteArray) ++ t198)) else (none))) else (none)) else (if a0_0 = 8 then ((ytwo.f k a0_0 a0_1 a0_2 a0_3 l0_4 (⟨#[38, 38]⟩ : ByteArray)).bind fun t199 => (some t199)) else ((ytwo.f k a0_0 a0_1 a0_2 a0_3 l0_4 (⟨#[124, 124]⟩ : ByteArray)).bind fun t200 => (some t200)))))))))) = some r := h
 clear h
 by_cases c2 : a0_0 = 1
 ·rw [if_pos c2] at H
  have c2b0 : (a0_0 == 1) = true := beq_iff_eq.mpr c2
  have c2b1 : (a0_0 != 1) = false := bne_eq_false_iff_eq.mpr c2
  clear c2
  replace H := Option.bind_eq_some_iff.mp H
  obtain ⟨t191, A30, H⟩ := H
  replace H : (some t191) = some r := H
  have A3 := kd.mk A30
  clear A30
  obtain rfl := Option.some.inj H
  go_enter Tryd.func24, Tryd.ntmps24
  go_wp2_with (first | ((with_reducible refine ja (N := 1) rfl ?_); refine kz ?hg (N := 1) ?hd (cs := #[.int .i64 a0_0, .int .i64 a0_1, .int .u32 a0_2, .string a0_3, .slice A0_4 l0_4.length c0_4]) (t := 36) ?hr ?_; (case hd => rfl); (case hg => rfl); (case hr => first | (go_simp; done) | (go_simp; rfl)); intro gb190 hg w4 hbox hb; have n0_ := kd.mk (kr (by repeat (first | (with_reducible first | exact HB.out | apply ke | apply ka | apply kf) | exact HB.out)) hb); have n1_ := kd.mk (hbox); have n2_ := kd.mk ((by rw [hg]; exact (ks (by repeat (first | (with_reducible first | exact HB.out | apply ke | apply ka | apply kf) | exact HB.out))) : w.heap.size ≤ gb190)); have n3_ := kd.mk ((by rw [hg]; exact (ks (by repeat (first | (with_reducible first | exact HB.out | apply ke | apply ka | apply kf) | exact HB.out))) : w.heap.size ≤ gb190)); clear HB; have HB := n0_; have BK190 := n1_; have GW190 := n2_; have GE190 := n3_; clear n0_ n1_ n2_ n3_; clear hb hbox hg; have hcz5_0 : w4.cell? ⟨gb190, 0, none⟩ = some (.int .i64 a0_0) := (kc BK190.out 0).trans rfl; have hcz5_1 : w4.cell? ⟨gb190, 1, none⟩ = some (.int .i64 a0_1) := (kc BK190.out 1).trans rfl; have hcz5_2 : w4.cell? ⟨gb190, 2, none⟩ = some (.int .u32 a0_2) := (kc BK190.out 2).trans rfl; have hcz5_3 : w4.cell? ⟨gb190, 3, none⟩ = some (.string a0_3) := (kc BK190.out 3).trans rfl; have hcz5_4 : w4.cell? ⟨gb190, 4, none⟩ = some (.slice A0_4 l0_4.length c0_4) := (kc BK190.out 4).trans rfl; have hfz5_0 := kb BK190.out 0; have hfz5_1 := kb BK190.out 1; have hfz5_2 := kb BK190.out 2; have hfz5_3 := kb BK190.out 3; have hfz5_4 := kb BK190.out 4) | ((with_reducible refine jb (f := 30) rfl ?_); refine jo (some 9) rfl rfl Tryd.func30 (by kernel_rfl) rfl #[.int .u32 a0_2] rfl (by (try simp only [List.map_toArray, List.map_cons, List.map_nil]); first | done | rfl | (simp only [List.length_drop, List.length_take]; rfl)) ?_; (with_reducible refine (word_Text.calls a0_2 t191 _ ?side1 A3.out).mono ?_); (case side1 => exact Ext.TAB.below HT.out (by repeat (first | (with_reducible first | exact HB.out | apply ke | apply ka | apply kf | refine kj ?_ GE190.out) | exact HB.out))); rintro e w6 ⟨rfl, hb⟩; refine ⟨_, rfl, ?_⟩; have n0_ := kd.mk (ku (g := gb190) (o := .cells #[.int .i64 a0_0, .int .i64 a0_1, .int .u32 a0_2, .string a0_3, .slice A0_4 l0_4.length c0_4] 36 (0, 0)) (by (with_reducible repeat (first | refine kg ?_ _ | refine kk ?_ | refine ki ?_ _)); exact BK190.out) hb); have n1_ := kd.mk (kr (by repeat (first | (with_reducible first | exact HB.out | apply ke | apply ka | apply kf | refine kj ?_ GE190.out) | exact HB.out)) hb); clear BK190; clear HB; have BK190 := n0_; have HB := n1_; clear n0_ n1_; (try clear hb)))
  go_ret
  exact ⟨by first | rfl | (simp [kp, ko] <;> rfl) | (simp [*, kp, ko] <;> rfl), by repeat (first | (with_reducible first | exact HB.out | apply ke | apply ka | apply kf | refine kj ?_ GE190.out) | exact HB.out)⟩
 ·rw [if_neg c2] at H
  have c2b0 : (a0_0 == 1) = false := beq_eq_false_iff_ne.mpr c2
  have c2b1 : (a0_0 != 1) = true := bne_iff_ne.mpr c2
  by_cases c7 : a0_0 = 2
  ·rw [if_pos c7] at H
   have c7b0 : (a0_0 == 2) = true := beq_iff_eq.mpr c7
   have c7b1 : (a0_0 != 2) = false := bne_eq_false_iff_eq.mpr c7
   clear c7
   obtain rfl := Option.some.inj H
   go_enter Tryd.func24, Tryd.ntmps24
   go_wp2_with (first | ((with_reducible refine ja (N := 1) rfl ?_); refine kz ?hg (N := 1) ?hd (cs := #[.int .i64 a0_0, .int .i64 a0_1, .int .u32 a0_2, .string a0_3, .slice A0_4 l0_4.length c0_4]) (t := 36) ?hr ?_; (case hd => rfl); (case hg => rfl); (case hr => first | (go_simp; done) | (go_simp; rfl)); intro gb190 hg w8 hbox hb; have n0_ := kd.mk (kr (by repeat (first | (with_reducible first | exact HB.out | apply ke | apply ka | apply kf) | exact HB.out)) hb); have n1_ := kd.mk (hbox); have n2_ := kd.mk ((by rw [hg]; exact (ks (by repeat (first | (with_reducible first | exact HB.out | apply ke | apply ka | apply kf) | exact HB.out))) : w.heap.size ≤ gb190)); have n3_ := kd.mk ((by rw [hg]; exact (ks (by repeat (first | (with_reducible first | exact HB.out | apply ke | apply ka | apply kf) | exact HB.out))) : w.heap.size ≤ gb190)); clear HB; have HB := n0_; have BK190 := n1_; have GW190 := n2_; have GE190 := n3_; clear n0_ n1_ n2_ n3_; clear hb hbox hg; have hcz9_0 : w8.cell? ⟨gb190, 0, none⟩ = some (.int .i64 a0_0) := (kc BK190.out 0).trans rfl; have hcz9_1 : w8.cell? ⟨gb190, 1, none⟩ = some (.int .i64 a0_1) := (kc BK190.out 1).trans rfl; have hcz9_2 : w8.cell? ⟨gb190, 2, none⟩ = some (.int .u32 a0_2) := (kc BK190.out 2).trans rfl; have hcz9_3 : w8.cell? ⟨gb190, 3, none⟩ = some (.string a0_3) := (kc BK190.out 3).trans rfl; have hcz9_4 : w8.cell? ⟨gb190, 4, none⟩ = some (.slice A0_4 l0_4.length c0_4) := (kc BK190.out 4).trans rfl; have hfz9_0 := kb BK190.out 0; have hfz9_1 := kb BK190.out 1; have hfz9_2 := kb BK190.out 2; have hfz9_3 := kb BK190.out 3; have hfz9_4 := kb BK190.out 4))
   go_ret
   exact ⟨by first | rfl | (simp [kp, ko] <;> rfl) | (simp [*, kp, ko] <;> rfl), by repeat (first | (with_reducible first | exact HB.out | apply ke | apply ka | apply kf | refine kj ?_ GE190.out) | exact HB.out)⟩
  ·rw [if_neg c7] at H
   have c7b0 : (a0_0 == 2) = false := beq_eq_false_iff_ne.mpr c7
   have c7b1 : (a0_0 != 2) = true := bne_iff_ne.mpr c7
   by_cases c10 : a0_0 = 3
   ·rw [if_pos c10] at H
    have c10b0 : (a0_0 == 3) = true := beq_iff_eq.mpr c10
    have c10b1 : (a0_0 != 3) = false := bne_eq_false_iff_eq.mpr c10
    clear c10
    by_cases c11 : a0_3.size + 1 ≤ 9223372036854775807
    ·rw [if_pos c11] at H
     have c11b0 := eq_true c11
     have c11b1 : decide (a0_3.size + 1 ≤ 9223372036854775807) = true := decide_eq_true c11
     try have c11b2 : (9223372036854775807 < a0_3.size + 1) = False := eq_false (Nat.not_lt.2 c11)
     by_cases c12 : 0 < (l0_4.length : Int)
     ·rw [if_pos c12] at H
      have c12b0 : decide (0 < (l0_4.length : Int)) = true := decide_eq_true c12
      have c12b1 : decide (0 < l0_4.length) = true := decide_eq_true (by omega)
      clear c12
      replace H := Option.bind_eq_some_iff.mp H
      obtain ⟨t193, A130, H⟩ := H
      replace H : (if (a0_3 ++ (⟨#[91]⟩ : ByteArray)).size + t193.size ≤ 9223372036854775807 then (if ((a0_3 ++ (⟨#[91]⟩ : ByteArray)) ++ t193).size + 1 ≤ 9223372036854775807 then (some (((a0_3 ++ (⟨#[91]⟩ : ByteArray)) ++ t193) ++ (⟨#[93]⟩ : ByteArray))) else (none)) else (none)) = some r := H
      have A13 := kd.mk A130
      clear A130
      by_cases c14 : (a0_3 ++ (⟨#[91]⟩ : ByteArray)).size + t193.size ≤ 9223372036854775807
      ·rw [if_pos c14] at H
       have c14b0 := eq_true c14
       have c14b1 : decide ((a0_3 ++ (⟨#[91]⟩ : ByteArray)).size + t193.size ≤ 9223372036854775807) = true := decide_eq_true c14
       try have c14b2 : (9223372036854775807 < (a0_3 ++ (⟨#[91]⟩ : ByteArray)).size + t193.size) = False := eq_false (Nat.not_lt.2 c14)
       (try simp only [ByteArray.size_append, show (⟨#[91]⟩ : ByteArray).size = 1 from rfl] at c14b2)
       by_cases c15 : ((a0_3 ++ (⟨#[91]⟩ : ByteArray)) ++ t193).size + 1 ≤ 9223372036854775807
       ·rw [if_pos c15] at H
        have c15b0 := eq_true c15
        have c15b1 : decide (((a0_3 ++ (⟨#[91]⟩ : ByteArray)) ++ t193).size + 1 ≤ 9223372036854775807) = true := decide_eq_true c15
        try have c15b2 : (9223372036854775807 < ((a0_3 ++ (⟨#[91]⟩ : ByteArray)) ++ t193).size + 1) = False := eq_false (Nat.not_lt.2 c15)
        (try simp only [ByteArray.size_append, show (⟨#[91]⟩ : ByteArray).size = 1 from rfl] at c15b2)
        obtain rfl := Option.some.inj H
        go_enter Tryd.func24, Tryd.ntmps24
        try go_wp2_with (first | ((with_reducible refine ja (N := 1) rfl ?_); refine kz ?hg (N := 1) ?hd (cs := #[.int .i64 a0_0, .int .i64 a0_1, .int .u32 a0_2, .string a0_3, .slice A0_4 l0_4.length c0_4]) (t := 36) ?hr ?_; (case hd => rfl); (case hg => rfl); (case hr => first | (go_simp; done) | (go_simp; rfl)); intro gb190 hg w16 hbox hb; have n0_ := kd.mk (kr (by repeat (first | (with_reducible first | exact HB.out | apply ke | apply ka | apply kf) | exact HB.out)) hb); have n1_ := kd.mk (hbox); have n2_ := kd.mk ((by rw [hg]; exact (ks (by repeat (first | (with_reducible first | exact HB.out | apply ke | apply ka | apply kf) | exact HB.out))) : w.heap.size ≤ gb190)); have n3_ := kd.mk ((by rw [hg]; exact (ks (by repeat (first | (with_reducible first | exact HB.out | apply ke | apply ka | apply kf) | exact HB.out))) : w.heap.size ≤ gb190)); clear HB; have HB := n0_; have BK190 := n1_; have GW190 := n2_; have GE190 := n3_; clear n0_ n1_ n2_ n3_; clear hb hbox hg; have hcz17_0 : w16.cell? ⟨gb190, 0, none⟩ = some (.int .i64 a0_0) := (kc BK190.out 0).trans rfl; have hcz17_1 : w16.cell? ⟨gb190, 1, none⟩ = some (.int .i64 a0_1) := (kc BK190.out 1).trans rfl; have hcz17_2 : w16.cell? ⟨gb190, 2, none⟩ = some (.int .u32 a0_2) := (kc BK190.out 2).trans rfl; have hcz17_3 : w16.cell? ⟨gb190, 3, none⟩ = some (.string a0_3) := (kc BK190.out 3).trans rfl; have hcz17_4 : w16.cell? ⟨gb190, 4, none⟩ = some (.slice A0_4 l0_4.length c0_4) := (kc BK190.out 4).trans rfl; have hfz17_0 := kb BK190.out 0; have hfz17_1 := kb BK190.out 1; have hfz17_2 := kb BK190.out 2; have hfz17_3 := kb BK190.out 3; have hfz17_4 := kb BK190.out 4))
        have n0_ := kd.mk (kk BK190.out)
        have n1_ := kd.mk (kf HB.out)
        clear BK190
        clear HB
        have BK190 := n0_
        have HB := n1_
        clear n0_ n1_
        have p192 : 0 ≤ (0 : Int) := (by omega)
        have q192 : 0 < (l0_4.length : Int) := of_decide_eq_true (by first | (with_reducible assumption) | assumption)
        obtain ⟨ad192, A192_4, c192_4, e192, hx192_0, hx192_1, hx192_2, hx192_3, hx192_4, hl192_4, hi192_4⟩ := at_T36 HR0_4.out 0 p192 q192
        have hw192_4 := hx192_4
        (try rw [show ((0 : Int)).toNat = 0 from rfl] at hw192_4)
        (try rw [show 0 * 5 = 0 from rfl] at hw192_4)
        (try rw [Addr.add_zero'] at hw192_4)
        have hw192_3 := hx192_3
        (try rw [show ((0 : Int)).toNat = 0 from rfl] at hw192_3)
        (try rw [show 0 * 5 = 0 from rfl] at hw192_3)
        (try rw [Addr.add_zero'] at hw192_3)
        have hw192_2 := hx192_2
        (try rw [show ((0 : Int)).toNat = 0 from rfl] at hw192_2)
        (try rw [show 0 * 5 = 0 from rfl] at hw192_2)
        (try rw [Addr.add_zero'] at hw192_2)
        have hw192_1 := hx192_1
        (try rw [show ((0 : Int)).toNat = 0 from rfl] at hw192_1)
        (try rw [show 0 * 5 = 0 from rfl] at hw192_1)
        (try rw [Addr.add_zero'] at hw192_1)
        have hw192_0 := hx192_0
        (try rw [show ((0 : Int)).toNat = 0 from rfl] at hw192_0)
        (try rw [show 0 * 5 = 0 from rfl] at hw192_0)
        (try rw [Addr.add_zero'] at hw192_0)
        cases e192
        have qi192 : (0 < l0_4.length) = True := eq_true (by omega)
        (try rw [show ((0 : Int)).toNat = 0 from rfl] at hx192_0)
        (try rw [show 0 * 5 = 0 from rfl] at hx192_0)
        (try rw [Addr.add_zero'] at hx192_0)
        (try rw [show ((0 : Int)).toNat = 0 from rfl] at hx192_1)
        (try rw [show 0 * 5 = 0 from rfl] at hx192_1)
        (try rw [Addr.add_zero'] at hx192_1)
        (try rw [show ((0 : Int)).toNat = 0 from rfl] at hx192_2)
        (try rw [show 0 * 5 = 0 from rfl] at hx192_2)
        (try rw [Addr.add_zero'] at hx192_2)
        (try rw [show ((0 : Int)).toNat = 0 from rfl] at hx192_3)
        (try rw [show 0 * 5 = 0 from rfl] at hx192_3)
        (try rw [Addr.add_zero'] at hx192_3)
        (try rw [show ((0 : Int)).toNat = 0 from rfl] at hx192_4)
        (try rw [show 0 * 5 = 0 from rfl] at hx192_4)
        (try rw [Addr.add_zero'] at hx192_4)
        replace hx192_0 := (HB.out.cell (World.block_lt_of_cell? w _ hx192_0)).trans hx192_0
        replace hx192_1 := (HB.out.cell (World.block_lt_of_cell? w _ hx192_1)).trans hx192_1
        replace hx192_2 := (HB.out.cell (World.block_lt_of_cell? w _ hx192_2)).trans hx192_2
        replace hx192_3 := (HB.out.cell (World.block_lt_of_cell? w _ hx192_3)).trans hx192_3
        replace hx192_4 := (HB.out.cell (World.block_lt_of_cell? w _ hx192_4)).trans hx192_4
        have HR192_4 := kd.mk hi192_4
        have HC192_4 := kd.mk hl192_4
        clear hi192_4 hl192_4
        replace p192 := eq_true p192
        replace q192 := eq_true q192
        refine start_ (n := 11) (S := fun w' => w'.cell? ⟨gb190, 0, none⟩ = some (.int .i64 a0_0) ∧ w'.cell? ⟨gb190, 1, none⟩ = some (.int .i64 a0_1) ∧ w'.cell? ⟨gb190, 2, none⟩ = some (.int .u32 a0_2) ∧ w'.cell? ⟨gb190, 3, none⟩ = some (.string a0_3) ∧ w'.cell? ⟨gb190, 4, none⟩ = some (.slice (some ad192) l0_4.length c0_4) ∧ w'.cell? ad192 = some (.int .i64 ((kn l0_4 0).f0)) ∧ w'.cell? ⟨ad192.block, ad192.off + 1, none⟩ = some (.int .i64 ((kn l0_4 0).f1)) ∧ w'.cell? ⟨ad192.block, ad192.off + 2, none⟩ = some (.int .u32 ((kn l0_4 0).f2)) ∧ w'.cell? ⟨ad192.block, ad192.off + 3, none⟩ = some (.string ((kn l0_4 0).f3)) ∧ w'.cell? ⟨ad192.block, ad192.off + 4, none⟩ = some (.slice A192_4 ((kn l0_4 0).f4).length c192_4)) (ds := []) #[false, false, false, false, false, false, false, false, false, false, false] (by kernel_rfl) rfl rfl ⟨(kc BK190.out 0).trans rfl, (kc BK190.out 1).trans rfl, (kc BK190.out 2).trans rfl, (kc BK190.out 3).trans rfl, (kc BK190.out 4).trans rfl, ((HB.out.cell (World.block_lt_of_cell? w _ hw192_0)).trans hw192_0), ((HB.out.cell (World.block_lt_of_cell? w _ hw192_1)).trans hw192_1), ((HB.out.cell (World.block_lt_of_cell? w _ hw192_2)).trans hw192_2), ((HB.out.cell (World.block_lt_of_cell? w _ hw192_3)).trans hw192_3), ((HB.out.cell (World.block_lt_of_cell? w _ hw192_4)).trans hw192_4)⟩ (fun hHeld => ?_); refine with_tabW yExpr.tab7 yExpr.bits7 (fun HT_ HW_ => ?_)
        generalize w16.drew = w18 at BK190 HB HR192_4 hx192_0 hx192_1 hx192_2 hx192_3 hx192_4 hHeld ⊢
        refine jq (i := 0) (N := some 16) (v := ?_) (a' := ?_) #[true, false, false, false, false, false, false, false, false, false, false] rfl rfl (any_of HT_.out (by kernel_rfl)) (fun _ _ _ h => h) (Or.inl ⟨by rfl, ?_⟩) ?_ ?_
        rotate_left
        ·intro w'
         go_simp
         with_reducible rfl
        rotate_left
        ·simp only [Act.put, List.setIfInBounds_toArray, List.set_cons_zero, List.set_cons_succ, jc, jd]
         rfl
        refine jq (i := 3) (N := some 19) (v := ?_) (a' := ?_) #[true, false, false, true, false, false, false, false, false, false, false] rfl rfl (any_of HT_.out (by kernel_rfl)) (fun _ _ _ h => h) (Or.inl ⟨by rfl, ?_⟩) ?_ ?_
        rotate_left
        ·intro w'
         go_simp
         with_reducible rfl
        rotate_left
        ·simp only [Act.put, List.setIfInBounds_toArray, List.set_cons_zero, List.set_cons_succ, jc, jd]
         rfl
        refine take_ (i := 1) (N := some 17) (v := ?_) (a' := ?_) #[true, true, false, true, false, false, false, false, false, false, false] rfl rfl (take_ofW HT_.out HW_.out (by kernel_rfl)) (fun _ _ _ h => h) (Or.inl ⟨by rfl, ?_⟩) hHeld ?_ ?_
        rotate_left
        ·rintro w' ⟨s0, s1, s2, s3, s4, s5, s6, s7, s8, s9⟩
         go_simp
         with_reducible rfl
        rotate_left
        ·simp only [Act.put, List.setIfInBounds_toArray, List.set_cons_zero, List.set_cons_succ, jc, jd]
         rfl
        refine jq (i := 2) (N := some 18) (v := ?_) (a' := ?_) #[true, true, true, true, false, false, false, false, false, false, false] rfl rfl (any_of HT_.out (by kernel_rfl)) (fun _ _ _ h => h) (Or.inl ⟨by rfl, ?_⟩) ?_ ?_
        rotate_left
        ·intro w'
         go_simp
         with_reducible rfl
        rotate_left
        ·simp only [Act.put, List.setIfInBounds_toArray, List.set_cons_zero, List.set_cons_succ, jc, jd]
         rfl
        refine take_ (i := 4) (N := some 20) (v := ?_) (a' := ?_) #[true, true, true, true, true, false, false, false, false, false, false] rfl rfl (take_ofW HT_.out HW_.out (by kernel_rfl)) (fun _ _ _ h => h) (Or.inl ⟨by rfl, ?_⟩) hHeld ?_ ?_
        rotate_left
        ·rintro w' ⟨s0, s1, s2, s3, s4, s5, s6, s7, s8, s9⟩
         go_simp
         with_reducible rfl
        rotate_left
        ·simp only [Act.put, List.setIfInBounds_toArray, List.set_cons_zero, List.set_cons_succ, jc, jd]
         rfl
        refine jq (i := 5) (N := some 21) (v := ?_) (a' := ?_) #[true, true, true, true, true, true, false, false, false, false, false] rfl rfl (any_of HT_.out (by kernel_rfl)) (fun _ _ _ h => h) (Or.inl ⟨by rfl, ?_⟩) ?_ ?_
        rotate_left
        ·intro w'
         go_simp
         with_reducible rfl
        rotate_left
        ·simp only [Act.put, List.setIfInBounds_toArray, List.set_cons_zero, List.set_cons_succ, jc, jd]
         rfl
        refine take_ (i := 6) (N := some 22) (v := ?_) (a' := ?_) #[true, true, true, true, true, true, true, false, false, false, false] rfl rfl (take_ofW HT_.out HW_.out (by kernel_rfl)) (fun _ _ _ h => h) (Or.inl ⟨by rfl, ?_⟩) hHeld ?_ ?_
        rotate_left
        ·rintro w' ⟨s0, s1, s2, s3, s4, s5, s6, s7, s8, s9⟩
         go_simp
         with_reducible rfl
        rotate_left
        ·simp only [Act.put, List.setIfInBounds_toArray, List.set_cons_zero, List.set_cons_succ, jc, jd]
         rfl
        refine one_ (i := 7) (N := some 23) #[true, true, true, true, true, true, true, true, false, false, false] rfl rfl (one_of HT_.out (by kernel_rfl)) (by decide) (fun K hK => ?_)
        refine goes_ Tryd.func24 (by kernel_rfl) rfl #[.agg #[.int .i64 ((kn l0_4 0).f0), .int .i64 ((kn l0_4 0).f1), .int .u32 ((kn l0_4 0).f2), .string ((kn l0_4 0).f3), .slice A192_4 ((kn l0_4 0).f4).length c192_4]] (by rfl) rfl rfl (by (try simp only [List.map_toArray, List.map_cons, List.map_nil]); first | done | rfl | (simp only [List.length_drop, List.length_take]; rfl)) ?_
        with_reducible refine (ihyExpr k (by omega) ((kn l0_4 0).f0) ((kn l0_4 0).f1) ((kn l0_4 0).f2) ((kn l0_4 0).f3) _ _ ((kn l0_4 0).f4) t193 _ ?side1 ?side2 ?side3 A13.out).mono ?_
        (case side1 => exact Ext.TAB.below HT.out (by repeat (first | (with_reducible first | exact HB.out | apply ke | apply ka | apply kf | refine kj ?_ GE190.out) | exact HB.out)))
        (case side2 => exact Kd.kx HR192_4.out HB.out)
        (case side3 => exact HC192_4.out)
        rintro e w19 ⟨rfl, hb⟩
        refine ⟨_, rfl, ?_⟩
        have n0_ := kd.mk (ku (g := gb190) (o := .cells #[.int .i64 a0_0, .int .i64 a0_1, .int .u32 a0_2, .string a0_3, .slice (some ad192) l0_4.length c0_4] 36 (0, 0)) (by (with_reducible repeat (first | refine kg ?_ _ | refine kk ?_ | refine ki ?_ _)); exact BK190.out) hb)
        have n1_ := kd.mk (kr (by repeat (first | (with_reducible first | exact HB.out | apply ke | apply ka | apply kf | refine kj ?_ GE190.out) | exact HB.out)) hb)
        clear BK190
        clear HB
        have BK190 := n0_
        have HB := n1_
        clear n0_ n1_
        (try clear hb)
        refine hK.out _ _ ⟨(kc BK190.out 0).trans rfl, (kc BK190.out 1).trans rfl, (kc BK190.out 2).trans rfl, (kc BK190.out 3).trans rfl, (kc BK190.out 4).trans rfl, ((HB.out.cell (World.block_lt_of_cell? w _ hw192_0)).trans hw192_0), ((HB.out.cell (World.block_lt_of_cell? w _ hw192_1)).trans hw192_1), ((HB.out.cell (World.block_lt_of_cell? w _ hw192_2)).trans hw192_2), ((HB.out.cell (World.block_lt_of_cell? w _ hw192_3)).trans hw192_3), ((HB.out.cell (World.block_lt_of_cell? w _ hw192_4)).trans hw192_4)⟩ (fun hHeld => ?_)
        clear hK K
        refine norm_ (a' := ?_) ?_ ?_
        rotate_left
        ·show Act.put _ (some 23) _ = _
         simp only [Act.put, List.setIfInBounds_toArray, List.set_cons_zero, List.set_cons_succ, jc, jd]
         rfl
        refine jq (i := 8) (N := some 24) (v := ?_) (a' := ?_) #[true, true, true, true, true, true, true, true, true, false, false] rfl rfl (any_of HT_.out (by kernel_rfl)) (fun _ _ _ h => h) (Or.inl ⟨by rfl, ?_⟩) ?_ ?_
        rotate_left
        ·intro w'
         go_simp
         with_reducible rfl
        rotate_left
        ·simp only [Act.put, List.setIfInBounds_toArray, List.set_cons_zero, List.set_cons_succ, jc, jd]
         rfl
        refine jq (i := 9) (N := some 25) (v := ?_) (a' := ?_) #[true, true, true, true, true, true, true, true, true, true, false] rfl rfl (any_of HT_.out (by kernel_rfl)) (fun _ _ _ h => h) (Or.inl ⟨by rfl, ?_⟩) ?_ ?_
        rotate_left
        ·intro w'
         go_simp
         with_reducible rfl
        rotate_left
        ·simp only [Act.put, List.setIfInBounds_toArray, List.set_cons_zero, List.set_cons_succ, jc, jd]
         rfl
        refine jq (i := 10) (N := some 2) (v := ?_) (a' := ?_) #[true, true, true, true, true, true, true, true, true, true, true] rfl rfl (any_of HT_.out (by kernel_rfl)) (fun _ _ _ h => h) (Or.inl ⟨by rfl, ?_⟩) ?_ ?_
        rotate_left
        ·intro w'
         go_simp
         with_reducible rfl
        rotate_left
        ·simp only [Act.put, List.setIfInBounds_toArray, List.set_cons_zero, List.set_cons_succ, jc, jd]
         rfl
        refine done_ (done_of HT_.out (by kernel_rfl)) ?_
        try go_wp2
        go_ret
        exact ⟨by first | rfl | (simp [kp, ko] <;> rfl) | (simp [*, kp, ko] <;> rfl), by repeat (first | (with_reducible first | exact HB.out | apply ke | apply ka | apply kf | refine kj ?_ GE190.out) | exact HB.out)⟩
       ·rw [if_neg c15] at H
        exact absurd H (by simp)
      ·rw [if_neg c14] at H
       exact absurd H (by simp)
     ·rw [if_neg c12] at H
      exact absurd H (by simp)
    ·rw [if_neg c11] at H
     exact absurd H (by simp)
   ·rw [if_neg c10] at H
    have c10b0 : (a0_0 == 3) = false := beq_eq_false_iff_ne.mpr c10
    have c10b1 : (a0_0 != 3) = true := bne_iff_ne.mpr c10
    by_cases c20 : a0_0 = 4
    ·rw [if_pos c20] at H
     have c20b0 : (a0_0 == 4) = true := beq_iff_eq.mpr c20
     have c20b1 : (a0_0 != 4) = false := bne_eq_false_iff_eq.mpr c20
     clear c20
     by_cases c21 : a0_3.size + 1 ≤ 9223372036854775807
     ·rw [if_pos c21] at H
      have c21b0 := eq_true c21
      have c21b1 : decide (a0_3.size + 1 ≤ 9223372036854775807) = true := decide_eq_true c21
      try have c21b2 : (9223372036854775807 < a0_3.size + 1) = False := eq_false (Nat.not_lt.2 c21)
      replace H := Option.bind_eq_some_iff.mp H
      obtain ⟨t194, A220, H⟩ := H
      replace H : (if (a0_3 ++ (⟨#[40]⟩ : ByteArray)).size + t194.size ≤ 9223372036854775807 then (if ((a0_3 ++ (⟨#[40]⟩ : ByteArray)) ++ t194).size + 1 ≤ 9223372036854775807 then (some (((a0_3 ++ (⟨#[40]⟩ : ByteArray)) ++ t194) ++ (⟨#[41]⟩ : ByteArray))) else (none)) else (none)) = some r := H
      have A22 := kd.mk A220
      clear A220
      by_cases c23 : (a0_3 ++ (⟨#[40]⟩ : ByteArray)).size + t194.size ≤ 9223372036854775807
      ·rw [if_pos c23] at H
       have c23b0 := eq_true c23
       have c23b1 : decide ((a0_3 ++ (⟨#[40]⟩ : ByteArray)).size + t194.size ≤ 9223372036854775807) = true := decide_eq_true c23
       try have c23b2 : (9223372036854775807 < (a0_3 ++ (⟨#[40]⟩ : ByteArray)).size + t194.size) = False := eq_false (Nat.not_lt.2 c23)
       (try simp only [ByteArray.size_append, show (⟨#[40]⟩ : ByteArray).size = 1 from rfl] at c23b2)
       by_cases c24 : ((a0_3 ++ (⟨#[40]⟩ : ByteArray)) ++ t194).size + 1 ≤ 9223372036854775807
       ·rw [if_pos c24] at H
        have c24b0 := eq_true c24
        have c24b1 : decide (((a0_3 ++ (⟨#[40]⟩ : ByteArray)) ++ t194).size + 1 ≤ 9223372036854775807) = true := decide_eq_true c24
        try have c24b2 : (9223372036854775807 < ((a0_3 ++ (⟨#[40]⟩ : ByteArray)) ++ t194).size + 1) = False := eq_false (Nat.not_lt.2 c24)
        (try simp only [ByteArray.size_append, show (⟨#[40]⟩ : ByteArray).size = 1 from rfl] at c24b2)
        obtain rfl := Option.some.inj H
        go_enter Tryd.func24, Tryd.ntmps24
        try go_wp2_with (first | ((with_reducible refine ja (N := 1) rfl ?_); refine kz ?hg (N := 1) ?hd (cs := #[.int .i64 a0_0, .int .i64 a0_1, .int .u32 a0_2, .string a0_3, .slice A0_4 l0_4.length c0_4]) (t := 36) ?hr ?_; (case hd => rfl); (case hg => rfl); (case hr => first | (go_simp; done) | (go_simp; rfl)); intro gb190 hg w25 hbox hb; have n0_ := kd.mk (kr (by repeat (first | (with_reducible first | exact HB.out | apply ke | apply ka | apply kf) | exact HB.out)) hb); have n1_ := kd.mk (hbox); have n2_ := kd.mk ((by rw [hg]; exact (ks (by repeat (first | (with_reducible first | exact HB.out | apply ke | apply ka | apply kf) | exact HB.out))) : w.heap.size ≤ gb190)); have n3_ := kd.mk ((by rw [hg]; exact (ks (by repeat (first | (with_reducible first | exact HB.out | apply ke | apply ka | apply kf) | exact HB.out))) : w.heap.size ≤ gb190)); clear HB; have HB := n0_; have BK190 := n1_; have GW190 := n2_; have GE190 := n3_; clear n0_ n1_ n2_ n3_; clear hb hbox hg; have hcz26_0 : w25.cell? ⟨gb190, 0, none⟩ = some (.int .i64 a0_0) := (kc BK190.out 0).trans rfl; have hcz26_1 : w25.cell? ⟨gb190, 1, none⟩ = some (.int .i64 a0_1) := (kc BK190.out 1).trans rfl; have hcz26_2 : w25.cell? ⟨gb190, 2, none⟩ = some (.int .u32 a0_2) := (kc BK190.out 2).trans rfl; have hcz26_3 : w25.cell? ⟨gb190, 3, none⟩ = some (.string a0_3) := (kc BK190.out 3).trans rfl; have hcz26_4 : w25.cell? ⟨gb190, 4, none⟩ = some (.slice A0_4 l0_4.length c0_4) := (kc BK190.out 4).trans rfl; have hfz26_0 := kb BK190.out 0; have hfz26_1 := kb BK190.out 1; have hfz26_2 := kb BK190.out 2; have hfz26_3 := kb BK190.out 3; have hfz26_4 := kb BK190.out 4))
        have n0_ := kd.mk (kk BK190.out)
        have n1_ := kd.mk (kf HB.out)
        clear BK190
        clear HB
        have BK190 := n0_
        have HB := n1_
        clear n0_ n1_
        refine start_ (n := 9) (S := fun w' => w'.cell? ⟨gb190, 0, none⟩ = some (.int .i64 a0_0) ∧ w'.cell? ⟨gb190, 1, none⟩ = some (.int .i64 a0_1) ∧ w'.cell? ⟨gb190, 2, none⟩ = some (.int .u32 a0_2) ∧ w'.cell? ⟨gb190, 3, none⟩ = some (.string a0_3) ∧ w'.cell? ⟨gb190, 4, none⟩ = some (.slice A0_4 l0_4.length c0_4)) (ds := []) #[false, false, false, false, false, false, false, false, false] (by kernel_rfl) rfl rfl ⟨(kc BK190.out 0).trans rfl, (kc BK190.out 1).trans rfl, (kc BK190.out 2).trans rfl, (kc BK190.out 3).trans rfl, (kc BK190.out 4).trans rfl⟩ (fun hHeld => ?_); refine with_tabW yExpr.tab9 yExpr.bits9 (fun HT_ HW_ => ?_)
        generalize w25.drew = w27 at BK190 HB hHeld ⊢
        refine jq (i := 0) (N := some 28) (v := ?_) (a' := ?_) #[true, false, false, false, false, false, false, false, false] rfl rfl (any_of HT_.out (by kernel_rfl)) (fun _ _ _ h => h) (Or.inl ⟨by rfl, ?_⟩) ?_ ?_
        rotate_left
        ·intro w'
         go_simp
         with_reducible rfl
        rotate_left
        ·simp only [Act.put, List.setIfInBounds_toArray, List.set_cons_zero, List.set_cons_succ, jc, jd]
         rfl
        refine jq (i := 3) (N := some 31) (v := ?_) (a' := ?_) #[true, false, false, true, false, false, false, false, false] rfl rfl (any_of HT_.out (by kernel_rfl)) (fun _ _ _ h => h) (Or.inl ⟨by rfl, ?_⟩) ?_ ?_
        rotate_left
        ·intro w'
         go_simp
         with_reducible rfl
        rotate_left
        ·simp only [Act.put, List.setIfInBounds_toArray, List.set_cons_zero, List.set_cons_succ, jc, jd]
         rfl
        refine take_ (i := 1) (N := some 29) (v := ?_) (a' := ?_) #[true, true, false, true, false, false, false, false, false] rfl rfl (take_ofW HT_.out HW_.out (by kernel_rfl)) (fun _ _ _ h => h) (Or.inl ⟨by rfl, ?_⟩) hHeld ?_ ?_
        rotate_left
        ·rintro w' ⟨s0, s1, s2, s3, s4⟩
         go_simp
         with_reducible rfl
        rotate_left
        ·simp only [Act.put, List.setIfInBounds_toArray, List.set_cons_zero, List.set_cons_succ, jc, jd]
         rfl
        refine jq (i := 2) (N := some 30) (v := ?_) (a' := ?_) #[true, true, true, true, false, false, false, false, false] rfl rfl (any_of HT_.out (by kernel_rfl)) (fun _ _ _ h => h) (Or.inl ⟨by rfl, ?_⟩) ?_ ?_
        rotate_left
        ·intro w'
         go_simp
         with_reducible rfl
        rotate_left
        ·simp only [Act.put, List.setIfInBounds_toArray, List.set_cons_zero, List.set_cons_succ, jc, jd]
         rfl
        refine take_ (i := 4) (N := some 32) (v := ?_) (a' := ?_) #[true, true, true, true, true, false, false, false, false] rfl rfl (take_ofW HT_.out HW_.out (by kernel_rfl)) (fun _ _ _ h => h) (Or.inl ⟨by rfl, ?_⟩) hHeld ?_ ?_
        rotate_left
        ·rintro w' ⟨s0, s1, s2, s3, s4⟩
         go_simp
         with_reducible rfl
        rotate_left
        ·simp only [Act.put, List.setIfInBounds_toArray, List.set_cons_zero, List.set_cons_succ, jc, jd]
         rfl
        refine one_ (i := 5) (N := some 33) #[true, true, true, true, true, true, false, false, false] rfl rfl (one_of HT_.out (by kernel_rfl)) (by decide) (fun K hK => ?_)
        refine goes_ Tryd.func53 (by kernel_rfl) rfl #[.slice A0_4 l0_4.length c0_4] (by rfl) rfl rfl (by (try simp only [List.map_toArray, List.map_cons, List.map_nil]); first | done | rfl | (simp only [List.length_drop, List.length_take]; rfl)) ?_
        with_reducible refine (ihyargs k (by omega) _ _ l0_4 t194 _ ?side1 ?side2 ?side3 A22.out).mono ?_
        (case side1 => exact Ext.TAB.below HT.out (by repeat (first | (with_reducible first | exact HB.out | apply ke | apply ka | apply kf | refine kj ?_ GE190.out) | exact HB.out)))
        (case side2 => exact Kd.kx HR0_4.out HB.out)
        (case side3 => exact HC0_4.out)
        rintro e w28 ⟨rfl, hb⟩
        refine ⟨_, rfl, ?_⟩
        have n0_ := kd.mk (ku (g := gb190) (o := .cells #[.int .i64 a0_0, .int .i64 a0_1, .int .u32 a0_2, .string a0_3, .slice A0_4 l0_4.length c0_4] 36 (0, 0)) (by (with_reducible repeat (first | refine kg ?_ _ | refine kk ?_ | refine ki ?_ _)); exact BK190.out) hb)
        have n1_ := kd.mk (kr (by repeat (first | (with_reducible first | exact HB.out | apply ke | apply ka | apply kf | refine kj ?_ GE190.out) | exact HB.out)) hb)
        clear BK190
        clear HB
        have BK190 := n0_
        have HB := n1_
        clear n0_ n1_
        (try clear hb)
        refine hK.out _ _ ⟨(kc BK190.out 0).trans rfl, (kc BK190.out 1).trans rfl, (kc BK190.out 2).trans rfl, (kc BK190.out 3).trans rfl, (kc BK190.out 4).trans rfl⟩ (fun hHeld => ?_)
        clear hK K
        refine norm_ (a' := ?_) ?_ ?_
        rotate_left
        ·show Act.put _ (some 33) _ = _
         simp only [Act.put, List.setIfInBounds_toArray, List.set_cons_zero, List.set_cons_succ, jc, jd]
         rfl
        refine jq (i := 6) (N := some 34) (v := ?_) (a' := ?_) #[true, true, true, true, true, true, true, false, false] rfl rfl (any_of HT_.out (by kernel_rfl)) (fun _ _ _ h => h) (Or.inl ⟨by rfl, ?_⟩) ?_ ?_
        rotate_left
        ·intro w'
         go_simp
         with_reducible rfl
        rotate_left
        ·simp only [Act.put, List.setIfInBounds_toArray, List.set_cons_zero, List.set_cons_succ, jc, jd]
         rfl
        refine jq (i := 7) (N := some 35) (v := ?_) (a' := ?_) #[true, true, true, true, true, true, true, true, false] rfl rfl (any_of HT_.out (by kernel_rfl)) (fun _ _ _ h => h) (Or.inl ⟨by rfl, ?_⟩) ?_ ?_
        rotate_left
        ·intro w'
         go_simp
         with_reducible rfl
        rotate_left
        ·simp only [Act.put, List.setIfInBounds_toArray, List.set_cons_zero, List.set_cons_succ, jc, jd]
         rfl
        refine jq (i := 8) (N := some 2) (v := ?_) (a' := ?_) #[true, true, true, true, true, true, true, true, true] rfl rfl (any_of HT_.out (by kernel_rfl)) (fun _ _ _ h => h) (Or.inl ⟨by rfl, ?_⟩) ?_ ?_
        rotate_left
        ·intro w'
         go_simp
         with_reducible rfl
        rotate_left
        ·simp only [Act.put, List.setIfInBounds_toArray, List.set_cons_zero, List.set_cons_succ, jc, jd]
         rfl
        refine done_ (done_of HT_.out (by kernel_rfl)) ?_
        try go_wp2
        go_ret
        exact ⟨by first | rfl | (simp [kp, ko] <;> rfl) | (simp [*, kp, ko] <;> rfl), by repeat (first | (with_reducible first | exact HB.out | apply ke | apply ka | apply kf | refine kj ?_ GE190.out) | exact HB.out)⟩
       ·rw [if_neg c24] at H
        exact absurd H (by simp)
      ·rw [if_neg c23] at H
       exact absurd H (by simp)
     ·rw [if_neg c21] at H
      exact absurd H (by simp)
    ·rw [if_neg c20] at H
     have c20b0 : (a0_0 == 4) = false := beq_eq_false_iff_ne.mpr c20
     have c20b1 : (a0_0 != 4) = true := bne_iff_ne.mpr c20
     by_cases c29 : a0_0 = 5
     ·rw [if_pos c29] at H
      have c29b0 : (a0_0 == 5) = true := beq_iff_eq.mpr c29
      have c29b1 : (a0_0 != 5) = false := bne_eq_false_iff_eq.mpr c29
      clear c29
      obtain rfl := Option.some.inj H
      go_enter Tryd.func24, Tryd.ntmps24
      go_wp2_with (first | ((with_reducible refine ja (N := 1) rfl ?_); refine kz ?hg (N := 1) ?hd (cs := #[.int .i64 a0_0, .int .i64 a0_1, .int .u32 a0_2, .string a0_3, .slice A0_4 l0_4.length c0_4]) (t := 36) ?hr ?_; (case hd => rfl); (case hg => rfl); (case hr => first | (go_simp; done) | (go_simp; rfl)); intro gb190 hg w30 hbox hb; have n0_ := kd.mk (kr (by repeat (first | (with_reducible first | exact HB.out | apply ke | apply ka | apply kf) | exact HB.out)) hb); have n1_ := kd.mk (hbox); have n2_ := kd.mk ((by rw [hg]; exact (ks (by repeat (first | (with_reducible first | exact HB.out | apply ke | apply ka | apply kf) | exact HB.out))) : w.heap.size ≤ gb190)); have n3_ := kd.mk ((by rw [hg]; exact (ks (by repeat (first | (with_reducible first | exact HB.out | apply ke | apply ka | apply kf) | exact HB.out))) : w.heap.size ≤ gb190)); clear HB; have HB := n0_; have BK190 := n1_; have GW190 := n2_; have GE190 := n3_; clear n0_ n1_ n2_ n3_; clear hb hbox hg; have hcz31_0 : w30.cell? ⟨gb190, 0, none⟩ = some (.int .i64 a0_0) := (kc BK190.out 0).trans rfl; have hcz31_1 : w30.cell? ⟨gb190, 1, none⟩ = some (.int .i64 a0_1) := (kc BK190.out 1).trans rfl; have hcz31_2 : w30.cell? ⟨gb190, 2, none⟩ = some (.int .u32 a0_2) := (kc BK190.out 2).trans rfl; have hcz31_3 : w30.cell? ⟨gb190, 3, none⟩ = some (.string a0_3) := (kc BK190.out 3).trans rfl; have hcz31_4 : w30.cell? ⟨gb190, 4, none⟩ = some (.slice A0_4 l0_4.length c0_4) := (kc BK190.out 4).trans rfl; have hfz31_0 := kb BK190.out 0; have hfz31_1 := kb BK190.out 1; have hfz31_2 := kb BK190.out 2; have hfz31_3 := kb BK190.out 3; have hfz31_4 := kb BK190.out 4))
      go_ret
      exact ⟨by first | rfl | (simp [kp, ko] <;> rfl) | (simp [*, kp, ko] <;> rfl), by repeat (first | (with_reducible first | exact HB.out | apply ke | apply ka | apply kf | refine kj ?_ GE190.out) | exact HB.out)⟩
     ·rw [if_neg c29] at H
      have c29b0 : (a0_0 == 5) = false := beq_eq_false_iff_ne.mpr c29
      have c29b1 : (a0_0 != 5) = true := bne_iff_ne.mpr c29
      by_cases c32 : a0_0 = 6
      ·rw [if_pos c32] at H
       have c32b0 : (a0_0 == 6) = true := beq_iff_eq.mpr c32
       have c32b1 : (a0_0 != 6) = false := bne_eq_false_iff_eq.mpr c32
       clear c32
       obtain ⟨ji33, hji33⟩ : ∃ j_ : Int, (wrap64 (a0_1 - 4)) = j_ := ⟨_, rfl⟩
       replace H : (if 0 ≤ (ji33) then (if (ji33) < 12 then ((ytwo.f k a0_0 a0_1 a0_2 a0_3 l0_4 (rdOf ByteArray.empty Ext.signsL (ji33))).bind fun t196 => (some t196)) else (none)) else (none)) = some r := by first | (rw [hji33] at H; exact H) | (simp only [hji33] at H ⊢; exact H)
       have hji33w : (IntKind.i64.wrap (a0_1 - 4)) = ji33 := (jc _).trans hji33
       by_cases c34 : 0 ≤ (ji33)
       ·rw [if_pos c34] at H
        have c34b0 : decide (0 ≤ (ji33)) = true := decide_eq_true c34
        clear c34
        by_cases c35 : (ji33) < 12
        ·rw [if_pos c35] at H
         have c35b0 : decide ((ji33) < 12) = true := decide_eq_true c35
         clear c35
         replace H := Option.bind_eq_some_iff.mp H
         obtain ⟨t196, A360, H⟩ := H
         replace H : (some t196) = some r := H
         have A36 := kd.mk A360
         clear A360
         obtain rfl := Option.some.inj H
         go_enter Tryd.func24, Tryd.ntmps24
         try go_wp2_with (first | ((with_reducible refine ja (N := 1) rfl ?_); refine kz ?hg (N := 1) ?hd (cs := #[.int .i64 a0_0, .int .i64 a0_1, .int .u32 a0_2, .string a0_3, .slice A0_4 l0_4.length c0_4]) (t := 36) ?hr ?_; (case hd => rfl); (case hg => rfl); (case hr => first | (go_simp; done) | (go_simp; rfl)); intro gb190 hg w37 hbox hb; have n0_ := kd.mk (kr (by repeat (first | (with_reducible first | exact HB.out | apply ke | apply ka | apply kf) | exact HB.out)) hb); have n1_ := kd.mk (hbox); have n2_ := kd.mk ((by rw [hg]; exact (ks (by repeat (first | (with_reducible first | exact HB.out | apply ke | apply ka | apply kf) | exact HB.out))) : w.heap.size ≤ gb190)); have n3_ := kd.mk ((by rw [hg]; exact (ks (by repeat (first | (with_reducible first | exact HB.out | apply ke | apply ka | apply kf) | exact HB.out))) : w.heap.size ≤ gb190)); clear HB; have HB := n0_; have BK190 := n1_; have GW190 := n2_; have GE190 := n3_; clear n0_ n1_ n2_ n3_; clear hb hbox hg; have hcz38_0 : w37.cell? ⟨gb190, 0, none⟩ = some (.int .i64 a0_0) := (kc BK190.out 0).trans rfl; have hcz38_1 : w37.cell? ⟨gb190, 1, none⟩ = some (.int .i64 a0_1) := (kc BK190.out 1).trans rfl; have hcz38_2 : w37.cell? ⟨gb190, 2, none⟩ = some (.int .u32 a0_2) := (kc BK190.out 2).trans rfl; have hcz38_3 : w37.cell? ⟨gb190, 3, none⟩ = some (.string a0_3) := (kc BK190.out 3).trans rfl; have hcz38_4 : w37.cell? ⟨gb190, 4, none⟩ = some (.slice A0_4 l0_4.length c0_4) := (kc BK190.out 4).trans rfl; have hfz38_0 := kb BK190.out 0; have hfz38_1 := kb BK190.out 1; have hfz38_2 := kb BK190.out 2; have hfz38_3 := kb BK190.out 3; have hfz38_4 := kb BK190.out 4))
         have n0_ := kd.mk (kk BK190.out)
         have n1_ := kd.mk (kf HB.out)
         clear BK190
         clear HB
         have BK190 := n0_
         have HB := n1_
         clear n0_ n1_
         have p195 : 0 ≤ ((ji33) : Int) := of_decide_eq_true (by first | (with_reducible assumption) | assumption)
         have q195 : (ji33) < (Ext.signsL.length : Int) := (by have h_ : ((ji33) : Int) < (12 : Int) := of_decide_eq_true (by first | (with_reducible assumption) | assumption); exact h_)
         obtain ⟨ad195, e195, hx195_0⟩ := Kd.at_string HRg0.out (ji33) p195 q195
         have qh195 := 0
         have qg195 : ((ji33) < (12 : Int)) = True := eq_true (of_decide_eq_true (by first | (with_reducible assumption) | assumption))
         obtain rfl : (⟨0, 0, none⟩ : Addr) = ad195 := (by injection e195)
         (first | simp only [add_plain] at hx195_0 | simp only [add_at] at hx195_0 | simp only [Addr.add, Nat.zero_add] at hx195_0 | skip)
         have hw195_0 := hx195_0
         replace hx195_0 := (HB.out.cell (World.block_lt_of_cell? w _ hx195_0)).trans hx195_0
         replace p195 := eq_true p195
         replace q195 := eq_true q195
         refine start_ (n := 8) (S := fun w' => w'.cell? ⟨gb190, 0, none⟩ = some (.int .i64 a0_0) ∧ w'.cell? ⟨gb190, 1, none⟩ = some (.int .i64 a0_1) ∧ w'.cell? ⟨gb190, 2, none⟩ = some (.int .u32 a0_2) ∧ w'.cell? ⟨gb190, 3, none⟩ = some (.string a0_3) ∧ w'.cell? ⟨gb190, 4, none⟩ = some (.slice A0_4 l0_4.length c0_4) ∧ w'.cell? ⟨0, ((ji33)).toNat, none⟩ = some (.string (rdOf ByteArray.empty Ext.signsL (ji33)))) (ds := []) #[false, false, false, false, false, false, false, false] (by kernel_rfl) rfl rfl ⟨(kc BK190.out 0).trans rfl, (kc BK190.out 1).trans rfl, (kc BK190.out 2).trans rfl, (kc BK190.out 3).trans rfl, (kc BK190.out 4).trans rfl, ((HB.out.cell (World.block_lt_of_cell? w _ hw195_0)).trans hw195_0)⟩ (fun hHeld => ?_); refine with_tabW yExpr.tab13 yExpr.bits13 (fun HT_ HW_ => ?_)
         generalize w37.drew = w39 at BK190 HB hx195_0 hHeld ⊢
         refine jq (i := 1) (N := some 41) (v := ?_) (a' := ?_) #[false, true, false, false, false, false, false, false] rfl rfl (any_of HT_.out (by kernel_rfl)) (fun _ _ _ h => h) (Or.inl ⟨by rfl, ?_⟩) ?_ ?_
         rotate_left
         ·intro w'
          go_simp
          with_reducible rfl
         rotate_left
         ·simp only [Act.put, List.setIfInBounds_toArray, List.set_cons_zero, List.set_cons_succ, jc, jd]
          rfl
         refine take_ (i := 0) (N := some 40) (v := ?_) (a' := ?_) #[true, true, false, false, false, false, false, false] rfl rfl (take_ofW HT_.out HW_.out (by kernel_rfl)) (fun _ _ _ h => h) (Or.inl ⟨by rfl, ?_⟩) hHeld ?_ ?_
         rotate_left
         ·rintro w' ⟨s0, s1, s2, s3, s4, s5⟩
          go_simp
          with_reducible rfl
         rotate_left
         ·simp only [Act.put, List.setIfInBounds_toArray, List.set_cons_zero, List.set_cons_succ, jc, jd]
          rfl
         refine take_ (i := 2) (N := some 42) (v := ?_) (a' := ?_) #[true, true, true, false, false, false, false, false] rfl rfl (take_ofW HT_.out HW_.out (by kernel_rfl)) (fun _ _ _ h => h) (Or.inl ⟨by rfl, ?_⟩) hHeld ?_ ?_
         rotate_left
         ·rintro w' ⟨s0, s1, s2, s3, s4, s5⟩
          go_simp
          with_reducible rfl
         rotate_left
         ·simp only [Act.put, List.setIfInBounds_toArray, List.set_cons_zero, List.set_cons_succ, jc, jd]
          rfl
         refine jq (i := 3) (N := some 43) (v := ?_) (a' := ?_) #[true, true, true, true, false, false, false, false] rfl rfl (any_of HT_.out (by kernel_rfl)) (fun _ _ _ h => h) (Or.inl ⟨by rfl, ?_⟩) ?_ ?_
         rotate_left
         ·intro w'
          go_simp
          with_reducible rfl
         rotate_left
         ·simp only [Act.put, List.setIfInBounds_toArray, List.set_cons_zero, List.set_cons_succ, jc, jd]
          rfl
         refine jq (i := 4) (N := some 44) (v := ?_) (a' := ?_) #[true, true, true, true, true, false, false, false] rfl rfl (any_of HT_.out (by kernel_rfl)) (fun _ _ _ h => h) (Or.inl ⟨by rfl, ?_⟩) ?_ ?_
         rotate_left
         ·intro w'
          go_simp
          with_reducible rfl
         rotate_left
         ·simp only [Act.put, List.setIfInBounds_toArray, List.set_cons_zero, List.set_cons_succ, jc, jd]
          rfl
         refine take_ (i := 5) (N := some 45) (v := ?_) (a' := ?_) #[true, true, true, true, true, true, false, false] rfl rfl (take_ofW HT_.out HW_.out (by kernel_rfl)) (fun _ _ _ h => h) (Or.inl ⟨by rfl, ?_⟩) hHeld ?_ ?_
         rotate_left
         ·rintro w' ⟨s0, s1, s2, s3, s4, s5⟩
          go_simp
          with_reducible rfl
         rotate_left
         ·simp only [Act.put, List.setIfInBounds_toArray, List.set_cons_zero, List.set_cons_succ, jc, jd]
          rfl
         refine one_ (i := 6) (N := some 46) #[true, true, true, true, true, true, true, false] rfl rfl (one_of HT_.out (by kernel_rfl)) (by decide) (fun K hK => ?_)
         refine goes_ Tryd.func54 (by kernel_rfl) rfl #[.agg #[.int .i64 a0_0, .int .i64 a0_1, .int .u32 a0_2, .string a0_3, .slice A0_4 l0_4.length c0_4], .string (rdOf ByteArray.empty Ext.signsL (ji33))] (by rfl) rfl rfl (by (try simp only [List.map_toArray, List.map_cons, List.map_nil]); first | done | (simp only [hji33]; rfl) | rfl | (simp only [List.length_drop, List.length_take]; rfl)) ?_
         with_reducible refine (ihytwo k (by omega) a0_0 a0_1 a0_2 a0_3 _ _ l0_4 (rdOf ByteArray.empty Ext.signsL (ji33)) t196 _ ?side1 ?side2 ?side3 A36.out).mono ?_
         (case side1 => exact Ext.TAB.below HT.out (by repeat (first | (with_reducible first | exact HB.out | apply ke | apply ka | apply kf | refine kj ?_ GE190.out) | exact HB.out)))
         (case side2 => exact Kd.kx HR0_4.out HB.out)
         (case side3 => exact HC0_4.out)
         rintro e w40 ⟨rfl, hb⟩
         refine ⟨_, rfl, ?_⟩
         have n0_ := kd.mk (ku (g := gb190) (o := .cells #[.int .i64 a0_0, .int .i64 a0_1, .int .u32 a0_2, .string a0_3, .slice A0_4 l0_4.length c0_4] 36 (0, 0)) (by (with_reducible repeat (first | refine kg ?_ _ | refine kk ?_ | refine ki ?_ _)); exact BK190.out) hb)
         have n1_ := kd.mk (kr (by repeat (first | (with_reducible first | exact HB.out | apply ke | apply ka | apply kf | refine kj ?_ GE190.out) | exact HB.out)) hb)
         clear BK190
         clear HB
         have BK190 := n0_
         have HB := n1_
         clear n0_ n1_
         (try clear hb)
         refine hK.out _ _ ⟨(kc BK190.out 0).trans rfl, (kc BK190.out 1).trans rfl, (kc BK190.out 2).trans rfl, (kc BK190.out 3).trans rfl, (kc BK190.out 4).trans rfl, ((HB.out.cell (World.block_lt_of_cell? w _ hw195_0)).trans hw195_0)⟩ (fun hHeld => ?_)
         clear hK K
         refine norm_ (a' := ?_) ?_ ?_
         rotate_left
         ·show Act.put _ (some 46) _ = _
          simp only [Act.put, List.setIfInBounds_toArray, List.set_cons_zero, List.set_cons_succ, jc, jd]
          rfl
         refine jq (i := 7) (N := some 2) (v := ?_) (a' := ?_) #[true, true, true, true, true, true, true, true] rfl rfl (any_of HT_.out (by kernel_rfl)) (fun _ _ _ h => h) (Or.inl ⟨by rfl, ?_⟩) ?_ ?_
         rotate_left
         ·intro w'
          go_simp
          with_reducible rfl
         rotate_left
         ·simp only [Act.put, List.setIfInBounds_toArray, List.set_cons_zero, List.set_cons_succ, jc, jd]
          rfl
         refine done_ (done_of HT_.out (by kernel_rfl)) ?_
         try go_wp2
         go_ret
         exact ⟨by first | rfl | (simp [kp, ko] <;> rfl) | (simp only [← hji33]; first | rfl | (simp [kp, ko] <;> rfl)) | (simp [*, kp, ko] <;> rfl), by repeat (first | (with_reducible first | exact HB.out | apply ke | apply ka | apply kf | refine kj ?_ GE190.out) | exact HB.out)⟩
        ·rw [if_neg c35] at H
         exact absurd H (by simp)
       ·rw [if_neg c34] at H
        exact absurd H (by simp)
      ·rw [if_neg c32] at H
       have c32b0 : (a0_0 == 6) = false := beq_eq_false_iff_ne.mpr c32
       have c32b1 : (a0_0 != 6) = true := bne_iff_ne.mpr c32
       by_cases c41 : a0_0 = 7
       ·rw [if_pos c41] at H
        have c41b0 : (a0_0 == 7) = true := beq_iff_eq.mpr c41
        have c41b1 : (a0_0 != 7) = false := bne_eq_false_iff_eq.mpr c41
        clear c41
        by_cases c42 : 0 < (l0_4.length : Int)
        ·rw [if_pos c42] at H
         have c42b0 : decide (0 < (l0_4.length : Int)) = true := decide_eq_true c42
         have c42b1 : decide (0 < l0_4.length) = true := decide_eq_true (by omega)
         clear c42
         replace H := Option.bind_eq_some_iff.mp H
         obtain ⟨t198, A430, H⟩ := H
         replace H : (if 1 + t198.size ≤ 9223372036854775807 then (some ((⟨#[33]⟩ : ByteArray) ++ t198)) else (none)) = some r := H
         have A43 := kd.mk A430
         clear A430
         by_cases c44 : 1 + t198.size ≤ 9223372036854775807
         ·rw [if_pos c44] at H
          have c44b0 := eq_true c44
          have c44b1 : decide (1 + t198.size ≤ 9223372036854775807) = true := decide_eq_true c44
          try have c44b2 : (9223372036854775807 < 1 + t198.size) = False := eq_false (Nat.not_lt.2 c44)
          obtain rfl := Option.some.inj H
          go_enter Tryd.func24, Tryd.ntmps24
          go_wp2_with (first | ((with_reducible refine ja (N := 1) rfl ?_); refine kz ?hg (N := 1) ?hd (cs := #[.int .i64 a0_0, .int .i64 a0_1, .int .u32 a0_2, .string a0_3, .slice A0_4 l0_4.length c0_4]) (t := 36) ?hr ?_; (case hd => rfl); (case hg => rfl); (case hr => first | (go_simp; done) | (go_simp; rfl)); intro gb190 hg w45 hbox hb; have n0_ := kd.mk (kr (by repeat (first | (with_reducible first | exact HB.out | apply ke | apply ka | apply kf) | exact HB.out)) hb); have n1_ := kd.mk (hbox); have n2_ := kd.mk ((by rw [hg]; exact (ks (by repeat (first | (with_reducible first | exact HB.out | apply ke | apply ka | apply kf) | exact HB.out))) : w.heap.size ≤ gb190)); have n3_ := kd.mk ((by rw [hg]; exact (ks (by repeat (first | (with_reducible first | exact HB.out | apply ke | apply ka | apply kf) | exact HB.out))) : w.heap.size ≤ gb190)); clear HB; have HB := n0_; have BK190 := n1_; have GW190 := n2_; have GE190 := n3_; clear n0_ n1_ n2_ n3_; clear hb hbox hg; have hcz46_0 : w45.cell? ⟨gb190, 0, none⟩ = some (.int .i64 a0_0) := (kc BK190.out 0).trans rfl; have hcz46_1 : w45.cell? ⟨gb190, 1, none⟩ = some (.int .i64 a0_1) := (kc BK190.out 1).trans rfl; have hcz46_2 : w45.cell? ⟨gb190, 2, none⟩ = some (.int .u32 a0_2) := (kc BK190.out 2).trans rfl; have hcz46_3 : w45.cell? ⟨gb190, 3, none⟩ = some (.string a0_3) := (kc BK190.out 3).trans rfl; have hcz46_4 : w45.cell? ⟨gb190, 4, none⟩ = some (.slice A0_4 l0_4.length c0_4) := (kc BK190.out 4).trans rfl; have hfz46_0 := kb BK190.out 0; have hfz46_1 := kb BK190.out 1; have hfz46_2 := kb BK190.out 2; have hfz46_3 := kb BK190.out 3; have hfz46_4 := kb BK190.out 4; have p197 : 0 ≤ (0 : Int) := (by omega); have q197 : 0 < (l0_4.length : Int) := of_decide_eq_true (by first | (with_reducible assumption) | assumption); obtain ⟨ad197, A197_4, c197_4, e197, hx197_0, hx197_1, hx197_2, hx197_3, hx197_4, hl197_4, hi197_4⟩ := at_T36 HR0_4.out 0 p197 q197; cases e197; have qi197 : (0 < l0_4.length) = True := eq_true (by omega); (try rw [show ((0 : Int)).toNat = 0 from rfl] at hx197_0); (try rw [show 0 * 5 = 0 from rfl] at hx197_0); (try rw [Addr.add_zero'] at hx197_0); (try rw [show ((0 : Int)).toNat = 0 from rfl] at hx197_1); (try rw [show 0 * 5 = 0 from rfl] at hx197_1); (try rw [Addr.add_zero'] at hx197_1); (try rw [show ((0 : Int)).toNat = 0 from rfl] at hx197_2); (try rw [show 0 * 5 = 0 from rfl] at hx197_2); (try rw [Addr.add_zero'] at hx197_2); (try rw [show ((0 : Int)).toNat = 0 from rfl] at hx197_3); (try rw [show 0 * 5 = 0 from rfl] at hx197_3); (try rw [Addr.add_zero'] at hx197_3); (try rw [show ((0 : Int)).toNat = 0 from rfl] at hx197_4); (try rw [show 0 * 5 = 0 from rfl] at hx197_4); (try rw [Addr.add_zero'] at hx197_4); replace hx197_0 := (HB.out.cell (World.block_lt_of_cell? w _ hx197_0)).trans hx197_0; replace hx197_1 := (HB.out.cell (World.block_lt_of_cell? w _ hx197_1)).trans hx197_1; replace hx197_2 := (HB.out.cell (World.block_lt_of_cell? w _ hx197_2)).trans hx197_2; replace hx197_3 := (HB.out.cell (World.block_lt_of_cell? w _ hx197_3)).trans hx197_3; replace hx197_4 := (HB.out.cell (World.block_lt_of_cell? w _ hx197_4)).trans hx197_4; have HR197_4 := kd.mk hi197_4; have HC197_4 := kd.mk hl197_4; clear hi197_4 hl197_4; replace p197 := eq_true p197; replace q197 := eq_true q197) | ((with_reducible refine jb (f := 24) rfl ?_); refine jo (some 53) rfl rfl Tryd.func24 (by kernel_rfl) rfl #[.agg #[.int .i64 ((kn l0_4 0).f0), .int .i64 ((kn l0_4 0).f1), .int .u32 ((kn l0_4 0).f2), .string ((kn l0_4 0).f3), .slice A197_4 ((kn l0_4 0).f4).length c197_4]] rfl (by (try simp only [List.map_toArray, List.map_cons, List.map_nil]); first | done | rfl | (simp only [List.length_drop, List.length_take]; rfl)) ?_; (with_reducible refine (ihyExpr k (by omega) ((kn l0_4 0).f0) ((kn l0_4 0).f1) ((kn l0_4 0).f2) ((kn l0_4 0).f3) _ _ ((kn l0_4 0).f4) t198 _ ?side1 ?side2 ?side3 A43.out).mono ?_); (case side1 => exact Ext.TAB.below HT.out (by repeat (first | (with_reducible first | exact HB.out | apply ke | apply ka | apply kf | refine kj ?_ GE190.out) | exact HB.out))); (case side2 => exact Kd.kx HR197_4.out HB.out); (case side3 => exact HC197_4.out); rintro e w47 ⟨rfl, hb⟩; refine ⟨_, rfl, ?_⟩; have n0_ := kd.mk (ku (g := gb190) (o := .cells #[.int .i64 a0_0, .int .i64 a0_1, .int .u32 a0_2, .string a0_3, .slice (some ad197) l0_4.length c0_4] 36 (0, 0)) (by (with_reducible repeat (first | refine kg ?_ _ | refine kk ?_ | refine ki ?_ _)); exact BK190.out) hb); have n1_ := kd.mk (kr (by repeat (first | (with_reducible first | exact HB.out | apply ke | apply ka | apply kf | refine kj ?_ GE190.out) | exact HB.out)) hb); clear BK190; clear HB; have BK190 := n0_; have HB := n1_; clear n0_ n1_; (try clear hb)))
          go_ret
          exact ⟨by first | rfl | (simp [kp, ko] <;> rfl) | (simp [*, kp, ko] <;> rfl), by repeat (first | (with_reducible first | exact HB.out | apply ke | apply ka | apply kf | refine kj ?_ GE190.out) | exact HB.out)⟩
         ·rw [if_neg c44] at H
          exact absurd H (by simp)
        ·rw [if_neg c42] at H
         exact absurd H (by simp)
       ·rw [if_neg c41] at H
        have c41b0 : (a0_0 == 7) = false := beq_eq_false_iff_ne.mpr c41
        have c41b1 : (a0_0 != 7) = true := bne_iff_ne.mpr c41
        by_cases c48 : a0_0 = 8
        ·rw [if_pos c48] at H
         have c48b0 : (a0_0 == 8) = true := beq_iff_eq.mpr c48
         have c48b1 : (a0_0 != 8) = false := bne_eq_false_iff_eq.mpr c48
         clear c48
         replace H := Option.bind_eq_some_iff.mp H
         obtain ⟨t199, A490, H⟩ := H
         replace H : (some t199) = some r := H
         have A49 := kd.mk A490
         clear A490
         obtain rfl := Option.some.inj H
         go_enter Tryd.func24, Tryd.ntmps24
         go_wp2_with (first | ((with_reducible refine ja (N := 1) rfl ?_); refine kz ?hg (N := 1) ?hd (cs := #[.int .i64 a0_0, .int .i64 a0_1, .int .u32 a0_2, .string a0_3, .slice A0_4 l0_4.length c0_4]) (t := 36) ?hr ?_; (case hd => rfl); (case hg => rfl); (case hr => first | (go_simp; done) | (go_simp; rfl)); intro gb190 hg w50 hbox hb; have n0_ := kd.mk (kr (by repeat (first | (with_reducible first | exact HB.out | apply ke | apply ka | apply kf) | exact HB.out)) hb); have n1_ := kd.mk (hbox); have n2_ := kd.mk ((by rw [hg]; exact (ks (by repeat (first | (with_reducible first | exact HB.out | apply ke | apply ka | apply kf) | exact HB.out))) : w.heap.size ≤ gb190)); have n3_ := kd.mk ((by rw [hg]; exact (ks (by repeat (first | (with_reducible first | exact HB.out | apply ke | apply ka | apply kf) | exact HB.out))) : w.heap.size ≤ gb190)); clear HB; have HB := n0_; have BK190 := n1_; have GW190 := n2_; have GE190 := n3_; clear n0_ n1_ n2_ n3_; clear hb hbox hg; have hcz51_0 : w50.cell? ⟨gb190, 0, none⟩ = some (.int .i64 a0_0) := (kc BK190.out 0).trans rfl; have hcz51_1 : w50.cell? ⟨gb190, 1, none⟩ = some (.int .i64 a0_1) := (kc BK190.out 1).trans rfl; have hcz51_2 : w50.cell? ⟨gb190, 2, none⟩ = some (.int .u32 a0_2) := (kc BK190.out 2).trans rfl; have hcz51_3 : w50.cell? ⟨gb190, 3, none⟩ = some (.string a0_3) := (kc BK190.out 3).trans rfl; have hcz51_4 : w50.cell? ⟨gb190, 4, none⟩ = some (.slice A0_4 l0_4.length c0_4) := (kc BK190.out 4).trans rfl; have hfz51_0 := kb BK190.out 0; have hfz51_1 := kb BK190.out 1; have hfz51_2 := kb BK190.out 2; have hfz51_3 := kb BK190.out 3; have hfz51_4 := kb BK190.out 4) | ((with_reducible refine jb (f := 54) rfl ?_); refine jo (some 58) rfl rfl Tryd.func54 (by kernel_rfl) rfl #[.agg #[.int .i64 a0_0, .int .i64 a0_1, .int .u32 a0_2, .string a0_3, .slice A0_4 l0_4.length c0_4], .string (⟨#[38, 38]⟩ : ByteArray)] rfl (by (try simp only [List.map_toArray, List.map_cons, List.map_nil]); first | done | rfl | (simp only [List.length_drop, List.length_take]; rfl)) ?_; (with_reducible refine (ihytwo k (by omega) a0_0 a0_1 a0_2 a0_3 _ _ l0_4 (⟨#[38, 38]⟩ : ByteArray) t199 _ ?side1 ?side2 ?side3 A49.out).mono ?_); (case side1 => exact Ext.TAB.below HT.out (by repeat (first | (with_reducible first | exact HB.out | apply ke | apply ka | apply kf | refine kj ?_ GE190.out) | exact HB.out))); (case side2 => exact Kd.kx HR0_4.out HB.out); (case side3 => exact HC0_4.out); rintro e w52 ⟨rfl, hb⟩; refine ⟨_, rfl, ?_⟩; have n0_ := kd.mk (ku (g := gb190) (o := .cells #[.int .i64 a0_0, .int .i64 a0_1, .int .u32 a0_2, .string a0_3, .slice A0_4 l0_4.length c0_4] 36 (0, 0)) (by (with_reducible repeat (first | refine kg ?_ _ | refine kk ?_ | refine ki ?_ _)); exact BK190.out) hb); have n1_ := kd.mk (kr (by repeat (first | (with_reducible first | exact HB.out | apply ke | apply ka | apply kf | refine kj ?_ GE190.out) | exact HB.out)) hb); clear BK190; clear HB; have BK190 := n0_; have HB := n1_; clear n0_ n1_; (try clear hb)))
         go_ret
         exact ⟨by first | rfl | (simp [kp, ko] <;> rfl) | (simp [*, kp, ko] <;> rfl), by repeat (first | (with_reducible first | exact HB.out | apply ke | apply ka | apply kf | refine kj ?_ GE190.out) | exact HB.out)⟩
        ·rw [if_neg c48] at H
         have c48b0 : (a0_0 == 8) = false := beq_eq_false_iff_ne.mpr c48
         have c48b1 : (a0_0 != 8) = true := bne_iff_ne.mpr c48
         replace H := Option.bind_eq_some_iff.mp H
         obtain ⟨t200, A530, H⟩ := H
         replace H : (some t200) = some r := H
         have A53 := kd.mk A530
         clear A530
         obtain rfl := Option.some.inj H
         go_enter Tryd.func24, Tryd.ntmps24
         go_wp2_with (first | ((with_reducible refine ja (N := 1) rfl ?_); refine kz ?hg (N := 1) ?hd (cs := #[.int .i64 a0_0, .int .i64 a0_1, .int .u32 a0_2, .string a0_3, .slice A0_4 l0_4.length c0_4]) (t := 36) ?hr ?_; (case hd => rfl); (case hg => rfl); (case hr => first | (go_simp; done) | (go_simp; rfl)); intro gb190 hg w54 hbox hb; have n0_ := kd.mk (kr (by repeat (first | (with_reducible first | exact HB.out | apply ke | apply ka | apply kf) | exact HB.out)) hb); have n1_ := kd.mk (hbox); have n2_ := kd.mk ((by rw [hg]; exact (ks (by repeat (first | (with_reducible first | exact HB.out | apply ke | apply ka | apply kf) | exact HB.out))) : w.heap.size ≤ gb190)); have n3_ := kd.mk ((by rw [hg]; exact (ks (by repeat (first | (with_reducible first | exact HB.out | apply ke | apply ka | apply kf) | exact HB.out))) : w.heap.size ≤ gb190)); clear HB; have HB := n0_; have BK190 := n1_; have GW190 := n2_; have GE190 := n3_; clear n0_ n1_ n2_ n3_; clear hb hbox hg; have hcz55_0 : w54.cell? ⟨gb190, 0, none⟩ = some (.int .i64 a0_0) := (kc BK190.out 0).trans rfl; have hcz55_1 : w54.cell? ⟨gb190, 1, none⟩ = some (.int .i64 a0_1) := (kc BK190.out 1).trans rfl; have hcz55_2 : w54.cell? ⟨gb190, 2, none⟩ = some (.int .u32 a0_2) := (kc BK190.out 2).trans rfl; have hcz55_3 : w54.cell? ⟨gb190, 3, none⟩ = some (.string a0_3) := (kc BK190.out 3).trans rfl; have hcz55_4 : w54.cell? ⟨gb190, 4, none⟩ = some (.slice A0_4 l0_4.length c0_4) := (kc BK190.out 4).trans rfl; have hfz55_0 := kb BK190.out 0; have hfz55_1 := kb BK190.out 1; have hfz55_2 := kb BK190.out 2; have hfz55_3 := kb BK190.out 3; have hfz55_4 := kb BK190.out 4) | ((with_reducible refine jb (f := 54) rfl ?_); refine jo (some 60) rfl rfl Tryd.func54 (by kernel_rfl) rfl #[.agg #[.int .i64 a0_0, .int .i64 a0_1, .int .u32 a0_2, .string a0_3, .slice A0_4 l0_4.length c0_4], .string (⟨#[124, 124]⟩ : ByteArray)] rfl (by (try simp only [List.map_toArray, List.map_cons, List.map_nil]); first | done | rfl | (simp only [List.length_drop, List.length_take]; rfl)) ?_; (with_reducible refine (ihytwo k (by omega) a0_0 a0_1 a0_2 a0_3 _ _ l0_4 (⟨#[124, 124]⟩ : ByteArray) t200 _ ?side1 ?side2 ?side3 A53.out).mono ?_); (case side1 => exact Ext.TAB.below HT.out (by repeat (first | (with_reducible first | exact HB.out | apply ke | apply ka | apply kf | refine kj ?_ GE190.out) | exact HB.out))); (case side2 => exact Kd.kx HR0_4.out HB.out); (case side3 => exact HC0_4.out); rintro e w56 ⟨rfl, hb⟩; refine ⟨_, rfl, ?_⟩; have n0_ := kd.mk (ku (g := gb190) (o := .cells #[.int .i64 a0_0, .int .i64 a0_1, .int .u32 a0_2, .string a0_3, .slice A0_4 l0_4.length c0_4] 36 (0, 0)) (by (with_reducible repeat (first | refine kg ?_ _ | refine kk ?_ | refine ki ?_ _)); exact BK190.out) hb); have n1_ := kd.mk (kr (by repeat (first | (with_reducible first | exact HB.out | apply ke | apply ka | apply kf | refine kj ?_ GE190.out) | exact HB.out)) hb); clear BK190; clear HB; have BK190 := n0_; have HB := n1_; clear n0_ n1_; (try clear hb)))
         go_ret
         exact ⟨by first | rfl | (simp [kp, ko] <;> rfl) | (simp [*, kp, ko] <;> rfl), by repeat (first | (with_reducible first | exact HB.out | apply ke | apply ka | apply kf | refine kj ?_ GE190.out) | exact HB.out)⟩
theorem yargs.all_calls (k : Nat) : (∀ (A0 : Option Addr) (c0 : Nat) (l0 : List (S36)) (r : ByteArray) (w : World) (hT : Ext.TAB w) (hr0 : Kd.C k36 w A0 l0.length l0) (hc0 : l0.length ≤ c0) (h : yargs.f k l0 = some r), Calls Tryd.prog 53 #[.slice A0 l0.length c0] w fun e w' => e = .returned (.string r) ∧ Below w.heap.size w w') ∧ (∀ (a0_0 : Int) (a0_1 : Int) (a0_2 : Int) (a0_3 : ByteArray) (A0_4 : Option Addr) (c0_4 : Nat) (l0_4 : List (S36)) (a1 : ByteArray) (r : ByteArray) (w : World) (hT : Ext.TAB w) (hr0_4 : Kd.C k36 w A0_4 l0_4.length l0_4) (hc0_4 : l0_4.length ≤ c0_4) (h : ytwo.f k a0_0 a0_1 a0_2 a0_3 l0_4 a1 = some r), Calls Tryd.prog 54 #[.agg #[.int .i64 a0_0, .int .i64 a0_1, .int .u32 a0_2, .string a0_3, .slice A0_4 l0_4.length c0_4], .string a1] w fun e w' => e = .returned (.string r) ∧ Below w.heap.size w w') ∧ (∀ (a0_0 : Int) (a0_1 : Int) (a0_2 : Int) (a0_3 : ByteArray) (A0_4 : Option Addr) (c0_4 : Nat) (l0_4 : List (S36)) (r : ByteArray) (w : World) (hT : Ext.TAB w) (hr0_4 : Kd.C k36 w A0_4 l0_4.length l0_4) (hc0_4 : l0_4.length ≤ c0_4) (h : yExpr.f k a0_0 a0_1 a0_2 a0_3 l0_4 = some r), Calls Tryd.prog 24 #[.agg #[.int .i64 a0_0, .int .i64 a0_1, .int .u32 a0_2, .string a0_3, .slice A0_4 l0_4.length c0_4]] w fun e w' => e = .returned (.string r) ∧ Below w.heap.size w w') := by
 induction k using Nat.strongRecOn with
 | _ k ih =>
 exact ⟨yargs.calls_of k (fun j_ h_ => (ih j_ h_).1) (fun j_ h_ => (ih j_ h_).2.1) (fun j_ h_ => (ih j_ h_).2.2), ytwo.calls_of k (fun j_ h_ => (ih j_ h_).1) (fun j_ h_ => (ih j_ h_).2.1) (fun j_ h_ => (ih j_ h_).2.2), yExpr.calls_of k (fun j_ h_ => (ih j_ h_).1) (fun j_ h_ => (ih j_ h_).2.1) (fun j_ h_ => (ih j_ h_).2.2)⟩
theorem yargs.calls (k : Nat) : ∀ (A0 : Option Addr) (c0 : Nat) (l0 : List (S36)) (r : ByteArray) (w : World) (hT : Ext.TAB w) (hr0 : Kd.C k36 w A0 l0.length l0) (hc0 : l0.length ≤ c0) (h : yargs.f k l0 = some r), Calls Tryd.prog 53 #[.slice A0 l0.length c0] w fun e w' => e = .returned (.string r) ∧ Below w.heap.size w w' := (yargs.all_calls k).1
theorem ytwo.calls (k : Nat) : ∀ (a0_0 : Int) (a0_1 : Int) (a0_2 : Int) (a0_3 : ByteArray) (A0_4 : Option Addr) (c0_4 : Nat) (l0_4 : List (S36)) (a1 : ByteArray) (r : ByteArray) (w : World) (hT : Ext.TAB w) (hr0_4 : Kd.C k36 w A0_4 l0_4.length l0_4) (hc0_4 : l0_4.length ≤ c0_4) (h : ytwo.f k a0_0 a0_1 a0_2 a0_3 l0_4 a1 = some r), Calls Tryd.prog 54 #[.agg #[.int .i64 a0_0, .int .i64 a0_1, .int .u32 a0_2, .string a0_3, .slice A0_4 l0_4.length c0_4], .string a1] w fun e w' => e = .returned (.string r) ∧ Below w.heap.size w w' := (yargs.all_calls k).2.1
theorem yExpr.calls (k : Nat) : ∀ (a0_0 : Int) (a0_1 : Int) (a0_2 : Int) (a0_3 : ByteArray) (A0_4 : Option Addr) (c0_4 : Nat) (l0_4 : List (S36)) (r : ByteArray) (w : World) (hT : Ext.TAB w) (hr0_4 : Kd.C k36 w A0_4 l0_4.length l0_4) (hc0_4 : l0_4.length ≤ c0_4) (h : yExpr.f k a0_0 a0_1 a0_2 a0_3 l0_4 = some r), Calls Tryd.prog 24 #[.agg #[.int .i64 a0_0, .int .i64 a0_1, .int .u32 a0_2, .string a0_3, .slice A0_4 l0_4.length c0_4]] w fun e w' => e = .returned (.string r) ∧ Below w.heap.size w w' := (yargs.all_calls k).2.2
end Go.Proofs.YthnhdompfhkepaaDoor.Q
