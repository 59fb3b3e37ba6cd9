-- Written by a program of this session (wip/tools/xprint.py) over the kit's print.
import Derived.Test.YtllnaagddpfclaaDoorAx0
import Derived.Test.YtllnaagddpfclaaDoorAx1
namespace Go.Proofs.YtllnaagddpfclaaDoor.A
open Go.RowKit Go.Proofs.YtllnaagddpfclaaDoorW.PrintWords Go.Proofs.YtllnaagddpfclaaDoorW.PrintLast Go.Proofs.YtllnaagddpfclaaDoorW.PrintMore
attribute [local go_sem] max2_int min2_int max_two min_two max_three min_three max_four min_four   -- for this text's walks alone
set_option linter.unusedVariables false
set_option linter.unusedSimpArgs false

/-! ### hex_line: function 28 -/
def hex_line.l0 : Nat → ByteArray → Int → List ByteArray → Int → Int → Option (ByteArray)
  | 0, _, _, _, _, _ => none
  | k + 1, x0, x1, x5, x9, x10 => if x10 < x9 then (if 0 ≤ x10 then (if x10 < (x0.size : Int) then ((hex_two.f (bt x0 x10)).bind fun t107 => (if x5.length < 8796093022208 then (hex_line.l0 k x0 x1 (x5 ++ [strOfNums t107]) x9 (wrap64 (x10 + 1))) else (none))) else (none)) else (none)) else ((Ext.strings_Join.f x5 (⟨#[32]⟩ : ByteArray)).bind fun t113 => (if t113.size + 4 ≤ 9223372036854775807 then ((Ext.strconv_Itoa.f x1).bind fun t114 => (if (t113 ++ (⟨#[32, 32, 35, 32]⟩ : ByteArray)).size + t114.size ≤ 9223372036854775807 then (if ((t113 ++ (⟨#[32, 32, 35, 32]⟩ : ByteArray)) ++ t114).size + 1 ≤ 9223372036854775807 then (some (((t113 ++ (⟨#[32, 32, 35, 32]⟩ : ByteArray)) ++ t114) ++ (⟨#[10]⟩ : ByteArray))) else (none)) else (none))) else (none)))
def hex_line.f (k : Nat) (a0 : ByteArray) (a1 : Int) : Option (ByteArray) := if 16 ≤ 17592186044416 then (hex_line.l0 k a0 a1 ([]) (a0.size : Int) 0) else (none)
theorem hex_line.mono_l : ∀ k, (∀ y0 y1 y2 y3 y4, LeO (hex_line.l0 k y0 y1 y2 y3 y4) (hex_line.l0 (k + 1) y0 y1 y2 y3 y4))
  | 0 => fun _ _ _ _ _ r h => by simp [hex_line.l0] at h
  | k + 1 => by
    have ih0 := hex_line.mono_l k
    · intro y0 y1 y2 y3 y4
      unfold hex_line.l0
      repeat' first
      | (with_reducible exact ih0 _ _ _ _ _)
      | (with_reducible exact LeO.refl _)
      | (with_reducible exact LeO.none _)
      | (with_reducible refine LeO.ite ?_ ?_)
      | (with_reducible refine LeO.bind ?_ (fun _ => ?_))
      | exact ih0 _ _ _ _ _
      | exact LeO.none _
      | refine LeO.ite ?_ ?_
      | refine LeO.bind ?_ (fun _ => ?_)
theorem hex_line.mono : ∀ a0 a1 k, LeO (hex_line.f k a0 a1) (hex_line.f (k + 1) a0 a1) := by
  intro a0 a1 k
  have ih0 := hex_line.mono_l k
  unfold hex_line.f
  repeat' first
      | (with_reducible exact ih0 _ _ _ _ _)
      | (with_reducible exact LeO.refl _)
      | (with_reducible exact LeO.none _)
      | (with_reducible refine LeO.ite ?_ ?_)
      | (with_reducible refine LeO.bind ?_ (fun _ => ?_))
      | exact ih0 _ _ _ _ _
      | exact LeO.none _
      | refine LeO.ite ?_ ?_
      | refine LeO.bind ?_ (fun _ => ?_)
set_option maxHeartbeats 8000000 in
set_option maxRecDepth 100000 in
theorem hex_line.calls (k : Nat) (a0 : ByteArray) (a1 : Int) (r : ByteArray) (w : World) (hT : Go.Proofs.YtllnaagddpfclaaDoor.Ext.TAB w) (h : hex_line.f k a0 a1 = some r) :
    Calls Tryd.prog 28 #[.string a0, .int .i64 a1] w fun e w' => e = .returned (.string r) ∧ Below w.heap.size w w' := by
  have HT := Aside0.mk hT
  clear hT
  have HB := Aside0.mk (Below.refl w.heap.size w)
  have H : (if 16 ≤ 17592186044416 then (hex_line.l0 k a0 a1 ([]) (a0.size : Int) 0) else (none)) = some r := h
  clear h
  by_cases c3 : 16 ≤ 17592186044416
  · rw [if_pos c3] at H
    have c3b0 := eq_true c3
    have c3b1 : decide (16 ≤ 17592186044416) = true := decide_eq_true c3
    clear c3
    obtain ⟨y104, hy104⟩ : ∃ y_ : List ByteArray, y_ = ([]) := ⟨_, rfl⟩
    replace H : (hex_line.l0 k a0 a1 y104 (a0.size : Int) 0) = some r := by first | (rw [hy104]; with_reducible exact H) | (have H2_ := (Option.bind_some _ _).symm.trans H; rw [hy104]; with_reducible exact H2_) | (have H2_ := (Option.bind_some _ _).symm.trans H; with_reducible exact H2_) | with_reducible exact H | (rw [hy104]; exact H) | exact H
    have Ny104 := Aside0.mk hy104
    clear hy104
    have H' := Aside0.mk H
    clear H
    go_enter Tryd.func28, Tryd.ntmps28
    go_wp2_with (first | ((with_reducible refine gate_dst (N := 7) rfl ?_); refine Go.Proofs.YtllnaagddpfclaaDoor.Ext.R_make0 Kd.string _ 9 rfl (N := 7) rfl 49 _ _ rfl 16 rfl rfl Tryd.underlying49 (.string ⟨#[]⟩) 16 info9 (by decide) (by omega) (ok := fun _ => True) trivial (by omega) (by omega) (Below.refl _ _) (Nat.le_refl _) ?_; intro v105 w4 ho5 hb hg_ hnew_; clear hg_ hnew_; (first | rw [← Ny104.out] at ho5 | (simp only [Int.reduceToNat] at ho5; rw [← Ny104.out] at ho5)); have n0_ := Aside0.mk (Kd.R_lower ho5 (below_size (by repeat (first | (with_reducible first | exact HB.out | apply below_alloc | apply pw_below_drewN | apply below_drew1) | exact HB.out)))); have n1_ := Aside0.mk (below_step (by repeat (first | (with_reducible first | exact HB.out | apply below_alloc | apply pw_below_drewN | apply below_drew1) | exact HB.out)) hb); clear HB; have HO106 := n0_; have HB := n1_; clear n0_ n1_; clear hb ho5))
    go_loopg [5, 10] k (fun kq v5 v10 w' => ∃ (x5_1 : List ByteArray) (x10_1 : Int), v10 = .int .i64 x10_1 ∧ Aside0 (hex_line.l0 kq a0 a1 x5_1 (a0.size : Int) x10_1 = some r) ∧ Aside0 (kq ≤ k) ∧ Aside0 (Kd.R Kd.string 9 w' w.heap.size (fun _ => True) v5 x5_1) ∧ Aside0 (Below w.heap.size w w'))
    case atStart => exact ⟨(y104), (0), (by first | rfl | (simp; done) | (simp [*]; done)), H', ⟨Nat.le_refl _⟩, ⟨by (with_reducible repeat (first | apply Kd.R_alloc | apply Kd.R_drewN | apply Kd.R_drew)); exact HO106.out⟩, ⟨by repeat (first | (with_reducible first | exact HB.out | apply below_alloc | apply pw_below_drewN | apply below_drew1) | exact HB.out)⟩⟩
    case round =>
      clear H'
      try clear c2
      try clear p2
      try clear c3
      try clear c3b0
      try clear c3b1
      obtain ⟨x5_1, x10_1, rfl, HA, HK1, HO_5, HB⟩ := hrel
      cases gk with
      | zero => exact absurd HA.out (by simp [hex_line.l0])
      | succ k1 =>
        have H := HA.out
        clear HA
        simp only [hex_line.l0] at H
        by_cases c6 : x10_1 < (a0.size : Int)
        · rw [if_pos c6] at H
          have c6b0 : decide (x10_1 < (a0.size : Int)) = true := decide_eq_true c6
          clear c6
          by_cases c7 : 0 ≤ x10_1
          · rw [if_pos c7] at H
            have c7b0 : decide (0 ≤ x10_1) = true := decide_eq_true c7
            clear c7
            by_cases c8 : x10_1 < (a0.size : Int)
            · rw [if_pos c8] at H
              have c8b0 : decide (x10_1 < (a0.size : Int)) = true := decide_eq_true c8
              clear c8
              replace H := Option.bind_eq_some_iff.mp H
              obtain ⟨t107, A100, H⟩ := H
              replace H : (if x5_1.length < 8796093022208 then (hex_line.l0 k1 a0 a1 (x5_1 ++ [strOfNums t107]) (a0.size : Int) (wrap64 (x10_1 + 1))) else (none)) = some r := H
              have A10 := Aside0.mk A100
              clear A100
              by_cases c11 : x5_1.length < 8796093022208
              · rw [if_pos c11] at H
                have LMc11 := Aside0.mk c11
                clear c11
                obtain ⟨y110, hy110⟩ : ∃ y_ : List ByteArray, y_ = (x5_1 ++ [strOfNums t107]) := ⟨_, rfl⟩
                replace H : (hex_line.l0 k1 a0 a1 y110 (a0.size : Int) (wrap64 (x10_1 + 1))) = some r := by first | (rw [hy110]; with_reducible exact H) | (have H2_ := (Option.bind_some _ _).symm.trans H; rw [hy110]; with_reducible exact H2_) | (have H2_ := (Option.bind_some _ _).symm.trans H; with_reducible exact H2_) | with_reducible exact H | (rw [hy110]; exact H) | exact H
                have Ny110 := Aside0.mk hy110
                clear hy110
                have H' := Aside0.mk H
                clear H
                have p9 : 0 ≤ (x10_1 : Int) := of_decide_eq_true (by first | (with_reducible assumption) | assumption)
                have q9 : x10_1 < (a0.size : Int) := of_decide_eq_true (by first | (with_reducible assumption) | assumption)
                have hx9 := bt_at a0 x10_1
                replace p9 := eq_true p9
                replace q9 := eq_true q9
                go_wp2_with (first | ((with_reducible refine gate_callee (f := 22) rfl ?_); refine goesL_ (some 17) rfl rfl Tryd.func22 (by kernel_rfl) rfl #[.int .u8 (bt a0 x10_1)] rfl (by (try simp only [List.map_toArray, List.map_cons, List.map_nil]); first | done | rfl | (simp only [List.length_drop, List.length_take]; rfl)) ?_; (with_reducible refine (hex_two.calls (bt a0 x10_1) t107 _ A10.out).mono ?_); rintro e w12 ⟨v108, rfl, ho0, hb⟩; refine ⟨_, rfl, ?_⟩; have n0_ := Aside0.mk (Kd.R_below (by (with_reducible repeat (first | apply Kd.R_alloc | apply Kd.R_drewN | apply Kd.R_drew)); exact HO_5.out) hb); have n1_ := Aside0.mk (Kd.R_lower ho0 (below_size (by repeat (first | (with_reducible first | exact HB.out | apply below_alloc | apply pw_below_drewN | apply below_drew1) | exact HB.out)))); have n2_ := Aside0.mk (below_step (by repeat (first | (with_reducible first | exact HB.out | apply below_alloc | apply pw_below_drewN | apply below_drew1) | exact HB.out)) hb); clear HO_5; clear HB; have HO_5 := n0_; have HO109 := n1_; have HB := n2_; clear n0_ n1_ n2_; (try clear hb); (try clear hb2); (try clear hk); (try clear hi); (try clear ho0); have hcv13 := own_string (P := Tryd.prog) Tryd.underlying32 Tryd.underlying5 Tryd.underlying9 (Kd.own_of_R HO109.out)) | ((with_reducible refine gate_builtin (b := .append) (xs := #[.tmp 13, .tmp 19]) rfl ?_); at_builtin; refine Kd.R_append Kd.string (w0 := w) w.heap.size rfl (.tmp 13) (.tmp 19) 49 9 (.string ⟨#[]⟩) 16 rfl Tryd.underlying49 info9 rfl (by decide) (by omega) u5 x5_1 (strOfNums t107) [.string (strOfNums t107)] (fun _ => True) (fun _ => False) rfl rfl ?aP (fun _ hk => hk.elim) ?aF ?aO ?aB ?aS ?aL ?_; (case aP => exact rfl); (case aB => exact (by repeat (first | (with_reducible first | exact HB.out | apply below_alloc | apply pw_below_drewN | apply below_drew1) | exact HB.out))); (case aF => exact (fun _ _ => trivial)); (case aO => exact (by (with_reducible repeat (first | apply Kd.R_alloc | apply Kd.R_drewN | apply Kd.R_drew)); exact HO_5.out)); (case aS => exact (below_size (by repeat (first | (with_reducible first | exact HB.out | apply below_alloc | apply pw_below_drewN | apply below_drew1) | exact HB.out)))); (case aL => have := LMc11.out; omega); intro v111 w14 ho hb hg hat; rw [← Ny110.out] at ho; have n0_ := Aside0.mk (Kd.R_over' (by (with_reducible repeat (first | apply Kd.R_alloc | apply Kd.R_drewN | apply Kd.R_drew)); exact HO109.out) (Kd.R_typed (by (with_reducible repeat (first | apply Kd.R_alloc | apply Kd.R_drewN | apply Kd.R_drew)); exact HO_5.out)) (by decide) hg); have n1_ := Aside0.mk (hb); have n2_ := Aside0.mk (ho); clear HO109; clear HB; clear HO_5; have HO109 := n0_; have HB := n1_; have HO112 := n2_; clear n0_ n1_ n2_; clear ho hb hg hat))
                go_roundg k1
                case measure => have := HK1.out; omega
                case rel => exact ⟨(y110), (wrap64 (x10_1 + 1)), (by first | rfl | (simp; done) | (simp [*]; done)), H', ⟨by have := HK1.out; omega⟩, ⟨by (with_reducible repeat (first | apply Kd.R_alloc | apply Kd.R_drewN | apply Kd.R_drew)); exact HO112.out⟩, ⟨by repeat (first | (with_reducible first | exact HB.out | apply below_alloc | apply pw_below_drewN | apply below_drew1) | exact HB.out)⟩⟩
              · rw [if_neg c11] at H
                exact absurd H (by simp)
            · rw [if_neg c8] at H
              exact absurd H (by simp)
          · rw [if_neg c7] at H
            exact absurd H (by simp)
        · rw [if_neg c6] at H
          have c6b0 : decide (x10_1 < (a0.size : Int)) = false := decide_eq_false c6
          clear c6
          replace H := Option.bind_eq_some_iff.mp H
          obtain ⟨t113, A150, H⟩ := H
          replace H : (if t113.size + 4 ≤ 9223372036854775807 then ((Ext.strconv_Itoa.f a1).bind fun t114 => (if (t113 ++ (⟨#[32, 32, 35, 32]⟩ : ByteArray)).size + t114.size ≤ 9223372036854775807 then (if ((t113 ++ (⟨#[32, 32, 35, 32]⟩ : ByteArray)) ++ t114).size + 1 ≤ 9223372036854775807 then (some (((t113 ++ (⟨#[32, 32, 35, 32]⟩ : ByteArray)) ++ t114) ++ (⟨#[10]⟩ : ByteArray))) else (none)) else (none))) else (none)) = some r := H
          have A15 := Aside0.mk A150
          clear A150
          by_cases c16 : t113.size + 4 ≤ 9223372036854775807
          · rw [if_pos c16] at H
            have c16b0 := eq_true c16
            have c16b1 : decide (t113.size + 4 ≤ 9223372036854775807) = true := decide_eq_true c16
            try have c16b2 : (9223372036854775807 < t113.size + 4) = False := eq_false (Nat.not_lt.2 c16)
            replace H := Option.bind_eq_some_iff.mp H
            obtain ⟨t114, A170, H⟩ := H
            replace H : (if (t113 ++ (⟨#[32, 32, 35, 32]⟩ : ByteArray)).size + t114.size ≤ 9223372036854775807 then (if ((t113 ++ (⟨#[32, 32, 35, 32]⟩ : ByteArray)) ++ t114).size + 1 ≤ 9223372036854775807 then (some (((t113 ++ (⟨#[32, 32, 35, 32]⟩ : ByteArray)) ++ t114) ++ (⟨#[10]⟩ : ByteArray))) else (none)) else (none)) = some r := H
            have A17 := Aside0.mk A170
            clear A170
            by_cases c18 : (t113 ++ (⟨#[32, 32, 35, 32]⟩ : ByteArray)).size + t114.size ≤ 9223372036854775807
            · rw [if_pos c18] at H
              have c18b0 := eq_true c18
              have c18b1 : decide ((t113 ++ (⟨#[32, 32, 35, 32]⟩ : ByteArray)).size + t114.size ≤ 9223372036854775807) = true := decide_eq_true c18
              try have c18b2 : (9223372036854775807 < (t113 ++ (⟨#[32, 32, 35, 32]⟩ : ByteArray)).size + t114.size) = False := eq_false (Nat.not_lt.2 c18)
              (try simp only [ByteArray.size_append, show (⟨#[32, 32, 35, 32]⟩ : ByteArray).size = 4 from rfl] at c18b2)
              by_cases c19 : ((t113 ++ (⟨#[32, 32, 35, 32]⟩ : ByteArray)) ++ t114).size + 1 ≤ 9223372036854775807
              · rw [if_pos c19] at H
                have c19b0 := eq_true c19
                have c19b1 : decide (((t113 ++ (⟨#[32, 32, 35, 32]⟩ : ByteArray)) ++ t114).size + 1 ≤ 9223372036854775807) = true := decide_eq_true c19
                try have c19b2 : (9223372036854775807 < ((t113 ++ (⟨#[32, 32, 35, 32]⟩ : ByteArray)) ++ t114).size + 1) = False := eq_false (Nat.not_lt.2 c19)
                (try simp only [ByteArray.size_append, show (⟨#[32, 32, 35, 32]⟩ : ByteArray).size = 4 from rfl] at c19b2)
                obtain rfl := Option.some.inj H
                obtain ⟨Ao20, co20, eo20⟩ := Kd.R_slice HO_5.out
                subst eo20
                go_wp2_with (first | ((with_reducible refine gate_callee (f := 31) rfl ?_); refine goesL_ (some 23) rfl rfl Tryd.func31 (by kernel_rfl) rfl #[.slice Ao20 x5_1.length co20, .string (⟨#[32]⟩ : ByteArray)] rfl (by (try simp only [List.map_toArray, List.map_cons, List.map_nil]); first | done | rfl | (simp only [List.length_drop, List.length_take]; rfl)) ?_; (with_reducible refine (Ext.strings_Join.calls _ _ x5_1 (⟨#[32]⟩ : ByteArray) t113 _ ?side1 ?side2 A15.out).mono ?_); (case side1 => repeat (first | exact (Kd.R_reads' HO_5.out).2.2 | (with_reducible refine Kd.C_alloc ?_ _) | (with_reducible refine Kd.C_drewN ?_ _) | (with_reducible refine Kd.C_drew ?_))); (case side2 => exact (Kd.R_reads' HO_5.out).2.1); rintro e w21 ⟨rfl, hb⟩; refine ⟨_, rfl, ?_⟩; have n0_ := Aside0.mk (Kd.R_below (by (with_reducible repeat (first | apply Kd.R_alloc | apply Kd.R_drewN | apply Kd.R_drew)); exact HO_5.out) hb); have n1_ := Aside0.mk (below_step (by repeat (first | (with_reducible first | exact HB.out | apply below_alloc | apply pw_below_drewN | apply below_drew1) | exact HB.out)) hb); clear HO_5; clear HB; have HO_5 := n0_; have HB := n1_; clear n0_ n1_; (try clear hb); (try clear hb2); (try clear hk); (try clear hi)) | ((with_reducible refine gate_callee (f := 32) rfl ?_); refine goesL_ (some 26) rfl rfl Tryd.func32 (by kernel_rfl) rfl #[.int .i64 a1] rfl (by (try simp only [List.map_toArray, List.map_cons, List.map_nil]); first | done | rfl | (simp only [List.length_drop, List.length_take]; rfl)) ?_; (with_reducible refine (Ext.strconv_Itoa.calls a1 t114 _ ?side1 A17.out).mono ?_); (case side1 => exact Go.Proofs.YtllnaagddpfclaaDoor.Ext.TAB.below HT.out (by repeat (first | (with_reducible first | exact HB.out | apply below_alloc | apply pw_below_drewN | apply below_drew1) | exact HB.out))); rintro e w22 ⟨rfl, hb⟩; refine ⟨_, rfl, ?_⟩; have n0_ := Aside0.mk (Kd.R_below (by (with_reducible repeat (first | apply Kd.R_alloc | apply Kd.R_drewN | apply Kd.R_drew)); exact HO_5.out) hb); have n1_ := Aside0.mk (below_step (by repeat (first | (with_reducible first | exact HB.out | apply below_alloc | apply pw_below_drewN | apply below_drew1) | exact HB.out)) hb); clear HO_5; clear HB; have HO_5 := n0_; have HB := n1_; clear n0_ n1_; (try clear hb); (try clear hb2); (try clear hk); (try clear hi)))
                go_ret
                exact ⟨by first | rfl | (simp [errW_none, errW_some] <;> rfl) | (simp [*, errW_none, errW_some] <;> rfl), by repeat (first | (with_reducible first | exact HB.out | apply below_alloc | apply pw_below_drewN | apply below_drew1) | exact HB.out)⟩
              · rw [if_neg c19] at H
                exact absurd H (by simp)
            · rw [if_neg c18] at H
              exact absurd H (by simp)
          · rw [if_neg c16] at H
            exact absurd H (by simp)
  · rw [if_neg c3] at H
    exact absurd H (by simp)

end Go.Proofs.YtllnaagddpfclaaDoor.A
