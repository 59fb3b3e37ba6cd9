-- Written by a program of this session (wip/tools/xprint.py) over the kit's print.
import Derived.Test.YtllnaagddpfclaaDoorQx0
import Derived.Test.YtllnaagddpfclaaDoorQx3
import Derived.Test.YtllnaagddpfclaaDoorQx4
import Derived.Test.YtllnaagddpfclaaDoorHexDump
import Derived.Test.YtllnaagddpfclaaDoorHexText
namespace Go.Proofs.YtllnaagddpfclaaDoor.Q
open Go.RowKit Go.Proofs.YtllnaagddpfclaaDoorW.PrintWords Go.Proofs.YtllnaagddpfclaaDoorW.PrintLast Go.Proofs.YtllnaagddpfclaaDoorW.PrintMore
attribute [local go_sem] max2_int min2_int max_two min_two max_three min_three max_four min_four   -- for this text's walks alone
set_option linter.unusedVariables false
set_option linter.unusedSimpArgs false

/-! ### seedcornlaw02_HexBack: function 7 -/
def seedcornlaw02_HexBack.j0 : Nat → ByteArray → ByteArray → Bool → Option (Bool)
  | 0, _, _, _ => none
  | k + 1, x0, x1, x14 => if x14 = true then (some true) else ((Ext.hex_Text.f k x0).bind fun t161 => ((hex_Load.f k t161).bind fun t162 => (if t162.toList = x0.toList then ((Ext.hex_Dump.f k x0).bind fun t163 => ((hex_Load.f k t163).bind fun t164 => (if t164.toList = x0.toList then ((Ext.hex_Dump.f k x0).bind fun t165 => ((Ext.hex_Text.f k x1).bind fun t166 => (if t163.size + t166.size ≤ 9223372036854775807 then ((hex_Load.f k (t163 ++ t166)).bind fun t167 => (if x0.size + x1.size ≤ 9223372036854775807 then (if t167.toList = (x0 ++ x1).toList then ((Ext.hex_Text.f k x1).bind fun t168 => ((Ext.hex_Dump.f k x0).bind fun t169 => (if t166.size + t163.size ≤ 9223372036854775807 then ((hex_Load.f k (t166 ++ t163)).bind fun t170 => (if x1.size + x0.size ≤ 9223372036854775807 then (some (t170.toList == (x1 ++ x0).toList)) else (none))) else (none)))) else (some false)) else (none))) else (none)))) else (some false)))) else (some false))))
def seedcornlaw02_HexBack.f (k : Nat) (a0 : ByteArray) (a1 : ByteArray) : Option (Bool) := (seedcornlaw02_awake.f k).bind fun t160 => (if t160 = true then (if (a0.size : Int) > 3000 then (seedcornlaw02_HexBack.j0 k a0 a1 true) else (seedcornlaw02_HexBack.j0 k a0 a1 (decide ((a1.size : Int) > 3000)))) else (some false))
theorem seedcornlaw02_HexBack.mono_l : ∀ k, (∀ y0 y1 y2, LeO (seedcornlaw02_HexBack.j0 k y0 y1 y2) (seedcornlaw02_HexBack.j0 (k + 1) y0 y1 y2))
  | 0 => fun _ _ _ r h => by simp [seedcornlaw02_HexBack.j0] at h
  | k + 1 => by
    have ih0 := seedcornlaw02_HexBack.mono_l k
    · intro y0 y1 y2
      unfold seedcornlaw02_HexBack.j0
      repeat' first
      | (with_reducible exact ih0 _ _ _)
      | (with_reducible exact Ext.hex_Dump.mono _ _)
      | (with_reducible exact Ext.hex_Text.mono _ _)
      | (with_reducible exact hex_Load.mono _ _)
      | (with_reducible exact seedcornlaw02_awake.mono _)
      | (with_reducible exact LeO.refl _)
      | (with_reducible exact LeO.none _)
      | (with_reducible refine LeO.ite ?_ ?_)
      | (with_reducible refine LeO.bind ?_ (fun _ => ?_))
      | exact ih0 _ _ _
      | exact Ext.hex_Dump.mono _ _
      | exact Ext.hex_Text.mono _ _
      | exact hex_Load.mono _ _
      | exact seedcornlaw02_awake.mono _
      | exact LeO.none _
      | refine LeO.ite ?_ ?_
      | refine LeO.bind ?_ (fun _ => ?_)
theorem seedcornlaw02_HexBack.mono : ∀ a0 a1 k, LeO (seedcornlaw02_HexBack.f k a0 a1) (seedcornlaw02_HexBack.f (k + 1) a0 a1) := by
  intro a0 a1 k
  have ih0 := seedcornlaw02_HexBack.mono_l k
  unfold seedcornlaw02_HexBack.f
  repeat' first
      | (with_reducible exact ih0 _ _ _)
      | (with_reducible exact Ext.hex_Dump.mono _ _)
      | (with_reducible exact Ext.hex_Text.mono _ _)
      | (with_reducible exact hex_Load.mono _ _)
      | (with_reducible exact seedcornlaw02_awake.mono _)
      | (with_reducible exact LeO.refl _)
      | (with_reducible exact LeO.none _)
      | (with_reducible refine LeO.ite ?_ ?_)
      | (with_reducible refine LeO.bind ?_ (fun _ => ?_))
      | exact ih0 _ _ _
      | exact Ext.hex_Dump.mono _ _
      | exact Ext.hex_Text.mono _ _
      | exact hex_Load.mono _ _
      | exact seedcornlaw02_awake.mono _
      | exact LeO.none _
      | refine LeO.ite ?_ ?_
      | refine LeO.bind ?_ (fun _ => ?_)
set_option maxHeartbeats 8000000 in
set_option maxRecDepth 100000 in
theorem seedcornlaw02_HexBack.calls (k : Nat) (a0 : ByteArray) (a1 : ByteArray) (r : Bool) (w : World) (hT : Go.Proofs.YtllnaagddpfclaaDoor.Ext.TAB w) (h : seedcornlaw02_HexBack.f k a0 a1 = some r) :
    Calls Tryd.prog 7 #[.string a0, .string a1] w fun e w' => e = .returned (.bool r) ∧ Below w.heap.size w w' := by
  have HT := Aside0.mk hT
  clear hT
  have HB := Aside0.mk (Below.refl w.heap.size w)
  have H : ((seedcornlaw02_awake.f k).bind fun t160 => (if t160 = true then (if (a0.size : Int) > 3000 then (seedcornlaw02_HexBack.j0 k a0 a1 true) else (seedcornlaw02_HexBack.j0 k a0 a1 (decide ((a1.size : Int) > 3000)))) else (some false))) = some r := h
  clear h
  replace H := Option.bind_eq_some_iff.mp H
  obtain ⟨t160, A30, H⟩ := H
  replace H : (if t160 = true then (if (a0.size : Int) > 3000 then (seedcornlaw02_HexBack.j0 k a0 a1 true) else (seedcornlaw02_HexBack.j0 k a0 a1 (decide ((a1.size : Int) > 3000)))) else (some false)) = some r := H
  have A3 := Aside0.mk A30
  clear A30
  by_cases c4 : t160 = true
  · subst c4
    have H1 : (if (a0.size : Int) > 3000 then (seedcornlaw02_HexBack.j0 k a0 a1 true) else (seedcornlaw02_HexBack.j0 k a0 a1 (decide ((a1.size : Int) > 3000)))) = some r := by rw [if_pos rfl] at H; exact H
    clear H
    have H := H1
    clear H1
    have HC5 := Aside0.mk H
    clear H
    go_enter Tryd.func7, Tryd.ntmps7
    go_upto_region 3 with (first | ((with_reducible refine gate_callee (f := 10) rfl ?_); refine goesL_ (some 5) rfl rfl Tryd.func10 (by kernel_rfl) rfl #[] rfl (by (try simp only [List.map_toArray, List.map_cons, List.map_nil]); first | done | rfl | (simp only [List.length_drop, List.length_take]; rfl)) ?_; (with_reducible refine (seedcornlaw02_awake.calls k  true _ ?side1 A3.out).mono ?_); (case side1 => exact Go.Proofs.YtllnaagddpfclaaDoor.Ext.TAB.below HT.out (by repeat (first | (with_reducible first | exact HB.out | apply below_alloc | apply pw_below_drewN | apply below_drew1) | exact HB.out))); rintro e w6 ⟨rfl, hb⟩; refine ⟨_, rfl, ?_⟩; have n0_ := Aside0.mk (below_step (by repeat (first | (with_reducible first | exact HB.out | apply below_alloc | apply pw_below_drewN | apply below_drew1) | exact HB.out)) hb); clear HB; have HB := n0_; clear n0_; (try clear hb); (try clear hb2); (try clear hk); (try clear hi)))
    (try simp only [Act.put, List.setIfInBounds_toArray, List.set_cons_zero, List.set_cons_succ])
    go_cut [14] (fun v14 wc => ∃ (kq : Nat) (x14_4 : Bool), v14 = .bool x14_4 ∧ Aside0 (seedcornlaw02_HexBack.j0 kq a0 a1 x14_4 = some r) ∧ Aside0 (kq ≤ k) ∧ Aside0 (Below w.heap.size w wc))
    case first =>
      have H := HC5.out
      clear HC5
      by_cases c7 : (a0.size : Int) > 3000
      · rw [if_pos c7] at H
        have c7b0 : decide (3000 < (a0.size : Int)) = true := decide_eq_true c7
        have c7b1 : decide (3000 < a0.size) = true := decide_eq_true (by omega)
        clear c7
        (first | rw [c7b0] | (simp only [i64_w, i32_w]; rw [c7b0]) | skip)
        have H' := Aside0.mk H
        clear H
        go_wp2
        go_meet
        case rel => exact ⟨_, (true), (by first | rfl | (simp; done) | (simp [*]; done)), H', ⟨by first | omega | exact Nat.le_refl _⟩, ⟨by repeat (first | (with_reducible first | exact HB.out | apply below_alloc | apply pw_below_drewN | apply below_drew1) | exact HB.out)⟩⟩
      · rw [if_neg c7] at H
        have c7b0 : decide (3000 < (a0.size : Int)) = false := decide_eq_false c7
        have c7b1 : decide (3000 < a0.size) = false := decide_eq_false (by omega)
        clear c7
        (first | rw [c7b0] | (simp only [i64_w, i32_w]; rw [c7b0]) | skip)
        have H' := Aside0.mk H
        clear H
        go_wp2
        go_meet
        case rel => exact ⟨_, (decide ((a1.size : Int) > 3000)), (by first | rfl | (simp; done) | (simp [*]; done)), H', ⟨by first | omega | exact Nat.le_refl _⟩, ⟨by repeat (first | (with_reducible first | exact HB.out | apply below_alloc | apply pw_below_drewN | apply below_drew1) | exact HB.out)⟩⟩
    case rest =>
      clear HC5
      try clear c1
      try clear p2
      try clear c4
      try clear c7
      try clear c7b0
      try clear c7b1
      obtain ⟨kq, x14_4, rfl, HA, HJ4, HB⟩ := hcut
      cases kq with
      | zero => exact absurd HA.out (by simp [seedcornlaw02_HexBack.j0])
      | succ kj4 =>
        have H := HA.out
        clear HA
        simp only [seedcornlaw02_HexBack.j0] at H
        by_cases c8 : x14_4 = true
        · subst c8
          have H1 : (some true) = some r := by rw [if_pos rfl] at H; exact H
          clear H
          have H := H1
          clear H1
          obtain rfl := Option.some.inj H
          go_wp2
          go_ret
          exact ⟨by first | rfl | (simp [errW_none, errW_some] <;> rfl) | (simp [*, errW_none, errW_some] <;> rfl), by repeat (first | (with_reducible first | exact HB.out | apply below_alloc | apply pw_below_drewN | apply below_drew1) | exact HB.out)⟩
        · replace c8 := Bool.eq_false_iff.mpr c8
          subst c8
          have H1 : ((Ext.hex_Text.f kj4 a0).bind fun t161 => ((hex_Load.f kj4 t161).bind fun t162 => (if t162.toList = a0.toList then ((Ext.hex_Dump.f kj4 a0).bind fun t163 => ((hex_Load.f kj4 t163).bind fun t164 => (if t164.toList = a0.toList then ((Ext.hex_Dump.f kj4 a0).bind fun t165 => ((Ext.hex_Text.f kj4 a1).bind fun t166 => (if t163.size + t166.size ≤ 9223372036854775807 then ((hex_Load.f kj4 (t163 ++ t166)).bind fun t167 => (if a0.size + a1.size ≤ 9223372036854775807 then (if t167.toList = (a0 ++ a1).toList then ((Ext.hex_Text.f kj4 a1).bind fun t168 => ((Ext.hex_Dump.f kj4 a0).bind fun t169 => (if t166.size + t163.size ≤ 9223372036854775807 then ((hex_Load.f kj4 (t166 ++ t163)).bind fun t170 => (if a1.size + a0.size ≤ 9223372036854775807 then (some (t170.toList == (a1 ++ a0).toList)) else (none))) else (none)))) else (some false)) else (none))) else (none)))) else (some false)))) else (some false)))) = some r := by rw [if_neg (show ¬ (false = true) by decide)] at H; exact H
          clear H
          have H := H1
          clear H1
          replace H := Option.bind_eq_some_iff.mp H
          obtain ⟨t161, A90, H⟩ := H
          replace H : ((hex_Load.f kj4 t161).bind fun t162 => (if t162.toList = a0.toList then ((Ext.hex_Dump.f kj4 a0).bind fun t163 => ((hex_Load.f kj4 t163).bind fun t164 => (if t164.toList = a0.toList then ((Ext.hex_Dump.f kj4 a0).bind fun t165 => ((Ext.hex_Text.f kj4 a1).bind fun t166 => (if t163.size + t166.size ≤ 9223372036854775807 then ((hex_Load.f kj4 (t163 ++ t166)).bind fun t167 => (if a0.size + a1.size ≤ 9223372036854775807 then (if t167.toList = (a0 ++ a1).toList then ((Ext.hex_Text.f kj4 a1).bind fun t168 => ((Ext.hex_Dump.f kj4 a0).bind fun t169 => (if t166.size + t163.size ≤ 9223372036854775807 then ((hex_Load.f kj4 (t166 ++ t163)).bind fun t170 => (if a1.size + a0.size ≤ 9223372036854775807 then (some (t170.toList == (a1 ++ a0).toList)) else (none))) else (none)))) else (some false)) else (none))) else (none)))) else (some false)))) else (some false))) = some r := H
          have A9 := Aside0.mk A90
          clear A90
          replace H := Option.bind_eq_some_iff.mp H
          obtain ⟨t162, A100, H⟩ := H
          replace H : (if t162.toList = a0.toList then ((Ext.hex_Dump.f kj4 a0).bind fun t163 => ((hex_Load.f kj4 t163).bind fun t164 => (if t164.toList = a0.toList then ((Ext.hex_Dump.f kj4 a0).bind fun t165 => ((Ext.hex_Text.f kj4 a1).bind fun t166 => (if t163.size + t166.size ≤ 9223372036854775807 then ((hex_Load.f kj4 (t163 ++ t166)).bind fun t167 => (if a0.size + a1.size ≤ 9223372036854775807 then (if t167.toList = (a0 ++ a1).toList then ((Ext.hex_Text.f kj4 a1).bind fun t168 => ((Ext.hex_Dump.f kj4 a0).bind fun t169 => (if t166.size + t163.size ≤ 9223372036854775807 then ((hex_Load.f kj4 (t166 ++ t163)).bind fun t170 => (if a1.size + a0.size ≤ 9223372036854775807 then (some (t170.toList == (a1 ++ a0).toList)) else (none))) else (none)))) else (some false)) else (none))) else (none)))) else (some false)))) else (some false)) = some r := H
          have A10 := Aside0.mk A100
          clear A100
          by_cases c11 : t162.toList = a0.toList
          · rw [if_pos c11] at H
            have c11b0 : (t162.toList == a0.toList) = true := beq_iff_eq.mpr c11
            have c11b1 : (t162.toList != a0.toList) = false := bne_eq_false_iff_eq.mpr c11
            clear c11
            replace H := Option.bind_eq_some_iff.mp H
            obtain ⟨t163, A120, H⟩ := H
            replace H : ((hex_Load.f kj4 t163).bind fun t164 => (if t164.toList = a0.toList then ((Ext.hex_Dump.f kj4 a0).bind fun t165 => ((Ext.hex_Text.f kj4 a1).bind fun t166 => (if t163.size + t166.size ≤ 9223372036854775807 then ((hex_Load.f kj4 (t163 ++ t166)).bind fun t167 => (if a0.size + a1.size ≤ 9223372036854775807 then (if t167.toList = (a0 ++ a1).toList then ((Ext.hex_Text.f kj4 a1).bind fun t168 => ((Ext.hex_Dump.f kj4 a0).bind fun t169 => (if t166.size + t163.size ≤ 9223372036854775807 then ((hex_Load.f kj4 (t166 ++ t163)).bind fun t170 => (if a1.size + a0.size ≤ 9223372036854775807 then (some (t170.toList == (a1 ++ a0).toList)) else (none))) else (none)))) else (some false)) else (none))) else (none)))) else (some false))) = some r := H
            have A12 := Aside0.mk A120
            clear A120
            replace H := Option.bind_eq_some_iff.mp H
            obtain ⟨t164, A130, H⟩ := H
            replace H : (if t164.toList = a0.toList then ((Ext.hex_Dump.f kj4 a0).bind fun t165 => ((Ext.hex_Text.f kj4 a1).bind fun t166 => (if t163.size + t166.size ≤ 9223372036854775807 then ((hex_Load.f kj4 (t163 ++ t166)).bind fun t167 => (if a0.size + a1.size ≤ 9223372036854775807 then (if t167.toList = (a0 ++ a1).toList then ((Ext.hex_Text.f kj4 a1).bind fun t168 => ((Ext.hex_Dump.f kj4 a0).bind fun t169 => (if t166.size + t163.size ≤ 9223372036854775807 then ((hex_Load.f kj4 (t166 ++ t163)).bind fun t170 => (if a1.size + a0.size ≤ 9223372036854775807 then (some (t170.toList == (a1 ++ a0).toList)) else (none))) else (none)))) else (some false)) else (none))) else (none)))) else (some false)) = some r := H
            have A13 := Aside0.mk A130
            clear A130
            by_cases c14 : t164.toList = a0.toList
            · rw [if_pos c14] at H
              have c14b0 : (t164.toList == a0.toList) = true := beq_iff_eq.mpr c14
              have c14b1 : (t164.toList != a0.toList) = false := bne_eq_false_iff_eq.mpr c14
              clear c14
              replace H := Option.bind_eq_some_iff.mp H
              obtain ⟨t165, A150, H⟩ := H
              replace H : ((Ext.hex_Text.f kj4 a1).bind fun t166 => (if t163.size + t166.size ≤ 9223372036854775807 then ((hex_Load.f kj4 (t163 ++ t166)).bind fun t167 => (if a0.size + a1.size ≤ 9223372036854775807 then (if t167.toList = (a0 ++ a1).toList then ((Ext.hex_Text.f kj4 a1).bind fun t168 => ((Ext.hex_Dump.f kj4 a0).bind fun t169 => (if t166.size + t163.size ≤ 9223372036854775807 then ((hex_Load.f kj4 (t166 ++ t163)).bind fun t170 => (if a1.size + a0.size ≤ 9223372036854775807 then (some (t170.toList == (a1 ++ a0).toList)) else (none))) else (none)))) else (some false)) else (none))) else (none))) = some r := H
              have A15 := Aside0.mk A150
              clear A150
              obtain rfl : t163 = t165 := Option.some.inj (A12.out.symm.trans A15.out)
              replace H := Option.bind_eq_some_iff.mp H
              obtain ⟨t166, A160, H⟩ := H
              replace H : (if t163.size + t166.size ≤ 9223372036854775807 then ((hex_Load.f kj4 (t163 ++ t166)).bind fun t167 => (if a0.size + a1.size ≤ 9223372036854775807 then (if t167.toList = (a0 ++ a1).toList then ((Ext.hex_Text.f kj4 a1).bind fun t168 => ((Ext.hex_Dump.f kj4 a0).bind fun t169 => (if t166.size + t163.size ≤ 9223372036854775807 then ((hex_Load.f kj4 (t166 ++ t163)).bind fun t170 => (if a1.size + a0.size ≤ 9223372036854775807 then (some (t170.toList == (a1 ++ a0).toList)) else (none))) else (none)))) else (some false)) else (none))) else (none)) = some r := H
              have A16 := Aside0.mk A160
              clear A160
              by_cases c17 : t163.size + t166.size ≤ 9223372036854775807
              · rw [if_pos c17] at H
                have c17b0 := eq_true c17
                have c17b1 : decide (t163.size + t166.size ≤ 9223372036854775807) = true := decide_eq_true c17
                try have c17b2 : (9223372036854775807 < t163.size + t166.size) = False := eq_false (Nat.not_lt.2 c17)
                replace H := Option.bind_eq_some_iff.mp H
                obtain ⟨t167, A180, H⟩ := H
                replace H : (if a0.size + a1.size ≤ 9223372036854775807 then (if t167.toList = (a0 ++ a1).toList then ((Ext.hex_Text.f kj4 a1).bind fun t168 => ((Ext.hex_Dump.f kj4 a0).bind fun t169 => (if t166.size + t163.size ≤ 9223372036854775807 then ((hex_Load.f kj4 (t166 ++ t163)).bind fun t170 => (if a1.size + a0.size ≤ 9223372036854775807 then (some (t170.toList == (a1 ++ a0).toList)) else (none))) else (none)))) else (some false)) else (none)) = some r := H
                have A18 := Aside0.mk A180
                clear A180
                by_cases c19 : a0.size + a1.size ≤ 9223372036854775807
                · rw [if_pos c19] at H
                  have c19b0 := eq_true c19
                  have c19b1 : decide (a0.size + a1.size ≤ 9223372036854775807) = true := decide_eq_true c19
                  try have c19b2 : (9223372036854775807 < a0.size + a1.size) = False := eq_false (Nat.not_lt.2 c19)
                  by_cases c20 : t167.toList = (a0 ++ a1).toList
                  · rw [if_pos c20] at H
                    have c20b0 : (t167.toList == (a0 ++ a1).toList) = true := beq_iff_eq.mpr c20
                    have c20b1 : (t167.toList != (a0 ++ a1).toList) = false := bne_eq_false_iff_eq.mpr c20
                    clear c20
                    replace H := Option.bind_eq_some_iff.mp H
                    obtain ⟨t168, A210, H⟩ := H
                    replace H : ((Ext.hex_Dump.f kj4 a0).bind fun t169 => (if t166.size + t163.size ≤ 9223372036854775807 then ((hex_Load.f kj4 (t166 ++ t163)).bind fun t170 => (if a1.size + a0.size ≤ 9223372036854775807 then (some (t170.toList == (a1 ++ a0).toList)) else (none))) else (none))) = some r := H
                    have A21 := Aside0.mk A210
                    clear A210
                    obtain rfl : t166 = t168 := Option.some.inj (A16.out.symm.trans A21.out)
                    replace H := Option.bind_eq_some_iff.mp H
                    obtain ⟨t169, A220, H⟩ := H
                    replace H : (if t166.size + t163.size ≤ 9223372036854775807 then ((hex_Load.f kj4 (t166 ++ t163)).bind fun t170 => (if a1.size + a0.size ≤ 9223372036854775807 then (some (t170.toList == (a1 ++ a0).toList)) else (none))) else (none)) = some r := H
                    have A22 := Aside0.mk A220
                    clear A220
                    obtain rfl : t163 = t169 := Option.some.inj (A12.out.symm.trans A22.out)
                    by_cases c23 : t166.size + t163.size ≤ 9223372036854775807
                    · rw [if_pos c23] at H
                      have c23b0 := eq_true c23
                      have c23b1 : decide (t166.size + t163.size ≤ 9223372036854775807) = true := decide_eq_true c23
                      try have c23b2 : (9223372036854775807 < t166.size + t163.size) = False := eq_false (Nat.not_lt.2 c23)
                      replace H := Option.bind_eq_some_iff.mp H
                      obtain ⟨t170, A240, H⟩ := H
                      replace H : (if a1.size + a0.size ≤ 9223372036854775807 then (some (t170.toList == (a1 ++ a0).toList)) else (none)) = some r := H
                      have A24 := Aside0.mk A240
                      clear A240
                      by_cases c25 : a1.size + a0.size ≤ 9223372036854775807
                      · rw [if_pos c25] at H
                        have c25b0 := eq_true c25
                        have c25b1 : decide (a1.size + a0.size ≤ 9223372036854775807) = true := decide_eq_true c25
                        try have c25b2 : (9223372036854775807 < a1.size + a0.size) = False := eq_false (Nat.not_lt.2 c25)
                        obtain rfl := Option.some.inj H
                        go_wp2_with (first | ((with_reducible refine gate_callee (f := 11) rfl ?_); refine goesL_ (some 16) rfl rfl Tryd.func11 (by kernel_rfl) rfl #[.string a0] rfl (by (try simp only [List.map_toArray, List.map_cons, List.map_nil]); first | done | rfl | (simp only [List.length_drop, List.length_take]; rfl)) ?_; (with_reducible refine (Ext.hex_Text.calls kj4 a0 t161 _ A9.out).mono ?_); rintro e w26 ⟨rfl, hb⟩; refine ⟨_, rfl, ?_⟩; have n0_ := Aside0.mk (below_step (by repeat (first | (with_reducible first | exact HB.out | apply below_alloc | apply pw_below_drewN | apply below_drew1) | exact HB.out)) hb); clear HB; have HB := n0_; clear n0_; (try clear hb); (try clear hb2); (try clear hk); (try clear hi)) | ((with_reducible refine gate_callee (f := 16) rfl ?_); refine goesL_ (some 17) rfl rfl Tryd.func16 (by kernel_rfl) rfl #[.string t161] rfl (by (try simp only [List.map_toArray, List.map_cons, List.map_nil]); first | done | rfl | (simp only [List.length_drop, List.length_take]; rfl)) ?_; (with_reducible refine (hex_Load.calls kj4 t161 t162 _ A10.out).mono ?_); rintro e w27 ⟨rfl, hb⟩; refine ⟨_, rfl, ?_⟩; have n0_ := Aside0.mk (below_step (by repeat (first | (with_reducible first | exact HB.out | apply below_alloc | apply pw_below_drewN | apply below_drew1) | exact HB.out)) hb); clear HB; have HB := n0_; clear n0_; (try clear hb); (try clear hb2); (try clear hk); (try clear hi)) | (go_at_call 18; (with_reducible refine (Ext.hex_Dump.calls kj4 a0 t163 _ ?side1 A12.out).mono ?_); (case side1 => exact Go.Proofs.YtllnaagddpfclaaDoor.Ext.TAB.below HT.out (by repeat (first | (with_reducible first | exact HB.out | apply below_alloc | apply pw_below_drewN | apply below_drew1) | exact HB.out))); rintro e w28 ⟨rfl, hb⟩; have n0_ := Aside0.mk (below_step (by repeat (first | (with_reducible first | exact HB.out | apply below_alloc | apply pw_below_drewN | apply below_drew1) | exact HB.out)) hb); clear HB; have HB := n0_; clear n0_; (try clear hb); (try clear hb2); (try clear hk); (try clear hi)) | (go_at_call 16; (with_reducible refine (hex_Load.calls kj4 t163 t164 _ A13.out).mono ?_); rintro e w29 ⟨rfl, hb⟩; have n0_ := Aside0.mk (below_step (by repeat (first | (with_reducible first | exact HB.out | apply below_alloc | apply pw_below_drewN | apply below_drew1) | exact HB.out)) hb); clear HB; have HB := n0_; clear n0_; (try clear hb); (try clear hb2); (try clear hk); (try clear hi)) | (go_at_call 18; (with_reducible refine (Ext.hex_Dump.calls kj4 a0 t163 _ ?side1 A15.out).mono ?_); (case side1 => exact Go.Proofs.YtllnaagddpfclaaDoor.Ext.TAB.below HT.out (by repeat (first | (with_reducible first | exact HB.out | apply below_alloc | apply pw_below_drewN | apply below_drew1) | exact HB.out))); rintro e w30 ⟨rfl, hb⟩; have n0_ := Aside0.mk (below_step (by repeat (first | (with_reducible first | exact HB.out | apply below_alloc | apply pw_below_drewN | apply below_drew1) | exact HB.out)) hb); clear HB; have HB := n0_; clear n0_; (try clear hb); (try clear hb2); (try clear hk); (try clear hi)) | (go_at_call 11; (with_reducible refine (Ext.hex_Text.calls kj4 a1 t166 _ A16.out).mono ?_); rintro e w31 ⟨rfl, hb⟩; have n0_ := Aside0.mk (below_step (by repeat (first | (with_reducible first | exact HB.out | apply below_alloc | apply pw_below_drewN | apply below_drew1) | exact HB.out)) hb); clear HB; have HB := n0_; clear n0_; (try clear hb); (try clear hb2); (try clear hk); (try clear hi)) | (go_at_call 16; (with_reducible refine (hex_Load.calls kj4 (t163 ++ t166) t167 _ A18.out).mono ?_); rintro e w32 ⟨rfl, hb⟩; have n0_ := Aside0.mk (below_step (by repeat (first | (with_reducible first | exact HB.out | apply below_alloc | apply pw_below_drewN | apply below_drew1) | exact HB.out)) hb); clear HB; have HB := n0_; clear n0_; (try clear hb); (try clear hb2); (try clear hk); (try clear hi)) | (go_at_call 11; (with_reducible refine (Ext.hex_Text.calls kj4 a1 t166 _ A21.out).mono ?_); rintro e w33 ⟨rfl, hb⟩; have n0_ := Aside0.mk (below_step (by repeat (first | (with_reducible first | exact HB.out | apply below_alloc | apply pw_below_drewN | apply below_drew1) | exact HB.out)) hb); clear HB; have HB := n0_; clear n0_; (try clear hb); (try clear hb2); (try clear hk); (try clear hi)) | (go_at_call 18; (with_reducible refine (Ext.hex_Dump.calls kj4 a0 t163 _ ?side1 A22.out).mono ?_); (case side1 => exact Go.Proofs.YtllnaagddpfclaaDoor.Ext.TAB.below HT.out (by repeat (first | (with_reducible first | exact HB.out | apply below_alloc | apply pw_below_drewN | apply below_drew1) | exact HB.out))); rintro e w34 ⟨rfl, hb⟩; have n0_ := Aside0.mk (below_step (by repeat (first | (with_reducible first | exact HB.out | apply below_alloc | apply pw_below_drewN | apply below_drew1) | exact HB.out)) hb); clear HB; have HB := n0_; clear n0_; (try clear hb); (try clear hb2); (try clear hk); (try clear hi)) | (go_at_call 16; (with_reducible refine (hex_Load.calls kj4 (t166 ++ t163) t170 _ A24.out).mono ?_); rintro e w35 ⟨rfl, hb⟩; have n0_ := Aside0.mk (below_step (by repeat (first | (with_reducible first | exact HB.out | apply below_alloc | apply pw_below_drewN | apply below_drew1) | exact HB.out)) hb); clear HB; have HB := n0_; clear n0_; (try clear hb); (try clear hb2); (try clear hk); (try clear hi)))
                        go_ret
                        exact ⟨by first | rfl | (simp [errW_none, errW_some] <;> rfl) | (simp [*, errW_none, errW_some] <;> rfl), by repeat (first | (with_reducible first | exact HB.out | apply below_alloc | apply pw_below_drewN | apply below_drew1) | exact HB.out)⟩
                      · rw [if_neg c25] at H
                        exact absurd H (by simp)
                    · rw [if_neg c23] at H
                      exact absurd H (by simp)
                  · rw [if_neg c20] at H
                    have c20b0 : (t167.toList == (a0 ++ a1).toList) = false := beq_eq_false_iff_ne.mpr c20
                    have c20b1 : (t167.toList != (a0 ++ a1).toList) = true := bne_iff_ne.mpr c20
                    obtain rfl := Option.some.inj H
                    go_wp2_with (first | ((with_reducible refine gate_callee (f := 11) rfl ?_); refine goesL_ (some 16) rfl rfl Tryd.func11 (by kernel_rfl) rfl #[.string a0] rfl (by (try simp only [List.map_toArray, List.map_cons, List.map_nil]); first | done | rfl | (simp only [List.length_drop, List.length_take]; rfl)) ?_; (with_reducible refine (Ext.hex_Text.calls kj4 a0 t161 _ A9.out).mono ?_); rintro e w36 ⟨rfl, hb⟩; refine ⟨_, rfl, ?_⟩; have n0_ := Aside0.mk (below_step (by repeat (first | (with_reducible first | exact HB.out | apply below_alloc | apply pw_below_drewN | apply below_drew1) | exact HB.out)) hb); clear HB; have HB := n0_; clear n0_; (try clear hb); (try clear hb2); (try clear hk); (try clear hi)) | ((with_reducible refine gate_callee (f := 16) rfl ?_); refine goesL_ (some 17) rfl rfl Tryd.func16 (by kernel_rfl) rfl #[.string t161] rfl (by (try simp only [List.map_toArray, List.map_cons, List.map_nil]); first | done | rfl | (simp only [List.length_drop, List.length_take]; rfl)) ?_; (with_reducible refine (hex_Load.calls kj4 t161 t162 _ A10.out).mono ?_); rintro e w37 ⟨rfl, hb⟩; refine ⟨_, rfl, ?_⟩; have n0_ := Aside0.mk (below_step (by repeat (first | (with_reducible first | exact HB.out | apply below_alloc | apply pw_below_drewN | apply below_drew1) | exact HB.out)) hb); clear HB; have HB := n0_; clear n0_; (try clear hb); (try clear hb2); (try clear hk); (try clear hi)) | (go_at_call 18; (with_reducible refine (Ext.hex_Dump.calls kj4 a0 t163 _ ?side1 A12.out).mono ?_); (case side1 => exact Go.Proofs.YtllnaagddpfclaaDoor.Ext.TAB.below HT.out (by repeat (first | (with_reducible first | exact HB.out | apply below_alloc | apply pw_below_drewN | apply below_drew1) | exact HB.out))); rintro e w38 ⟨rfl, hb⟩; have n0_ := Aside0.mk (below_step (by repeat (first | (with_reducible first | exact HB.out | apply below_alloc | apply pw_below_drewN | apply below_drew1) | exact HB.out)) hb); clear HB; have HB := n0_; clear n0_; (try clear hb); (try clear hb2); (try clear hk); (try clear hi)) | (go_at_call 16; (with_reducible refine (hex_Load.calls kj4 t163 t164 _ A13.out).mono ?_); rintro e w39 ⟨rfl, hb⟩; have n0_ := Aside0.mk (below_step (by repeat (first | (with_reducible first | exact HB.out | apply below_alloc | apply pw_below_drewN | apply below_drew1) | exact HB.out)) hb); clear HB; have HB := n0_; clear n0_; (try clear hb); (try clear hb2); (try clear hk); (try clear hi)) | (go_at_call 18; (with_reducible refine (Ext.hex_Dump.calls kj4 a0 t163 _ ?side1 A15.out).mono ?_); (case side1 => exact Go.Proofs.YtllnaagddpfclaaDoor.Ext.TAB.below HT.out (by repeat (first | (with_reducible first | exact HB.out | apply below_alloc | apply pw_below_drewN | apply below_drew1) | exact HB.out))); rintro e w40 ⟨rfl, hb⟩; have n0_ := Aside0.mk (below_step (by repeat (first | (with_reducible first | exact HB.out | apply below_alloc | apply pw_below_drewN | apply below_drew1) | exact HB.out)) hb); clear HB; have HB := n0_; clear n0_; (try clear hb); (try clear hb2); (try clear hk); (try clear hi)) | (go_at_call 11; (with_reducible refine (Ext.hex_Text.calls kj4 a1 t166 _ A16.out).mono ?_); rintro e w41 ⟨rfl, hb⟩; have n0_ := Aside0.mk (below_step (by repeat (first | (with_reducible first | exact HB.out | apply below_alloc | apply pw_below_drewN | apply below_drew1) | exact HB.out)) hb); clear HB; have HB := n0_; clear n0_; (try clear hb); (try clear hb2); (try clear hk); (try clear hi)) | (go_at_call 16; (with_reducible refine (hex_Load.calls kj4 (t163 ++ t166) t167 _ A18.out).mono ?_); rintro e w42 ⟨rfl, hb⟩; have n0_ := Aside0.mk (below_step (by repeat (first | (with_reducible first | exact HB.out | apply below_alloc | apply pw_below_drewN | apply below_drew1) | exact HB.out)) hb); clear HB; have HB := n0_; clear n0_; (try clear hb); (try clear hb2); (try clear hk); (try clear hi)))
                    go_ret
                    exact ⟨by first | rfl | (simp [errW_none, errW_some] <;> rfl) | (simp [*, errW_none, errW_some] <;> rfl), by repeat (first | (with_reducible first | exact HB.out | apply below_alloc | apply pw_below_drewN | apply below_drew1) | exact HB.out)⟩
                · rw [if_neg c19] at H
                  exact absurd H (by simp)
              · rw [if_neg c17] at H
                exact absurd H (by simp)
            · rw [if_neg c14] at H
              have c14b0 : (t164.toList == a0.toList) = false := beq_eq_false_iff_ne.mpr c14
              have c14b1 : (t164.toList != a0.toList) = true := bne_iff_ne.mpr c14
              obtain rfl := Option.some.inj H
              go_wp2_with (first | ((with_reducible refine gate_callee (f := 11) rfl ?_); refine goesL_ (some 16) rfl rfl Tryd.func11 (by kernel_rfl) rfl #[.string a0] rfl (by (try simp only [List.map_toArray, List.map_cons, List.map_nil]); first | done | rfl | (simp only [List.length_drop, List.length_take]; rfl)) ?_; (with_reducible refine (Ext.hex_Text.calls kj4 a0 t161 _ A9.out).mono ?_); rintro e w43 ⟨rfl, hb⟩; refine ⟨_, rfl, ?_⟩; have n0_ := Aside0.mk (below_step (by repeat (first | (with_reducible first | exact HB.out | apply below_alloc | apply pw_below_drewN | apply below_drew1) | exact HB.out)) hb); clear HB; have HB := n0_; clear n0_; (try clear hb); (try clear hb2); (try clear hk); (try clear hi)) | ((with_reducible refine gate_callee (f := 16) rfl ?_); refine goesL_ (some 17) rfl rfl Tryd.func16 (by kernel_rfl) rfl #[.string t161] rfl (by (try simp only [List.map_toArray, List.map_cons, List.map_nil]); first | done | rfl | (simp only [List.length_drop, List.length_take]; rfl)) ?_; (with_reducible refine (hex_Load.calls kj4 t161 t162 _ A10.out).mono ?_); rintro e w44 ⟨rfl, hb⟩; refine ⟨_, rfl, ?_⟩; have n0_ := Aside0.mk (below_step (by repeat (first | (with_reducible first | exact HB.out | apply below_alloc | apply pw_below_drewN | apply below_drew1) | exact HB.out)) hb); clear HB; have HB := n0_; clear n0_; (try clear hb); (try clear hb2); (try clear hk); (try clear hi)) | (go_at_call 18; (with_reducible refine (Ext.hex_Dump.calls kj4 a0 t163 _ ?side1 A12.out).mono ?_); (case side1 => exact Go.Proofs.YtllnaagddpfclaaDoor.Ext.TAB.below HT.out (by repeat (first | (with_reducible first | exact HB.out | apply below_alloc | apply pw_below_drewN | apply below_drew1) | exact HB.out))); rintro e w45 ⟨rfl, hb⟩; have n0_ := Aside0.mk (below_step (by repeat (first | (with_reducible first | exact HB.out | apply below_alloc | apply pw_below_drewN | apply below_drew1) | exact HB.out)) hb); clear HB; have HB := n0_; clear n0_; (try clear hb); (try clear hb2); (try clear hk); (try clear hi)) | (go_at_call 16; (with_reducible refine (hex_Load.calls kj4 t163 t164 _ A13.out).mono ?_); rintro e w46 ⟨rfl, hb⟩; have n0_ := Aside0.mk (below_step (by repeat (first | (with_reducible first | exact HB.out | apply below_alloc | apply pw_below_drewN | apply below_drew1) | exact HB.out)) hb); clear HB; have HB := n0_; clear n0_; (try clear hb); (try clear hb2); (try clear hk); (try clear hi)))
              go_ret
              exact ⟨by first | rfl | (simp [errW_none, errW_some] <;> rfl) | (simp [*, errW_none, errW_some] <;> rfl), by repeat (first | (with_reducible first | exact HB.out | apply below_alloc | apply pw_below_drewN | apply below_drew1) | exact HB.out)⟩
          · rw [if_neg c11] at H
            have c11b0 : (t162.toList == a0.toList) = false := beq_eq_false_iff_ne.mpr c11
            have c11b1 : (t162.toList != a0.toList) = true := bne_iff_ne.mpr c11
            obtain rfl := Option.some.inj H
            go_wp2_with (first | ((with_reducible refine gate_callee (f := 11) rfl ?_); refine goesL_ (some 16) rfl rfl Tryd.func11 (by kernel_rfl) rfl #[.string a0] rfl (by (try simp only [List.map_toArray, List.map_cons, List.map_nil]); first | done | rfl | (simp only [List.length_drop, List.length_take]; rfl)) ?_; (with_reducible refine (Ext.hex_Text.calls kj4 a0 t161 _ A9.out).mono ?_); rintro e w47 ⟨rfl, hb⟩; refine ⟨_, rfl, ?_⟩; have n0_ := Aside0.mk (below_step (by repeat (first | (with_reducible first | exact HB.out | apply below_alloc | apply pw_below_drewN | apply below_drew1) | exact HB.out)) hb); clear HB; have HB := n0_; clear n0_; (try clear hb); (try clear hb2); (try clear hk); (try clear hi)) | ((with_reducible refine gate_callee (f := 16) rfl ?_); refine goesL_ (some 17) rfl rfl Tryd.func16 (by kernel_rfl) rfl #[.string t161] rfl (by (try simp only [List.map_toArray, List.map_cons, List.map_nil]); first | done | rfl | (simp only [List.length_drop, List.length_take]; rfl)) ?_; (with_reducible refine (hex_Load.calls kj4 t161 t162 _ A10.out).mono ?_); rintro e w48 ⟨rfl, hb⟩; refine ⟨_, rfl, ?_⟩; have n0_ := Aside0.mk (below_step (by repeat (first | (with_reducible first | exact HB.out | apply below_alloc | apply pw_below_drewN | apply below_drew1) | exact HB.out)) hb); clear HB; have HB := n0_; clear n0_; (try clear hb); (try clear hb2); (try clear hk); (try clear hi)))
            go_ret
            exact ⟨by first | rfl | (simp [errW_none, errW_some] <;> rfl) | (simp [*, errW_none, errW_some] <;> rfl), by repeat (first | (with_reducible first | exact HB.out | apply below_alloc | apply pw_below_drewN | apply below_drew1) | exact HB.out)⟩
  · replace c4 := Bool.eq_false_iff.mpr c4
    subst c4
    have H1 : (some false) = some r := by rw [if_neg (show ¬ (false = true) by decide)] at H; exact H
    clear H
    have H := H1
    clear H1
    obtain rfl := Option.some.inj H
    go_enter Tryd.func7, Tryd.ntmps7
    go_wp2_with (first | ((with_reducible refine gate_callee (f := 10) rfl ?_); refine goesL_ (some 5) rfl rfl Tryd.func10 (by kernel_rfl) rfl #[] rfl (by (try simp only [List.map_toArray, List.map_cons, List.map_nil]); first | done | rfl | (simp only [List.length_drop, List.length_take]; rfl)) ?_; (with_reducible refine (seedcornlaw02_awake.calls k  false _ ?side1 A3.out).mono ?_); (case side1 => exact Go.Proofs.YtllnaagddpfclaaDoor.Ext.TAB.below HT.out (by repeat (first | (with_reducible first | exact HB.out | apply below_alloc | apply pw_below_drewN | apply below_drew1) | exact HB.out))); rintro e w49 ⟨rfl, hb⟩; refine ⟨_, rfl, ?_⟩; have n0_ := Aside0.mk (below_step (by repeat (first | (with_reducible first | exact HB.out | apply below_alloc | apply pw_below_drewN | apply below_drew1) | exact HB.out)) hb); clear HB; have HB := n0_; clear n0_; (try clear hb); (try clear hb2); (try clear hk); (try clear hi)))
    go_ret
    exact ⟨by first | rfl | (simp [errW_none, errW_some] <;> rfl) | (simp [*, errW_none, errW_some] <;> rfl), by repeat (first | (with_reducible first | exact HB.out | apply below_alloc | apply pw_below_drewN | apply below_drew1) | exact HB.out)⟩

/-- THE ONE PURE STATEMENT of seedcornlaw02_HexBack: yours. -/
def seedcornlaw02_HexBack.Pure : Prop := ∀ (a0 : ByteArray) (a1 : ByteArray), a0.size ≤ 140737488351232 → a1.size ≤ 140737488351232 → ∃ k, seedcornlaw02_HexBack.f k a0 a1 = some true
theorem seedcornlaw02_HexBack.walk (P : seedcornlaw02_HexBack.Pure) (a0 : ByteArray) (a1 : ByteArray) (w : World) (hT : Go.Proofs.YtllnaagddpfclaaDoor.Ext.TAB w) (w0 : a0.size ≤ 140737488351232) (w1 : a1.size ≤ 140737488351232) :
    Calls Tryd.prog 7 #[.string a0, .string a1] w fun e w' => e = .returned (.bool true) ∧ Below w.heap.size w w' := by
  obtain ⟨k, h⟩ := P a0 a1 w0 w1
  refine (seedcornlaw02_HexBack.calls k a0 a1 true w hT h).mono ?_
  rintro e w' ⟨rfl, hd⟩
  exact ⟨rfl, hd⟩

end Go.Proofs.YtllnaagddpfclaaDoor.Q
