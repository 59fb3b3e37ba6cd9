-- Written by a program of this session (wip/tools/xprint.py) over the kit's print.
import Derived.Test.YtllnaagddpfclaaDoorQx0
import Derived.Test.YtllnaagddpfclaaDoorQx3
import Derived.Test.YtllnaagddpfclaaDoorQx4
import Derived.Test.YtllnaagddpfclaaDoorQx15
namespace Go.Proofs.YtllnaagddpfclaaDoor.Q
open Go.RowKit Go.Proofs.YtllnaagddpfclaaDoorW.PrintWords Go.Proofs.YtllnaagddpfclaaDoorW.PrintLast Go.Proofs.YtllnaagddpfclaaDoorW.PrintMore
attribute [local go_sem] max2_int min2_int max_two min_two max_three min_three max_four min_four   -- for this text's walks alone
set_option linter.unusedVariables false
set_option linter.unusedSimpArgs false

/-! ### seedcornlaw02_HexNotes: function 8 -/
def seedcornlaw02_HexNotes.j0 : Nat → ByteArray → ByteArray → ByteArray → Bool → Option (Bool)
  | 0, _, _, _, _ => none
  | k + 1, x0, x1, x2, x29 => if x29 = true then (some true) else (if x0.size + 1 ≤ 9223372036854775807 then (if (x0 ++ (⟨#[35]⟩ : ByteArray)).size + x2.size ≤ 9223372036854775807 then (if ((x0 ++ (⟨#[35]⟩ : ByteArray)) ++ x2).size + 1 ≤ 9223372036854775807 then (if (((x0 ++ (⟨#[35]⟩ : ByteArray)) ++ x2) ++ (⟨#[10]⟩ : ByteArray)).size + x1.size ≤ 9223372036854775807 then ((hex_Load.f k ((((x0 ++ (⟨#[35]⟩ : ByteArray)) ++ x2) ++ (⟨#[10]⟩ : ByteArray)) ++ x1)).bind fun t174 => (if x0.size + x1.size ≤ 9223372036854775807 then ((hex_Load.f k (x0 ++ x1)).bind fun t175 => (if t174.toList = t175.toList then (if (x0 ++ (⟨#[10]⟩ : ByteArray)).size + x1.size ≤ 9223372036854775807 then ((hex_Load.f k ((x0 ++ (⟨#[10]⟩ : ByteArray)) ++ x1)).bind fun t176 => ((hex_Load.f k (x0 ++ x1)).bind fun t177 => (if t176.toList = t175.toList then (if x0.size + 4 ≤ 9223372036854775807 then (if (x0 ++ (⟨#[122, 71, 45, 0]⟩ : ByteArray)).size + x1.size ≤ 9223372036854775807 then ((hex_Load.f k ((x0 ++ (⟨#[122, 71, 45, 0]⟩ : ByteArray)) ++ x1)).bind fun t178 => ((hex_Load.f k (x0 ++ x1)).bind fun t179 => (some (t178.toList == t175.toList)))) else (none)) else (none)) else (some false)))) else (none)) else (some false))) else (none))) else (none)) else (none)) else (none)) else (none))
def seedcornlaw02_HexNotes.f (k : Nat) (a0 : ByteArray) (a1 : ByteArray) (a2 : ByteArray) : Option (Bool) := (seedcornlaw02_awake.f k).bind fun t171 => (if t171 = true then (if (a0.size : Int) > 1000 then (seedcornlaw02_HexNotes.j0 k a0 a1 a2 true) else (if (a1.size : Int) > 1000 then (seedcornlaw02_HexNotes.j0 k a0 a1 a2 true) else (if (a2.size : Int) > 1000 then (seedcornlaw02_HexNotes.j0 k a0 a1 a2 true) else ((seedcornlaw02_has.f k a0 35).bind fun t172 => (if t172 = true then (seedcornlaw02_HexNotes.j0 k a0 a1 a2 true) else ((seedcornlaw02_has.f k a2 10).bind fun t173 => (seedcornlaw02_HexNotes.j0 k a0 a1 a2 t173))))))) else (some false))
theorem seedcornlaw02_HexNotes.mono_l : ∀ k, (∀ y0 y1 y2 y3, LeO (seedcornlaw02_HexNotes.j0 k y0 y1 y2 y3) (seedcornlaw02_HexNotes.j0 (k + 1) y0 y1 y2 y3))
  | 0 => fun _ _ _ _ r h => by simp [seedcornlaw02_HexNotes.j0] at h
  | k + 1 => by
    have ih0 := seedcornlaw02_HexNotes.mono_l k
    · intro y0 y1 y2 y3
      unfold seedcornlaw02_HexNotes.j0
      repeat' first
      | (with_reducible exact ih0 _ _ _ _)
      | (with_reducible exact hex_Load.mono _ _)
      | (with_reducible exact seedcornlaw02_awake.mono _)
      | (with_reducible exact seedcornlaw02_has.mono _ _ _)
      | (with_reducible exact LeO.refl _)
      | (with_reducible exact LeO.none _)
      | (with_reducible refine LeO.ite ?_ ?_)
      | (with_reducible refine LeO.bind ?_ (fun _ => ?_))
      | exact ih0 _ _ _ _
      | exact hex_Load.mono _ _
      | exact seedcornlaw02_awake.mono _
      | exact seedcornlaw02_has.mono _ _ _
      | exact LeO.none _
      | refine LeO.ite ?_ ?_
      | refine LeO.bind ?_ (fun _ => ?_)
theorem seedcornlaw02_HexNotes.mono : ∀ a0 a1 a2 k, LeO (seedcornlaw02_HexNotes.f k a0 a1 a2) (seedcornlaw02_HexNotes.f (k + 1) a0 a1 a2) := by
  intro a0 a1 a2 k
  have ih0 := seedcornlaw02_HexNotes.mono_l k
  unfold seedcornlaw02_HexNotes.f
  repeat' first
      | (with_reducible exact ih0 _ _ _ _)
      | (with_reducible exact hex_Load.mono _ _)
      | (with_reducible exact seedcornlaw02_awake.mono _)
      | (with_reducible exact seedcornlaw02_has.mono _ _ _)
      | (with_reducible exact LeO.refl _)
      | (with_reducible exact LeO.none _)
      | (with_reducible refine LeO.ite ?_ ?_)
      | (with_reducible refine LeO.bind ?_ (fun _ => ?_))
      | exact ih0 _ _ _ _
      | exact hex_Load.mono _ _
      | exact seedcornlaw02_awake.mono _
      | exact seedcornlaw02_has.mono _ _ _
      | exact LeO.none _
      | refine LeO.ite ?_ ?_
      | refine LeO.bind ?_ (fun _ => ?_)
set_option maxHeartbeats 8000000 in
set_option maxRecDepth 100000 in
theorem seedcornlaw02_HexNotes.calls (k : Nat) (a0 : ByteArray) (a1 : ByteArray) (a2 : ByteArray) (r : Bool) (w : World) (hT : Go.Proofs.YtllnaagddpfclaaDoor.Ext.TAB w) (h : seedcornlaw02_HexNotes.f k a0 a1 a2 = some r) :
    Calls Tryd.prog 8 #[.string a0, .string a1, .string a2] w fun e w' => e = .returned (.bool r) ∧ Below w.heap.size w w' := by
  have HT := Aside0.mk hT
  clear hT
  have HB := Aside0.mk (Below.refl w.heap.size w)
  have H : ((seedcornlaw02_awake.f k).bind fun t171 => (if t171 = true then (if (a0.size : Int) > 1000 then (seedcornlaw02_HexNotes.j0 k a0 a1 a2 true) else (if (a1.size : Int) > 1000 then (seedcornlaw02_HexNotes.j0 k a0 a1 a2 true) else (if (a2.size : Int) > 1000 then (seedcornlaw02_HexNotes.j0 k a0 a1 a2 true) else ((seedcornlaw02_has.f k a0 35).bind fun t172 => (if t172 = true then (seedcornlaw02_HexNotes.j0 k a0 a1 a2 true) else ((seedcornlaw02_has.f k a2 10).bind fun t173 => (seedcornlaw02_HexNotes.j0 k a0 a1 a2 t173))))))) else (some false))) = some r := h
  clear h
  replace H := Option.bind_eq_some_iff.mp H
  obtain ⟨t171, A40, H⟩ := H
  replace H : (if t171 = true then (if (a0.size : Int) > 1000 then (seedcornlaw02_HexNotes.j0 k a0 a1 a2 true) else (if (a1.size : Int) > 1000 then (seedcornlaw02_HexNotes.j0 k a0 a1 a2 true) else (if (a2.size : Int) > 1000 then (seedcornlaw02_HexNotes.j0 k a0 a1 a2 true) else ((seedcornlaw02_has.f k a0 35).bind fun t172 => (if t172 = true then (seedcornlaw02_HexNotes.j0 k a0 a1 a2 true) else ((seedcornlaw02_has.f k a2 10).bind fun t173 => (seedcornlaw02_HexNotes.j0 k a0 a1 a2 t173))))))) else (some false)) = some r := H
  have A4 := Aside0.mk A40
  clear A40
  by_cases c5 : t171 = true
  · subst c5
    have H1 : (if (a0.size : Int) > 1000 then (seedcornlaw02_HexNotes.j0 k a0 a1 a2 true) else (if (a1.size : Int) > 1000 then (seedcornlaw02_HexNotes.j0 k a0 a1 a2 true) else (if (a2.size : Int) > 1000 then (seedcornlaw02_HexNotes.j0 k a0 a1 a2 true) else ((seedcornlaw02_has.f k a0 35).bind fun t172 => (if t172 = true then (seedcornlaw02_HexNotes.j0 k a0 a1 a2 true) else ((seedcornlaw02_has.f k a2 10).bind fun t173 => (seedcornlaw02_HexNotes.j0 k a0 a1 a2 t173))))))) = some r := by rw [if_pos rfl] at H; exact H
    clear H
    have H := H1
    clear H1
    have HC6 := Aside0.mk H
    clear H
    go_enter Tryd.func8, Tryd.ntmps8
    go_upto_region 3 with (first | ((with_reducible refine gate_callee (f := 10) rfl ?_); refine goesL_ (some 7) rfl rfl Tryd.func10 (by kernel_rfl) rfl #[] rfl (by (try simp only [List.map_toArray, List.map_cons, List.map_nil]); first | done | rfl | (simp only [List.length_drop, List.length_take]; rfl)) ?_; (with_reducible refine (seedcornlaw02_awake.calls k  true _ ?side1 A4.out).mono ?_); (case side1 => exact Go.Proofs.YtllnaagddpfclaaDoor.Ext.TAB.below HT.out (by repeat (first | (with_reducible first | exact HB.out | apply below_alloc | apply pw_below_drewN | apply below_drew1) | exact HB.out))); rintro e w7 ⟨rfl, hb⟩; refine ⟨_, rfl, ?_⟩; have n0_ := Aside0.mk (below_step (by repeat (first | (with_reducible first | exact HB.out | apply below_alloc | apply pw_below_drewN | apply below_drew1) | exact HB.out)) hb); clear HB; have HB := n0_; clear n0_; (try clear hb); (try clear hb2); (try clear hk); (try clear hi)))
    (try simp only [Act.put, List.setIfInBounds_toArray, List.set_cons_zero, List.set_cons_succ])
    go_cut [29] (fun v29 wc => ∃ (kq : Nat) (x29_5 : Bool), v29 = .bool x29_5 ∧ Aside0 (seedcornlaw02_HexNotes.j0 kq a0 a1 a2 x29_5 = some r) ∧ Aside0 (kq ≤ k) ∧ Aside0 (Below w.heap.size w wc))
    case first =>
      have H := HC6.out
      clear HC6
      by_cases c8 : (a0.size : Int) > 1000
      · rw [if_pos c8] at H
        have c8b0 : decide (1000 < (a0.size : Int)) = true := decide_eq_true c8
        have c8b1 : decide (1000 < a0.size) = true := decide_eq_true (by omega)
        clear c8
        (first | rw [c8b0] | (simp only [i64_w, i32_w]; rw [c8b0]) | skip)
        have H' := Aside0.mk H
        clear H
        go_wp2
        go_meet
        case rel => exact ⟨_, (true), (by first | rfl | (simp; done) | (simp [*]; done)), H', ⟨by first | omega | exact Nat.le_refl _⟩, ⟨by repeat (first | (with_reducible first | exact HB.out | apply below_alloc | apply pw_below_drewN | apply below_drew1) | exact HB.out)⟩⟩
      · rw [if_neg c8] at H
        have c8b0 : decide (1000 < (a0.size : Int)) = false := decide_eq_false c8
        have c8b1 : decide (1000 < a0.size) = false := decide_eq_false (by omega)
        clear c8
        (first | rw [c8b0] | (simp only [i64_w, i32_w]; rw [c8b0]) | skip)
        by_cases c9 : (a1.size : Int) > 1000
        · rw [if_pos c9] at H
          have c9b0 : decide (1000 < (a1.size : Int)) = true := decide_eq_true c9
          have c9b1 : decide (1000 < a1.size) = true := decide_eq_true (by omega)
          clear c9
          have H' := Aside0.mk H
          clear H
          go_wp2
          go_meet
          case rel => exact ⟨_, (true), (by first | rfl | (simp; done) | (simp [*]; done)), H', ⟨by first | omega | exact Nat.le_refl _⟩, ⟨by repeat (first | (with_reducible first | exact HB.out | apply below_alloc | apply pw_below_drewN | apply below_drew1) | exact HB.out)⟩⟩
        · rw [if_neg c9] at H
          have c9b0 : decide (1000 < (a1.size : Int)) = false := decide_eq_false c9
          have c9b1 : decide (1000 < a1.size) = false := decide_eq_false (by omega)
          clear c9
          by_cases c10 : (a2.size : Int) > 1000
          · rw [if_pos c10] at H
            have c10b0 : decide (1000 < (a2.size : Int)) = true := decide_eq_true c10
            have c10b1 : decide (1000 < a2.size) = true := decide_eq_true (by omega)
            clear c10
            have H' := Aside0.mk H
            clear H
            go_wp2
            go_meet
            case rel => exact ⟨_, (true), (by first | rfl | (simp; done) | (simp [*]; done)), H', ⟨by first | omega | exact Nat.le_refl _⟩, ⟨by repeat (first | (with_reducible first | exact HB.out | apply below_alloc | apply pw_below_drewN | apply below_drew1) | exact HB.out)⟩⟩
          · rw [if_neg c10] at H
            have c10b0 : decide (1000 < (a2.size : Int)) = false := decide_eq_false c10
            have c10b1 : decide (1000 < a2.size) = false := decide_eq_false (by omega)
            clear c10
            replace H := Option.bind_eq_some_iff.mp H
            obtain ⟨t172, A110, H⟩ := H
            replace H : (if t172 = true then (seedcornlaw02_HexNotes.j0 k a0 a1 a2 true) else ((seedcornlaw02_has.f k a2 10).bind fun t173 => (seedcornlaw02_HexNotes.j0 k a0 a1 a2 t173))) = some r := H
            have A11 := Aside0.mk A110
            clear A110
            by_cases c12 : t172 = true
            · subst c12
              have H1 : (seedcornlaw02_HexNotes.j0 k a0 a1 a2 true) = some r := by rw [if_pos rfl] at H; exact H
              clear H
              have H := H1
              clear H1
              have H' := Aside0.mk H
              clear H
              go_wp2_with (first | (go_at_call 20; (with_reducible refine (seedcornlaw02_has.calls k a0 35 true _ A11.out).mono ?_); rintro e w' ⟨rfl, ⟨nd, rfl⟩⟩))
              go_meet
              case rel => exact ⟨_, (true), (by first | rfl | (simp; done) | (simp [*]; done)), H', ⟨by first | omega | exact Nat.le_refl _⟩, ⟨by repeat (first | (with_reducible first | exact HB.out | apply below_alloc | apply pw_below_drewN | apply below_drew1) | exact HB.out)⟩⟩
            · replace c12 := Bool.eq_false_iff.mpr c12
              subst c12
              have H1 : ((seedcornlaw02_has.f k a2 10).bind fun t173 => (seedcornlaw02_HexNotes.j0 k a0 a1 a2 t173)) = some r := by rw [if_neg (show ¬ (false = true) by decide)] at H; exact H
              clear H
              have H := H1
              clear H1
              replace H := Option.bind_eq_some_iff.mp H
              obtain ⟨t173, A130, H⟩ := H
              replace H : (seedcornlaw02_HexNotes.j0 k a0 a1 a2 t173) = some r := H
              have A13 := Aside0.mk A130
              clear A130
              have H' := Aside0.mk H
              clear H
              go_wp2_with (first | (go_at_call 20; (with_reducible refine (seedcornlaw02_has.calls k a0 35 false _ A11.out).mono ?_); rintro e w' ⟨rfl, ⟨nd, rfl⟩⟩) | (go_at_call 20; (with_reducible refine (seedcornlaw02_has.calls k a2 10 t173 _ A13.out).mono ?_); rintro e w' ⟨rfl, ⟨nd, rfl⟩⟩))
              go_meet
              case rel => exact ⟨_, (t173), (by first | rfl | (simp; done) | (simp [*]; done)), H', ⟨by first | omega | exact Nat.le_refl _⟩, ⟨by repeat (first | (with_reducible first | exact HB.out | apply below_alloc | apply pw_below_drewN | apply below_drew1) | exact HB.out)⟩⟩
    case rest =>
      clear HC6
      try clear c1
      try clear p2
      try clear c5
      try clear c8
      try clear c8b0
      try clear c8b1
      try clear c9
      try clear c9b0
      try clear c9b1
      try clear c10
      try clear c10b0
      try clear c10b1
      try clear c12
      obtain ⟨kq, x29_5, rfl, HA, HJ5, HB⟩ := hcut
      cases kq with
      | zero => exact absurd HA.out (by simp [seedcornlaw02_HexNotes.j0])
      | succ kj5 =>
        have H := HA.out
        clear HA
        simp only [seedcornlaw02_HexNotes.j0] at H
        by_cases c14 : x29_5 = true
        · subst c14
          have H1 : (some true) = some r := by rw [if_pos rfl] at H; exact H
          clear H
          have H := H1
          clear H1
          obtain rfl := Option.some.inj H
          go_wp2
          go_ret
          exact ⟨by first | rfl | (simp [errW_none, errW_some] <;> rfl) | (simp [*, errW_none, errW_some] <;> rfl), by repeat (first | (with_reducible first | exact HB.out | apply below_alloc | apply pw_below_drewN | apply below_drew1) | exact HB.out)⟩
        · replace c14 := Bool.eq_false_iff.mpr c14
          subst c14
          have H1 : (if a0.size + 1 ≤ 9223372036854775807 then (if (a0 ++ (⟨#[35]⟩ : ByteArray)).size + a2.size ≤ 9223372036854775807 then (if ((a0 ++ (⟨#[35]⟩ : ByteArray)) ++ a2).size + 1 ≤ 9223372036854775807 then (if (((a0 ++ (⟨#[35]⟩ : ByteArray)) ++ a2) ++ (⟨#[10]⟩ : ByteArray)).size + a1.size ≤ 9223372036854775807 then ((hex_Load.f kj5 ((((a0 ++ (⟨#[35]⟩ : ByteArray)) ++ a2) ++ (⟨#[10]⟩ : ByteArray)) ++ a1)).bind fun t174 => (if a0.size + a1.size ≤ 9223372036854775807 then ((hex_Load.f kj5 (a0 ++ a1)).bind fun t175 => (if t174.toList = t175.toList then (if (a0 ++ (⟨#[10]⟩ : ByteArray)).size + a1.size ≤ 9223372036854775807 then ((hex_Load.f kj5 ((a0 ++ (⟨#[10]⟩ : ByteArray)) ++ a1)).bind fun t176 => ((hex_Load.f kj5 (a0 ++ a1)).bind fun t177 => (if t176.toList = t175.toList then (if a0.size + 4 ≤ 9223372036854775807 then (if (a0 ++ (⟨#[122, 71, 45, 0]⟩ : ByteArray)).size + a1.size ≤ 9223372036854775807 then ((hex_Load.f kj5 ((a0 ++ (⟨#[122, 71, 45, 0]⟩ : ByteArray)) ++ a1)).bind fun t178 => ((hex_Load.f kj5 (a0 ++ a1)).bind fun t179 => (some (t178.toList == t175.toList)))) else (none)) else (none)) else (some false)))) else (none)) else (some false))) else (none))) else (none)) else (none)) else (none)) else (none)) = some r := by rw [if_neg (show ¬ (false = true) by decide)] at H; exact H
          clear H
          have H := H1
          clear H1
          by_cases c15 : a0.size + 1 ≤ 9223372036854775807
          · rw [if_pos c15] at H
            have c15b0 := eq_true c15
            have c15b1 : decide (a0.size + 1 ≤ 9223372036854775807) = true := decide_eq_true c15
            try have c15b2 : (9223372036854775807 < a0.size + 1) = False := eq_false (Nat.not_lt.2 c15)
            by_cases c16 : (a0 ++ (⟨#[35]⟩ : ByteArray)).size + a2.size ≤ 9223372036854775807
            · rw [if_pos c16] at H
              have c16b0 := eq_true c16
              have c16b1 : decide ((a0 ++ (⟨#[35]⟩ : ByteArray)).size + a2.size ≤ 9223372036854775807) = true := decide_eq_true c16
              try have c16b2 : (9223372036854775807 < (a0 ++ (⟨#[35]⟩ : ByteArray)).size + a2.size) = False := eq_false (Nat.not_lt.2 c16)
              (try simp only [ByteArray.size_append, show (⟨#[35]⟩ : ByteArray).size = 1 from rfl] at c16b2)
              by_cases c17 : ((a0 ++ (⟨#[35]⟩ : ByteArray)) ++ a2).size + 1 ≤ 9223372036854775807
              · rw [if_pos c17] at H
                have c17b0 := eq_true c17
                have c17b1 : decide (((a0 ++ (⟨#[35]⟩ : ByteArray)) ++ a2).size + 1 ≤ 9223372036854775807) = true := decide_eq_true c17
                try have c17b2 : (9223372036854775807 < ((a0 ++ (⟨#[35]⟩ : ByteArray)) ++ a2).size + 1) = False := eq_false (Nat.not_lt.2 c17)
                (try simp only [ByteArray.size_append, show (⟨#[35]⟩ : ByteArray).size = 1 from rfl] at c17b2)
                by_cases c18 : (((a0 ++ (⟨#[35]⟩ : ByteArray)) ++ a2) ++ (⟨#[10]⟩ : ByteArray)).size + a1.size ≤ 9223372036854775807
                · rw [if_pos c18] at H
                  have c18b0 := eq_true c18
                  have c18b1 : decide ((((a0 ++ (⟨#[35]⟩ : ByteArray)) ++ a2) ++ (⟨#[10]⟩ : ByteArray)).size + a1.size ≤ 9223372036854775807) = true := decide_eq_true c18
                  try have c18b2 : (9223372036854775807 < (((a0 ++ (⟨#[35]⟩ : ByteArray)) ++ a2) ++ (⟨#[10]⟩ : ByteArray)).size + a1.size) = False := eq_false (Nat.not_lt.2 c18)
                  (try simp only [ByteArray.size_append, show (⟨#[35]⟩ : ByteArray).size = 1 from rfl, show (⟨#[10]⟩ : ByteArray).size = 1 from rfl] at c18b2)
                  replace H := Option.bind_eq_some_iff.mp H
                  obtain ⟨t174, A190, H⟩ := H
                  replace H : (if a0.size + a1.size ≤ 9223372036854775807 then ((hex_Load.f kj5 (a0 ++ a1)).bind fun t175 => (if t174.toList = t175.toList then (if (a0 ++ (⟨#[10]⟩ : ByteArray)).size + a1.size ≤ 9223372036854775807 then ((hex_Load.f kj5 ((a0 ++ (⟨#[10]⟩ : ByteArray)) ++ a1)).bind fun t176 => ((hex_Load.f kj5 (a0 ++ a1)).bind fun t177 => (if t176.toList = t175.toList then (if a0.size + 4 ≤ 9223372036854775807 then (if (a0 ++ (⟨#[122, 71, 45, 0]⟩ : ByteArray)).size + a1.size ≤ 9223372036854775807 then ((hex_Load.f kj5 ((a0 ++ (⟨#[122, 71, 45, 0]⟩ : ByteArray)) ++ a1)).bind fun t178 => ((hex_Load.f kj5 (a0 ++ a1)).bind fun t179 => (some (t178.toList == t175.toList)))) else (none)) else (none)) else (some false)))) else (none)) else (some false))) else (none)) = some r := H
                  have A19 := Aside0.mk A190
                  clear A190
                  by_cases c20 : a0.size + a1.size ≤ 9223372036854775807
                  · rw [if_pos c20] at H
                    have c20b0 := eq_true c20
                    have c20b1 : decide (a0.size + a1.size ≤ 9223372036854775807) = true := decide_eq_true c20
                    try have c20b2 : (9223372036854775807 < a0.size + a1.size) = False := eq_false (Nat.not_lt.2 c20)
                    replace H := Option.bind_eq_some_iff.mp H
                    obtain ⟨t175, A210, H⟩ := H
                    replace H : (if t174.toList = t175.toList then (if (a0 ++ (⟨#[10]⟩ : ByteArray)).size + a1.size ≤ 9223372036854775807 then ((hex_Load.f kj5 ((a0 ++ (⟨#[10]⟩ : ByteArray)) ++ a1)).bind fun t176 => ((hex_Load.f kj5 (a0 ++ a1)).bind fun t177 => (if t176.toList = t175.toList then (if a0.size + 4 ≤ 9223372036854775807 then (if (a0 ++ (⟨#[122, 71, 45, 0]⟩ : ByteArray)).size + a1.size ≤ 9223372036854775807 then ((hex_Load.f kj5 ((a0 ++ (⟨#[122, 71, 45, 0]⟩ : ByteArray)) ++ a1)).bind fun t178 => ((hex_Load.f kj5 (a0 ++ a1)).bind fun t179 => (some (t178.toList == t175.toList)))) else (none)) else (none)) else (some false)))) else (none)) else (some false)) = some r := H
                    have A21 := Aside0.mk A210
                    clear A210
                    by_cases c22 : t174.toList = t175.toList
                    · rw [if_pos c22] at H
                      have c22b0 : (t174.toList == t175.toList) = true := beq_iff_eq.mpr c22
                      have c22b1 : (t174.toList != t175.toList) = false := bne_eq_false_iff_eq.mpr c22
                      clear c22
                      by_cases c23 : (a0 ++ (⟨#[10]⟩ : ByteArray)).size + a1.size ≤ 9223372036854775807
                      · rw [if_pos c23] at H
                        have c23b0 := eq_true c23
                        have c23b1 : decide ((a0 ++ (⟨#[10]⟩ : ByteArray)).size + a1.size ≤ 9223372036854775807) = true := decide_eq_true c23
                        try have c23b2 : (9223372036854775807 < (a0 ++ (⟨#[10]⟩ : ByteArray)).size + a1.size) = False := eq_false (Nat.not_lt.2 c23)
                        (try simp only [ByteArray.size_append, show (⟨#[10]⟩ : ByteArray).size = 1 from rfl] at c23b2)
                        replace H := Option.bind_eq_some_iff.mp H
                        obtain ⟨t176, A240, H⟩ := H
                        replace H : ((hex_Load.f kj5 (a0 ++ a1)).bind fun t177 => (if t176.toList = t175.toList then (if a0.size + 4 ≤ 9223372036854775807 then (if (a0 ++ (⟨#[122, 71, 45, 0]⟩ : ByteArray)).size + a1.size ≤ 9223372036854775807 then ((hex_Load.f kj5 ((a0 ++ (⟨#[122, 71, 45, 0]⟩ : ByteArray)) ++ a1)).bind fun t178 => ((hex_Load.f kj5 (a0 ++ a1)).bind fun t179 => (some (t178.toList == t175.toList)))) else (none)) else (none)) else (some false))) = some r := H
                        have A24 := Aside0.mk A240
                        clear A240
                        replace H := Option.bind_eq_some_iff.mp H
                        obtain ⟨t177, A250, H⟩ := H
                        replace H : (if t176.toList = t175.toList then (if a0.size + 4 ≤ 9223372036854775807 then (if (a0 ++ (⟨#[122, 71, 45, 0]⟩ : ByteArray)).size + a1.size ≤ 9223372036854775807 then ((hex_Load.f kj5 ((a0 ++ (⟨#[122, 71, 45, 0]⟩ : ByteArray)) ++ a1)).bind fun t178 => ((hex_Load.f kj5 (a0 ++ a1)).bind fun t179 => (some (t178.toList == t175.toList)))) else (none)) else (none)) else (some false)) = some r := H
                        have A25 := Aside0.mk A250
                        clear A250
                        obtain rfl : t175 = t177 := Option.some.inj (A21.out.symm.trans A25.out)
                        by_cases c26 : t176.toList = t175.toList
                        · rw [if_pos c26] at H
                          have c26b0 : (t176.toList == t175.toList) = true := beq_iff_eq.mpr c26
                          have c26b1 : (t176.toList != t175.toList) = false := bne_eq_false_iff_eq.mpr c26
                          clear c26
                          by_cases c27 : a0.size + 4 ≤ 9223372036854775807
                          · rw [if_pos c27] at H
                            have c27b0 := eq_true c27
                            have c27b1 : decide (a0.size + 4 ≤ 9223372036854775807) = true := decide_eq_true c27
                            try have c27b2 : (9223372036854775807 < a0.size + 4) = False := eq_false (Nat.not_lt.2 c27)
                            by_cases c28 : (a0 ++ (⟨#[122, 71, 45, 0]⟩ : ByteArray)).size + a1.size ≤ 9223372036854775807
                            · rw [if_pos c28] at H
                              have c28b0 := eq_true c28
                              have c28b1 : decide ((a0 ++ (⟨#[122, 71, 45, 0]⟩ : ByteArray)).size + a1.size ≤ 9223372036854775807) = true := decide_eq_true c28
                              try have c28b2 : (9223372036854775807 < (a0 ++ (⟨#[122, 71, 45, 0]⟩ : ByteArray)).size + a1.size) = False := eq_false (Nat.not_lt.2 c28)
                              (try simp only [ByteArray.size_append, show (⟨#[122, 71, 45, 0]⟩ : ByteArray).size = 4 from rfl] at c28b2)
                              replace H := Option.bind_eq_some_iff.mp H
                              obtain ⟨t178, A290, H⟩ := H
                              replace H : ((hex_Load.f kj5 (a0 ++ a1)).bind fun t179 => (some (t178.toList == t175.toList))) = some r := H
                              have A29 := Aside0.mk A290
                              clear A290
                              replace H := Option.bind_eq_some_iff.mp H
                              obtain ⟨t179, A300, H⟩ := H
                              replace H : (some (t178.toList == t175.toList)) = some r := H
                              have A30 := Aside0.mk A300
                              clear A300
                              obtain rfl : t175 = t179 := Option.some.inj (A21.out.symm.trans A30.out)
                              obtain rfl := Option.some.inj H
                              go_wp2_with (first | ((with_reducible refine gate_callee (f := 16) rfl ?_); refine goesL_ (some 37) rfl rfl Tryd.func16 (by kernel_rfl) rfl #[.string ((((a0 ++ (⟨#[35]⟩ : ByteArray)) ++ a2) ++ (⟨#[10]⟩ : ByteArray)) ++ a1)] rfl (by (try simp only [List.map_toArray, List.map_cons, List.map_nil]); first | done | rfl | (simp only [List.length_drop, List.length_take]; rfl)) ?_; (with_reducible refine (hex_Load.calls kj5 ((((a0 ++ (⟨#[35]⟩ : ByteArray)) ++ a2) ++ (⟨#[10]⟩ : ByteArray)) ++ a1) t174 _ A19.out).mono ?_); rintro e w31 ⟨rfl, hb⟩; refine ⟨_, rfl, ?_⟩; have n0_ := Aside0.mk (below_step (by repeat (first | (with_reducible first | exact HB.out | apply below_alloc | apply pw_below_drewN | apply below_drew1) | exact HB.out)) hb); clear HB; have HB := n0_; clear n0_; (try clear hb); (try clear hb2); (try clear hk); (try clear hi)) | ((with_reducible refine gate_callee (f := 16) rfl ?_); refine goesL_ (some 41) rfl rfl Tryd.func16 (by kernel_rfl) rfl #[.string (a0 ++ a1)] rfl (by (try simp only [List.map_toArray, List.map_cons, List.map_nil]); first | done | rfl | (simp only [List.length_drop, List.length_take]; rfl)) ?_; (with_reducible refine (hex_Load.calls kj5 (a0 ++ a1) t175 _ A21.out).mono ?_); rintro e w32 ⟨rfl, hb⟩; refine ⟨_, rfl, ?_⟩; have n0_ := Aside0.mk (below_step (by repeat (first | (with_reducible first | exact HB.out | apply below_alloc | apply pw_below_drewN | apply below_drew1) | exact HB.out)) hb); clear HB; have HB := n0_; clear n0_; (try clear hb); (try clear hb2); (try clear hk); (try clear hi)) | (go_at_call 16; (with_reducible refine (hex_Load.calls kj5 ((a0 ++ (⟨#[10]⟩ : ByteArray)) ++ a1) t176 _ A24.out).mono ?_); rintro e w33 ⟨rfl, hb⟩; have n0_ := Aside0.mk (below_step (by repeat (first | (with_reducible first | exact HB.out | apply below_alloc | apply pw_below_drewN | apply below_drew1) | exact HB.out)) hb); clear HB; have HB := n0_; clear n0_; (try clear hb); (try clear hb2); (try clear hk); (try clear hi)) | (go_at_call 16; (with_reducible refine (hex_Load.calls kj5 (a0 ++ a1) t175 _ A25.out).mono ?_); rintro e w34 ⟨rfl, hb⟩; have n0_ := Aside0.mk (below_step (by repeat (first | (with_reducible first | exact HB.out | apply below_alloc | apply pw_below_drewN | apply below_drew1) | exact HB.out)) hb); clear HB; have HB := n0_; clear n0_; (try clear hb); (try clear hb2); (try clear hk); (try clear hi)) | (go_at_call 16; (with_reducible refine (hex_Load.calls kj5 ((a0 ++ (⟨#[122, 71, 45, 0]⟩ : ByteArray)) ++ a1) t178 _ A29.out).mono ?_); rintro e w35 ⟨rfl, hb⟩; have n0_ := Aside0.mk (below_step (by repeat (first | (with_reducible first | exact HB.out | apply below_alloc | apply pw_below_drewN | apply below_drew1) | exact HB.out)) hb); clear HB; have HB := n0_; clear n0_; (try clear hb); (try clear hb2); (try clear hk); (try clear hi)) | (go_at_call 16; (with_reducible refine (hex_Load.calls kj5 (a0 ++ a1) t175 _ A30.out).mono ?_); rintro e w36 ⟨rfl, hb⟩; have n0_ := Aside0.mk (below_step (by repeat (first | (with_reducible first | exact HB.out | apply below_alloc | apply pw_below_drewN | apply below_drew1) | exact HB.out)) hb); clear HB; have HB := n0_; clear n0_; (try clear hb); (try clear hb2); (try clear hk); (try clear hi)))
                              go_ret
                              exact ⟨by first | rfl | (simp [errW_none, errW_some] <;> rfl) | (simp [*, errW_none, errW_some] <;> rfl), by repeat (first | (with_reducible first | exact HB.out | apply below_alloc | apply pw_below_drewN | apply below_drew1) | exact HB.out)⟩
                            · rw [if_neg c28] at H
                              exact absurd H (by simp)
                          · rw [if_neg c27] at H
                            exact absurd H (by simp)
                        · rw [if_neg c26] at H
                          have c26b0 : (t176.toList == t175.toList) = false := beq_eq_false_iff_ne.mpr c26
                          have c26b1 : (t176.toList != t175.toList) = true := bne_iff_ne.mpr c26
                          obtain rfl := Option.some.inj H
                          go_wp2_with (first | ((with_reducible refine gate_callee (f := 16) rfl ?_); refine goesL_ (some 37) rfl rfl Tryd.func16 (by kernel_rfl) rfl #[.string ((((a0 ++ (⟨#[35]⟩ : ByteArray)) ++ a2) ++ (⟨#[10]⟩ : ByteArray)) ++ a1)] rfl (by (try simp only [List.map_toArray, List.map_cons, List.map_nil]); first | done | rfl | (simp only [List.length_drop, List.length_take]; rfl)) ?_; (with_reducible refine (hex_Load.calls kj5 ((((a0 ++ (⟨#[35]⟩ : ByteArray)) ++ a2) ++ (⟨#[10]⟩ : ByteArray)) ++ a1) t174 _ A19.out).mono ?_); rintro e w37 ⟨rfl, hb⟩; refine ⟨_, rfl, ?_⟩; have n0_ := Aside0.mk (below_step (by repeat (first | (with_reducible first | exact HB.out | apply below_alloc | apply pw_below_drewN | apply below_drew1) | exact HB.out)) hb); clear HB; have HB := n0_; clear n0_; (try clear hb); (try clear hb2); (try clear hk); (try clear hi)) | ((with_reducible refine gate_callee (f := 16) rfl ?_); refine goesL_ (some 41) rfl rfl Tryd.func16 (by kernel_rfl) rfl #[.string (a0 ++ a1)] rfl (by (try simp only [List.map_toArray, List.map_cons, List.map_nil]); first | done | rfl | (simp only [List.length_drop, List.length_take]; rfl)) ?_; (with_reducible refine (hex_Load.calls kj5 (a0 ++ a1) t175 _ A21.out).mono ?_); rintro e w38 ⟨rfl, hb⟩; refine ⟨_, rfl, ?_⟩; have n0_ := Aside0.mk (below_step (by repeat (first | (with_reducible first | exact HB.out | apply below_alloc | apply pw_below_drewN | apply below_drew1) | exact HB.out)) hb); clear HB; have HB := n0_; clear n0_; (try clear hb); (try clear hb2); (try clear hk); (try clear hi)) | (go_at_call 16; (with_reducible refine (hex_Load.calls kj5 ((a0 ++ (⟨#[10]⟩ : ByteArray)) ++ a1) t176 _ A24.out).mono ?_); rintro e w39 ⟨rfl, hb⟩; have n0_ := Aside0.mk (below_step (by repeat (first | (with_reducible first | exact HB.out | apply below_alloc | apply pw_below_drewN | apply below_drew1) | exact HB.out)) hb); clear HB; have HB := n0_; clear n0_; (try clear hb); (try clear hb2); (try clear hk); (try clear hi)) | (go_at_call 16; (with_reducible refine (hex_Load.calls kj5 (a0 ++ a1) t175 _ A25.out).mono ?_); rintro e w40 ⟨rfl, hb⟩; have n0_ := Aside0.mk (below_step (by repeat (first | (with_reducible first | exact HB.out | apply below_alloc | apply pw_below_drewN | apply below_drew1) | exact HB.out)) hb); clear HB; have HB := n0_; clear n0_; (try clear hb); (try clear hb2); (try clear hk); (try clear hi)))
                          go_ret
                          exact ⟨by first | rfl | (simp [errW_none, errW_some] <;> rfl) | (simp [*, errW_none, errW_some] <;> rfl), by repeat (first | (with_reducible first | exact HB.out | apply below_alloc | apply pw_below_drewN | apply below_drew1) | exact HB.out)⟩
                      · rw [if_neg c23] at H
                        exact absurd H (by simp)
                    · rw [if_neg c22] at H
                      have c22b0 : (t174.toList == t175.toList) = false := beq_eq_false_iff_ne.mpr c22
                      have c22b1 : (t174.toList != t175.toList) = true := bne_iff_ne.mpr c22
                      obtain rfl := Option.some.inj H
                      go_wp2_with (first | ((with_reducible refine gate_callee (f := 16) rfl ?_); refine goesL_ (some 37) rfl rfl Tryd.func16 (by kernel_rfl) rfl #[.string ((((a0 ++ (⟨#[35]⟩ : ByteArray)) ++ a2) ++ (⟨#[10]⟩ : ByteArray)) ++ a1)] rfl (by (try simp only [List.map_toArray, List.map_cons, List.map_nil]); first | done | rfl | (simp only [List.length_drop, List.length_take]; rfl)) ?_; (with_reducible refine (hex_Load.calls kj5 ((((a0 ++ (⟨#[35]⟩ : ByteArray)) ++ a2) ++ (⟨#[10]⟩ : ByteArray)) ++ a1) t174 _ A19.out).mono ?_); rintro e w41 ⟨rfl, hb⟩; refine ⟨_, rfl, ?_⟩; have n0_ := Aside0.mk (below_step (by repeat (first | (with_reducible first | exact HB.out | apply below_alloc | apply pw_below_drewN | apply below_drew1) | exact HB.out)) hb); clear HB; have HB := n0_; clear n0_; (try clear hb); (try clear hb2); (try clear hk); (try clear hi)) | ((with_reducible refine gate_callee (f := 16) rfl ?_); refine goesL_ (some 41) rfl rfl Tryd.func16 (by kernel_rfl) rfl #[.string (a0 ++ a1)] rfl (by (try simp only [List.map_toArray, List.map_cons, List.map_nil]); first | done | rfl | (simp only [List.length_drop, List.length_take]; rfl)) ?_; (with_reducible refine (hex_Load.calls kj5 (a0 ++ a1) t175 _ A21.out).mono ?_); rintro e w42 ⟨rfl, hb⟩; refine ⟨_, rfl, ?_⟩; have n0_ := Aside0.mk (below_step (by repeat (first | (with_reducible first | exact HB.out | apply below_alloc | apply pw_below_drewN | apply below_drew1) | exact HB.out)) hb); clear HB; have HB := n0_; clear n0_; (try clear hb); (try clear hb2); (try clear hk); (try clear hi)))
                      go_ret
                      exact ⟨by first | rfl | (simp [errW_none, errW_some] <;> rfl) | (simp [*, errW_none, errW_some] <;> rfl), by repeat (first | (with_reducible first | exact HB.out | apply below_alloc | apply pw_below_drewN | apply below_drew1) | exact HB.out)⟩
                  · rw [if_neg c20] at H
                    exact absurd H (by simp)
                · rw [if_neg c18] at H
                  exact absurd H (by simp)
              · rw [if_neg c17] at H
                exact absurd H (by simp)
            · rw [if_neg c16] at H
              exact absurd H (by simp)
          · rw [if_neg c15] at H
            exact absurd H (by simp)
  · replace c5 := Bool.eq_false_iff.mpr c5
    subst c5
    have H1 : (some false) = some r := by rw [if_neg (show ¬ (false = true) by decide)] at H; exact H
    clear H
    have H := H1
    clear H1
    obtain rfl := Option.some.inj H
    go_enter Tryd.func8, Tryd.ntmps8
    go_wp2_with (first | ((with_reducible refine gate_callee (f := 10) rfl ?_); refine goesL_ (some 7) rfl rfl Tryd.func10 (by kernel_rfl) rfl #[] rfl (by (try simp only [List.map_toArray, List.map_cons, List.map_nil]); first | done | rfl | (simp only [List.length_drop, List.length_take]; rfl)) ?_; (with_reducible refine (seedcornlaw02_awake.calls k  false _ ?side1 A4.out).mono ?_); (case side1 => exact Go.Proofs.YtllnaagddpfclaaDoor.Ext.TAB.below HT.out (by repeat (first | (with_reducible first | exact HB.out | apply below_alloc | apply pw_below_drewN | apply below_drew1) | exact HB.out))); rintro e w43 ⟨rfl, hb⟩; refine ⟨_, rfl, ?_⟩; have n0_ := Aside0.mk (below_step (by repeat (first | (with_reducible first | exact HB.out | apply below_alloc | apply pw_below_drewN | apply below_drew1) | exact HB.out)) hb); clear HB; have HB := n0_; clear n0_; (try clear hb); (try clear hb2); (try clear hk); (try clear hi)))
    go_ret
    exact ⟨by first | rfl | (simp [errW_none, errW_some] <;> rfl) | (simp [*, errW_none, errW_some] <;> rfl), by repeat (first | (with_reducible first | exact HB.out | apply below_alloc | apply pw_below_drewN | apply below_drew1) | exact HB.out)⟩

/-- THE ONE PURE STATEMENT of seedcornlaw02_HexNotes: yours. -/
def seedcornlaw02_HexNotes.Pure : Prop := ∀ (a0 : ByteArray) (a1 : ByteArray) (a2 : ByteArray), a0.size ≤ 140737488351232 → a1.size ≤ 140737488351232 → a2.size ≤ 140737488351232 → ∃ k, seedcornlaw02_HexNotes.f k a0 a1 a2 = some true
theorem seedcornlaw02_HexNotes.walk (P : seedcornlaw02_HexNotes.Pure) (a0 : ByteArray) (a1 : ByteArray) (a2 : ByteArray) (w : World) (hT : Go.Proofs.YtllnaagddpfclaaDoor.Ext.TAB w) (w0 : a0.size ≤ 140737488351232) (w1 : a1.size ≤ 140737488351232) (w2 : a2.size ≤ 140737488351232) :
    Calls Tryd.prog 8 #[.string a0, .string a1, .string a2] w fun e w' => e = .returned (.bool true) ∧ Below w.heap.size w w' := by
  obtain ⟨k, h⟩ := P a0 a1 a2 w0 w1 w2
  refine (seedcornlaw02_HexNotes.calls k a0 a1 a2 true w hT h).mono ?_
  rintro e w' ⟨rfl, hd⟩
  exact ⟨rfl, hd⟩

end Go.Proofs.YtllnaagddpfclaaDoor.Q
