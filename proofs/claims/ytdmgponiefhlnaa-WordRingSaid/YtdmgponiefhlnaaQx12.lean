-- Written by a program of this session (wip/tools/xprint.py) over the kit's print.
import Derived.Test.YtdmgponiefhlnaaQx0
import Derived.Test.YtdmgponiefhlnaaQx5
import Derived.Test.YtdmgponiefhlnaaQx11
namespace Go.Proofs.Ytdmgponiefhlnaa.Q
open Go.RowKit Go.Proofs.YtdmgponiefhlnaaW.PrintWords Go.Proofs.YtdmgponiefhlnaaW.PrintLast Go.Proofs.YtdmgponiefhlnaaW.PrintMore
attribute [local go_sem] max2_int min2_int max_two min_two max_three min_three max_four min_four   -- for this text's walks alone
set_option linter.unusedVariables false
set_option linter.unusedSimpArgs false

/-! ### seedcornlaw01_WordRing: function 5 -/
def seedcornlaw01_WordRing.j0 : Nat → Int → Int → Int → Int → Int → Bool → Option (Bool)
  | 0, _, _, _, _, _, _ => none
  | k + 1, x0, x1, x2, x7, x8, x44 => if x44 = true then (some false) else ((seedcornlaw01_of.f k 4 x7 x2).bind fun t168 => ((seedcornlaw01_of.f k 4 x1 x2).bind fun t169 => ((seedcornlaw01_of.f k 4 x0 t169).bind fun t170 => (if t168 = t170 then ((seedcornlaw01_of.f k 6 x8 x2).bind fun t171 => ((seedcornlaw01_of.f k 6 x1 x2).bind fun t172 => ((seedcornlaw01_of.f k 6 x0 t172).bind fun t173 => (if t171 = t173 then ((seedcornlaw01_of.f k 6 x7 x2).bind fun t174 => ((seedcornlaw01_of.f k 6 x0 x2).bind fun t175 => ((seedcornlaw01_of.f k 4 t175 t172).bind fun t176 => (some (t174 == t176))))) else (some false))))) else (some false)))))
def seedcornlaw01_WordRing.f (k : Nat) (a0 : Int) (a1 : Int) (a2 : Int) : Option (Bool) := (seedcornlaw01_alive.f k).bind fun t160 => (if t160 = true then ((seedcornlaw01_of.f k 4 a0 a1).bind fun t161 => ((seedcornlaw01_of.f k 6 a0 a1).bind fun t162 => ((seedcornlaw01_of.f k 4 a1 a0).bind fun t163 => (if t161 = t163 then ((seedcornlaw01_of.f k 6 a1 a0).bind fun t164 => (if t162 = t164 then ((seedcornlaw01_of.f k 5 t161 a1).bind fun t165 => (if t165 = a0 then ((seedcornlaw01_of.f k 5 a0 a1).bind fun t166 => ((seedcornlaw01_of.f k 4 t166 a1).bind fun t167 => (seedcornlaw01_WordRing.j0 k a0 a1 a2 t161 t162 (t167 != a0)))) else (seedcornlaw01_WordRing.j0 k a0 a1 a2 t161 t162 true))) else (seedcornlaw01_WordRing.j0 k a0 a1 a2 t161 t162 true))) else (seedcornlaw01_WordRing.j0 k a0 a1 a2 t161 t162 true))))) else (some false))
theorem seedcornlaw01_WordRing.mono_l : ∀ k, (∀ y0 y1 y2 y3 y4 y5, LeO (seedcornlaw01_WordRing.j0 k y0 y1 y2 y3 y4 y5) (seedcornlaw01_WordRing.j0 (k + 1) y0 y1 y2 y3 y4 y5))
  | 0 => fun _ _ _ _ _ _ r h => by simp [seedcornlaw01_WordRing.j0] at h
  | k + 1 => by
    have ih0 := seedcornlaw01_WordRing.mono_l k
    · intro y0 y1 y2 y3 y4 y5
      unfold seedcornlaw01_WordRing.j0
      repeat' first
      | (with_reducible exact ih0 _ _ _ _ _ _)
      | (with_reducible exact seedcornlaw01_alive.mono _)
      | (with_reducible exact seedcornlaw01_of.mono _ _ _ _)
      | (with_reducible exact LeO.refl _)
      | (with_reducible exact LeO.none _)
      | (with_reducible refine LeO.ite ?_ ?_)
      | (with_reducible refine LeO.bind ?_ (fun _ => ?_))
      | exact ih0 _ _ _ _ _ _
      | exact seedcornlaw01_alive.mono _
      | exact seedcornlaw01_of.mono _ _ _ _
      | exact LeO.none _
      | refine LeO.ite ?_ ?_
      | refine LeO.bind ?_ (fun _ => ?_)
theorem seedcornlaw01_WordRing.mono : ∀ a0 a1 a2 k, LeO (seedcornlaw01_WordRing.f k a0 a1 a2) (seedcornlaw01_WordRing.f (k + 1) a0 a1 a2) := by
  intro a0 a1 a2 k
  have ih0 := seedcornlaw01_WordRing.mono_l k
  unfold seedcornlaw01_WordRing.f
  repeat' first
      | (with_reducible exact ih0 _ _ _ _ _ _)
      | (with_reducible exact seedcornlaw01_alive.mono _)
      | (with_reducible exact seedcornlaw01_of.mono _ _ _ _)
      | (with_reducible exact LeO.refl _)
      | (with_reducible exact LeO.none _)
      | (with_reducible refine LeO.ite ?_ ?_)
      | (with_reducible refine LeO.bind ?_ (fun _ => ?_))
      | exact ih0 _ _ _ _ _ _
      | exact seedcornlaw01_alive.mono _
      | exact seedcornlaw01_of.mono _ _ _ _
      | exact LeO.none _
      | refine LeO.ite ?_ ?_
      | refine LeO.bind ?_ (fun _ => ?_)
set_option maxHeartbeats 8000000 in
set_option maxRecDepth 100000 in
theorem seedcornlaw01_WordRing.calls (k : Nat) (a0 : Int) (a1 : Int) (a2 : Int) (r : Bool) (w : World) (h : seedcornlaw01_WordRing.f k a0 a1 a2 = some r) :
    Calls Try.prog 5 #[.int .u32 a0, .int .u32 a1, .int .u32 a2] w fun e w' => e = .returned (.bool r) ∧ Below w.heap.size w w' := by
  have HB := Aside0.mk (Below.refl w.heap.size w)
  have H : ((seedcornlaw01_alive.f k).bind fun t160 => (if t160 = true then ((seedcornlaw01_of.f k 4 a0 a1).bind fun t161 => ((seedcornlaw01_of.f k 6 a0 a1).bind fun t162 => ((seedcornlaw01_of.f k 4 a1 a0).bind fun t163 => (if t161 = t163 then ((seedcornlaw01_of.f k 6 a1 a0).bind fun t164 => (if t162 = t164 then ((seedcornlaw01_of.f k 5 t161 a1).bind fun t165 => (if t165 = a0 then ((seedcornlaw01_of.f k 5 a0 a1).bind fun t166 => ((seedcornlaw01_of.f k 4 t166 a1).bind fun t167 => (seedcornlaw01_WordRing.j0 k a0 a1 a2 t161 t162 (t167 != a0)))) else (seedcornlaw01_WordRing.j0 k a0 a1 a2 t161 t162 true))) else (seedcornlaw01_WordRing.j0 k a0 a1 a2 t161 t162 true))) else (seedcornlaw01_WordRing.j0 k a0 a1 a2 t161 t162 true))))) else (some false))) = some r := h
  clear h
  replace H := Option.bind_eq_some_iff.mp H
  obtain ⟨t160, A40, H⟩ := H
  replace H : (if t160 = true then ((seedcornlaw01_of.f k 4 a0 a1).bind fun t161 => ((seedcornlaw01_of.f k 6 a0 a1).bind fun t162 => ((seedcornlaw01_of.f k 4 a1 a0).bind fun t163 => (if t161 = t163 then ((seedcornlaw01_of.f k 6 a1 a0).bind fun t164 => (if t162 = t164 then ((seedcornlaw01_of.f k 5 t161 a1).bind fun t165 => (if t165 = a0 then ((seedcornlaw01_of.f k 5 a0 a1).bind fun t166 => ((seedcornlaw01_of.f k 4 t166 a1).bind fun t167 => (seedcornlaw01_WordRing.j0 k a0 a1 a2 t161 t162 (t167 != a0)))) else (seedcornlaw01_WordRing.j0 k a0 a1 a2 t161 t162 true))) else (seedcornlaw01_WordRing.j0 k a0 a1 a2 t161 t162 true))) else (seedcornlaw01_WordRing.j0 k a0 a1 a2 t161 t162 true))))) else (some false)) = some r := H
  have A4 := Aside0.mk A40
  clear A40
  by_cases c5 : t160 = true
  · subst c5
    have H1 : ((seedcornlaw01_of.f k 4 a0 a1).bind fun t161 => ((seedcornlaw01_of.f k 6 a0 a1).bind fun t162 => ((seedcornlaw01_of.f k 4 a1 a0).bind fun t163 => (if t161 = t163 then ((seedcornlaw01_of.f k 6 a1 a0).bind fun t164 => (if t162 = t164 then ((seedcornlaw01_of.f k 5 t161 a1).bind fun t165 => (if t165 = a0 then ((seedcornlaw01_of.f k 5 a0 a1).bind fun t166 => ((seedcornlaw01_of.f k 4 t166 a1).bind fun t167 => (seedcornlaw01_WordRing.j0 k a0 a1 a2 t161 t162 (t167 != a0)))) else (seedcornlaw01_WordRing.j0 k a0 a1 a2 t161 t162 true))) else (seedcornlaw01_WordRing.j0 k a0 a1 a2 t161 t162 true))) else (seedcornlaw01_WordRing.j0 k a0 a1 a2 t161 t162 true))))) = some r := by rw [if_pos rfl] at H; exact H
    clear H
    have H := H1
    clear H1
    replace H := Option.bind_eq_some_iff.mp H
    obtain ⟨t161, A60, H⟩ := H
    replace H : ((seedcornlaw01_of.f k 6 a0 a1).bind fun t162 => ((seedcornlaw01_of.f k 4 a1 a0).bind fun t163 => (if t161 = t163 then ((seedcornlaw01_of.f k 6 a1 a0).bind fun t164 => (if t162 = t164 then ((seedcornlaw01_of.f k 5 t161 a1).bind fun t165 => (if t165 = a0 then ((seedcornlaw01_of.f k 5 a0 a1).bind fun t166 => ((seedcornlaw01_of.f k 4 t166 a1).bind fun t167 => (seedcornlaw01_WordRing.j0 k a0 a1 a2 t161 t162 (t167 != a0)))) else (seedcornlaw01_WordRing.j0 k a0 a1 a2 t161 t162 true))) else (seedcornlaw01_WordRing.j0 k a0 a1 a2 t161 t162 true))) else (seedcornlaw01_WordRing.j0 k a0 a1 a2 t161 t162 true)))) = some r := H
    have A6 := Aside0.mk A60
    clear A60
    replace H := Option.bind_eq_some_iff.mp H
    obtain ⟨t162, A70, H⟩ := H
    replace H : ((seedcornlaw01_of.f k 4 a1 a0).bind fun t163 => (if t161 = t163 then ((seedcornlaw01_of.f k 6 a1 a0).bind fun t164 => (if t162 = t164 then ((seedcornlaw01_of.f k 5 t161 a1).bind fun t165 => (if t165 = a0 then ((seedcornlaw01_of.f k 5 a0 a1).bind fun t166 => ((seedcornlaw01_of.f k 4 t166 a1).bind fun t167 => (seedcornlaw01_WordRing.j0 k a0 a1 a2 t161 t162 (t167 != a0)))) else (seedcornlaw01_WordRing.j0 k a0 a1 a2 t161 t162 true))) else (seedcornlaw01_WordRing.j0 k a0 a1 a2 t161 t162 true))) else (seedcornlaw01_WordRing.j0 k a0 a1 a2 t161 t162 true))) = some r := H
    have A7 := Aside0.mk A70
    clear A70
    have HC8 := Aside0.mk H
    clear H
    go_enter Try.func5, Try.ntmps5
    go_upto_region 4 with (first | ((with_reducible refine gate_callee (f := 10) rfl ?_); refine goesL_ (some 9) rfl rfl Try.func10 (by kernel_rfl) rfl #[] rfl (by (try simp only [List.map_toArray, List.map_cons, List.map_nil]); first | done | rfl | (simp only [List.length_drop, List.length_take]; rfl)) ?_; (with_reducible refine (seedcornlaw01_alive.calls k  true _ A4.out).mono ?_); rintro e w9 ⟨rfl, hb⟩; refine ⟨_, rfl, ?_⟩; have n0_ := Aside0.mk (below_step (by repeat (first | (with_reducible first | exact HB.out | apply below_alloc | apply pw_below_drewN | apply below_drew1) | exact HB.out)) hb); clear HB; have HB := n0_; clear n0_; (try clear hb); (try clear hb2); (try clear hk); (try clear hi)) | ((with_reducible refine gate_callee (f := 15) rfl ?_); refine goesL_ (some 13) rfl rfl Try.func15 (by kernel_rfl) rfl #[.int .i64 4, .int .u32 a0, .int .u32 a1] rfl (by (try simp only [List.map_toArray, List.map_cons, List.map_nil]); first | done | rfl | (simp only [List.length_drop, List.length_take]; rfl)) ?_; (with_reducible refine (seedcornlaw01_of.calls k 4 a0 a1 t161 _ A6.out).mono ?_); rintro e w' ⟨rfl, ⟨nd, rfl⟩⟩; refine ⟨_, rfl, ?_⟩) | ((with_reducible refine gate_callee (f := 15) rfl ?_); refine goesL_ (some 16) rfl rfl Try.func15 (by kernel_rfl) rfl #[.int .i64 6, .int .u32 a0, .int .u32 a1] rfl (by (try simp only [List.map_toArray, List.map_cons, List.map_nil]); first | done | rfl | (simp only [List.length_drop, List.length_take]; rfl)) ?_; (with_reducible refine (seedcornlaw01_of.calls k 6 a0 a1 t162 _ A7.out).mono ?_); rintro e w' ⟨rfl, ⟨nd, rfl⟩⟩; refine ⟨_, rfl, ?_⟩))
    (try simp only [Act.put, List.setIfInBounds_toArray, List.set_cons_zero, List.set_cons_succ])
    go_cut [44] (fun v44 wc => ∃ (kq : Nat) (x44_7 : Bool), v44 = .bool x44_7 ∧ Aside0 (seedcornlaw01_WordRing.j0 kq a0 a1 a2 t161 t162 x44_7 = some r) ∧ Aside0 (kq ≤ k) ∧ Aside0 (Below w.heap.size w wc))
    case first =>
      have H := HC8.out
      clear HC8
      replace H := Option.bind_eq_some_iff.mp H
      obtain ⟨t163, A100, H⟩ := H
      replace H : (if t161 = t163 then ((seedcornlaw01_of.f k 6 a1 a0).bind fun t164 => (if t162 = t164 then ((seedcornlaw01_of.f k 5 t161 a1).bind fun t165 => (if t165 = a0 then ((seedcornlaw01_of.f k 5 a0 a1).bind fun t166 => ((seedcornlaw01_of.f k 4 t166 a1).bind fun t167 => (seedcornlaw01_WordRing.j0 k a0 a1 a2 t161 t162 (t167 != a0)))) else (seedcornlaw01_WordRing.j0 k a0 a1 a2 t161 t162 true))) else (seedcornlaw01_WordRing.j0 k a0 a1 a2 t161 t162 true))) else (seedcornlaw01_WordRing.j0 k a0 a1 a2 t161 t162 true)) = some r := H
      have A10 := Aside0.mk A100
      clear A100
      by_cases c11 : t161 = t163
      · rw [if_pos c11] at H
        have c11b0 : (t161 == t163) = true := beq_iff_eq.mpr c11
        have c11b1 : (t161 != t163) = false := bne_eq_false_iff_eq.mpr c11
        clear c11
        (first | rw [c11b0] | (simp only [i64_w, i32_w]; rw [c11b0]) | skip)
        replace H := Option.bind_eq_some_iff.mp H
        obtain ⟨t164, A120, H⟩ := H
        replace H : (if t162 = t164 then ((seedcornlaw01_of.f k 5 t161 a1).bind fun t165 => (if t165 = a0 then ((seedcornlaw01_of.f k 5 a0 a1).bind fun t166 => ((seedcornlaw01_of.f k 4 t166 a1).bind fun t167 => (seedcornlaw01_WordRing.j0 k a0 a1 a2 t161 t162 (t167 != a0)))) else (seedcornlaw01_WordRing.j0 k a0 a1 a2 t161 t162 true))) else (seedcornlaw01_WordRing.j0 k a0 a1 a2 t161 t162 true)) = some r := H
        have A12 := Aside0.mk A120
        clear A120
        by_cases c13 : t162 = t164
        · rw [if_pos c13] at H
          have c13b0 : (t162 == t164) = true := beq_iff_eq.mpr c13
          have c13b1 : (t162 != t164) = false := bne_eq_false_iff_eq.mpr c13
          clear c13
          replace H := Option.bind_eq_some_iff.mp H
          obtain ⟨t165, A140, H⟩ := H
          replace H : (if t165 = a0 then ((seedcornlaw01_of.f k 5 a0 a1).bind fun t166 => ((seedcornlaw01_of.f k 4 t166 a1).bind fun t167 => (seedcornlaw01_WordRing.j0 k a0 a1 a2 t161 t162 (t167 != a0)))) else (seedcornlaw01_WordRing.j0 k a0 a1 a2 t161 t162 true)) = some r := H
          have A14 := Aside0.mk A140
          clear A140
          by_cases c15 : t165 = a0
          · rw [if_pos c15] at H
            have c15b0 : (t165 == a0) = true := beq_iff_eq.mpr c15
            have c15b1 : (t165 != a0) = false := bne_eq_false_iff_eq.mpr c15
            clear c15
            replace H := Option.bind_eq_some_iff.mp H
            obtain ⟨t166, A160, H⟩ := H
            replace H : ((seedcornlaw01_of.f k 4 t166 a1).bind fun t167 => (seedcornlaw01_WordRing.j0 k a0 a1 a2 t161 t162 (t167 != a0))) = some r := H
            have A16 := Aside0.mk A160
            clear A160
            replace H := Option.bind_eq_some_iff.mp H
            obtain ⟨t167, A170, H⟩ := H
            replace H : (seedcornlaw01_WordRing.j0 k a0 a1 a2 t161 t162 (t167 != a0)) = some r := H
            have A17 := Aside0.mk A170
            clear A170
            have H' := Aside0.mk H
            clear H
            go_wp2_with (first | ((with_reducible refine gate_callee (f := 15) rfl ?_); refine goesL_ (some 20) rfl rfl Try.func15 (by kernel_rfl) rfl #[.int .i64 4, .int .u32 a1, .int .u32 a0] rfl (by (try simp only [List.map_toArray, List.map_cons, List.map_nil]); first | done | rfl | (simp only [List.length_drop, List.length_take]; rfl)) ?_; (with_reducible refine (seedcornlaw01_of.calls k 4 a1 a0 t163 _ A10.out).mono ?_); rintro e w' ⟨rfl, ⟨nd, rfl⟩⟩; refine ⟨_, rfl, ?_⟩) | (go_at_call 15; (with_reducible refine (seedcornlaw01_of.calls k 6 a1 a0 t164 _ A12.out).mono ?_); rintro e w' ⟨rfl, ⟨nd, rfl⟩⟩) | (go_at_call 15; (with_reducible refine (seedcornlaw01_of.calls k 5 t161 a1 t165 _ A14.out).mono ?_); rintro e w' ⟨rfl, ⟨nd, rfl⟩⟩) | (go_at_call 15; (with_reducible refine (seedcornlaw01_of.calls k 5 a0 a1 t166 _ A16.out).mono ?_); rintro e w' ⟨rfl, ⟨nd, rfl⟩⟩) | (go_at_call 15; (with_reducible refine (seedcornlaw01_of.calls k 4 t166 a1 t167 _ A17.out).mono ?_); rintro e w' ⟨rfl, ⟨nd, rfl⟩⟩))
            go_meet
            case rel => exact ⟨_, ((t167 != a0)), (by first | rfl | (simp; done) | (simp [*]; done)), H', ⟨by first | omega | exact Nat.le_refl _⟩, ⟨by repeat (first | (with_reducible first | exact HB.out | apply below_alloc | apply pw_below_drewN | apply below_drew1) | exact HB.out)⟩⟩
          · rw [if_neg c15] at H
            have c15b0 : (t165 == a0) = false := beq_eq_false_iff_ne.mpr c15
            have c15b1 : (t165 != a0) = true := bne_iff_ne.mpr c15
            have H' := Aside0.mk H
            clear H
            go_wp2_with (first | ((with_reducible refine gate_callee (f := 15) rfl ?_); refine goesL_ (some 20) rfl rfl Try.func15 (by kernel_rfl) rfl #[.int .i64 4, .int .u32 a1, .int .u32 a0] rfl (by (try simp only [List.map_toArray, List.map_cons, List.map_nil]); first | done | rfl | (simp only [List.length_drop, List.length_take]; rfl)) ?_; (with_reducible refine (seedcornlaw01_of.calls k 4 a1 a0 t163 _ A10.out).mono ?_); rintro e w' ⟨rfl, ⟨nd, rfl⟩⟩; refine ⟨_, rfl, ?_⟩) | (go_at_call 15; (with_reducible refine (seedcornlaw01_of.calls k 6 a1 a0 t164 _ A12.out).mono ?_); rintro e w' ⟨rfl, ⟨nd, rfl⟩⟩) | (go_at_call 15; (with_reducible refine (seedcornlaw01_of.calls k 5 t161 a1 t165 _ A14.out).mono ?_); rintro e w' ⟨rfl, ⟨nd, rfl⟩⟩))
            go_meet
            case rel => exact ⟨_, (true), (by first | rfl | (simp; done) | (simp [*]; done)), H', ⟨by first | omega | exact Nat.le_refl _⟩, ⟨by repeat (first | (with_reducible first | exact HB.out | apply below_alloc | apply pw_below_drewN | apply below_drew1) | exact HB.out)⟩⟩
        · rw [if_neg c13] at H
          have c13b0 : (t162 == t164) = false := beq_eq_false_iff_ne.mpr c13
          have c13b1 : (t162 != t164) = true := bne_iff_ne.mpr c13
          have H' := Aside0.mk H
          clear H
          go_wp2_with (first | ((with_reducible refine gate_callee (f := 15) rfl ?_); refine goesL_ (some 20) rfl rfl Try.func15 (by kernel_rfl) rfl #[.int .i64 4, .int .u32 a1, .int .u32 a0] rfl (by (try simp only [List.map_toArray, List.map_cons, List.map_nil]); first | done | rfl | (simp only [List.length_drop, List.length_take]; rfl)) ?_; (with_reducible refine (seedcornlaw01_of.calls k 4 a1 a0 t163 _ A10.out).mono ?_); rintro e w' ⟨rfl, ⟨nd, rfl⟩⟩; refine ⟨_, rfl, ?_⟩) | (go_at_call 15; (with_reducible refine (seedcornlaw01_of.calls k 6 a1 a0 t164 _ A12.out).mono ?_); rintro e w' ⟨rfl, ⟨nd, rfl⟩⟩))
          go_meet
          case rel => exact ⟨_, (true), (by first | rfl | (simp; done) | (simp [*]; done)), H', ⟨by first | omega | exact Nat.le_refl _⟩, ⟨by repeat (first | (with_reducible first | exact HB.out | apply below_alloc | apply pw_below_drewN | apply below_drew1) | exact HB.out)⟩⟩
      · rw [if_neg c11] at H
        have c11b0 : (t161 == t163) = false := beq_eq_false_iff_ne.mpr c11
        have c11b1 : (t161 != t163) = true := bne_iff_ne.mpr c11
        (first | rw [c11b0] | (simp only [i64_w, i32_w]; rw [c11b0]) | skip)
        have H' := Aside0.mk H
        clear H
        go_wp2_with (first | ((with_reducible refine gate_callee (f := 15) rfl ?_); refine goesL_ (some 20) rfl rfl Try.func15 (by kernel_rfl) rfl #[.int .i64 4, .int .u32 a1, .int .u32 a0] rfl (by (try simp only [List.map_toArray, List.map_cons, List.map_nil]); first | done | rfl | (simp only [List.length_drop, List.length_take]; rfl)) ?_; (with_reducible refine (seedcornlaw01_of.calls k 4 a1 a0 t163 _ A10.out).mono ?_); rintro e w' ⟨rfl, ⟨nd, rfl⟩⟩; refine ⟨_, rfl, ?_⟩))
        go_meet
        case rel => exact ⟨_, (true), (by first | rfl | (simp; done) | (simp [*]; done)), H', ⟨by first | omega | exact Nat.le_refl _⟩, ⟨by repeat (first | (with_reducible first | exact HB.out | apply below_alloc | apply pw_below_drewN | apply below_drew1) | exact HB.out)⟩⟩
    case rest =>
      clear HC8
      try clear c1
      try clear p2
      try clear c5
      try clear c10
      try clear c11
      try clear c11b0
      try clear c11b1
      try clear c13
      try clear c13b0
      try clear c13b1
      try clear c15
      try clear c15b0
      try clear c15b1
      obtain ⟨kq, x44_7, rfl, HA, HJ7, HB⟩ := hcut
      cases kq with
      | zero => exact absurd HA.out (by simp [seedcornlaw01_WordRing.j0])
      | succ kj7 =>
        have H := HA.out
        clear HA
        simp only [seedcornlaw01_WordRing.j0] at H
        by_cases c18 : x44_7 = true
        · subst c18
          have H1 : (some false) = some r := by rw [if_pos rfl] at H; exact H
          clear H
          have H := H1
          clear H1
          obtain rfl := Option.some.inj H
          go_wp2
          go_ret
          exact ⟨by first | rfl | (simp [errW_none, errW_some] <;> rfl) | (simp [*, errW_none, errW_some] <;> rfl), by repeat (first | (with_reducible first | exact HB.out | apply below_alloc | apply pw_below_drewN | apply below_drew1) | exact HB.out)⟩
        · replace c18 := Bool.eq_false_iff.mpr c18
          subst c18
          have H1 : ((seedcornlaw01_of.f kj7 4 t161 a2).bind fun t168 => ((seedcornlaw01_of.f kj7 4 a1 a2).bind fun t169 => ((seedcornlaw01_of.f kj7 4 a0 t169).bind fun t170 => (if t168 = t170 then ((seedcornlaw01_of.f kj7 6 t162 a2).bind fun t171 => ((seedcornlaw01_of.f kj7 6 a1 a2).bind fun t172 => ((seedcornlaw01_of.f kj7 6 a0 t172).bind fun t173 => (if t171 = t173 then ((seedcornlaw01_of.f kj7 6 t161 a2).bind fun t174 => ((seedcornlaw01_of.f kj7 6 a0 a2).bind fun t175 => ((seedcornlaw01_of.f kj7 4 t175 t172).bind fun t176 => (some (t174 == t176))))) else (some false))))) else (some false))))) = some r := by rw [if_neg (show ¬ (false = true) by decide)] at H; exact H
          clear H
          have H := H1
          clear H1
          replace H := Option.bind_eq_some_iff.mp H
          obtain ⟨t168, A190, H⟩ := H
          replace H : ((seedcornlaw01_of.f kj7 4 a1 a2).bind fun t169 => ((seedcornlaw01_of.f kj7 4 a0 t169).bind fun t170 => (if t168 = t170 then ((seedcornlaw01_of.f kj7 6 t162 a2).bind fun t171 => ((seedcornlaw01_of.f kj7 6 a1 a2).bind fun t172 => ((seedcornlaw01_of.f kj7 6 a0 t172).bind fun t173 => (if t171 = t173 then ((seedcornlaw01_of.f kj7 6 t161 a2).bind fun t174 => ((seedcornlaw01_of.f kj7 6 a0 a2).bind fun t175 => ((seedcornlaw01_of.f kj7 4 t175 t172).bind fun t176 => (some (t174 == t176))))) else (some false))))) else (some false)))) = some r := H
          have A19 := Aside0.mk A190
          clear A190
          replace H := Option.bind_eq_some_iff.mp H
          obtain ⟨t169, A200, H⟩ := H
          replace H : ((seedcornlaw01_of.f kj7 4 a0 t169).bind fun t170 => (if t168 = t170 then ((seedcornlaw01_of.f kj7 6 t162 a2).bind fun t171 => ((seedcornlaw01_of.f kj7 6 a1 a2).bind fun t172 => ((seedcornlaw01_of.f kj7 6 a0 t172).bind fun t173 => (if t171 = t173 then ((seedcornlaw01_of.f kj7 6 t161 a2).bind fun t174 => ((seedcornlaw01_of.f kj7 6 a0 a2).bind fun t175 => ((seedcornlaw01_of.f kj7 4 t175 t172).bind fun t176 => (some (t174 == t176))))) else (some false))))) else (some false))) = some r := H
          have A20 := Aside0.mk A200
          clear A200
          replace H := Option.bind_eq_some_iff.mp H
          obtain ⟨t170, A210, H⟩ := H
          replace H : (if t168 = t170 then ((seedcornlaw01_of.f kj7 6 t162 a2).bind fun t171 => ((seedcornlaw01_of.f kj7 6 a1 a2).bind fun t172 => ((seedcornlaw01_of.f kj7 6 a0 t172).bind fun t173 => (if t171 = t173 then ((seedcornlaw01_of.f kj7 6 t161 a2).bind fun t174 => ((seedcornlaw01_of.f kj7 6 a0 a2).bind fun t175 => ((seedcornlaw01_of.f kj7 4 t175 t172).bind fun t176 => (some (t174 == t176))))) else (some false))))) else (some false)) = some r := H
          have A21 := Aside0.mk A210
          clear A210
          by_cases c22 : t168 = t170
          · rw [if_pos c22] at H
            have c22b0 : (t168 == t170) = true := beq_iff_eq.mpr c22
            have c22b1 : (t168 != t170) = false := bne_eq_false_iff_eq.mpr c22
            clear c22
            replace H := Option.bind_eq_some_iff.mp H
            obtain ⟨t171, A230, H⟩ := H
            replace H : ((seedcornlaw01_of.f kj7 6 a1 a2).bind fun t172 => ((seedcornlaw01_of.f kj7 6 a0 t172).bind fun t173 => (if t171 = t173 then ((seedcornlaw01_of.f kj7 6 t161 a2).bind fun t174 => ((seedcornlaw01_of.f kj7 6 a0 a2).bind fun t175 => ((seedcornlaw01_of.f kj7 4 t175 t172).bind fun t176 => (some (t174 == t176))))) else (some false)))) = some r := H
            have A23 := Aside0.mk A230
            clear A230
            replace H := Option.bind_eq_some_iff.mp H
            obtain ⟨t172, A240, H⟩ := H
            replace H : ((seedcornlaw01_of.f kj7 6 a0 t172).bind fun t173 => (if t171 = t173 then ((seedcornlaw01_of.f kj7 6 t161 a2).bind fun t174 => ((seedcornlaw01_of.f kj7 6 a0 a2).bind fun t175 => ((seedcornlaw01_of.f kj7 4 t175 t172).bind fun t176 => (some (t174 == t176))))) else (some false))) = some r := H
            have A24 := Aside0.mk A240
            clear A240
            replace H := Option.bind_eq_some_iff.mp H
            obtain ⟨t173, A250, H⟩ := H
            replace H : (if t171 = t173 then ((seedcornlaw01_of.f kj7 6 t161 a2).bind fun t174 => ((seedcornlaw01_of.f kj7 6 a0 a2).bind fun t175 => ((seedcornlaw01_of.f kj7 4 t175 t172).bind fun t176 => (some (t174 == t176))))) else (some false)) = some r := H
            have A25 := Aside0.mk A250
            clear A250
            by_cases c26 : t171 = t173
            · rw [if_pos c26] at H
              have c26b0 : (t171 == t173) = true := beq_iff_eq.mpr c26
              have c26b1 : (t171 != t173) = false := bne_eq_false_iff_eq.mpr c26
              clear c26
              replace H := Option.bind_eq_some_iff.mp H
              obtain ⟨t174, A270, H⟩ := H
              replace H : ((seedcornlaw01_of.f kj7 6 a0 a2).bind fun t175 => ((seedcornlaw01_of.f kj7 4 t175 t172).bind fun t176 => (some (t174 == t176)))) = some r := H
              have A27 := Aside0.mk A270
              clear A270
              replace H := Option.bind_eq_some_iff.mp H
              obtain ⟨t175, A280, H⟩ := H
              replace H : ((seedcornlaw01_of.f kj7 4 t175 t172).bind fun t176 => (some (t174 == t176))) = some r := H
              have A28 := Aside0.mk A280
              clear A280
              replace H := Option.bind_eq_some_iff.mp H
              obtain ⟨t176, A290, H⟩ := H
              replace H : (some (t174 == t176)) = some r := H
              have A29 := Aside0.mk A290
              clear A290
              obtain rfl := Option.some.inj H
              go_wp2_with (first | ((with_reducible refine gate_callee (f := 15) rfl ?_); refine goesL_ (some 47) rfl rfl Try.func15 (by kernel_rfl) rfl #[.int .i64 4, .int .u32 t161, .int .u32 a2] rfl (by (try simp only [List.map_toArray, List.map_cons, List.map_nil]); first | done | rfl | (simp only [List.length_drop, List.length_take]; rfl)) ?_; (with_reducible refine (seedcornlaw01_of.calls kj7 4 t161 a2 t168 _ A19.out).mono ?_); rintro e w' ⟨rfl, ⟨nd, rfl⟩⟩; refine ⟨_, rfl, ?_⟩) | ((with_reducible refine gate_callee (f := 15) rfl ?_); refine goesL_ (some 51) rfl rfl Try.func15 (by kernel_rfl) rfl #[.int .i64 4, .int .u32 a1, .int .u32 a2] rfl (by (try simp only [List.map_toArray, List.map_cons, List.map_nil]); first | done | rfl | (simp only [List.length_drop, List.length_take]; rfl)) ?_; (with_reducible refine (seedcornlaw01_of.calls kj7 4 a1 a2 t169 _ A20.out).mono ?_); rintro e w' ⟨rfl, ⟨nd, rfl⟩⟩; refine ⟨_, rfl, ?_⟩) | ((with_reducible refine gate_callee (f := 15) rfl ?_); refine goesL_ (some 52) rfl rfl Try.func15 (by kernel_rfl) rfl #[.int .i64 4, .int .u32 a0, .int .u32 t169] rfl (by (try simp only [List.map_toArray, List.map_cons, List.map_nil]); first | done | rfl | (simp only [List.length_drop, List.length_take]; rfl)) ?_; (with_reducible refine (seedcornlaw01_of.calls kj7 4 a0 t169 t170 _ A21.out).mono ?_); rintro e w' ⟨rfl, ⟨nd, rfl⟩⟩; refine ⟨_, rfl, ?_⟩) | (go_at_call 15; (with_reducible refine (seedcornlaw01_of.calls kj7 6 t162 a2 t171 _ A23.out).mono ?_); rintro e w' ⟨rfl, ⟨nd, rfl⟩⟩) | (go_at_call 15; (with_reducible refine (seedcornlaw01_of.calls kj7 6 a1 a2 t172 _ A24.out).mono ?_); rintro e w' ⟨rfl, ⟨nd, rfl⟩⟩) | (go_at_call 15; (with_reducible refine (seedcornlaw01_of.calls kj7 6 a0 t172 t173 _ A25.out).mono ?_); rintro e w' ⟨rfl, ⟨nd, rfl⟩⟩) | (go_at_call 15; (with_reducible refine (seedcornlaw01_of.calls kj7 6 t161 a2 t174 _ A27.out).mono ?_); rintro e w' ⟨rfl, ⟨nd, rfl⟩⟩) | (go_at_call 15; (with_reducible refine (seedcornlaw01_of.calls kj7 6 a0 a2 t175 _ A28.out).mono ?_); rintro e w' ⟨rfl, ⟨nd, rfl⟩⟩) | (go_at_call 15; (with_reducible refine (seedcornlaw01_of.calls kj7 4 t175 t172 t176 _ A29.out).mono ?_); rintro e w' ⟨rfl, ⟨nd, rfl⟩⟩))
              go_ret
              exact ⟨by first | rfl | (simp [errW_none, errW_some] <;> rfl) | (simp [*, errW_none, errW_some] <;> rfl), by repeat (first | (with_reducible first | exact HB.out | apply below_alloc | apply pw_below_drewN | apply below_drew1) | exact HB.out)⟩
            · rw [if_neg c26] at H
              have c26b0 : (t171 == t173) = false := beq_eq_false_iff_ne.mpr c26
              have c26b1 : (t171 != t173) = true := bne_iff_ne.mpr c26
              obtain rfl := Option.some.inj H
              go_wp2_with (first | ((with_reducible refine gate_callee (f := 15) rfl ?_); refine goesL_ (some 47) rfl rfl Try.func15 (by kernel_rfl) rfl #[.int .i64 4, .int .u32 t161, .int .u32 a2] rfl (by (try simp only [List.map_toArray, List.map_cons, List.map_nil]); first | done | rfl | (simp only [List.length_drop, List.length_take]; rfl)) ?_; (with_reducible refine (seedcornlaw01_of.calls kj7 4 t161 a2 t168 _ A19.out).mono ?_); rintro e w' ⟨rfl, ⟨nd, rfl⟩⟩; refine ⟨_, rfl, ?_⟩) | ((with_reducible refine gate_callee (f := 15) rfl ?_); refine goesL_ (some 51) rfl rfl Try.func15 (by kernel_rfl) rfl #[.int .i64 4, .int .u32 a1, .int .u32 a2] rfl (by (try simp only [List.map_toArray, List.map_cons, List.map_nil]); first | done | rfl | (simp only [List.length_drop, List.length_take]; rfl)) ?_; (with_reducible refine (seedcornlaw01_of.calls kj7 4 a1 a2 t169 _ A20.out).mono ?_); rintro e w' ⟨rfl, ⟨nd, rfl⟩⟩; refine ⟨_, rfl, ?_⟩) | ((with_reducible refine gate_callee (f := 15) rfl ?_); refine goesL_ (some 52) rfl rfl Try.func15 (by kernel_rfl) rfl #[.int .i64 4, .int .u32 a0, .int .u32 t169] rfl (by (try simp only [List.map_toArray, List.map_cons, List.map_nil]); first | done | rfl | (simp only [List.length_drop, List.length_take]; rfl)) ?_; (with_reducible refine (seedcornlaw01_of.calls kj7 4 a0 t169 t170 _ A21.out).mono ?_); rintro e w' ⟨rfl, ⟨nd, rfl⟩⟩; refine ⟨_, rfl, ?_⟩) | (go_at_call 15; (with_reducible refine (seedcornlaw01_of.calls kj7 6 t162 a2 t171 _ A23.out).mono ?_); rintro e w' ⟨rfl, ⟨nd, rfl⟩⟩) | (go_at_call 15; (with_reducible refine (seedcornlaw01_of.calls kj7 6 a1 a2 t172 _ A24.out).mono ?_); rintro e w' ⟨rfl, ⟨nd, rfl⟩⟩) | (go_at_call 15; (with_reducible refine (seedcornlaw01_of.calls kj7 6 a0 t172 t173 _ A25.out).mono ?_); rintro e w' ⟨rfl, ⟨nd, rfl⟩⟩))
              go_ret
              exact ⟨by first | rfl | (simp [errW_none, errW_some] <;> rfl) | (simp [*, errW_none, errW_some] <;> rfl), by repeat (first | (with_reducible first | exact HB.out | apply below_alloc | apply pw_below_drewN | apply below_drew1) | exact HB.out)⟩
          · rw [if_neg c22] at H
            have c22b0 : (t168 == t170) = false := beq_eq_false_iff_ne.mpr c22
            have c22b1 : (t168 != t170) = true := bne_iff_ne.mpr c22
            obtain rfl := Option.some.inj H
            go_wp2_with (first | ((with_reducible refine gate_callee (f := 15) rfl ?_); refine goesL_ (some 47) rfl rfl Try.func15 (by kernel_rfl) rfl #[.int .i64 4, .int .u32 t161, .int .u32 a2] rfl (by (try simp only [List.map_toArray, List.map_cons, List.map_nil]); first | done | rfl | (simp only [List.length_drop, List.length_take]; rfl)) ?_; (with_reducible refine (seedcornlaw01_of.calls kj7 4 t161 a2 t168 _ A19.out).mono ?_); rintro e w' ⟨rfl, ⟨nd, rfl⟩⟩; refine ⟨_, rfl, ?_⟩) | ((with_reducible refine gate_callee (f := 15) rfl ?_); refine goesL_ (some 51) rfl rfl Try.func15 (by kernel_rfl) rfl #[.int .i64 4, .int .u32 a1, .int .u32 a2] rfl (by (try simp only [List.map_toArray, List.map_cons, List.map_nil]); first | done | rfl | (simp only [List.length_drop, List.length_take]; rfl)) ?_; (with_reducible refine (seedcornlaw01_of.calls kj7 4 a1 a2 t169 _ A20.out).mono ?_); rintro e w' ⟨rfl, ⟨nd, rfl⟩⟩; refine ⟨_, rfl, ?_⟩) | ((with_reducible refine gate_callee (f := 15) rfl ?_); refine goesL_ (some 52) rfl rfl Try.func15 (by kernel_rfl) rfl #[.int .i64 4, .int .u32 a0, .int .u32 t169] rfl (by (try simp only [List.map_toArray, List.map_cons, List.map_nil]); first | done | rfl | (simp only [List.length_drop, List.length_take]; rfl)) ?_; (with_reducible refine (seedcornlaw01_of.calls kj7 4 a0 t169 t170 _ A21.out).mono ?_); rintro e w' ⟨rfl, ⟨nd, rfl⟩⟩; refine ⟨_, rfl, ?_⟩))
            go_ret
            exact ⟨by first | rfl | (simp [errW_none, errW_some] <;> rfl) | (simp [*, errW_none, errW_some] <;> rfl), by repeat (first | (with_reducible first | exact HB.out | apply below_alloc | apply pw_below_drewN | apply below_drew1) | exact HB.out)⟩
  · replace c5 := Bool.eq_false_iff.mpr c5
    subst c5
    have H1 : (some false) = some r := by rw [if_neg (show ¬ (false = true) by decide)] at H; exact H
    clear H
    have H := H1
    clear H1
    obtain rfl := Option.some.inj H
    go_enter Try.func5, Try.ntmps5
    go_wp2_with (first | ((with_reducible refine gate_callee (f := 10) rfl ?_); refine goesL_ (some 9) rfl rfl Try.func10 (by kernel_rfl) rfl #[] rfl (by (try simp only [List.map_toArray, List.map_cons, List.map_nil]); first | done | rfl | (simp only [List.length_drop, List.length_take]; rfl)) ?_; (with_reducible refine (seedcornlaw01_alive.calls k  false _ A4.out).mono ?_); rintro e w30 ⟨rfl, hb⟩; refine ⟨_, rfl, ?_⟩; have n0_ := Aside0.mk (below_step (by repeat (first | (with_reducible first | exact HB.out | apply below_alloc | apply pw_below_drewN | apply below_drew1) | exact HB.out)) hb); clear HB; have HB := n0_; clear n0_; (try clear hb); (try clear hb2); (try clear hk); (try clear hi)))
    go_ret
    exact ⟨by first | rfl | (simp [errW_none, errW_some] <;> rfl) | (simp [*, errW_none, errW_some] <;> rfl), by repeat (first | (with_reducible first | exact HB.out | apply below_alloc | apply pw_below_drewN | apply below_drew1) | exact HB.out)⟩

/-- THE ONE PURE STATEMENT of seedcornlaw01_WordRing: yours. -/
def seedcornlaw01_WordRing.Pure : Prop := ∀ (a0 : Int) (a1 : Int) (a2 : Int), (Lit.int .u32 a0).wf = true → (Lit.int .u32 a1).wf = true → (Lit.int .u32 a2).wf = true → ∃ k, seedcornlaw01_WordRing.f k a0 a1 a2 = some true
theorem seedcornlaw01_WordRing.walk (P : seedcornlaw01_WordRing.Pure) (a0 : Int) (a1 : Int) (a2 : Int) (w : World) (w0 : (Lit.int .u32 a0).wf = true) (w1 : (Lit.int .u32 a1).wf = true) (w2 : (Lit.int .u32 a2).wf = true) :
    Calls Try.prog 5 #[.int .u32 a0, .int .u32 a1, .int .u32 a2] w fun e w' => e = .returned (.bool true) ∧ Below w.heap.size w w' := by
  obtain ⟨k, h⟩ := P a0 a1 a2 w0 w1 w2
  refine (seedcornlaw01_WordRing.calls k a0 a1 a2 true w h).mono ?_
  rintro e w' ⟨rfl, hd⟩
  exact ⟨rfl, hd⟩

end Go.Proofs.Ytdmgponiefhlnaa.Q
