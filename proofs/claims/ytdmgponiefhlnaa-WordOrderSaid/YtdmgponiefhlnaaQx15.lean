-- Written by a program of this session (wip/tools/xprint.py) over the kit's print.
import Derived.Test.YtdmgponiefhlnaaQx0
import Derived.Test.YtdmgponiefhlnaaQx5
import Derived.Test.YtdmgponiefhlnaaQx11
namespace Go.Proofs.Ytdmgponiefhlnaa.Q
open Go.RowKit Go.Proofs.YtdmgponiefhlnaaW.PrintWords Go.Proofs.YtdmgponiefhlnaaW.PrintLast Go.Proofs.YtdmgponiefhlnaaW.PrintMore
attribute [local go_sem] max2_int min2_int max_two min_two max_three min_three max_four min_four   -- for this text's walks alone
set_option linter.unusedVariables false
set_option linter.unusedSimpArgs false

/-! ### seedcornlaw01_WordOrder: function 8 -/
def seedcornlaw01_WordOrder.j0 : Nat → Int → Int → Int → Int → Bool → Option (Bool)
  | 0, _, _, _, _, _ => none
  | k + 1, x0, x1, x2, x7, x34 => if x34 = true then (some false) else (if x7 = 0 then (some true) else ((seedcornlaw01_of.f k 14 x1 x2).bind fun t196 => (if t196 = 0 then (some true) else ((seedcornlaw01_of.f k 14 x0 x2).bind fun t197 => (some (t197 == 1))))))
def seedcornlaw01_WordOrder.f (k : Nat) (a0 : Int) (a1 : Int) (a2 : Int) : Option (Bool) := (seedcornlaw01_alive.f k).bind fun t192 => (if t192 = true then ((seedcornlaw01_of.f k 14 a0 a1).bind fun t193 => ((seedcornlaw01_of.f k 14 a1 a0).bind fun t194 => ((seedcornlaw01_of.f k 15 a0 a1).bind fun t195 => (if ((((t193 + t194) % 4294967296) + t195) % 4294967296) = 1 then (seedcornlaw01_WordOrder.j0 k a0 a1 a2 t193 ((t195 == 1) != (a0 == a1))) else (seedcornlaw01_WordOrder.j0 k a0 a1 a2 t193 true))))) else (some false))
theorem seedcornlaw01_WordOrder.mono_l : ∀ k, (∀ y0 y1 y2 y3 y4, LeO (seedcornlaw01_WordOrder.j0 k y0 y1 y2 y3 y4) (seedcornlaw01_WordOrder.j0 (k + 1) y0 y1 y2 y3 y4))
  | 0 => fun _ _ _ _ _ r h => by simp [seedcornlaw01_WordOrder.j0] at h
  | k + 1 => by
    have ih0 := seedcornlaw01_WordOrder.mono_l k
    · intro y0 y1 y2 y3 y4
      unfold seedcornlaw01_WordOrder.j0
      repeat' first
      | (with_reducible exact ih0 _ _ _ _ _)
      | (with_reducible exact seedcornlaw01_alive.mono _)
      | (with_reducible exact seedcornlaw01_of.mono _ _ _ _)
      | (with_reducible exact LeO.refl _)
      | (with_reducible exact LeO.none _)
      | (with_reducible refine LeO.ite ?_ ?_)
      | (with_reducible refine LeO.bind ?_ (fun _ => ?_))
      | exact ih0 _ _ _ _ _
      | exact seedcornlaw01_alive.mono _
      | exact seedcornlaw01_of.mono _ _ _ _
      | exact LeO.none _
      | refine LeO.ite ?_ ?_
      | refine LeO.bind ?_ (fun _ => ?_)
theorem seedcornlaw01_WordOrder.mono : ∀ a0 a1 a2 k, LeO (seedcornlaw01_WordOrder.f k a0 a1 a2) (seedcornlaw01_WordOrder.f (k + 1) a0 a1 a2) := by
  intro a0 a1 a2 k
  have ih0 := seedcornlaw01_WordOrder.mono_l k
  unfold seedcornlaw01_WordOrder.f
  repeat' first
      | (with_reducible exact ih0 _ _ _ _ _)
      | (with_reducible exact seedcornlaw01_alive.mono _)
      | (with_reducible exact seedcornlaw01_of.mono _ _ _ _)
      | (with_reducible exact LeO.refl _)
      | (with_reducible exact LeO.none _)
      | (with_reducible refine LeO.ite ?_ ?_)
      | (with_reducible refine LeO.bind ?_ (fun _ => ?_))
      | exact ih0 _ _ _ _ _
      | exact seedcornlaw01_alive.mono _
      | exact seedcornlaw01_of.mono _ _ _ _
      | exact LeO.none _
      | refine LeO.ite ?_ ?_
      | refine LeO.bind ?_ (fun _ => ?_)
set_option maxHeartbeats 8000000 in
set_option maxRecDepth 100000 in
theorem seedcornlaw01_WordOrder.calls (k : Nat) (a0 : Int) (a1 : Int) (a2 : Int) (r : Bool) (w : World) (h : seedcornlaw01_WordOrder.f k a0 a1 a2 = some r) :
    Calls Try.prog 8 #[.int .u32 a0, .int .u32 a1, .int .u32 a2] w fun e w' => e = .returned (.bool r) ∧ Below w.heap.size w w' := by
  have HB := Aside0.mk (Below.refl w.heap.size w)
  have H : ((seedcornlaw01_alive.f k).bind fun t192 => (if t192 = true then ((seedcornlaw01_of.f k 14 a0 a1).bind fun t193 => ((seedcornlaw01_of.f k 14 a1 a0).bind fun t194 => ((seedcornlaw01_of.f k 15 a0 a1).bind fun t195 => (if ((((t193 + t194) % 4294967296) + t195) % 4294967296) = 1 then (seedcornlaw01_WordOrder.j0 k a0 a1 a2 t193 ((t195 == 1) != (a0 == a1))) else (seedcornlaw01_WordOrder.j0 k a0 a1 a2 t193 true))))) else (some false))) = some r := h
  clear h
  replace H := Option.bind_eq_some_iff.mp H
  obtain ⟨t192, A40, H⟩ := H
  replace H : (if t192 = true then ((seedcornlaw01_of.f k 14 a0 a1).bind fun t193 => ((seedcornlaw01_of.f k 14 a1 a0).bind fun t194 => ((seedcornlaw01_of.f k 15 a0 a1).bind fun t195 => (if ((((t193 + t194) % 4294967296) + t195) % 4294967296) = 1 then (seedcornlaw01_WordOrder.j0 k a0 a1 a2 t193 ((t195 == 1) != (a0 == a1))) else (seedcornlaw01_WordOrder.j0 k a0 a1 a2 t193 true))))) else (some false)) = some r := H
  have A4 := Aside0.mk A40
  clear A40
  by_cases c5 : t192 = true
  · subst c5
    have H1 : ((seedcornlaw01_of.f k 14 a0 a1).bind fun t193 => ((seedcornlaw01_of.f k 14 a1 a0).bind fun t194 => ((seedcornlaw01_of.f k 15 a0 a1).bind fun t195 => (if ((((t193 + t194) % 4294967296) + t195) % 4294967296) = 1 then (seedcornlaw01_WordOrder.j0 k a0 a1 a2 t193 ((t195 == 1) != (a0 == a1))) else (seedcornlaw01_WordOrder.j0 k a0 a1 a2 t193 true))))) = some r := by rw [if_pos rfl] at H; exact H
    clear H
    have H := H1
    clear H1
    replace H := Option.bind_eq_some_iff.mp H
    obtain ⟨t193, A60, H⟩ := H
    replace H : ((seedcornlaw01_of.f k 14 a1 a0).bind fun t194 => ((seedcornlaw01_of.f k 15 a0 a1).bind fun t195 => (if ((((t193 + t194) % 4294967296) + t195) % 4294967296) = 1 then (seedcornlaw01_WordOrder.j0 k a0 a1 a2 t193 ((t195 == 1) != (a0 == a1))) else (seedcornlaw01_WordOrder.j0 k a0 a1 a2 t193 true)))) = some r := H
    have A6 := Aside0.mk A60
    clear A60
    replace H := Option.bind_eq_some_iff.mp H
    obtain ⟨t194, A70, H⟩ := H
    replace H : ((seedcornlaw01_of.f k 15 a0 a1).bind fun t195 => (if ((((t193 + t194) % 4294967296) + t195) % 4294967296) = 1 then (seedcornlaw01_WordOrder.j0 k a0 a1 a2 t193 ((t195 == 1) != (a0 == a1))) else (seedcornlaw01_WordOrder.j0 k a0 a1 a2 t193 true))) = some r := H
    have A7 := Aside0.mk A70
    clear A70
    replace H := Option.bind_eq_some_iff.mp H
    obtain ⟨t195, A80, H⟩ := H
    replace H : (if ((((t193 + t194) % 4294967296) + t195) % 4294967296) = 1 then (seedcornlaw01_WordOrder.j0 k a0 a1 a2 t193 ((t195 == 1) != (a0 == a1))) else (seedcornlaw01_WordOrder.j0 k a0 a1 a2 t193 true)) = some r := H
    have A8 := Aside0.mk A80
    clear A80
    have HC9 := Aside0.mk H
    clear H
    go_enter Try.func8, Try.ntmps8
    go_upto_region 4 with (first | ((with_reducible refine gate_callee (f := 10) rfl ?_); refine goesL_ (some 10) rfl rfl Try.func10 (by kernel_rfl) rfl #[] rfl (by (try simp only [List.map_toArray, List.map_cons, List.map_nil]); first | done | rfl | (simp only [List.length_drop, List.length_take]; rfl)) ?_; (with_reducible refine (seedcornlaw01_alive.calls k  true _ A4.out).mono ?_); rintro e w10 ⟨rfl, hb⟩; refine ⟨_, rfl, ?_⟩; have n0_ := Aside0.mk (below_step (by repeat (first | (with_reducible first | exact HB.out | apply below_alloc | apply pw_below_drewN | apply below_drew1) | exact HB.out)) hb); clear HB; have HB := n0_; clear n0_; (try clear hb); (try clear hb2); (try clear hk); (try clear hi)) | ((with_reducible refine gate_callee (f := 15) rfl ?_); refine goesL_ (some 14) rfl rfl Try.func15 (by kernel_rfl) rfl #[.int .i64 14, .int .u32 a0, .int .u32 a1] rfl (by (try simp only [List.map_toArray, List.map_cons, List.map_nil]); first | done | rfl | (simp only [List.length_drop, List.length_take]; rfl)) ?_; (with_reducible refine (seedcornlaw01_of.calls k 14 a0 a1 t193 _ A6.out).mono ?_); rintro e w' ⟨rfl, ⟨nd, rfl⟩⟩; refine ⟨_, rfl, ?_⟩) | ((with_reducible refine gate_callee (f := 15) rfl ?_); refine goesL_ (some 17) rfl rfl Try.func15 (by kernel_rfl) rfl #[.int .i64 14, .int .u32 a1, .int .u32 a0] rfl (by (try simp only [List.map_toArray, List.map_cons, List.map_nil]); first | done | rfl | (simp only [List.length_drop, List.length_take]; rfl)) ?_; (with_reducible refine (seedcornlaw01_of.calls k 14 a1 a0 t194 _ A7.out).mono ?_); rintro e w' ⟨rfl, ⟨nd, rfl⟩⟩; refine ⟨_, rfl, ?_⟩) | ((with_reducible refine gate_callee (f := 15) rfl ?_); refine goesL_ (some 20) rfl rfl Try.func15 (by kernel_rfl) rfl #[.int .i64 15, .int .u32 a0, .int .u32 a1] rfl (by (try simp only [List.map_toArray, List.map_cons, List.map_nil]); first | done | rfl | (simp only [List.length_drop, List.length_take]; rfl)) ?_; (with_reducible refine (seedcornlaw01_of.calls k 15 a0 a1 t195 _ A8.out).mono ?_); rintro e w' ⟨rfl, ⟨nd, rfl⟩⟩; refine ⟨_, rfl, ?_⟩))
    (try simp only [Act.put, List.setIfInBounds_toArray, List.set_cons_zero, List.set_cons_succ])
    go_cut [34] (fun v34 wc => ∃ (kq : Nat) (x34_8 : Bool), v34 = .bool x34_8 ∧ Aside0 (seedcornlaw01_WordOrder.j0 kq a0 a1 a2 t193 x34_8 = some r) ∧ Aside0 (kq ≤ k) ∧ Aside0 (Below w.heap.size w wc))
    case first =>
      have H := HC9.out
      clear HC9
      by_cases c11 : ((((t193 + t194) % 4294967296) + t195) % 4294967296) = 1
      · rw [if_pos c11] at H
        have c11b0 : (((((t193 + t194) % 4294967296) + t195) % 4294967296) == 1) = true := beq_iff_eq.mpr c11
        have c11b1 : (((((t193 + t194) % 4294967296) + t195) % 4294967296) != 1) = false := bne_eq_false_iff_eq.mpr c11
        (try simp only [Int.emod_add_emod, Int.add_emod_emod] at c11b0 c11b1)
        clear c11
        (first | rw [c11b0] | (simp only [i64_w, i32_w]; rw [c11b0]) | skip)
        have H' := Aside0.mk H
        clear H
        go_wp2
        go_meet
        case rel => exact ⟨_, (((t195 == 1) != (a0 == a1))), (by first | rfl | (simp; done) | (simp [*]; done)), H', ⟨by first | omega | exact Nat.le_refl _⟩, ⟨by repeat (first | (with_reducible first | exact HB.out | apply below_alloc | apply pw_below_drewN | apply below_drew1) | exact HB.out)⟩⟩
      · rw [if_neg c11] at H
        have c11b0 : (((((t193 + t194) % 4294967296) + t195) % 4294967296) == 1) = false := beq_eq_false_iff_ne.mpr c11
        have c11b1 : (((((t193 + t194) % 4294967296) + t195) % 4294967296) != 1) = true := bne_iff_ne.mpr c11
        (try simp only [Int.emod_add_emod, Int.add_emod_emod] at c11b0 c11b1)
        (first | rw [c11b0] | (simp only [i64_w, i32_w]; rw [c11b0]) | skip)
        have H' := Aside0.mk H
        clear H
        go_wp2
        go_meet
        case rel => exact ⟨_, (true), (by first | rfl | (simp; done) | (simp [*]; done)), H', ⟨by first | omega | exact Nat.le_refl _⟩, ⟨by repeat (first | (with_reducible first | exact HB.out | apply below_alloc | apply pw_below_drewN | apply below_drew1) | exact HB.out)⟩⟩
    case rest =>
      clear HC9
      try clear c1
      try clear p2
      try clear c5
      try clear c8
      try clear c10
      try clear c11
      try clear c11b0
      try clear c11b1
      obtain ⟨kq, x34_8, rfl, HA, HJ8, HB⟩ := hcut
      cases kq with
      | zero => exact absurd HA.out (by simp [seedcornlaw01_WordOrder.j0])
      | succ kj8 =>
        have H := HA.out
        clear HA
        simp only [seedcornlaw01_WordOrder.j0] at H
        by_cases c12 : x34_8 = true
        · subst c12
          have H1 : (some false) = some r := by rw [if_pos rfl] at H; exact H
          clear H
          have H := H1
          clear H1
          obtain rfl := Option.some.inj H
          go_wp2
          go_ret
          exact ⟨by first | rfl | (simp [errW_none, errW_some] <;> rfl) | (simp [*, errW_none, errW_some] <;> rfl), by repeat (first | (with_reducible first | exact HB.out | apply below_alloc | apply pw_below_drewN | apply below_drew1) | exact HB.out)⟩
        · replace c12 := Bool.eq_false_iff.mpr c12
          subst c12
          have H1 : (if t193 = 0 then (some true) else ((seedcornlaw01_of.f kj8 14 a1 a2).bind fun t196 => (if t196 = 0 then (some true) else ((seedcornlaw01_of.f kj8 14 a0 a2).bind fun t197 => (some (t197 == 1)))))) = some r := by rw [if_neg (show ¬ (false = true) by decide)] at H; exact H
          clear H
          have H := H1
          clear H1
          by_cases c13 : t193 = 0
          · rw [if_pos c13] at H
            have c13b0 : (t193 == 0) = true := beq_iff_eq.mpr c13
            have c13b1 : (t193 != 0) = false := bne_eq_false_iff_eq.mpr c13
            clear c13
            obtain rfl := Option.some.inj H
            go_wp2
            go_ret
            exact ⟨by first | rfl | (simp [errW_none, errW_some] <;> rfl) | (simp [*, errW_none, errW_some] <;> rfl), by repeat (first | (with_reducible first | exact HB.out | apply below_alloc | apply pw_below_drewN | apply below_drew1) | exact HB.out)⟩
          · rw [if_neg c13] at H
            have c13b0 : (t193 == 0) = false := beq_eq_false_iff_ne.mpr c13
            have c13b1 : (t193 != 0) = true := bne_iff_ne.mpr c13
            replace H := Option.bind_eq_some_iff.mp H
            obtain ⟨t196, A140, H⟩ := H
            replace H : (if t196 = 0 then (some true) else ((seedcornlaw01_of.f kj8 14 a0 a2).bind fun t197 => (some (t197 == 1)))) = some r := H
            have A14 := Aside0.mk A140
            clear A140
            by_cases c15 : t196 = 0
            · rw [if_pos c15] at H
              have c15b0 : (t196 == 0) = true := beq_iff_eq.mpr c15
              have c15b1 : (t196 != 0) = false := bne_eq_false_iff_eq.mpr c15
              clear c15
              obtain rfl := Option.some.inj H
              go_wp2_with (first | (go_at_call 15; (with_reducible refine (seedcornlaw01_of.calls kj8 14 a1 a2 t196 _ A14.out).mono ?_); rintro e w' ⟨rfl, ⟨nd, rfl⟩⟩))
              go_ret
              exact ⟨by first | rfl | (simp [errW_none, errW_some] <;> rfl) | (simp [*, errW_none, errW_some] <;> rfl), by repeat (first | (with_reducible first | exact HB.out | apply below_alloc | apply pw_below_drewN | apply below_drew1) | exact HB.out)⟩
            · rw [if_neg c15] at H
              have c15b0 : (t196 == 0) = false := beq_eq_false_iff_ne.mpr c15
              have c15b1 : (t196 != 0) = true := bne_iff_ne.mpr c15
              replace H := Option.bind_eq_some_iff.mp H
              obtain ⟨t197, A160, H⟩ := H
              replace H : (some (t197 == 1)) = some r := H
              have A16 := Aside0.mk A160
              clear A160
              obtain rfl := Option.some.inj H
              go_wp2_with (first | (go_at_call 15; (with_reducible refine (seedcornlaw01_of.calls kj8 14 a1 a2 t196 _ A14.out).mono ?_); rintro e w' ⟨rfl, ⟨nd, rfl⟩⟩) | (go_at_call 15; (with_reducible refine (seedcornlaw01_of.calls kj8 14 a0 a2 t197 _ A16.out).mono ?_); rintro e w' ⟨rfl, ⟨nd, rfl⟩⟩))
              go_ret
              exact ⟨by first | rfl | (simp [errW_none, errW_some] <;> rfl) | (simp [*, errW_none, errW_some] <;> rfl), by repeat (first | (with_reducible first | exact HB.out | apply below_alloc | apply pw_below_drewN | apply below_drew1) | exact HB.out)⟩
  · replace c5 := Bool.eq_false_iff.mpr c5
    subst c5
    have H1 : (some false) = some r := by rw [if_neg (show ¬ (false = true) by decide)] at H; exact H
    clear H
    have H := H1
    clear H1
    obtain rfl := Option.some.inj H
    go_enter Try.func8, Try.ntmps8
    go_wp2_with (first | ((with_reducible refine gate_callee (f := 10) rfl ?_); refine goesL_ (some 10) rfl rfl Try.func10 (by kernel_rfl) rfl #[] rfl (by (try simp only [List.map_toArray, List.map_cons, List.map_nil]); first | done | rfl | (simp only [List.length_drop, List.length_take]; rfl)) ?_; (with_reducible refine (seedcornlaw01_alive.calls k  false _ A4.out).mono ?_); rintro e w17 ⟨rfl, hb⟩; refine ⟨_, rfl, ?_⟩; have n0_ := Aside0.mk (below_step (by repeat (first | (with_reducible first | exact HB.out | apply below_alloc | apply pw_below_drewN | apply below_drew1) | exact HB.out)) hb); clear HB; have HB := n0_; clear n0_; (try clear hb); (try clear hb2); (try clear hk); (try clear hi)))
    go_ret
    exact ⟨by first | rfl | (simp [errW_none, errW_some] <;> rfl) | (simp [*, errW_none, errW_some] <;> rfl), by repeat (first | (with_reducible first | exact HB.out | apply below_alloc | apply pw_below_drewN | apply below_drew1) | exact HB.out)⟩

/-- THE ONE PURE STATEMENT of seedcornlaw01_WordOrder: yours. -/
def seedcornlaw01_WordOrder.Pure : Prop := ∀ (a0 : Int) (a1 : Int) (a2 : Int), (Lit.int .u32 a0).wf = true → (Lit.int .u32 a1).wf = true → (Lit.int .u32 a2).wf = true → ∃ k, seedcornlaw01_WordOrder.f k a0 a1 a2 = some true
theorem seedcornlaw01_WordOrder.walk (P : seedcornlaw01_WordOrder.Pure) (a0 : Int) (a1 : Int) (a2 : Int) (w : World) (w0 : (Lit.int .u32 a0).wf = true) (w1 : (Lit.int .u32 a1).wf = true) (w2 : (Lit.int .u32 a2).wf = true) :
    Calls Try.prog 8 #[.int .u32 a0, .int .u32 a1, .int .u32 a2] w fun e w' => e = .returned (.bool true) ∧ Below w.heap.size w w' := by
  obtain ⟨k, h⟩ := P a0 a1 a2 w0 w1 w2
  refine (seedcornlaw01_WordOrder.calls k a0 a1 a2 true w h).mono ?_
  rintro e w' ⟨rfl, hd⟩
  exact ⟨rfl, hd⟩

end Go.Proofs.Ytdmgponiefhlnaa.Q
