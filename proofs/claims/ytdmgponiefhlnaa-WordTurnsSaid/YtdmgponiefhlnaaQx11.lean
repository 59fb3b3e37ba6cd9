-- Written by a program of this session (wip/tools/xprint.py) over the kit's print.
import Derived.Test.YtdmgponiefhlnaaQx0
import Derived.Test.YtdmgponiefhlnaaQx2
import Derived.Test.YtdmgponiefhlnaaQx3
import Derived.Test.YtdmgponiefhlnaaQx5
import Derived.Test.YtdmgponiefhlnaaQx10
namespace Go.Proofs.Ytdmgponiefhlnaa.Q
open Go.RowKit Go.Proofs.YtdmgponiefhlnaaW.PrintWords Go.Proofs.YtdmgponiefhlnaaW.PrintLast Go.Proofs.YtdmgponiefhlnaaW.PrintMore
attribute [local go_sem] max2_int min2_int max_two min_two max_three min_three max_four min_four   -- for this text's walks alone
set_option linter.unusedVariables false
set_option linter.unusedSimpArgs false

/-! ### seedcornlaw01_WordTurns: function 4 -/
def seedcornlaw01_WordTurns.f (k : Nat) (a0 : Int) (a1 : Int) (a2 : Int) : Option (Bool) := (seedcornlaw01_alive.f k).bind fun t151 => (if t151 = true then ((word_Turn.f a0 a1).bind fun t152 => ((seedcornref01_Turn.f k a0 a1).bind fun t153 => (if t152 = t153 then ((word_Turn.f t152 a2).bind fun t154 => ((word_Turn.f a0 (wrap64 ((Int.tmod a1 32) + (Int.tmod a2 32)))).bind fun t155 => (if t154 = t155 then ((word_Turn.f a0 (Int.tmod a2 32)).bind fun t156 => ((word_Turn.f t156 (wrap64 (-(Int.tmod a2 32)))).bind fun t157 => (some (t157 == a0)))) else (some false)))) else (some false)))) else (some false))
theorem seedcornlaw01_WordTurns.mono : ∀ a0 a1 a2 k, LeO (seedcornlaw01_WordTurns.f k a0 a1 a2) (seedcornlaw01_WordTurns.f (k + 1) a0 a1 a2) := by
  intro a0 a1 a2 k
  unfold seedcornlaw01_WordTurns.f
  repeat' first
      | (with_reducible exact seedcornlaw01_alive.mono _)
      | (with_reducible exact seedcornref01_Turn.mono _ _ _)
      | (with_reducible exact LeO.refl _)
      | (with_reducible exact LeO.none _)
      | (with_reducible refine LeO.ite ?_ ?_)
      | (with_reducible refine LeO.bind ?_ (fun _ => ?_))
      | exact seedcornlaw01_alive.mono _
      | exact seedcornref01_Turn.mono _ _ _
      | exact LeO.none _
      | refine LeO.ite ?_ ?_
      | refine LeO.bind ?_ (fun _ => ?_)
set_option maxHeartbeats 8000000 in
set_option maxRecDepth 100000 in
theorem seedcornlaw01_WordTurns.calls (k : Nat) (a0 : Int) (a1 : Int) (a2 : Int) (r : Bool) (w : World) (h : seedcornlaw01_WordTurns.f k a0 a1 a2 = some r) :
    Calls Try.prog 4 #[.int .u32 a0, .int .i64 a1, .int .i64 a2] w fun e w' => e = .returned (.bool r) ∧ Below w.heap.size w w' := by
  have HB := Aside0.mk (Below.refl w.heap.size w)
  have H : ((seedcornlaw01_alive.f k).bind fun t151 => (if t151 = true then ((word_Turn.f a0 a1).bind fun t152 => ((seedcornref01_Turn.f k a0 a1).bind fun t153 => (if t152 = t153 then ((word_Turn.f t152 a2).bind fun t154 => ((word_Turn.f a0 (wrap64 ((Int.tmod a1 32) + (Int.tmod a2 32)))).bind fun t155 => (if t154 = t155 then ((word_Turn.f a0 (Int.tmod a2 32)).bind fun t156 => ((word_Turn.f t156 (wrap64 (-(Int.tmod a2 32)))).bind fun t157 => (some (t157 == a0)))) else (some false)))) else (some false)))) else (some false))) = some r := h
  clear h
  replace H := Option.bind_eq_some_iff.mp H
  obtain ⟨t151, A40, H⟩ := H
  replace H : (if t151 = true then ((word_Turn.f a0 a1).bind fun t152 => ((seedcornref01_Turn.f k a0 a1).bind fun t153 => (if t152 = t153 then ((word_Turn.f t152 a2).bind fun t154 => ((word_Turn.f a0 (wrap64 ((Int.tmod a1 32) + (Int.tmod a2 32)))).bind fun t155 => (if t154 = t155 then ((word_Turn.f a0 (Int.tmod a2 32)).bind fun t156 => ((word_Turn.f t156 (wrap64 (-(Int.tmod a2 32)))).bind fun t157 => (some (t157 == a0)))) else (some false)))) else (some false)))) else (some false)) = some r := H
  have A4 := Aside0.mk A40
  clear A40
  by_cases c5 : t151 = true
  · subst c5
    have H1 : ((word_Turn.f a0 a1).bind fun t152 => ((seedcornref01_Turn.f k a0 a1).bind fun t153 => (if t152 = t153 then ((word_Turn.f t152 a2).bind fun t154 => ((word_Turn.f a0 (wrap64 ((Int.tmod a1 32) + (Int.tmod a2 32)))).bind fun t155 => (if t154 = t155 then ((word_Turn.f a0 (Int.tmod a2 32)).bind fun t156 => ((word_Turn.f t156 (wrap64 (-(Int.tmod a2 32)))).bind fun t157 => (some (t157 == a0)))) else (some false)))) else (some false)))) = some r := by rw [if_pos rfl] at H; exact H
    clear H
    have H := H1
    clear H1
    replace H := Option.bind_eq_some_iff.mp H
    obtain ⟨t152, A60, H⟩ := H
    replace H : ((seedcornref01_Turn.f k a0 a1).bind fun t153 => (if t152 = t153 then ((word_Turn.f t152 a2).bind fun t154 => ((word_Turn.f a0 (wrap64 ((Int.tmod a1 32) + (Int.tmod a2 32)))).bind fun t155 => (if t154 = t155 then ((word_Turn.f a0 (Int.tmod a2 32)).bind fun t156 => ((word_Turn.f t156 (wrap64 (-(Int.tmod a2 32)))).bind fun t157 => (some (t157 == a0)))) else (some false)))) else (some false))) = some r := H
    have A6 := Aside0.mk A60
    clear A60
    replace H := Option.bind_eq_some_iff.mp H
    obtain ⟨t153, A70, H⟩ := H
    replace H : (if t152 = t153 then ((word_Turn.f t152 a2).bind fun t154 => ((word_Turn.f a0 (wrap64 ((Int.tmod a1 32) + (Int.tmod a2 32)))).bind fun t155 => (if t154 = t155 then ((word_Turn.f a0 (Int.tmod a2 32)).bind fun t156 => ((word_Turn.f t156 (wrap64 (-(Int.tmod a2 32)))).bind fun t157 => (some (t157 == a0)))) else (some false)))) else (some false)) = some r := H
    have A7 := Aside0.mk A70
    clear A70
    by_cases c8 : t152 = t153
    · rw [if_pos c8] at H
      have c8b0 : (t152 == t153) = true := beq_iff_eq.mpr c8
      have c8b1 : (t152 != t153) = false := bne_eq_false_iff_eq.mpr c8
      clear c8
      replace H := Option.bind_eq_some_iff.mp H
      obtain ⟨t154, A90, H⟩ := H
      replace H : ((word_Turn.f a0 (wrap64 ((Int.tmod a1 32) + (Int.tmod a2 32)))).bind fun t155 => (if t154 = t155 then ((word_Turn.f a0 (Int.tmod a2 32)).bind fun t156 => ((word_Turn.f t156 (wrap64 (-(Int.tmod a2 32)))).bind fun t157 => (some (t157 == a0)))) else (some false))) = some r := H
      have A9 := Aside0.mk A90
      clear A90
      replace H := Option.bind_eq_some_iff.mp H
      obtain ⟨t155, A100, H⟩ := H
      replace H : (if t154 = t155 then ((word_Turn.f a0 (Int.tmod a2 32)).bind fun t156 => ((word_Turn.f t156 (wrap64 (-(Int.tmod a2 32)))).bind fun t157 => (some (t157 == a0)))) else (some false)) = some r := H
      have A10 := Aside0.mk A100
      clear A100
      by_cases c11 : t154 = t155
      · rw [if_pos c11] at H
        have c11b0 : (t154 == t155) = true := beq_iff_eq.mpr c11
        have c11b1 : (t154 != t155) = false := bne_eq_false_iff_eq.mpr c11
        clear c11
        replace H := Option.bind_eq_some_iff.mp H
        obtain ⟨t156, A120, H⟩ := H
        replace H : ((word_Turn.f t156 (wrap64 (-(Int.tmod a2 32)))).bind fun t157 => (some (t157 == a0))) = some r := H
        have A12 := Aside0.mk A120
        clear A120
        replace H := Option.bind_eq_some_iff.mp H
        obtain ⟨t157, A130, H⟩ := H
        replace H : (some (t157 == a0)) = some r := H
        have A13 := Aside0.mk A130
        clear A130
        obtain rfl := Option.some.inj H
        go_enter Try.func4, Try.ntmps4
        go_wp2_with (first | ((with_reducible refine gate_callee (f := 10) rfl ?_); refine goesL_ (some 9) rfl rfl Try.func10 (by kernel_rfl) rfl #[] rfl (by (try simp only [List.map_toArray, List.map_cons, List.map_nil]); first | done | rfl | (simp only [List.length_drop, List.length_take]; rfl)) ?_; (with_reducible refine (seedcornlaw01_alive.calls k  true _ A4.out).mono ?_); rintro e w14 ⟨rfl, hb⟩; refine ⟨_, rfl, ?_⟩; have n0_ := Aside0.mk (below_step (by repeat (first | (with_reducible first | exact HB.out | apply below_alloc | apply pw_below_drewN | apply below_drew1) | exact HB.out)) hb); clear HB; have HB := n0_; clear n0_; (try clear hb); (try clear hb2); (try clear hk); (try clear hi)) | ((with_reducible refine gate_callee (f := 13) rfl ?_); refine goesL_ (some 13) rfl rfl Try.func13 (by kernel_rfl) rfl #[.int .u32 a0, .int .i64 a1] rfl (by (try simp only [List.map_toArray, List.map_cons, List.map_nil]); first | done | rfl | (simp only [List.length_drop, List.length_take]; rfl)) ?_; (with_reducible refine (word_Turn.calls a0 a1 t152 _ A6.out).mono ?_); rintro e w' ⟨rfl, ⟨nd, rfl⟩⟩; refine ⟨_, rfl, ?_⟩) | ((with_reducible refine gate_callee (f := 14) rfl ?_); refine goesL_ (some 17) rfl rfl Try.func14 (by kernel_rfl) rfl #[.int .u32 a0, .int .i64 a1] rfl (by (try simp only [List.map_toArray, List.map_cons, List.map_nil]); first | done | rfl | (simp only [List.length_drop, List.length_take]; rfl)) ?_; (with_reducible refine (seedcornref01_Turn.calls k a0 a1 t153 _ A7.out).mono ?_); rintro e w' ⟨rfl, ⟨nd, rfl⟩⟩; refine ⟨_, rfl, ?_⟩) | ((with_reducible refine gate_callee (f := 13) rfl ?_); refine goesL_ (some 26) rfl rfl Try.func13 (by kernel_rfl) rfl #[.int .u32 t152, .int .i64 a2] rfl (by (try simp only [List.map_toArray, List.map_cons, List.map_nil]); first | done | rfl | (simp only [List.length_drop, List.length_take]; rfl)) ?_; (with_reducible refine (word_Turn.calls t152 a2 t154 _ A9.out).mono ?_); rintro e w' ⟨rfl, ⟨nd, rfl⟩⟩; refine ⟨_, rfl, ?_⟩) | ((with_reducible refine gate_callee (f := 13) rfl ?_); refine goesL_ (some 29) rfl rfl Try.func13 (by kernel_rfl) rfl #[.int .u32 a0, .int .i64 (wrap64 ((Int.tmod a1 32) + (Int.tmod a2 32)))] rfl (by (try simp only [List.map_toArray, List.map_cons, List.map_nil]); first | done | rfl | (simp only [List.length_drop, List.length_take]; rfl)) ?_; (with_reducible refine (word_Turn.calls a0 (wrap64 ((Int.tmod a1 32) + (Int.tmod a2 32))) t155 _ A10.out).mono ?_); rintro e w' ⟨rfl, ⟨nd, rfl⟩⟩; refine ⟨_, rfl, ?_⟩) | (go_at_call 13; (with_reducible refine (word_Turn.calls a0 (Int.tmod a2 32) t156 _ A12.out).mono ?_); rintro e w' ⟨rfl, ⟨nd, rfl⟩⟩) | (go_at_call 13; (with_reducible refine (word_Turn.calls t156 (wrap64 (-(Int.tmod a2 32))) t157 _ A13.out).mono ?_); rintro e w' ⟨rfl, ⟨nd, rfl⟩⟩))
        go_ret
        exact ⟨by first | rfl | (simp [errW_none, errW_some] <;> rfl) | (simp [*, errW_none, errW_some] <;> rfl), by repeat (first | (with_reducible first | exact HB.out | apply below_alloc | apply pw_below_drewN | apply below_drew1) | exact HB.out)⟩
      · rw [if_neg c11] at H
        have c11b0 : (t154 == t155) = false := beq_eq_false_iff_ne.mpr c11
        have c11b1 : (t154 != t155) = true := bne_iff_ne.mpr c11
        obtain rfl := Option.some.inj H
        go_enter Try.func4, Try.ntmps4
        go_wp2_with (first | ((with_reducible refine gate_callee (f := 10) rfl ?_); refine goesL_ (some 9) rfl rfl Try.func10 (by kernel_rfl) rfl #[] rfl (by (try simp only [List.map_toArray, List.map_cons, List.map_nil]); first | done | rfl | (simp only [List.length_drop, List.length_take]; rfl)) ?_; (with_reducible refine (seedcornlaw01_alive.calls k  true _ A4.out).mono ?_); rintro e w15 ⟨rfl, hb⟩; refine ⟨_, rfl, ?_⟩; have n0_ := Aside0.mk (below_step (by repeat (first | (with_reducible first | exact HB.out | apply below_alloc | apply pw_below_drewN | apply below_drew1) | exact HB.out)) hb); clear HB; have HB := n0_; clear n0_; (try clear hb); (try clear hb2); (try clear hk); (try clear hi)) | ((with_reducible refine gate_callee (f := 13) rfl ?_); refine goesL_ (some 13) rfl rfl Try.func13 (by kernel_rfl) rfl #[.int .u32 a0, .int .i64 a1] rfl (by (try simp only [List.map_toArray, List.map_cons, List.map_nil]); first | done | rfl | (simp only [List.length_drop, List.length_take]; rfl)) ?_; (with_reducible refine (word_Turn.calls a0 a1 t152 _ A6.out).mono ?_); rintro e w' ⟨rfl, ⟨nd, rfl⟩⟩; refine ⟨_, rfl, ?_⟩) | ((with_reducible refine gate_callee (f := 14) rfl ?_); refine goesL_ (some 17) rfl rfl Try.func14 (by kernel_rfl) rfl #[.int .u32 a0, .int .i64 a1] rfl (by (try simp only [List.map_toArray, List.map_cons, List.map_nil]); first | done | rfl | (simp only [List.length_drop, List.length_take]; rfl)) ?_; (with_reducible refine (seedcornref01_Turn.calls k a0 a1 t153 _ A7.out).mono ?_); rintro e w' ⟨rfl, ⟨nd, rfl⟩⟩; refine ⟨_, rfl, ?_⟩) | ((with_reducible refine gate_callee (f := 13) rfl ?_); refine goesL_ (some 26) rfl rfl Try.func13 (by kernel_rfl) rfl #[.int .u32 t152, .int .i64 a2] rfl (by (try simp only [List.map_toArray, List.map_cons, List.map_nil]); first | done | rfl | (simp only [List.length_drop, List.length_take]; rfl)) ?_; (with_reducible refine (word_Turn.calls t152 a2 t154 _ A9.out).mono ?_); rintro e w' ⟨rfl, ⟨nd, rfl⟩⟩; refine ⟨_, rfl, ?_⟩) | ((with_reducible refine gate_callee (f := 13) rfl ?_); refine goesL_ (some 29) rfl rfl Try.func13 (by kernel_rfl) rfl #[.int .u32 a0, .int .i64 (wrap64 ((Int.tmod a1 32) + (Int.tmod a2 32)))] rfl (by (try simp only [List.map_toArray, List.map_cons, List.map_nil]); first | done | rfl | (simp only [List.length_drop, List.length_take]; rfl)) ?_; (with_reducible refine (word_Turn.calls a0 (wrap64 ((Int.tmod a1 32) + (Int.tmod a2 32))) t155 _ A10.out).mono ?_); rintro e w' ⟨rfl, ⟨nd, rfl⟩⟩; refine ⟨_, rfl, ?_⟩))
        go_ret
        exact ⟨by first | rfl | (simp [errW_none, errW_some] <;> rfl) | (simp [*, errW_none, errW_some] <;> rfl), by repeat (first | (with_reducible first | exact HB.out | apply below_alloc | apply pw_below_drewN | apply below_drew1) | exact HB.out)⟩
    · rw [if_neg c8] at H
      have c8b0 : (t152 == t153) = false := beq_eq_false_iff_ne.mpr c8
      have c8b1 : (t152 != t153) = true := bne_iff_ne.mpr c8
      obtain rfl := Option.some.inj H
      go_enter Try.func4, Try.ntmps4
      go_wp2_with (first | ((with_reducible refine gate_callee (f := 10) rfl ?_); refine goesL_ (some 9) rfl rfl Try.func10 (by kernel_rfl) rfl #[] rfl (by (try simp only [List.map_toArray, List.map_cons, List.map_nil]); first | done | rfl | (simp only [List.length_drop, List.length_take]; rfl)) ?_; (with_reducible refine (seedcornlaw01_alive.calls k  true _ A4.out).mono ?_); rintro e w16 ⟨rfl, hb⟩; refine ⟨_, rfl, ?_⟩; have n0_ := Aside0.mk (below_step (by repeat (first | (with_reducible first | exact HB.out | apply below_alloc | apply pw_below_drewN | apply below_drew1) | exact HB.out)) hb); clear HB; have HB := n0_; clear n0_; (try clear hb); (try clear hb2); (try clear hk); (try clear hi)) | ((with_reducible refine gate_callee (f := 13) rfl ?_); refine goesL_ (some 13) rfl rfl Try.func13 (by kernel_rfl) rfl #[.int .u32 a0, .int .i64 a1] rfl (by (try simp only [List.map_toArray, List.map_cons, List.map_nil]); first | done | rfl | (simp only [List.length_drop, List.length_take]; rfl)) ?_; (with_reducible refine (word_Turn.calls a0 a1 t152 _ A6.out).mono ?_); rintro e w' ⟨rfl, ⟨nd, rfl⟩⟩; refine ⟨_, rfl, ?_⟩) | ((with_reducible refine gate_callee (f := 14) rfl ?_); refine goesL_ (some 17) rfl rfl Try.func14 (by kernel_rfl) rfl #[.int .u32 a0, .int .i64 a1] rfl (by (try simp only [List.map_toArray, List.map_cons, List.map_nil]); first | done | rfl | (simp only [List.length_drop, List.length_take]; rfl)) ?_; (with_reducible refine (seedcornref01_Turn.calls k a0 a1 t153 _ A7.out).mono ?_); rintro e w' ⟨rfl, ⟨nd, rfl⟩⟩; refine ⟨_, rfl, ?_⟩))
      go_ret
      exact ⟨by first | rfl | (simp [errW_none, errW_some] <;> rfl) | (simp [*, errW_none, errW_some] <;> rfl), by repeat (first | (with_reducible first | exact HB.out | apply below_alloc | apply pw_below_drewN | apply below_drew1) | exact HB.out)⟩
  · replace c5 := Bool.eq_false_iff.mpr c5
    subst c5
    have H1 : (some false) = some r := by rw [if_neg (show ¬ (false = true) by decide)] at H; exact H
    clear H
    have H := H1
    clear H1
    obtain rfl := Option.some.inj H
    go_enter Try.func4, Try.ntmps4
    go_wp2_with (first | ((with_reducible refine gate_callee (f := 10) rfl ?_); refine goesL_ (some 9) rfl rfl Try.func10 (by kernel_rfl) rfl #[] rfl (by (try simp only [List.map_toArray, List.map_cons, List.map_nil]); first | done | rfl | (simp only [List.length_drop, List.length_take]; rfl)) ?_; (with_reducible refine (seedcornlaw01_alive.calls k  false _ A4.out).mono ?_); rintro e w17 ⟨rfl, hb⟩; refine ⟨_, rfl, ?_⟩; have n0_ := Aside0.mk (below_step (by repeat (first | (with_reducible first | exact HB.out | apply below_alloc | apply pw_below_drewN | apply below_drew1) | exact HB.out)) hb); clear HB; have HB := n0_; clear n0_; (try clear hb); (try clear hb2); (try clear hk); (try clear hi)))
    go_ret
    exact ⟨by first | rfl | (simp [errW_none, errW_some] <;> rfl) | (simp [*, errW_none, errW_some] <;> rfl), by repeat (first | (with_reducible first | exact HB.out | apply below_alloc | apply pw_below_drewN | apply below_drew1) | exact HB.out)⟩

/-- THE ONE PURE STATEMENT of seedcornlaw01_WordTurns: yours. -/
def seedcornlaw01_WordTurns.Pure : Prop := ∀ (a0 : Int) (a1 : Int) (a2 : Int), (Lit.int .u32 a0).wf = true → (Lit.int .i64 a1).wf = true → (Lit.int .i64 a2).wf = true → ∃ k, seedcornlaw01_WordTurns.f k a0 a1 a2 = some true
theorem seedcornlaw01_WordTurns.walk (P : seedcornlaw01_WordTurns.Pure) (a0 : Int) (a1 : Int) (a2 : Int) (w : World) (w0 : (Lit.int .u32 a0).wf = true) (w1 : (Lit.int .i64 a1).wf = true) (w2 : (Lit.int .i64 a2).wf = true) :
    Calls Try.prog 4 #[.int .u32 a0, .int .i64 a1, .int .i64 a2] w fun e w' => e = .returned (.bool true) ∧ Below w.heap.size w w' := by
  obtain ⟨k, h⟩ := P a0 a1 a2 w0 w1 w2
  refine (seedcornlaw01_WordTurns.calls k a0 a1 a2 true w h).mono ?_
  rintro e w' ⟨rfl, hd⟩
  exact ⟨rfl, hd⟩

/-! ### seedcornlaw01_of: function 15 -/
def seedcornlaw01_of.f (k : Nat) (a0 : Int) (a1 : Int) (a2 : Int) : Option (Int) := (word_Apply.f k a0 a1 a2).bind fun bt158 => (some bt158.1)
theorem seedcornlaw01_of.mono : ∀ a0 a1 a2 k, LeO (seedcornlaw01_of.f k a0 a1 a2) (seedcornlaw01_of.f (k + 1) a0 a1 a2) := by
  intro a0 a1 a2 k
  unfold seedcornlaw01_of.f
  repeat' first
      | (with_reducible exact word_Apply.mono _ _ _ _)
      | (with_reducible exact LeO.refl _)
      | (with_reducible exact LeO.none _)
      | (with_reducible refine LeO.ite ?_ ?_)
      | (with_reducible refine LeO.bind ?_ (fun _ => ?_))
      | exact word_Apply.mono _ _ _ _
      | exact LeO.none _
      | refine LeO.ite ?_ ?_
      | refine LeO.bind ?_ (fun _ => ?_)
set_option maxHeartbeats 8000000 in
set_option maxRecDepth 100000 in
theorem seedcornlaw01_of.calls (k : Nat) (a0 : Int) (a1 : Int) (a2 : Int) (r : Int) (w : World) (h : seedcornlaw01_of.f k a0 a1 a2 = some r) :
    Calls Try.prog 15 #[.int .i64 a0, .int .u32 a1, .int .u32 a2] w fun e w' => e = .returned (.int .u32 r) ∧ Drawn0 w w' := by
  have H : ((word_Apply.f k a0 a1 a2).bind fun bt158 => (some bt158.1)) = some r := h
  clear h
  replace H := Option.bind_eq_some_iff.mp H
  obtain ⟨⟨t158, t159⟩, A40, H⟩ := H
  replace H : (some t158) = some r := H
  have A4 := Aside0.mk A40
  clear A40
  obtain rfl := Option.some.inj H
  go_enter Try.func15, Try.ntmps15
  go_wp2_with (first | ((with_reducible refine gate_callee (f := 11) rfl ?_); refine goesL_ (some 13) rfl rfl Try.func11 (by kernel_rfl) rfl #[.int .i64 a0, .int .u32 a1, .int .u32 a2] rfl (by (try simp only [List.map_toArray, List.map_cons, List.map_nil]); first | done | rfl | (simp only [List.length_drop, List.length_take]; rfl)) ?_; (with_reducible refine (word_Apply.calls k a0 a1 a2 t158 t159 _ A4.out).mono ?_); rintro e w' ⟨rfl, ⟨nd, rfl⟩⟩; refine ⟨_, rfl, ?_⟩))
  go_ret
  exact ⟨by first | rfl | (simp; done) | (simp [*]; done), by repeat (first | exact Drawn0.refl _ | apply Drawn0.step)⟩

end Go.Proofs.Ytdmgponiefhlnaa.Q
