-- Written by a program of this session (wip/tools/xprint.py) over the kit's print.
import Derived.Test.YtdmgponiefhlnaaQx0
import Derived.Test.YtdmgponiefhlnaaQx5
import Derived.Test.YtdmgponiefhlnaaQx11
namespace Go.Proofs.Ytdmgponiefhlnaa.Q
open Go.RowKit Go.Proofs.YtdmgponiefhlnaaW.PrintWords Go.Proofs.YtdmgponiefhlnaaW.PrintLast Go.Proofs.YtdmgponiefhlnaaW.PrintMore
attribute [local go_sem] max2_int min2_int max_two min_two max_three min_three max_four min_four   -- for this text's walks alone
set_option linter.unusedVariables false
set_option linter.unusedSimpArgs false

/-! ### seedcornlaw01_WordBits: function 7 -/
mutual
def seedcornlaw01_WordBits.j0 : Nat → Int → Int → Bool → Option (Bool)
  | 0, _, _, _ => none
  | k + 1, x0, x2, x45 => if x45 = true then (some false) else (seedcornlaw01_WordBits.l0 k x0 x2 ((Int.tmod x2 32) % 4294967296) 1 0)
def seedcornlaw01_WordBits.l0 : Nat → Int → Int → Int → Int → Int → Option (Bool)
  | 0, _, _, _, _, _ => none
  | k + 1, x0, x2, x10, x11, x12 => if x12 < x10 then (seedcornlaw01_WordBits.l0 k x0 x2 x10 ((2 * x11) % 4294967296) ((x12 + 1) % 4294967296)) else (if ((x2) % 4294967296) < 32 then (seedcornlaw01_WordBits.j2 k x0 x10 x11 ((((x2) % 4294967296) + 32) % 4294967296)) else (seedcornlaw01_WordBits.j2 k x0 x10 x11 ((x2) % 4294967296)))
def seedcornlaw01_WordBits.j2 : Nat → Int → Int → Int → Int → Option (Bool)
  | 0, _, _, _, _ => none
  | k + 1, x0, x10, x11, x13 => (seedcornlaw01_of.f k 12 x0 x10).bind fun t186 => ((seedcornlaw01_of.f k 6 x0 x11).bind fun t187 => (if t186 = t187 then ((seedcornlaw01_of.f k 13 x0 x10).bind fun t188 => ((seedcornlaw01_of.f k 7 x0 x11).bind fun t189 => (if t188 = t189 then ((seedcornlaw01_of.f k 12 x0 x13).bind fun t190 => (if t190 = 0 then ((seedcornlaw01_of.f k 13 x0 x13).bind fun t191 => (some (t191 == 0))) else (some false))) else (some false)))) else (some false)))
end
def seedcornlaw01_WordBits.f (k : Nat) (a0 : Int) (a1 : Int) (a2 : Int) : Option (Bool) := (seedcornlaw01_alive.f k).bind fun t182 => (if t182 = true then ((seedcornlaw01_of.f k 9 a0 a1).bind fun t183 => ((seedcornlaw01_of.f k 10 a0 a1).bind fun t184 => ((seedcornlaw01_of.f k 11 a0 a1).bind fun t185 => (if (IntKind.u64.wrap ((IntKind.u64.wrap (t183)) + (IntKind.u64.wrap (t184)))) = (IntKind.u64.wrap ((IntKind.u64.wrap (a0)) + (IntKind.u64.wrap (a1)))) then (seedcornlaw01_WordBits.j0 k a0 a2 ((IntKind.u64.wrap ((IntKind.u64.wrap (t185)) + (IntKind.u64.wrap (t183)))) != (IntKind.u64.wrap (t184)))) else (seedcornlaw01_WordBits.j0 k a0 a2 true))))) else (some false))
theorem seedcornlaw01_WordBits.mono_l : ∀ k, (∀ y0 y1 y2, LeO (seedcornlaw01_WordBits.j0 k y0 y1 y2) (seedcornlaw01_WordBits.j0 (k + 1) y0 y1 y2)) ∧ (∀ y0 y1 y2 y3 y4, LeO (seedcornlaw01_WordBits.l0 k y0 y1 y2 y3 y4) (seedcornlaw01_WordBits.l0 (k + 1) y0 y1 y2 y3 y4)) ∧ (∀ y0 y1 y2 y3, LeO (seedcornlaw01_WordBits.j2 k y0 y1 y2 y3) (seedcornlaw01_WordBits.j2 (k + 1) y0 y1 y2 y3))
  | 0 => ⟨fun _ _ _ r h => by simp [seedcornlaw01_WordBits.j0] at h, fun _ _ _ _ _ r h => by simp [seedcornlaw01_WordBits.l0] at h, fun _ _ _ _ r h => by simp [seedcornlaw01_WordBits.j2] at h⟩
  | k + 1 => by
    obtain ⟨ih0, ih1, ih2⟩ := seedcornlaw01_WordBits.mono_l k
    refine ⟨?_, ?_, ?_⟩
    · intro y0 y1 y2
      unfold seedcornlaw01_WordBits.j0
      repeat' first
      | (with_reducible exact ih0 _ _ _)
      | (with_reducible exact ih1 _ _ _ _ _)
      | (with_reducible exact ih2 _ _ _ _)
      | (with_reducible exact seedcornlaw01_alive.mono _)
      | (with_reducible exact seedcornlaw01_of.mono _ _ _ _)
      | (with_reducible exact LeO.refl _)
      | (with_reducible exact LeO.none _)
      | (with_reducible refine LeO.ite ?_ ?_)
      | (with_reducible refine LeO.bind ?_ (fun _ => ?_))
      | exact ih0 _ _ _
      | exact ih1 _ _ _ _ _
      | exact ih2 _ _ _ _
      | exact seedcornlaw01_alive.mono _
      | exact seedcornlaw01_of.mono _ _ _ _
      | exact LeO.none _
      | refine LeO.ite ?_ ?_
      | refine LeO.bind ?_ (fun _ => ?_)
    · intro y0 y1 y2 y3 y4
      unfold seedcornlaw01_WordBits.l0
      repeat' first
      | (with_reducible exact ih0 _ _ _)
      | (with_reducible exact ih1 _ _ _ _ _)
      | (with_reducible exact ih2 _ _ _ _)
      | (with_reducible exact seedcornlaw01_alive.mono _)
      | (with_reducible exact seedcornlaw01_of.mono _ _ _ _)
      | (with_reducible exact LeO.refl _)
      | (with_reducible exact LeO.none _)
      | (with_reducible refine LeO.ite ?_ ?_)
      | (with_reducible refine LeO.bind ?_ (fun _ => ?_))
      | exact ih0 _ _ _
      | exact ih1 _ _ _ _ _
      | exact ih2 _ _ _ _
      | exact seedcornlaw01_alive.mono _
      | exact seedcornlaw01_of.mono _ _ _ _
      | exact LeO.none _
      | refine LeO.ite ?_ ?_
      | refine LeO.bind ?_ (fun _ => ?_)
    · intro y0 y1 y2 y3
      unfold seedcornlaw01_WordBits.j2
      repeat' first
      | (with_reducible exact ih0 _ _ _)
      | (with_reducible exact ih1 _ _ _ _ _)
      | (with_reducible exact ih2 _ _ _ _)
      | (with_reducible exact seedcornlaw01_alive.mono _)
      | (with_reducible exact seedcornlaw01_of.mono _ _ _ _)
      | (with_reducible exact LeO.refl _)
      | (with_reducible exact LeO.none _)
      | (with_reducible refine LeO.ite ?_ ?_)
      | (with_reducible refine LeO.bind ?_ (fun _ => ?_))
      | exact ih0 _ _ _
      | exact ih1 _ _ _ _ _
      | exact ih2 _ _ _ _
      | exact seedcornlaw01_alive.mono _
      | exact seedcornlaw01_of.mono _ _ _ _
      | exact LeO.none _
      | refine LeO.ite ?_ ?_
      | refine LeO.bind ?_ (fun _ => ?_)
theorem seedcornlaw01_WordBits.mono : ∀ a0 a1 a2 k, LeO (seedcornlaw01_WordBits.f k a0 a1 a2) (seedcornlaw01_WordBits.f (k + 1) a0 a1 a2) := by
  intro a0 a1 a2 k
  obtain ⟨ih0, ih1, ih2⟩ := seedcornlaw01_WordBits.mono_l k
  unfold seedcornlaw01_WordBits.f
  repeat' first
      | (with_reducible exact ih0 _ _ _)
      | (with_reducible exact ih1 _ _ _ _ _)
      | (with_reducible exact ih2 _ _ _ _)
      | (with_reducible exact seedcornlaw01_alive.mono _)
      | (with_reducible exact seedcornlaw01_of.mono _ _ _ _)
      | (with_reducible exact LeO.refl _)
      | (with_reducible exact LeO.none _)
      | (with_reducible refine LeO.ite ?_ ?_)
      | (with_reducible refine LeO.bind ?_ (fun _ => ?_))
      | exact ih0 _ _ _
      | exact ih1 _ _ _ _ _
      | exact ih2 _ _ _ _
      | exact seedcornlaw01_alive.mono _
      | exact seedcornlaw01_of.mono _ _ _ _
      | exact LeO.none _
      | refine LeO.ite ?_ ?_
      | refine LeO.bind ?_ (fun _ => ?_)
set_option maxHeartbeats 8000000 in
set_option maxRecDepth 100000 in
theorem seedcornlaw01_WordBits.calls (k : Nat) (a0 : Int) (a1 : Int) (a2 : Int) (r : Bool) (w : World) (h : seedcornlaw01_WordBits.f k a0 a1 a2 = some r) :
    Calls Try.prog 7 #[.int .u32 a0, .int .u32 a1, .int .u8 a2] w fun e w' => e = .returned (.bool r) ∧ Below w.heap.size w w' := by
  have HB := Aside0.mk (Below.refl w.heap.size w)
  have H : ((seedcornlaw01_alive.f k).bind fun t182 => (if t182 = true then ((seedcornlaw01_of.f k 9 a0 a1).bind fun t183 => ((seedcornlaw01_of.f k 10 a0 a1).bind fun t184 => ((seedcornlaw01_of.f k 11 a0 a1).bind fun t185 => (if (IntKind.u64.wrap ((IntKind.u64.wrap (t183)) + (IntKind.u64.wrap (t184)))) = (IntKind.u64.wrap ((IntKind.u64.wrap (a0)) + (IntKind.u64.wrap (a1)))) then (seedcornlaw01_WordBits.j0 k a0 a2 ((IntKind.u64.wrap ((IntKind.u64.wrap (t185)) + (IntKind.u64.wrap (t183)))) != (IntKind.u64.wrap (t184)))) else (seedcornlaw01_WordBits.j0 k a0 a2 true))))) else (some false))) = some r := h
  clear h
  replace H := Option.bind_eq_some_iff.mp H
  obtain ⟨t182, A40, H⟩ := H
  replace H : (if t182 = true then ((seedcornlaw01_of.f k 9 a0 a1).bind fun t183 => ((seedcornlaw01_of.f k 10 a0 a1).bind fun t184 => ((seedcornlaw01_of.f k 11 a0 a1).bind fun t185 => (if (IntKind.u64.wrap ((IntKind.u64.wrap (t183)) + (IntKind.u64.wrap (t184)))) = (IntKind.u64.wrap ((IntKind.u64.wrap (a0)) + (IntKind.u64.wrap (a1)))) then (seedcornlaw01_WordBits.j0 k a0 a2 ((IntKind.u64.wrap ((IntKind.u64.wrap (t185)) + (IntKind.u64.wrap (t183)))) != (IntKind.u64.wrap (t184)))) else (seedcornlaw01_WordBits.j0 k a0 a2 true))))) else (some false)) = some r := H
  have A4 := Aside0.mk A40
  clear A40
  by_cases c5 : t182 = true
  · subst c5
    have H1 : ((seedcornlaw01_of.f k 9 a0 a1).bind fun t183 => ((seedcornlaw01_of.f k 10 a0 a1).bind fun t184 => ((seedcornlaw01_of.f k 11 a0 a1).bind fun t185 => (if (IntKind.u64.wrap ((IntKind.u64.wrap (t183)) + (IntKind.u64.wrap (t184)))) = (IntKind.u64.wrap ((IntKind.u64.wrap (a0)) + (IntKind.u64.wrap (a1)))) then (seedcornlaw01_WordBits.j0 k a0 a2 ((IntKind.u64.wrap ((IntKind.u64.wrap (t185)) + (IntKind.u64.wrap (t183)))) != (IntKind.u64.wrap (t184)))) else (seedcornlaw01_WordBits.j0 k a0 a2 true))))) = some r := by rw [if_pos rfl] at H; exact H
    clear H
    have H := H1
    clear H1
    replace H := Option.bind_eq_some_iff.mp H
    obtain ⟨t183, A60, H⟩ := H
    replace H : ((seedcornlaw01_of.f k 10 a0 a1).bind fun t184 => ((seedcornlaw01_of.f k 11 a0 a1).bind fun t185 => (if (IntKind.u64.wrap ((IntKind.u64.wrap (t183)) + (IntKind.u64.wrap (t184)))) = (IntKind.u64.wrap ((IntKind.u64.wrap (a0)) + (IntKind.u64.wrap (a1)))) then (seedcornlaw01_WordBits.j0 k a0 a2 ((IntKind.u64.wrap ((IntKind.u64.wrap (t185)) + (IntKind.u64.wrap (t183)))) != (IntKind.u64.wrap (t184)))) else (seedcornlaw01_WordBits.j0 k a0 a2 true)))) = some r := H
    have A6 := Aside0.mk A60
    clear A60
    replace H := Option.bind_eq_some_iff.mp H
    obtain ⟨t184, A70, H⟩ := H
    replace H : ((seedcornlaw01_of.f k 11 a0 a1).bind fun t185 => (if (IntKind.u64.wrap ((IntKind.u64.wrap (t183)) + (IntKind.u64.wrap (t184)))) = (IntKind.u64.wrap ((IntKind.u64.wrap (a0)) + (IntKind.u64.wrap (a1)))) then (seedcornlaw01_WordBits.j0 k a0 a2 ((IntKind.u64.wrap ((IntKind.u64.wrap (t185)) + (IntKind.u64.wrap (t183)))) != (IntKind.u64.wrap (t184)))) else (seedcornlaw01_WordBits.j0 k a0 a2 true))) = some r := H
    have A7 := Aside0.mk A70
    clear A70
    replace H := Option.bind_eq_some_iff.mp H
    obtain ⟨t185, A80, H⟩ := H
    replace H : (if (IntKind.u64.wrap ((IntKind.u64.wrap (t183)) + (IntKind.u64.wrap (t184)))) = (IntKind.u64.wrap ((IntKind.u64.wrap (a0)) + (IntKind.u64.wrap (a1)))) then (seedcornlaw01_WordBits.j0 k a0 a2 ((IntKind.u64.wrap ((IntKind.u64.wrap (t185)) + (IntKind.u64.wrap (t183)))) != (IntKind.u64.wrap (t184)))) else (seedcornlaw01_WordBits.j0 k a0 a2 true)) = some r := H
    have A8 := Aside0.mk A80
    clear A80
    have HC9 := Aside0.mk H
    clear H
    go_enter Try.func7, Try.ntmps7
    go_upto_region 4 with (first | ((with_reducible refine gate_callee (f := 10) rfl ?_); refine goesL_ (some 14) rfl rfl Try.func10 (by kernel_rfl) rfl #[] rfl (by (try simp only [List.map_toArray, List.map_cons, List.map_nil]); first | done | rfl | (simp only [List.length_drop, List.length_take]; rfl)) ?_; (with_reducible refine (seedcornlaw01_alive.calls k  true _ A4.out).mono ?_); rintro e w10 ⟨rfl, hb⟩; refine ⟨_, rfl, ?_⟩; have n0_ := Aside0.mk (below_step (by repeat (first | (with_reducible first | exact HB.out | apply below_alloc | apply pw_below_drewN | apply below_drew1) | exact HB.out)) hb); clear HB; have HB := n0_; clear n0_; (try clear hb); (try clear hb2); (try clear hk); (try clear hi)) | ((with_reducible refine gate_callee (f := 15) rfl ?_); refine goesL_ (some 18) rfl rfl Try.func15 (by kernel_rfl) rfl #[.int .i64 9, .int .u32 a0, .int .u32 a1] rfl (by (try simp only [List.map_toArray, List.map_cons, List.map_nil]); first | done | rfl | (simp only [List.length_drop, List.length_take]; rfl)) ?_; (with_reducible refine (seedcornlaw01_of.calls k 9 a0 a1 t183 _ A6.out).mono ?_); rintro e w' ⟨rfl, ⟨nd, rfl⟩⟩; refine ⟨_, rfl, ?_⟩) | ((with_reducible refine gate_callee (f := 15) rfl ?_); refine goesL_ (some 21) rfl rfl Try.func15 (by kernel_rfl) rfl #[.int .i64 10, .int .u32 a0, .int .u32 a1] rfl (by (try simp only [List.map_toArray, List.map_cons, List.map_nil]); first | done | rfl | (simp only [List.length_drop, List.length_take]; rfl)) ?_; (with_reducible refine (seedcornlaw01_of.calls k 10 a0 a1 t184 _ A7.out).mono ?_); rintro e w' ⟨rfl, ⟨nd, rfl⟩⟩; refine ⟨_, rfl, ?_⟩) | ((with_reducible refine gate_callee (f := 15) rfl ?_); refine goesL_ (some 24) rfl rfl Try.func15 (by kernel_rfl) rfl #[.int .i64 11, .int .u32 a0, .int .u32 a1] rfl (by (try simp only [List.map_toArray, List.map_cons, List.map_nil]); first | done | rfl | (simp only [List.length_drop, List.length_take]; rfl)) ?_; (with_reducible refine (seedcornlaw01_of.calls k 11 a0 a1 t185 _ A8.out).mono ?_); rintro e w' ⟨rfl, ⟨nd, rfl⟩⟩; refine ⟨_, rfl, ?_⟩))
    (try simp only [Act.put, List.setIfInBounds_toArray, List.set_cons_zero, List.set_cons_succ])
    go_cut [45] (fun v45 wc => ∃ (kq : Nat) (x45_8 : Bool), v45 = .bool x45_8 ∧ Aside0 (seedcornlaw01_WordBits.j0 kq a0 a2 x45_8 = some r) ∧ Aside0 (kq ≤ k) ∧ Aside0 (Below w.heap.size w wc))
    case first =>
      have H := HC9.out
      clear HC9
      by_cases c11 : (IntKind.u64.wrap ((IntKind.u64.wrap (t183)) + (IntKind.u64.wrap (t184)))) = (IntKind.u64.wrap ((IntKind.u64.wrap (a0)) + (IntKind.u64.wrap (a1))))
      · rw [if_pos c11] at H
        have c11b0 : ((IntKind.u64.wrap ((IntKind.u64.wrap (t183)) + (IntKind.u64.wrap (t184)))) == (IntKind.u64.wrap ((IntKind.u64.wrap (a0)) + (IntKind.u64.wrap (a1))))) = true := beq_iff_eq.mpr c11
        have c11b1 : ((IntKind.u64.wrap ((IntKind.u64.wrap (t183)) + (IntKind.u64.wrap (t184)))) != (IntKind.u64.wrap ((IntKind.u64.wrap (a0)) + (IntKind.u64.wrap (a1))))) = false := bne_eq_false_iff_eq.mpr c11
        clear c11
        (first | rw [c11b0] | (simp only [i64_w, i32_w]; rw [c11b0]) | skip)
        have H' := Aside0.mk H
        clear H
        go_wp2
        go_meet
        case rel => exact ⟨_, (((IntKind.u64.wrap ((IntKind.u64.wrap (t185)) + (IntKind.u64.wrap (t183)))) != (IntKind.u64.wrap (t184)))), (by first | rfl | (simp; done) | (simp [*]; done)), H', ⟨by first | omega | exact Nat.le_refl _⟩, ⟨by repeat (first | (with_reducible first | exact HB.out | apply below_alloc | apply pw_below_drewN | apply below_drew1) | exact HB.out)⟩⟩
      · rw [if_neg c11] at H
        have c11b0 : ((IntKind.u64.wrap ((IntKind.u64.wrap (t183)) + (IntKind.u64.wrap (t184)))) == (IntKind.u64.wrap ((IntKind.u64.wrap (a0)) + (IntKind.u64.wrap (a1))))) = false := beq_eq_false_iff_ne.mpr c11
        have c11b1 : ((IntKind.u64.wrap ((IntKind.u64.wrap (t183)) + (IntKind.u64.wrap (t184)))) != (IntKind.u64.wrap ((IntKind.u64.wrap (a0)) + (IntKind.u64.wrap (a1))))) = true := bne_iff_ne.mpr c11
        (first | rw [c11b0] | (simp only [i64_w, i32_w]; rw [c11b0]) | skip)
        have H' := Aside0.mk H
        clear H
        go_wp2
        go_meet
        case rel => exact ⟨_, (true), (by first | rfl | (simp; done) | (simp [*]; done)), H', ⟨by first | omega | exact Nat.le_refl _⟩, ⟨by repeat (first | (with_reducible first | exact HB.out | apply below_alloc | apply pw_below_drewN | apply below_drew1) | exact HB.out)⟩⟩
    case rest =>
      clear HC9
      try clear c1
      try clear p2
      try clear c5
      try clear c7
      try clear c10
      try clear c11
      try clear c11b0
      try clear c11b1
      obtain ⟨kq, x45_8, rfl, HA, HJ8, HB⟩ := hcut
      cases kq with
      | zero => exact absurd HA.out (by simp [seedcornlaw01_WordBits.j0])
      | succ kj8 =>
        have H := HA.out
        clear HA
        simp only [seedcornlaw01_WordBits.j0] at H
        by_cases c12 : x45_8 = true
        · subst c12
          have H1 : (some false) = some r := by rw [if_pos rfl] at H; exact H
          clear H
          have H := H1
          clear H1
          obtain rfl := Option.some.inj H
          go_wp2
          go_ret
          exact ⟨by first | rfl | (simp [errW_none, errW_some] <;> rfl) | (simp [*, errW_none, errW_some] <;> rfl), by repeat (first | (with_reducible first | exact HB.out | apply below_alloc | apply pw_below_drewN | apply below_drew1) | exact HB.out)⟩
        · replace c12 := Bool.eq_false_iff.mpr c12
          subst c12
          have H1 : (seedcornlaw01_WordBits.l0 kj8 a0 a2 ((Int.tmod a2 32) % 4294967296) 1 0) = some r := by rw [if_neg (show ¬ (false = true) by decide)] at H; exact H
          clear H
          have H := H1
          clear H1
          have H' := Aside0.mk H
          clear H
          go_wp2
          go_loopg [11, 12] kj8 (fun kq v11 v12 w' => ∃ (x11_2 : Int) (x12_2 : Int), v11 = .int .u32 x11_2 ∧ v12 = .int .u32 x12_2 ∧ Aside0 (seedcornlaw01_WordBits.l0 kq a0 a2 ((Int.tmod a2 32) % 4294967296) x11_2 x12_2 = some r) ∧ Aside0 (kq ≤ kj8) ∧ Aside0 (Below w.heap.size w w'))
          case atStart => exact ⟨(1), (0), (by first | rfl | (simp; done) | (simp [*]; done)), (by first | rfl | (simp; done) | (simp [*]; done)), H', ⟨Nat.le_refl _⟩, ⟨by repeat (first | (with_reducible first | exact HB.out | apply below_alloc | apply pw_below_drewN | apply below_drew1) | exact HB.out)⟩⟩
          case round =>
            clear H'
            try clear c1
            try clear p2
            try clear c5
            try clear c7
            try clear c10
            try clear c11
            try clear c11b0
            try clear c11b1
            try clear c12
            try clear p2
            obtain ⟨x11_2, x12_2, rfl, rfl, HA, HK2, HB⟩ := hrel
            cases gk with
            | zero => exact absurd HA.out (by simp [seedcornlaw01_WordBits.l0])
            | succ k2 =>
              have H := HA.out
              clear HA
              simp only [seedcornlaw01_WordBits.l0] at H
              by_cases c13 : x12_2 < ((Int.tmod a2 32) % 4294967296)
              · rw [if_pos c13] at H
                have c13b0 : decide (x12_2 < ((Int.tmod a2 32) % 4294967296)) = true := decide_eq_true c13
                clear c13
                have H' := Aside0.mk H
                clear H
                go_wp2
                go_roundg k2
                case measure => have := HJ8.out; have := HK2.out; omega
                case rel => exact ⟨((2 * x11_2) % 4294967296), ((x12_2 + 1) % 4294967296), (by first | rfl | (simp; done) | (simp [*]; done)), (by first | rfl | (simp; done) | (simp [*]; done)), H', ⟨by have := HJ8.out; have := HK2.out; omega⟩, ⟨by repeat (first | (with_reducible first | exact HB.out | apply below_alloc | apply pw_below_drewN | apply below_drew1) | exact HB.out)⟩⟩
              · rw [if_neg c13] at H
                have c13b0 : decide (x12_2 < ((Int.tmod a2 32) % 4294967296)) = false := decide_eq_false c13
                clear c13
                have HC14 := Aside0.mk H
                clear H
                go_upto_if 59 with (fail)
                go_cut [13] (fun v13 wc => ∃ (kq : Nat) (x13_13 : Int), v13 = .int .u32 x13_13 ∧ Aside0 (seedcornlaw01_WordBits.j2 kq a0 ((Int.tmod a2 32) % 4294967296) x11_2 x13_13 = some r) ∧ Aside0 (kq ≤ k2) ∧ Aside0 (Below w.heap.size w wc))
                case first =>
                  have H := HC14.out
                  clear HC14
                  by_cases c15 : ((a2) % 4294967296) < 32
                  · rw [if_pos c15] at H
                    have c15b0 : decide (((a2) % 4294967296) < 32) = true := decide_eq_true c15
                    clear c15
                    (first | rw [c15b0] | (simp only [i64_w, i32_w]; rw [c15b0]) | skip)
                    have H' := Aside0.mk H
                    clear H
                    go_wp2
                    go_meet
                    case rel => exact ⟨_, ((((a2) % 4294967296) + 32) % 4294967296), (by first | rfl | (simp; done) | (simp [*]; done)), H', ⟨by have := HJ8.out; have := HK2.out; first | omega | exact Nat.le_refl _⟩, ⟨by repeat (first | (with_reducible first | exact HB.out | apply below_alloc | apply pw_below_drewN | apply below_drew1) | exact HB.out)⟩⟩
                  · rw [if_neg c15] at H
                    have c15b0 : decide (((a2) % 4294967296) < 32) = false := decide_eq_false c15
                    clear c15
                    (first | rw [c15b0] | (simp only [i64_w, i32_w]; rw [c15b0]) | skip)
                    have H' := Aside0.mk H
                    clear H
                    go_wp2
                    go_meet
                    case rel => exact ⟨_, ((a2) % 4294967296), (by first | rfl | (simp; done) | (simp [*]; done)), H', ⟨by have := HJ8.out; have := HK2.out; first | omega | exact Nat.le_refl _⟩, ⟨by repeat (first | (with_reducible first | exact HB.out | apply below_alloc | apply pw_below_drewN | apply below_drew1) | exact HB.out)⟩⟩
                case rest =>
                  clear HC14
                  try clear c1
                  try clear p2
                  try clear c5
                  try clear c7
                  try clear c10
                  try clear c11
                  try clear c11b0
                  try clear c11b1
                  try clear c12
                  try clear c13
                  try clear c13b0
                  try clear c15
                  try clear c15b0
                  try clear p2
                  obtain ⟨kq, x13_13, rfl, HA, HJ13, HB⟩ := hcut
                  cases kq with
                  | zero => exact absurd HA.out (by simp [seedcornlaw01_WordBits.j2])
                  | succ kj13 =>
                    have H := HA.out
                    clear HA
                    simp only [seedcornlaw01_WordBits.j2] at H
                    replace H := Option.bind_eq_some_iff.mp H
                    obtain ⟨t186, A160, H⟩ := H
                    replace H : ((seedcornlaw01_of.f kj13 6 a0 x11_2).bind fun t187 => (if t186 = t187 then ((seedcornlaw01_of.f kj13 13 a0 ((Int.tmod a2 32) % 4294967296)).bind fun t188 => ((seedcornlaw01_of.f kj13 7 a0 x11_2).bind fun t189 => (if t188 = t189 then ((seedcornlaw01_of.f kj13 12 a0 x13_13).bind fun t190 => (if t190 = 0 then ((seedcornlaw01_of.f kj13 13 a0 x13_13).bind fun t191 => (some (t191 == 0))) else (some false))) else (some false)))) else (some false))) = some r := H
                    have A16 := Aside0.mk A160
                    clear A160
                    replace H := Option.bind_eq_some_iff.mp H
                    obtain ⟨t187, A170, H⟩ := H
                    replace H : (if t186 = t187 then ((seedcornlaw01_of.f kj13 13 a0 ((Int.tmod a2 32) % 4294967296)).bind fun t188 => ((seedcornlaw01_of.f kj13 7 a0 x11_2).bind fun t189 => (if t188 = t189 then ((seedcornlaw01_of.f kj13 12 a0 x13_13).bind fun t190 => (if t190 = 0 then ((seedcornlaw01_of.f kj13 13 a0 x13_13).bind fun t191 => (some (t191 == 0))) else (some false))) else (some false)))) else (some false)) = some r := H
                    have A17 := Aside0.mk A170
                    clear A170
                    by_cases c18 : t186 = t187
                    · rw [if_pos c18] at H
                      have c18b0 : (t186 == t187) = true := beq_iff_eq.mpr c18
                      have c18b1 : (t186 != t187) = false := bne_eq_false_iff_eq.mpr c18
                      clear c18
                      replace H := Option.bind_eq_some_iff.mp H
                      obtain ⟨t188, A190, H⟩ := H
                      replace H : ((seedcornlaw01_of.f kj13 7 a0 x11_2).bind fun t189 => (if t188 = t189 then ((seedcornlaw01_of.f kj13 12 a0 x13_13).bind fun t190 => (if t190 = 0 then ((seedcornlaw01_of.f kj13 13 a0 x13_13).bind fun t191 => (some (t191 == 0))) else (some false))) else (some false))) = some r := H
                      have A19 := Aside0.mk A190
                      clear A190
                      replace H := Option.bind_eq_some_iff.mp H
                      obtain ⟨t189, A200, H⟩ := H
                      replace H : (if t188 = t189 then ((seedcornlaw01_of.f kj13 12 a0 x13_13).bind fun t190 => (if t190 = 0 then ((seedcornlaw01_of.f kj13 13 a0 x13_13).bind fun t191 => (some (t191 == 0))) else (some false))) else (some false)) = some r := H
                      have A20 := Aside0.mk A200
                      clear A200
                      by_cases c21 : t188 = t189
                      · rw [if_pos c21] at H
                        have c21b0 : (t188 == t189) = true := beq_iff_eq.mpr c21
                        have c21b1 : (t188 != t189) = false := bne_eq_false_iff_eq.mpr c21
                        clear c21
                        replace H := Option.bind_eq_some_iff.mp H
                        obtain ⟨t190, A220, H⟩ := H
                        replace H : (if t190 = 0 then ((seedcornlaw01_of.f kj13 13 a0 x13_13).bind fun t191 => (some (t191 == 0))) else (some false)) = some r := H
                        have A22 := Aside0.mk A220
                        clear A220
                        by_cases c23 : t190 = 0
                        · rw [if_pos c23] at H
                          have c23b0 : (t190 == 0) = true := beq_iff_eq.mpr c23
                          have c23b1 : (t190 != 0) = false := bne_eq_false_iff_eq.mpr c23
                          clear c23
                          replace H := Option.bind_eq_some_iff.mp H
                          obtain ⟨t191, A240, H⟩ := H
                          replace H : (some (t191 == 0)) = some r := H
                          have A24 := Aside0.mk A240
                          clear A240
                          obtain rfl := Option.some.inj H
                          go_wp2_with (first | ((with_reducible refine gate_callee (f := 15) rfl ?_); refine goesL_ (some 64) rfl rfl Try.func15 (by kernel_rfl) rfl #[.int .i64 12, .int .u32 a0, .int .u32 ((Int.tmod a2 32) % 4294967296)] rfl (by (try simp only [List.map_toArray, List.map_cons, List.map_nil]); first | done | rfl | (simp only [List.length_drop, List.length_take]; rfl)) ?_; (with_reducible refine (seedcornlaw01_of.calls kj13 12 a0 ((Int.tmod a2 32) % 4294967296) t186 _ A16.out).mono ?_); rintro e w' ⟨rfl, ⟨nd, rfl⟩⟩; refine ⟨_, rfl, ?_⟩) | ((with_reducible refine gate_callee (f := 15) rfl ?_); refine goesL_ (some 67) rfl rfl Try.func15 (by kernel_rfl) rfl #[.int .i64 6, .int .u32 a0, .int .u32 x11_2] rfl (by (try simp only [List.map_toArray, List.map_cons, List.map_nil]); first | done | rfl | (simp only [List.length_drop, List.length_take]; rfl)) ?_; (with_reducible refine (seedcornlaw01_of.calls kj13 6 a0 x11_2 t187 _ A17.out).mono ?_); rintro e w' ⟨rfl, ⟨nd, rfl⟩⟩; refine ⟨_, rfl, ?_⟩) | (go_at_call 15; (with_reducible refine (seedcornlaw01_of.calls kj13 13 a0 ((Int.tmod a2 32) % 4294967296) t188 _ A19.out).mono ?_); rintro e w' ⟨rfl, ⟨nd, rfl⟩⟩) | (go_at_call 15; (with_reducible refine (seedcornlaw01_of.calls kj13 7 a0 x11_2 t189 _ A20.out).mono ?_); rintro e w' ⟨rfl, ⟨nd, rfl⟩⟩) | (go_at_call 15; (with_reducible refine (seedcornlaw01_of.calls kj13 12 a0 x13_13 t190 _ A22.out).mono ?_); rintro e w' ⟨rfl, ⟨nd, rfl⟩⟩) | (go_at_call 15; (with_reducible refine (seedcornlaw01_of.calls kj13 13 a0 x13_13 t191 _ A24.out).mono ?_); rintro e w' ⟨rfl, ⟨nd, rfl⟩⟩))
                          go_ret
                          exact ⟨by first | rfl | (simp [errW_none, errW_some] <;> rfl) | (simp [*, errW_none, errW_some] <;> rfl), by repeat (first | (with_reducible first | exact HB.out | apply below_alloc | apply pw_below_drewN | apply below_drew1) | exact HB.out)⟩
                        · rw [if_neg c23] at H
                          have c23b0 : (t190 == 0) = false := beq_eq_false_iff_ne.mpr c23
                          have c23b1 : (t190 != 0) = true := bne_iff_ne.mpr c23
                          obtain rfl := Option.some.inj H
                          go_wp2_with (first | ((with_reducible refine gate_callee (f := 15) rfl ?_); refine goesL_ (some 64) rfl rfl Try.func15 (by kernel_rfl) rfl #[.int .i64 12, .int .u32 a0, .int .u32 ((Int.tmod a2 32) % 4294967296)] rfl (by (try simp only [List.map_toArray, List.map_cons, List.map_nil]); first | done | rfl | (simp only [List.length_drop, List.length_take]; rfl)) ?_; (with_reducible refine (seedcornlaw01_of.calls kj13 12 a0 ((Int.tmod a2 32) % 4294967296) t186 _ A16.out).mono ?_); rintro e w' ⟨rfl, ⟨nd, rfl⟩⟩; refine ⟨_, rfl, ?_⟩) | ((with_reducible refine gate_callee (f := 15) rfl ?_); refine goesL_ (some 67) rfl rfl Try.func15 (by kernel_rfl) rfl #[.int .i64 6, .int .u32 a0, .int .u32 x11_2] rfl (by (try simp only [List.map_toArray, List.map_cons, List.map_nil]); first | done | rfl | (simp only [List.length_drop, List.length_take]; rfl)) ?_; (with_reducible refine (seedcornlaw01_of.calls kj13 6 a0 x11_2 t187 _ A17.out).mono ?_); rintro e w' ⟨rfl, ⟨nd, rfl⟩⟩; refine ⟨_, rfl, ?_⟩) | (go_at_call 15; (with_reducible refine (seedcornlaw01_of.calls kj13 13 a0 ((Int.tmod a2 32) % 4294967296) t188 _ A19.out).mono ?_); rintro e w' ⟨rfl, ⟨nd, rfl⟩⟩) | (go_at_call 15; (with_reducible refine (seedcornlaw01_of.calls kj13 7 a0 x11_2 t189 _ A20.out).mono ?_); rintro e w' ⟨rfl, ⟨nd, rfl⟩⟩) | (go_at_call 15; (with_reducible refine (seedcornlaw01_of.calls kj13 12 a0 x13_13 t190 _ A22.out).mono ?_); rintro e w' ⟨rfl, ⟨nd, rfl⟩⟩))
                          go_ret
                          exact ⟨by first | rfl | (simp [errW_none, errW_some] <;> rfl) | (simp [*, errW_none, errW_some] <;> rfl), by repeat (first | (with_reducible first | exact HB.out | apply below_alloc | apply pw_below_drewN | apply below_drew1) | exact HB.out)⟩
                      · rw [if_neg c21] at H
                        have c21b0 : (t188 == t189) = false := beq_eq_false_iff_ne.mpr c21
                        have c21b1 : (t188 != t189) = true := bne_iff_ne.mpr c21
                        obtain rfl := Option.some.inj H
                        go_wp2_with (first | ((with_reducible refine gate_callee (f := 15) rfl ?_); refine goesL_ (some 64) rfl rfl Try.func15 (by kernel_rfl) rfl #[.int .i64 12, .int .u32 a0, .int .u32 ((Int.tmod a2 32) % 4294967296)] rfl (by (try simp only [List.map_toArray, List.map_cons, List.map_nil]); first | done | rfl | (simp only [List.length_drop, List.length_take]; rfl)) ?_; (with_reducible refine (seedcornlaw01_of.calls kj13 12 a0 ((Int.tmod a2 32) % 4294967296) t186 _ A16.out).mono ?_); rintro e w' ⟨rfl, ⟨nd, rfl⟩⟩; refine ⟨_, rfl, ?_⟩) | ((with_reducible refine gate_callee (f := 15) rfl ?_); refine goesL_ (some 67) rfl rfl Try.func15 (by kernel_rfl) rfl #[.int .i64 6, .int .u32 a0, .int .u32 x11_2] rfl (by (try simp only [List.map_toArray, List.map_cons, List.map_nil]); first | done | rfl | (simp only [List.length_drop, List.length_take]; rfl)) ?_; (with_reducible refine (seedcornlaw01_of.calls kj13 6 a0 x11_2 t187 _ A17.out).mono ?_); rintro e w' ⟨rfl, ⟨nd, rfl⟩⟩; refine ⟨_, rfl, ?_⟩) | (go_at_call 15; (with_reducible refine (seedcornlaw01_of.calls kj13 13 a0 ((Int.tmod a2 32) % 4294967296) t188 _ A19.out).mono ?_); rintro e w' ⟨rfl, ⟨nd, rfl⟩⟩) | (go_at_call 15; (with_reducible refine (seedcornlaw01_of.calls kj13 7 a0 x11_2 t189 _ A20.out).mono ?_); rintro e w' ⟨rfl, ⟨nd, rfl⟩⟩))
                        go_ret
                        exact ⟨by first | rfl | (simp [errW_none, errW_some] <;> rfl) | (simp [*, errW_none, errW_some] <;> rfl), by repeat (first | (with_reducible first | exact HB.out | apply below_alloc | apply pw_below_drewN | apply below_drew1) | exact HB.out)⟩
                    · rw [if_neg c18] at H
                      have c18b0 : (t186 == t187) = false := beq_eq_false_iff_ne.mpr c18
                      have c18b1 : (t186 != t187) = true := bne_iff_ne.mpr c18
                      obtain rfl := Option.some.inj H
                      go_wp2_with (first | ((with_reducible refine gate_callee (f := 15) rfl ?_); refine goesL_ (some 64) rfl rfl Try.func15 (by kernel_rfl) rfl #[.int .i64 12, .int .u32 a0, .int .u32 ((Int.tmod a2 32) % 4294967296)] rfl (by (try simp only [List.map_toArray, List.map_cons, List.map_nil]); first | done | rfl | (simp only [List.length_drop, List.length_take]; rfl)) ?_; (with_reducible refine (seedcornlaw01_of.calls kj13 12 a0 ((Int.tmod a2 32) % 4294967296) t186 _ A16.out).mono ?_); rintro e w' ⟨rfl, ⟨nd, rfl⟩⟩; refine ⟨_, rfl, ?_⟩) | ((with_reducible refine gate_callee (f := 15) rfl ?_); refine goesL_ (some 67) rfl rfl Try.func15 (by kernel_rfl) rfl #[.int .i64 6, .int .u32 a0, .int .u32 x11_2] rfl (by (try simp only [List.map_toArray, List.map_cons, List.map_nil]); first | done | rfl | (simp only [List.length_drop, List.length_take]; rfl)) ?_; (with_reducible refine (seedcornlaw01_of.calls kj13 6 a0 x11_2 t187 _ A17.out).mono ?_); rintro e w' ⟨rfl, ⟨nd, rfl⟩⟩; refine ⟨_, rfl, ?_⟩))
                      go_ret
                      exact ⟨by first | rfl | (simp [errW_none, errW_some] <;> rfl) | (simp [*, errW_none, errW_some] <;> rfl), by repeat (first | (with_reducible first | exact HB.out | apply below_alloc | apply pw_below_drewN | apply below_drew1) | exact HB.out)⟩
  · replace c5 := Bool.eq_false_iff.mpr c5
    subst c5
    have H1 : (some false) = some r := by rw [if_neg (show ¬ (false = true) by decide)] at H; exact H
    clear H
    have H := H1
    clear H1
    obtain rfl := Option.some.inj H
    go_enter Try.func7, Try.ntmps7
    go_wp2_with (first | ((with_reducible refine gate_callee (f := 10) rfl ?_); refine goesL_ (some 14) rfl rfl Try.func10 (by kernel_rfl) rfl #[] rfl (by (try simp only [List.map_toArray, List.map_cons, List.map_nil]); first | done | rfl | (simp only [List.length_drop, List.length_take]; rfl)) ?_; (with_reducible refine (seedcornlaw01_alive.calls k  false _ A4.out).mono ?_); rintro e w25 ⟨rfl, hb⟩; refine ⟨_, rfl, ?_⟩; have n0_ := Aside0.mk (below_step (by repeat (first | (with_reducible first | exact HB.out | apply below_alloc | apply pw_below_drewN | apply below_drew1) | exact HB.out)) hb); clear HB; have HB := n0_; clear n0_; (try clear hb); (try clear hb2); (try clear hk); (try clear hi)))
    go_ret
    exact ⟨by first | rfl | (simp [errW_none, errW_some] <;> rfl) | (simp [*, errW_none, errW_some] <;> rfl), by repeat (first | (with_reducible first | exact HB.out | apply below_alloc | apply pw_below_drewN | apply below_drew1) | exact HB.out)⟩

/-- THE ONE PURE STATEMENT of seedcornlaw01_WordBits: yours. -/
def seedcornlaw01_WordBits.Pure : Prop := ∀ (a0 : Int) (a1 : Int) (a2 : Int), (Lit.int .u32 a0).wf = true → (Lit.int .u32 a1).wf = true → (Lit.int .u8 a2).wf = true → ∃ k, seedcornlaw01_WordBits.f k a0 a1 a2 = some true
theorem seedcornlaw01_WordBits.walk (P : seedcornlaw01_WordBits.Pure) (a0 : Int) (a1 : Int) (a2 : Int) (w : World) (w0 : (Lit.int .u32 a0).wf = true) (w1 : (Lit.int .u32 a1).wf = true) (w2 : (Lit.int .u8 a2).wf = true) :
    Calls Try.prog 7 #[.int .u32 a0, .int .u32 a1, .int .u8 a2] w fun e w' => e = .returned (.bool true) ∧ Below w.heap.size w w' := by
  obtain ⟨k, h⟩ := P a0 a1 a2 w0 w1 w2
  refine (seedcornlaw01_WordBits.calls k a0 a1 a2 true w h).mono ?_
  rintro e w' ⟨rfl, hd⟩
  exact ⟨rfl, hd⟩

end Go.Proofs.Ytdmgponiefhlnaa.Q
