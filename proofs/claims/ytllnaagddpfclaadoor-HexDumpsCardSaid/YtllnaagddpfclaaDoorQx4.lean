-- Written by a program of this session (wip/tools/xprint.py) over the kit's print.
import Derived.Test.YtllnaagddpfclaaDoorQx0
import Derived.Test.YtllnaagddpfclaaDoorQx2
import Derived.Test.YtllnaagddpfclaaDoorQx3
import Derived.Test.YtllnaagddpfclaaDoorHexDump
import Derived.Test.YtllnaagddpfclaaDoorHexText
namespace Go.Proofs.YtllnaagddpfclaaDoor.Q
open Go.RowKit Go.Proofs.YtllnaagddpfclaaDoorW.PrintWords Go.Proofs.YtllnaagddpfclaaDoorW.PrintLast Go.Proofs.YtllnaagddpfclaaDoorW.PrintMore
attribute [local go_sem] max2_int min2_int max_two min_two max_three min_three max_four min_four   -- for this text's walks alone
set_option linter.unusedVariables false
set_option linter.unusedSimpArgs false

/-! ### seedcornlaw02_awake: function 10 -/
def seedcornlaw02_awake.f (k : Nat)  : Option (Bool) := (hex_Parse.f k (⟨#[52, 49, 55, 65]⟩ : ByteArray)).bind fun bt114 => ((hex_Parse.f k (⟨#[52, 49, 32, 55, 97]⟩ : ByteArray)).bind fun bt117 => ((Ext.hex_Text.f k (⟨#[65, 122]⟩ : ByteArray)).bind fun t120 => (if t120.toList = ([52, 49, 55, 97] : List UInt8) then (if bt114.1.toList = ([65, 122] : List UInt8) then (if bt114.2.1 = 0 then (if bt114.2.2 = 0 then (if bt117.2.1 = 2 then (if bt117.2.2 = 3 then ((hex_Load.f k (⟨#[52, 32, 49, 32, 35, 32, 52, 50, 10, 55, 97, 70]⟩ : ByteArray)).bind fun t121 => (if t121.toList = ([65, 122] : List UInt8) then ((Ext.hex_Dump.f k (⟨#[65, 122]⟩ : ByteArray)).bind fun t122 => (some (t122.toList == ([52, 49, 32, 55, 97, 32, 32, 35, 32, 48, 10] : List UInt8)))) else (some false))) else (some false)) else (some false)) else (some false)) else (some false)) else (some false)) else (some false))))
theorem seedcornlaw02_awake.mono : ∀ k, LeO (seedcornlaw02_awake.f k ) (seedcornlaw02_awake.f (k + 1) ) := by
  intro  k
  unfold seedcornlaw02_awake.f
  repeat' first
      | (with_reducible exact Ext.hex_Dump.mono _ _)
      | (with_reducible exact Ext.hex_Text.mono _ _)
      | (with_reducible exact hex_Load.mono _ _)
      | (with_reducible exact hex_Parse.mono _ _)
      | (with_reducible exact LeO.refl _)
      | (with_reducible exact LeO.none _)
      | (with_reducible refine LeO.ite ?_ ?_)
      | (with_reducible refine LeO.bind ?_ (fun _ => ?_))
      | exact Ext.hex_Dump.mono _ _
      | exact Ext.hex_Text.mono _ _
      | exact hex_Load.mono _ _
      | exact hex_Parse.mono _ _
      | exact LeO.none _
      | refine LeO.ite ?_ ?_
      | refine LeO.bind ?_ (fun _ => ?_)
set_option maxHeartbeats 8000000 in
set_option maxRecDepth 100000 in
theorem seedcornlaw02_awake.calls (k : Nat)  (r : Bool) (w : World) (hT : Go.Proofs.YtllnaagddpfclaaDoor.Ext.TAB w) (h : seedcornlaw02_awake.f k  = some r) :
    Calls Tryd.prog 10 #[] w fun e w' => e = .returned (.bool r) ∧ Below w.heap.size w w' := by
  have HT := Aside0.mk hT
  clear hT
  have HB := Aside0.mk (Below.refl w.heap.size w)
  have H : ((hex_Parse.f k (⟨#[52, 49, 55, 65]⟩ : ByteArray)).bind fun bt114 => ((hex_Parse.f k (⟨#[52, 49, 32, 55, 97]⟩ : ByteArray)).bind fun bt117 => ((Ext.hex_Text.f k (⟨#[65, 122]⟩ : ByteArray)).bind fun t120 => (if t120.toList = ([52, 49, 55, 97] : List UInt8) then (if bt114.1.toList = ([65, 122] : List UInt8) then (if bt114.2.1 = 0 then (if bt114.2.2 = 0 then (if bt117.2.1 = 2 then (if bt117.2.2 = 3 then ((hex_Load.f k (⟨#[52, 32, 49, 32, 35, 32, 52, 50, 10, 55, 97, 70]⟩ : ByteArray)).bind fun t121 => (if t121.toList = ([65, 122] : List UInt8) then ((Ext.hex_Dump.f k (⟨#[65, 122]⟩ : ByteArray)).bind fun t122 => (some (t122.toList == ([52, 49, 32, 55, 97, 32, 32, 35, 32, 48, 10] : List UInt8)))) else (some false))) else (some false)) else (some false)) else (some false)) else (some false)) else (some false)) else (some false))))) = some r := h
  clear h
  replace H := Option.bind_eq_some_iff.mp H
  obtain ⟨⟨t114, t115, t116⟩, A10, H⟩ := H
  replace H : ((hex_Parse.f k (⟨#[52, 49, 32, 55, 97]⟩ : ByteArray)).bind fun bt117 => ((Ext.hex_Text.f k (⟨#[65, 122]⟩ : ByteArray)).bind fun t120 => (if t120.toList = ([52, 49, 55, 97] : List UInt8) then (if t114.toList = ([65, 122] : List UInt8) then (if t115 = 0 then (if t116 = 0 then (if bt117.2.1 = 2 then (if bt117.2.2 = 3 then ((hex_Load.f k (⟨#[52, 32, 49, 32, 35, 32, 52, 50, 10, 55, 97, 70]⟩ : ByteArray)).bind fun t121 => (if t121.toList = ([65, 122] : List UInt8) then ((Ext.hex_Dump.f k (⟨#[65, 122]⟩ : ByteArray)).bind fun t122 => (some (t122.toList == ([52, 49, 32, 55, 97, 32, 32, 35, 32, 48, 10] : List UInt8)))) else (some false))) else (some false)) else (some false)) else (some false)) else (some false)) else (some false)) else (some false)))) = some r := H
  have A1 := Aside0.mk A10
  clear A10
  replace H := Option.bind_eq_some_iff.mp H
  obtain ⟨⟨t117, t118, t119⟩, A20, H⟩ := H
  replace H : ((Ext.hex_Text.f k (⟨#[65, 122]⟩ : ByteArray)).bind fun t120 => (if t120.toList = ([52, 49, 55, 97] : List UInt8) then (if t114.toList = ([65, 122] : List UInt8) then (if t115 = 0 then (if t116 = 0 then (if t118 = 2 then (if t119 = 3 then ((hex_Load.f k (⟨#[52, 32, 49, 32, 35, 32, 52, 50, 10, 55, 97, 70]⟩ : ByteArray)).bind fun t121 => (if t121.toList = ([65, 122] : List UInt8) then ((Ext.hex_Dump.f k (⟨#[65, 122]⟩ : ByteArray)).bind fun t122 => (some (t122.toList == ([52, 49, 32, 55, 97, 32, 32, 35, 32, 48, 10] : List UInt8)))) else (some false))) else (some false)) else (some false)) else (some false)) else (some false)) else (some false)) else (some false))) = some r := H
  have A2 := Aside0.mk A20
  clear A20
  replace H := Option.bind_eq_some_iff.mp H
  obtain ⟨t120, A30, H⟩ := H
  replace H : (if t120.toList = ([52, 49, 55, 97] : List UInt8) then (if t114.toList = ([65, 122] : List UInt8) then (if t115 = 0 then (if t116 = 0 then (if t118 = 2 then (if t119 = 3 then ((hex_Load.f k (⟨#[52, 32, 49, 32, 35, 32, 52, 50, 10, 55, 97, 70]⟩ : ByteArray)).bind fun t121 => (if t121.toList = ([65, 122] : List UInt8) then ((Ext.hex_Dump.f k (⟨#[65, 122]⟩ : ByteArray)).bind fun t122 => (some (t122.toList == ([52, 49, 32, 55, 97, 32, 32, 35, 32, 48, 10] : List UInt8)))) else (some false))) else (some false)) else (some false)) else (some false)) else (some false)) else (some false)) else (some false)) = some r := H
  have A3 := Aside0.mk A30
  clear A30
  by_cases c4 : t120.toList = ([52, 49, 55, 97] : List UInt8)
  · rw [if_pos c4] at H
    have c4b0 : (t120.toList == ([52, 49, 55, 97] : List UInt8)) = true := beq_iff_eq.mpr c4
    have c4b1 : (t120.toList != ([52, 49, 55, 97] : List UInt8)) = false := bne_eq_false_iff_eq.mpr c4
    clear c4
    by_cases c5 : t114.toList = ([65, 122] : List UInt8)
    · rw [if_pos c5] at H
      have c5b0 : (t114.toList == ([65, 122] : List UInt8)) = true := beq_iff_eq.mpr c5
      have c5b1 : (t114.toList != ([65, 122] : List UInt8)) = false := bne_eq_false_iff_eq.mpr c5
      clear c5
      by_cases c6 : t115 = 0
      · rw [if_pos c6] at H
        have c6b0 : (t115 == 0) = true := beq_iff_eq.mpr c6
        have c6b1 : (t115 != 0) = false := bne_eq_false_iff_eq.mpr c6
        clear c6
        by_cases c7 : t116 = 0
        · rw [if_pos c7] at H
          have c7b0 : (t116 == 0) = true := beq_iff_eq.mpr c7
          have c7b1 : (t116 != 0) = false := bne_eq_false_iff_eq.mpr c7
          clear c7
          by_cases c8 : t118 = 2
          · rw [if_pos c8] at H
            have c8b0 : (t118 == 2) = true := beq_iff_eq.mpr c8
            have c8b1 : (t118 != 2) = false := bne_eq_false_iff_eq.mpr c8
            clear c8
            by_cases c9 : t119 = 3
            · rw [if_pos c9] at H
              have c9b0 : (t119 == 3) = true := beq_iff_eq.mpr c9
              have c9b1 : (t119 != 3) = false := bne_eq_false_iff_eq.mpr c9
              clear c9
              replace H := Option.bind_eq_some_iff.mp H
              obtain ⟨t121, A100, H⟩ := H
              replace H : (if t121.toList = ([65, 122] : List UInt8) then ((Ext.hex_Dump.f k (⟨#[65, 122]⟩ : ByteArray)).bind fun t122 => (some (t122.toList == ([52, 49, 32, 55, 97, 32, 32, 35, 32, 48, 10] : List UInt8)))) else (some false)) = some r := H
              have A10 := Aside0.mk A100
              clear A100
              by_cases c11 : t121.toList = ([65, 122] : List UInt8)
              · rw [if_pos c11] at H
                have c11b0 : (t121.toList == ([65, 122] : List UInt8)) = true := beq_iff_eq.mpr c11
                have c11b1 : (t121.toList != ([65, 122] : List UInt8)) = false := bne_eq_false_iff_eq.mpr c11
                clear c11
                replace H := Option.bind_eq_some_iff.mp H
                obtain ⟨t122, A120, H⟩ := H
                replace H : (some (t122.toList == ([52, 49, 32, 55, 97, 32, 32, 35, 32, 48, 10] : List UInt8))) = some r := H
                have A12 := Aside0.mk A120
                clear A120
                obtain rfl := Option.some.inj H
                go_enter Tryd.func10, Tryd.ntmps10
                go_wp2_with (first | ((with_reducible refine gate_callee (f := 12) rfl ?_); refine goesL_ (some 8) rfl rfl Tryd.func12 (by kernel_rfl) rfl #[.string (⟨#[52, 49, 55, 65]⟩ : ByteArray)] rfl (by (try simp only [List.map_toArray, List.map_cons, List.map_nil]); first | done | rfl | (simp only [List.length_drop, List.length_take]; rfl)) ?_; (with_reducible refine (hex_Parse.calls k (⟨#[52, 49, 55, 65]⟩ : ByteArray) t114 t115 t116 _ A1.out).mono ?_); rintro e w13 ⟨rfl, hb⟩; refine ⟨_, rfl, ?_⟩; have n0_ := Aside0.mk (below_step (by repeat (first | (with_reducible first | exact HB.out | apply below_alloc | apply pw_below_drewN | apply below_drew1) | exact HB.out)) hb); clear HB; have HB := n0_; clear n0_; (try clear hb); (try clear hb2); (try clear hk); (try clear hi)) | ((with_reducible refine gate_callee (f := 12) rfl ?_); refine goesL_ (some 13) rfl rfl Tryd.func12 (by kernel_rfl) rfl #[.string (⟨#[52, 49, 32, 55, 97]⟩ : ByteArray)] rfl (by (try simp only [List.map_toArray, List.map_cons, List.map_nil]); first | done | rfl | (simp only [List.length_drop, List.length_take]; rfl)) ?_; (with_reducible refine (hex_Parse.calls k (⟨#[52, 49, 32, 55, 97]⟩ : ByteArray) t117 t118 t119 _ A2.out).mono ?_); rintro e w14 ⟨rfl, hb⟩; refine ⟨_, rfl, ?_⟩; have n0_ := Aside0.mk (below_step (by repeat (first | (with_reducible first | exact HB.out | apply below_alloc | apply pw_below_drewN | apply below_drew1) | exact HB.out)) hb); clear HB; have HB := n0_; clear n0_; (try clear hb); (try clear hb2); (try clear hk); (try clear hi)) | ((with_reducible refine gate_callee (f := 11) rfl ?_); refine goesL_ (some 17) rfl rfl Tryd.func11 (by kernel_rfl) rfl #[.string (⟨#[65, 122]⟩ : ByteArray)] rfl (by (try simp only [List.map_toArray, List.map_cons, List.map_nil]); first | done | rfl | (simp only [List.length_drop, List.length_take]; rfl)) ?_; (with_reducible refine (Ext.hex_Text.calls k (⟨#[65, 122]⟩ : ByteArray) t120 _ A3.out).mono ?_); rintro e w15 ⟨rfl, hb⟩; refine ⟨_, rfl, ?_⟩; have n0_ := Aside0.mk (below_step (by repeat (first | (with_reducible first | exact HB.out | apply below_alloc | apply pw_below_drewN | apply below_drew1) | exact HB.out)) hb); clear HB; have HB := n0_; clear n0_; (try clear hb); (try clear hb2); (try clear hk); (try clear hi)) | (go_at_call 16; (with_reducible refine (hex_Load.calls k (⟨#[52, 32, 49, 32, 35, 32, 52, 50, 10, 55, 97, 70]⟩ : ByteArray) t121 _ A10.out).mono ?_); rintro e w16 ⟨rfl, hb⟩; have n0_ := Aside0.mk (below_step (by repeat (first | (with_reducible first | exact HB.out | apply below_alloc | apply pw_below_drewN | apply below_drew1) | exact HB.out)) hb); clear HB; have HB := n0_; clear n0_; (try clear hb); (try clear hb2); (try clear hk); (try clear hi)) | (go_at_call 18; (with_reducible refine (Ext.hex_Dump.calls k (⟨#[65, 122]⟩ : ByteArray) t122 _ ?side1 A12.out).mono ?_); (case side1 => exact Go.Proofs.YtllnaagddpfclaaDoor.Ext.TAB.below HT.out (by repeat (first | (with_reducible first | exact HB.out | apply below_alloc | apply pw_below_drewN | apply below_drew1) | exact HB.out))); rintro e w17 ⟨rfl, hb⟩; have n0_ := Aside0.mk (below_step (by repeat (first | (with_reducible first | exact HB.out | apply below_alloc | apply pw_below_drewN | apply below_drew1) | exact HB.out)) hb); clear HB; have HB := n0_; clear n0_; (try clear hb); (try clear hb2); (try clear hk); (try clear hi)))
                go_ret
                exact ⟨by first | rfl | (simp [errW_none, errW_some] <;> rfl) | (simp [*, errW_none, errW_some] <;> rfl), by repeat (first | (with_reducible first | exact HB.out | apply below_alloc | apply pw_below_drewN | apply below_drew1) | exact HB.out)⟩
              · rw [if_neg c11] at H
                have c11b0 : (t121.toList == ([65, 122] : List UInt8)) = false := beq_eq_false_iff_ne.mpr c11
                have c11b1 : (t121.toList != ([65, 122] : List UInt8)) = true := bne_iff_ne.mpr c11
                obtain rfl := Option.some.inj H
                go_enter Tryd.func10, Tryd.ntmps10
                go_wp2_with (first | ((with_reducible refine gate_callee (f := 12) rfl ?_); refine goesL_ (some 8) rfl rfl Tryd.func12 (by kernel_rfl) rfl #[.string (⟨#[52, 49, 55, 65]⟩ : ByteArray)] rfl (by (try simp only [List.map_toArray, List.map_cons, List.map_nil]); first | done | rfl | (simp only [List.length_drop, List.length_take]; rfl)) ?_; (with_reducible refine (hex_Parse.calls k (⟨#[52, 49, 55, 65]⟩ : ByteArray) t114 t115 t116 _ A1.out).mono ?_); rintro e w18 ⟨rfl, hb⟩; refine ⟨_, rfl, ?_⟩; have n0_ := Aside0.mk (below_step (by repeat (first | (with_reducible first | exact HB.out | apply below_alloc | apply pw_below_drewN | apply below_drew1) | exact HB.out)) hb); clear HB; have HB := n0_; clear n0_; (try clear hb); (try clear hb2); (try clear hk); (try clear hi)) | ((with_reducible refine gate_callee (f := 12) rfl ?_); refine goesL_ (some 13) rfl rfl Tryd.func12 (by kernel_rfl) rfl #[.string (⟨#[52, 49, 32, 55, 97]⟩ : ByteArray)] rfl (by (try simp only [List.map_toArray, List.map_cons, List.map_nil]); first | done | rfl | (simp only [List.length_drop, List.length_take]; rfl)) ?_; (with_reducible refine (hex_Parse.calls k (⟨#[52, 49, 32, 55, 97]⟩ : ByteArray) t117 t118 t119 _ A2.out).mono ?_); rintro e w19 ⟨rfl, hb⟩; refine ⟨_, rfl, ?_⟩; have n0_ := Aside0.mk (below_step (by repeat (first | (with_reducible first | exact HB.out | apply below_alloc | apply pw_below_drewN | apply below_drew1) | exact HB.out)) hb); clear HB; have HB := n0_; clear n0_; (try clear hb); (try clear hb2); (try clear hk); (try clear hi)) | ((with_reducible refine gate_callee (f := 11) rfl ?_); refine goesL_ (some 17) rfl rfl Tryd.func11 (by kernel_rfl) rfl #[.string (⟨#[65, 122]⟩ : ByteArray)] rfl (by (try simp only [List.map_toArray, List.map_cons, List.map_nil]); first | done | rfl | (simp only [List.length_drop, List.length_take]; rfl)) ?_; (with_reducible refine (Ext.hex_Text.calls k (⟨#[65, 122]⟩ : ByteArray) t120 _ A3.out).mono ?_); rintro e w20 ⟨rfl, hb⟩; refine ⟨_, rfl, ?_⟩; have n0_ := Aside0.mk (below_step (by repeat (first | (with_reducible first | exact HB.out | apply below_alloc | apply pw_below_drewN | apply below_drew1) | exact HB.out)) hb); clear HB; have HB := n0_; clear n0_; (try clear hb); (try clear hb2); (try clear hk); (try clear hi)) | (go_at_call 16; (with_reducible refine (hex_Load.calls k (⟨#[52, 32, 49, 32, 35, 32, 52, 50, 10, 55, 97, 70]⟩ : ByteArray) t121 _ A10.out).mono ?_); rintro e w21 ⟨rfl, hb⟩; have n0_ := Aside0.mk (below_step (by repeat (first | (with_reducible first | exact HB.out | apply below_alloc | apply pw_below_drewN | apply below_drew1) | exact HB.out)) hb); clear HB; have HB := n0_; clear n0_; (try clear hb); (try clear hb2); (try clear hk); (try clear hi)))
                go_ret
                exact ⟨by first | rfl | (simp [errW_none, errW_some] <;> rfl) | (simp [*, errW_none, errW_some] <;> rfl), by repeat (first | (with_reducible first | exact HB.out | apply below_alloc | apply pw_below_drewN | apply below_drew1) | exact HB.out)⟩
            · rw [if_neg c9] at H
              have c9b0 : (t119 == 3) = false := beq_eq_false_iff_ne.mpr c9
              have c9b1 : (t119 != 3) = true := bne_iff_ne.mpr c9
              obtain rfl := Option.some.inj H
              go_enter Tryd.func10, Tryd.ntmps10
              go_wp2_with (first | ((with_reducible refine gate_callee (f := 12) rfl ?_); refine goesL_ (some 8) rfl rfl Tryd.func12 (by kernel_rfl) rfl #[.string (⟨#[52, 49, 55, 65]⟩ : ByteArray)] rfl (by (try simp only [List.map_toArray, List.map_cons, List.map_nil]); first | done | rfl | (simp only [List.length_drop, List.length_take]; rfl)) ?_; (with_reducible refine (hex_Parse.calls k (⟨#[52, 49, 55, 65]⟩ : ByteArray) t114 t115 t116 _ A1.out).mono ?_); rintro e w22 ⟨rfl, hb⟩; refine ⟨_, rfl, ?_⟩; have n0_ := Aside0.mk (below_step (by repeat (first | (with_reducible first | exact HB.out | apply below_alloc | apply pw_below_drewN | apply below_drew1) | exact HB.out)) hb); clear HB; have HB := n0_; clear n0_; (try clear hb); (try clear hb2); (try clear hk); (try clear hi)) | ((with_reducible refine gate_callee (f := 12) rfl ?_); refine goesL_ (some 13) rfl rfl Tryd.func12 (by kernel_rfl) rfl #[.string (⟨#[52, 49, 32, 55, 97]⟩ : ByteArray)] rfl (by (try simp only [List.map_toArray, List.map_cons, List.map_nil]); first | done | rfl | (simp only [List.length_drop, List.length_take]; rfl)) ?_; (with_reducible refine (hex_Parse.calls k (⟨#[52, 49, 32, 55, 97]⟩ : ByteArray) t117 t118 t119 _ A2.out).mono ?_); rintro e w23 ⟨rfl, hb⟩; refine ⟨_, rfl, ?_⟩; have n0_ := Aside0.mk (below_step (by repeat (first | (with_reducible first | exact HB.out | apply below_alloc | apply pw_below_drewN | apply below_drew1) | exact HB.out)) hb); clear HB; have HB := n0_; clear n0_; (try clear hb); (try clear hb2); (try clear hk); (try clear hi)) | ((with_reducible refine gate_callee (f := 11) rfl ?_); refine goesL_ (some 17) rfl rfl Tryd.func11 (by kernel_rfl) rfl #[.string (⟨#[65, 122]⟩ : ByteArray)] rfl (by (try simp only [List.map_toArray, List.map_cons, List.map_nil]); first | done | rfl | (simp only [List.length_drop, List.length_take]; rfl)) ?_; (with_reducible refine (Ext.hex_Text.calls k (⟨#[65, 122]⟩ : ByteArray) t120 _ A3.out).mono ?_); rintro e w24 ⟨rfl, hb⟩; refine ⟨_, rfl, ?_⟩; have n0_ := Aside0.mk (below_step (by repeat (first | (with_reducible first | exact HB.out | apply below_alloc | apply pw_below_drewN | apply below_drew1) | exact HB.out)) hb); clear HB; have HB := n0_; clear n0_; (try clear hb); (try clear hb2); (try clear hk); (try clear hi)))
              go_ret
              exact ⟨by first | rfl | (simp [errW_none, errW_some] <;> rfl) | (simp [*, errW_none, errW_some] <;> rfl), by repeat (first | (with_reducible first | exact HB.out | apply below_alloc | apply pw_below_drewN | apply below_drew1) | exact HB.out)⟩
          · rw [if_neg c8] at H
            have c8b0 : (t118 == 2) = false := beq_eq_false_iff_ne.mpr c8
            have c8b1 : (t118 != 2) = true := bne_iff_ne.mpr c8
            obtain rfl := Option.some.inj H
            go_enter Tryd.func10, Tryd.ntmps10
            go_wp2_with (first | ((with_reducible refine gate_callee (f := 12) rfl ?_); refine goesL_ (some 8) rfl rfl Tryd.func12 (by kernel_rfl) rfl #[.string (⟨#[52, 49, 55, 65]⟩ : ByteArray)] rfl (by (try simp only [List.map_toArray, List.map_cons, List.map_nil]); first | done | rfl | (simp only [List.length_drop, List.length_take]; rfl)) ?_; (with_reducible refine (hex_Parse.calls k (⟨#[52, 49, 55, 65]⟩ : ByteArray) t114 t115 t116 _ A1.out).mono ?_); rintro e w25 ⟨rfl, hb⟩; refine ⟨_, rfl, ?_⟩; have n0_ := Aside0.mk (below_step (by repeat (first | (with_reducible first | exact HB.out | apply below_alloc | apply pw_below_drewN | apply below_drew1) | exact HB.out)) hb); clear HB; have HB := n0_; clear n0_; (try clear hb); (try clear hb2); (try clear hk); (try clear hi)) | ((with_reducible refine gate_callee (f := 12) rfl ?_); refine goesL_ (some 13) rfl rfl Tryd.func12 (by kernel_rfl) rfl #[.string (⟨#[52, 49, 32, 55, 97]⟩ : ByteArray)] rfl (by (try simp only [List.map_toArray, List.map_cons, List.map_nil]); first | done | rfl | (simp only [List.length_drop, List.length_take]; rfl)) ?_; (with_reducible refine (hex_Parse.calls k (⟨#[52, 49, 32, 55, 97]⟩ : ByteArray) t117 t118 t119 _ A2.out).mono ?_); rintro e w26 ⟨rfl, hb⟩; refine ⟨_, rfl, ?_⟩; have n0_ := Aside0.mk (below_step (by repeat (first | (with_reducible first | exact HB.out | apply below_alloc | apply pw_below_drewN | apply below_drew1) | exact HB.out)) hb); clear HB; have HB := n0_; clear n0_; (try clear hb); (try clear hb2); (try clear hk); (try clear hi)) | ((with_reducible refine gate_callee (f := 11) rfl ?_); refine goesL_ (some 17) rfl rfl Tryd.func11 (by kernel_rfl) rfl #[.string (⟨#[65, 122]⟩ : ByteArray)] rfl (by (try simp only [List.map_toArray, List.map_cons, List.map_nil]); first | done | rfl | (simp only [List.length_drop, List.length_take]; rfl)) ?_; (with_reducible refine (Ext.hex_Text.calls k (⟨#[65, 122]⟩ : ByteArray) t120 _ A3.out).mono ?_); rintro e w27 ⟨rfl, hb⟩; refine ⟨_, rfl, ?_⟩; have n0_ := Aside0.mk (below_step (by repeat (first | (with_reducible first | exact HB.out | apply below_alloc | apply pw_below_drewN | apply below_drew1) | exact HB.out)) hb); clear HB; have HB := n0_; clear n0_; (try clear hb); (try clear hb2); (try clear hk); (try clear hi)))
            go_ret
            exact ⟨by first | rfl | (simp [errW_none, errW_some] <;> rfl) | (simp [*, errW_none, errW_some] <;> rfl), by repeat (first | (with_reducible first | exact HB.out | apply below_alloc | apply pw_below_drewN | apply below_drew1) | exact HB.out)⟩
        · rw [if_neg c7] at H
          have c7b0 : (t116 == 0) = false := beq_eq_false_iff_ne.mpr c7
          have c7b1 : (t116 != 0) = true := bne_iff_ne.mpr c7
          obtain rfl := Option.some.inj H
          go_enter Tryd.func10, Tryd.ntmps10
          go_wp2_with (first | ((with_reducible refine gate_callee (f := 12) rfl ?_); refine goesL_ (some 8) rfl rfl Tryd.func12 (by kernel_rfl) rfl #[.string (⟨#[52, 49, 55, 65]⟩ : ByteArray)] rfl (by (try simp only [List.map_toArray, List.map_cons, List.map_nil]); first | done | rfl | (simp only [List.length_drop, List.length_take]; rfl)) ?_; (with_reducible refine (hex_Parse.calls k (⟨#[52, 49, 55, 65]⟩ : ByteArray) t114 t115 t116 _ A1.out).mono ?_); rintro e w28 ⟨rfl, hb⟩; refine ⟨_, rfl, ?_⟩; have n0_ := Aside0.mk (below_step (by repeat (first | (with_reducible first | exact HB.out | apply below_alloc | apply pw_below_drewN | apply below_drew1) | exact HB.out)) hb); clear HB; have HB := n0_; clear n0_; (try clear hb); (try clear hb2); (try clear hk); (try clear hi)) | ((with_reducible refine gate_callee (f := 12) rfl ?_); refine goesL_ (some 13) rfl rfl Tryd.func12 (by kernel_rfl) rfl #[.string (⟨#[52, 49, 32, 55, 97]⟩ : ByteArray)] rfl (by (try simp only [List.map_toArray, List.map_cons, List.map_nil]); first | done | rfl | (simp only [List.length_drop, List.length_take]; rfl)) ?_; (with_reducible refine (hex_Parse.calls k (⟨#[52, 49, 32, 55, 97]⟩ : ByteArray) t117 t118 t119 _ A2.out).mono ?_); rintro e w29 ⟨rfl, hb⟩; refine ⟨_, rfl, ?_⟩; have n0_ := Aside0.mk (below_step (by repeat (first | (with_reducible first | exact HB.out | apply below_alloc | apply pw_below_drewN | apply below_drew1) | exact HB.out)) hb); clear HB; have HB := n0_; clear n0_; (try clear hb); (try clear hb2); (try clear hk); (try clear hi)) | ((with_reducible refine gate_callee (f := 11) rfl ?_); refine goesL_ (some 17) rfl rfl Tryd.func11 (by kernel_rfl) rfl #[.string (⟨#[65, 122]⟩ : ByteArray)] rfl (by (try simp only [List.map_toArray, List.map_cons, List.map_nil]); first | done | rfl | (simp only [List.length_drop, List.length_take]; rfl)) ?_; (with_reducible refine (Ext.hex_Text.calls k (⟨#[65, 122]⟩ : ByteArray) t120 _ A3.out).mono ?_); rintro e w30 ⟨rfl, hb⟩; refine ⟨_, rfl, ?_⟩; have n0_ := Aside0.mk (below_step (by repeat (first | (with_reducible first | exact HB.out | apply below_alloc | apply pw_below_drewN | apply below_drew1) | exact HB.out)) hb); clear HB; have HB := n0_; clear n0_; (try clear hb); (try clear hb2); (try clear hk); (try clear hi)))
          go_ret
          exact ⟨by first | rfl | (simp [errW_none, errW_some] <;> rfl) | (simp [*, errW_none, errW_some] <;> rfl), by repeat (first | (with_reducible first | exact HB.out | apply below_alloc | apply pw_below_drewN | apply below_drew1) | exact HB.out)⟩
      · rw [if_neg c6] at H
        have c6b0 : (t115 == 0) = false := beq_eq_false_iff_ne.mpr c6
        have c6b1 : (t115 != 0) = true := bne_iff_ne.mpr c6
        obtain rfl := Option.some.inj H
        go_enter Tryd.func10, Tryd.ntmps10
        go_wp2_with (first | ((with_reducible refine gate_callee (f := 12) rfl ?_); refine goesL_ (some 8) rfl rfl Tryd.func12 (by kernel_rfl) rfl #[.string (⟨#[52, 49, 55, 65]⟩ : ByteArray)] rfl (by (try simp only [List.map_toArray, List.map_cons, List.map_nil]); first | done | rfl | (simp only [List.length_drop, List.length_take]; rfl)) ?_; (with_reducible refine (hex_Parse.calls k (⟨#[52, 49, 55, 65]⟩ : ByteArray) t114 t115 t116 _ A1.out).mono ?_); rintro e w31 ⟨rfl, hb⟩; refine ⟨_, rfl, ?_⟩; have n0_ := Aside0.mk (below_step (by repeat (first | (with_reducible first | exact HB.out | apply below_alloc | apply pw_below_drewN | apply below_drew1) | exact HB.out)) hb); clear HB; have HB := n0_; clear n0_; (try clear hb); (try clear hb2); (try clear hk); (try clear hi)) | ((with_reducible refine gate_callee (f := 12) rfl ?_); refine goesL_ (some 13) rfl rfl Tryd.func12 (by kernel_rfl) rfl #[.string (⟨#[52, 49, 32, 55, 97]⟩ : ByteArray)] rfl (by (try simp only [List.map_toArray, List.map_cons, List.map_nil]); first | done | rfl | (simp only [List.length_drop, List.length_take]; rfl)) ?_; (with_reducible refine (hex_Parse.calls k (⟨#[52, 49, 32, 55, 97]⟩ : ByteArray) t117 t118 t119 _ A2.out).mono ?_); rintro e w32 ⟨rfl, hb⟩; refine ⟨_, rfl, ?_⟩; have n0_ := Aside0.mk (below_step (by repeat (first | (with_reducible first | exact HB.out | apply below_alloc | apply pw_below_drewN | apply below_drew1) | exact HB.out)) hb); clear HB; have HB := n0_; clear n0_; (try clear hb); (try clear hb2); (try clear hk); (try clear hi)) | ((with_reducible refine gate_callee (f := 11) rfl ?_); refine goesL_ (some 17) rfl rfl Tryd.func11 (by kernel_rfl) rfl #[.string (⟨#[65, 122]⟩ : ByteArray)] rfl (by (try simp only [List.map_toArray, List.map_cons, List.map_nil]); first | done | rfl | (simp only [List.length_drop, List.length_take]; rfl)) ?_; (with_reducible refine (Ext.hex_Text.calls k (⟨#[65, 122]⟩ : ByteArray) t120 _ A3.out).mono ?_); rintro e w33 ⟨rfl, hb⟩; refine ⟨_, rfl, ?_⟩; have n0_ := Aside0.mk (below_step (by repeat (first | (with_reducible first | exact HB.out | apply below_alloc | apply pw_below_drewN | apply below_drew1) | exact HB.out)) hb); clear HB; have HB := n0_; clear n0_; (try clear hb); (try clear hb2); (try clear hk); (try clear hi)))
        go_ret
        exact ⟨by first | rfl | (simp [errW_none, errW_some] <;> rfl) | (simp [*, errW_none, errW_some] <;> rfl), by repeat (first | (with_reducible first | exact HB.out | apply below_alloc | apply pw_below_drewN | apply below_drew1) | exact HB.out)⟩
    · rw [if_neg c5] at H
      have c5b0 : (t114.toList == ([65, 122] : List UInt8)) = false := beq_eq_false_iff_ne.mpr c5
      have c5b1 : (t114.toList != ([65, 122] : List UInt8)) = true := bne_iff_ne.mpr c5
      obtain rfl := Option.some.inj H
      go_enter Tryd.func10, Tryd.ntmps10
      go_wp2_with (first | ((with_reducible refine gate_callee (f := 12) rfl ?_); refine goesL_ (some 8) rfl rfl Tryd.func12 (by kernel_rfl) rfl #[.string (⟨#[52, 49, 55, 65]⟩ : ByteArray)] rfl (by (try simp only [List.map_toArray, List.map_cons, List.map_nil]); first | done | rfl | (simp only [List.length_drop, List.length_take]; rfl)) ?_; (with_reducible refine (hex_Parse.calls k (⟨#[52, 49, 55, 65]⟩ : ByteArray) t114 t115 t116 _ A1.out).mono ?_); rintro e w34 ⟨rfl, hb⟩; refine ⟨_, rfl, ?_⟩; have n0_ := Aside0.mk (below_step (by repeat (first | (with_reducible first | exact HB.out | apply below_alloc | apply pw_below_drewN | apply below_drew1) | exact HB.out)) hb); clear HB; have HB := n0_; clear n0_; (try clear hb); (try clear hb2); (try clear hk); (try clear hi)) | ((with_reducible refine gate_callee (f := 12) rfl ?_); refine goesL_ (some 13) rfl rfl Tryd.func12 (by kernel_rfl) rfl #[.string (⟨#[52, 49, 32, 55, 97]⟩ : ByteArray)] rfl (by (try simp only [List.map_toArray, List.map_cons, List.map_nil]); first | done | rfl | (simp only [List.length_drop, List.length_take]; rfl)) ?_; (with_reducible refine (hex_Parse.calls k (⟨#[52, 49, 32, 55, 97]⟩ : ByteArray) t117 t118 t119 _ A2.out).mono ?_); rintro e w35 ⟨rfl, hb⟩; refine ⟨_, rfl, ?_⟩; have n0_ := Aside0.mk (below_step (by repeat (first | (with_reducible first | exact HB.out | apply below_alloc | apply pw_below_drewN | apply below_drew1) | exact HB.out)) hb); clear HB; have HB := n0_; clear n0_; (try clear hb); (try clear hb2); (try clear hk); (try clear hi)) | ((with_reducible refine gate_callee (f := 11) rfl ?_); refine goesL_ (some 17) rfl rfl Tryd.func11 (by kernel_rfl) rfl #[.string (⟨#[65, 122]⟩ : ByteArray)] rfl (by (try simp only [List.map_toArray, List.map_cons, List.map_nil]); first | done | rfl | (simp only [List.length_drop, List.length_take]; rfl)) ?_; (with_reducible refine (Ext.hex_Text.calls k (⟨#[65, 122]⟩ : ByteArray) t120 _ A3.out).mono ?_); rintro e w36 ⟨rfl, hb⟩; refine ⟨_, rfl, ?_⟩; have n0_ := Aside0.mk (below_step (by repeat (first | (with_reducible first | exact HB.out | apply below_alloc | apply pw_below_drewN | apply below_drew1) | exact HB.out)) hb); clear HB; have HB := n0_; clear n0_; (try clear hb); (try clear hb2); (try clear hk); (try clear hi)))
      go_ret
      exact ⟨by first | rfl | (simp [errW_none, errW_some] <;> rfl) | (simp [*, errW_none, errW_some] <;> rfl), by repeat (first | (with_reducible first | exact HB.out | apply below_alloc | apply pw_below_drewN | apply below_drew1) | exact HB.out)⟩
  · rw [if_neg c4] at H
    have c4b0 : (t120.toList == ([52, 49, 55, 97] : List UInt8)) = false := beq_eq_false_iff_ne.mpr c4
    have c4b1 : (t120.toList != ([52, 49, 55, 97] : List UInt8)) = true := bne_iff_ne.mpr c4
    obtain rfl := Option.some.inj H
    go_enter Tryd.func10, Tryd.ntmps10
    go_wp2_with (first | ((with_reducible refine gate_callee (f := 12) rfl ?_); refine goesL_ (some 8) rfl rfl Tryd.func12 (by kernel_rfl) rfl #[.string (⟨#[52, 49, 55, 65]⟩ : ByteArray)] rfl (by (try simp only [List.map_toArray, List.map_cons, List.map_nil]); first | done | rfl | (simp only [List.length_drop, List.length_take]; rfl)) ?_; (with_reducible refine (hex_Parse.calls k (⟨#[52, 49, 55, 65]⟩ : ByteArray) t114 t115 t116 _ A1.out).mono ?_); rintro e w37 ⟨rfl, hb⟩; refine ⟨_, rfl, ?_⟩; have n0_ := Aside0.mk (below_step (by repeat (first | (with_reducible first | exact HB.out | apply below_alloc | apply pw_below_drewN | apply below_drew1) | exact HB.out)) hb); clear HB; have HB := n0_; clear n0_; (try clear hb); (try clear hb2); (try clear hk); (try clear hi)) | ((with_reducible refine gate_callee (f := 12) rfl ?_); refine goesL_ (some 13) rfl rfl Tryd.func12 (by kernel_rfl) rfl #[.string (⟨#[52, 49, 32, 55, 97]⟩ : ByteArray)] rfl (by (try simp only [List.map_toArray, List.map_cons, List.map_nil]); first | done | rfl | (simp only [List.length_drop, List.length_take]; rfl)) ?_; (with_reducible refine (hex_Parse.calls k (⟨#[52, 49, 32, 55, 97]⟩ : ByteArray) t117 t118 t119 _ A2.out).mono ?_); rintro e w38 ⟨rfl, hb⟩; refine ⟨_, rfl, ?_⟩; have n0_ := Aside0.mk (below_step (by repeat (first | (with_reducible first | exact HB.out | apply below_alloc | apply pw_below_drewN | apply below_drew1) | exact HB.out)) hb); clear HB; have HB := n0_; clear n0_; (try clear hb); (try clear hb2); (try clear hk); (try clear hi)) | ((with_reducible refine gate_callee (f := 11) rfl ?_); refine goesL_ (some 17) rfl rfl Tryd.func11 (by kernel_rfl) rfl #[.string (⟨#[65, 122]⟩ : ByteArray)] rfl (by (try simp only [List.map_toArray, List.map_cons, List.map_nil]); first | done | rfl | (simp only [List.length_drop, List.length_take]; rfl)) ?_; (with_reducible refine (Ext.hex_Text.calls k (⟨#[65, 122]⟩ : ByteArray) t120 _ A3.out).mono ?_); rintro e w39 ⟨rfl, hb⟩; refine ⟨_, rfl, ?_⟩; have n0_ := Aside0.mk (below_step (by repeat (first | (with_reducible first | exact HB.out | apply below_alloc | apply pw_below_drewN | apply below_drew1) | exact HB.out)) hb); clear HB; have HB := n0_; clear n0_; (try clear hb); (try clear hb2); (try clear hk); (try clear hi)))
    go_ret
    exact ⟨by first | rfl | (simp [errW_none, errW_some] <;> rfl) | (simp [*, errW_none, errW_some] <;> rfl), by repeat (first | (with_reducible first | exact HB.out | apply below_alloc | apply pw_below_drewN | apply below_drew1) | exact HB.out)⟩

end Go.Proofs.YtllnaagddpfclaaDoor.Q
