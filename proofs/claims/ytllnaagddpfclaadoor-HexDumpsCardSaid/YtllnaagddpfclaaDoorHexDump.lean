/- hex.Dump: what the loop over the builder leaves, as a plain function with rounds; the walk of the Go text. -/
import Derived.Test.YtllnaagddpfclaaDoorAx2
import Derived.Test.YtllnaagddpfclaaDoorHexText
namespace Go.Proofs.YtllnaagddpfclaaDoor.Ext
open Go Go.RowKit Go.Proofs.YtllnaagddpfclaaDoor Go.Proofs.YtllnaagddpfclaaDoor.A Go.Proofs.YtllnaagddpfclaaDoorW.PrintWords Go.Proofs.YtllnaagddpfclaaDoorW.PrintLast Go.Proofs.YtllnaagddpfclaaDoorW.PrintMore
attribute [local go_sem] max2_int min2_int max_two min_two max_three min_three max_four min_four

def hex_Dump.l0 : Nat → ByteArray → List Int → Int → Option ByteArray
  | 0, _, _, _ => none
  | k + 1, s, acc, x => if x < (s.size : Int) then (if 0 ≤ x then ((hex_line.f k (s.extract x.toNat (mn (x + 16) (s.size : Int)).toNat) x).bind fun t => (if acc.length + t.size ≤ 1000000 ∧ s.size ≤ 1000000 then (hex_Dump.l0 k s (acc ++ bytesOf t) (x + 16)) else none)) else none) else some (strOfNums acc)
def hex_Dump.f (k : Nat) (s : ByteArray) : Option ByteArray := hex_Dump.l0 k s [] 0
theorem hex_Dump.mono_l : ∀ k, (∀ y0 y1 y2, LeO (hex_Dump.l0 k y0 y1 y2) (hex_Dump.l0 (k + 1) y0 y1 y2))
  | 0 => fun _ _ _ r h => by simp [hex_Dump.l0] at h
  | k + 1 => by
    have ih0 := hex_Dump.mono_l k
    intro y0 y1 y2
    unfold hex_Dump.l0
    repeat' first
      | (with_reducible exact ih0 _ _ _)
      | (with_reducible exact hex_line.mono _ _ _)
      | (with_reducible exact LeO.refl _)
      | (with_reducible exact LeO.none _)
      | (with_reducible refine LeO.ite ?_ ?_)
      | (with_reducible refine LeO.bind ?_ (fun _ => ?_))
theorem hex_Dump.mono : ∀ a0 k, LeO (hex_Dump.f k a0) (hex_Dump.f (k + 1) a0) := fun a0 k => hex_Dump.mono_l k a0 [] 0
theorem isBytes_of (s : ByteArray) : isBytes (bytesOf s) := by
  intro x hx
  unfold bytesOf at hx
  obtain ⟨b, _, rfl⟩ := List.mem_map.mp hx
  have := b.toNat_lt
  omega
theorem strCells_nums (s : ByteArray) : Lib.strCells s = nums .u8 (bytesOf s) := by
  unfold Lib.strCells nums bytesOf
  rw [List.map_map]
  rfl
set_option maxHeartbeats 8000000 in
set_option maxRecDepth 100000 in
theorem hex_Dump.calls (k : Nat) (a0 : ByteArray) (r : ByteArray) (w : World) (hT : TAB w) (h : hex_Dump.f k a0 = some r) :
    Calls Tryd.prog 18 #[.string a0] w fun e w' => e = .returned (.string r) ∧ Below w.heap.size w w' := by
  have H' := Aside0.mk (show hex_Dump.l0 k a0 [] 0 = some r from h)
  have HT := Aside0.mk hT
  clear h hT
  have HI := Aside0.mk (Lib.fresh_isBuilder 34 5 w)
  go_enter Tryd.func18, Tryd.ntmps18
  go_wp2
  go_loopg [4] k (fun kq v4 w' => ∃ (acc : List Int) (x : Int), v4 = .int .i64 x ∧ Aside0 (hex_Dump.l0 kq a0 acc x = some r) ∧ Aside0 (kq ≤ k) ∧ Aside0 (isBytes acc) ∧ Aside0 (Lib.IsBuilder 34 5 w.heap.size w.heap.size (nums .u8 acc) w') ∧ Aside0 (Below w.heap.size w w'))
  case atStart => exact ⟨[], 0, rfl, H', ⟨Nat.le_refl _⟩, ⟨fun x hx => by cases hx⟩, HI, ⟨(Below.refl _ _).alloc (Nat.le_refl _) _⟩⟩
  case round =>
    clear H' HI
    obtain ⟨acc, x, rfl, HA, HK1, HS, HI, HB⟩ := hrel
    cases gk with
    | zero => exact absurd HA.out (by simp [hex_Dump.l0])
    | succ k1 =>
      have H := HA.out
      clear HA
      simp only [hex_Dump.l0] at H
      by_cases c6 : x < (a0.size : Int)
      · rw [if_pos c6] at H
        have c6b0 : decide (x < (a0.size : Int)) = true := decide_eq_true c6
        by_cases c7 : 0 ≤ x
        · rw [if_pos c7] at H
          obtain ⟨t, A10, H⟩ := Option.bind_eq_some_iff.mp H
          by_cases c11 : acc.length + t.size ≤ 1000000 ∧ a0.size ≤ 1000000
          · rw [if_pos c11] at H
            obtain ⟨c12, c13⟩ := c11
            have H2 := Aside0.mk H
            have A1 := Aside0.mk A10
            have L1 := Aside0.mk c12
            clear H A10 c12
            have e16 : IntKind.i64.wrap (x + 16) = x + 16 := by rw [IntKind.wrap_i64]; omega
            have e16' : wrap64 (x + 16) = x + 16 := by unfold wrap64; omega
            have f0 := eq_true c7
            have fin : ∀ hi : Int, mn (x + 16) (a0.size : Int) = hi → Aside0 (hex_line.f k1 (a0.extract x.toNat hi.toNat) x = some t) := fun hi e => ⟨by rw [← e]; exact A1.out⟩
            have rest : ∀ w12 : World, Below wr.heap.size wr w12 → Aside0 (Calls Tryd.prog 27 #[.pointer (some ⟨w.heap.size, 0, none⟩), .string t] w12 fun e w' => e = .returned (.tuple #[.int .i64 t.size, .nilIface]) ∧ (Lib.BuilderAt 34 5 w.heap.size w.heap.size (.pointer (some ⟨w.heap.size, 0, none⟩)) (nums .u8 acc ++ Lib.strCells t) w' ∧ Below w.heap.size w12 w')) := fun w12 hb =>
              ⟨b_writeString w.heap.size w.heap.size (nums .u8 acc) t w12 (isBuilder_below HI.out hb) (by rw [show (nums .u8 acc).length = acc.length by simp [nums]]; have := L1.out; omega) (by have := hb.size; have := HB.out.size; omega)⟩
            by_cases hm : (a0.size : Int) < x + 16
            · have f2 := eq_true hm
              have f3 : (x ≤ (a0.size : Int)) = True := eq_true (by omega)
              have A2 : Aside0 (hex_line.f k1 (a0.extract x.toNat a0.size) x = some t) := by
                have := fin (a0.size : Int) (by unfold mn; rw [if_pos hm])
                rwa [Int.toNat_natCast] at this
              clear hm c6 c7 c13 A1 fin
              go_wp2_with (go_at_call 28; (with_reducible refine (hex_line.calls k1 (a0.extract x.toNat a0.size) x t _ (TAB.below HT.out HB.out) A2.out).mono ?_))
              rintro e w12 ⟨rfl, hb⟩
              have C12 := rest w12 hb
              have B12 := Aside0.mk (below_step HB.out hb)
              clear hb rest
              go_wp2_with (go_at_call 27; (refine C12.out.mono ?_))
              rintro e w13 ⟨rfl, hI3, hb3⟩
              have I3 := Aside0.mk hI3
              have B3 := Aside0.mk (B12.out.trans hb3)
              clear hI3 hb3 B12 C12
              go_wp2
              go_roundg k1
              case measure => have := HK1.out; omega
              case rel =>
                refine ⟨acc ++ bytesOf t, x + 16, by first | rfl | (simp; done) | (simp [*]; done), H2, ⟨by have := HK1.out; omega⟩, ⟨bytes_app HS.out (isBytes_of t)⟩, ⟨.inr ?_⟩, B3⟩
                rw [nums_append, ← strCells_nums]
                exact I3.out
            · have f2 := eq_false hm
              have f3 : (x + 16 ≤ (a0.size : Int)) = True := eq_true (by omega)
              have f4 : (x ≤ x + 16) = True := eq_true (by omega)
              have A2 := fin (x + 16) (by unfold mn; rw [if_neg hm])
              clear hm c6 c7 c13 A1 fin
              go_wp2_with (go_at_call 28; (with_reducible refine (hex_line.calls k1 (a0.extract x.toNat (x + 16).toNat) x t _ (TAB.below HT.out HB.out) A2.out).mono ?_))
              rintro e w12 ⟨rfl, hb⟩
              have C12 := rest w12 hb
              have B12 := Aside0.mk (below_step HB.out hb)
              clear hb rest
              go_wp2_with (go_at_call 27; (refine C12.out.mono ?_))
              rintro e w13 ⟨rfl, hI3, hb3⟩
              have I3 := Aside0.mk hI3
              have B3 := Aside0.mk (B12.out.trans hb3)
              clear hI3 hb3 B12 C12
              go_wp2
              go_roundg k1
              case measure => have := HK1.out; omega
              case rel =>
                refine ⟨acc ++ bytesOf t, x + 16, by first | rfl | (simp; done) | (simp [*]; done), H2, ⟨by have := HK1.out; omega⟩, ⟨bytes_app HS.out (isBytes_of t)⟩, ⟨.inr ?_⟩, B3⟩
                rw [nums_append, ← strCells_nums]
                exact I3.out
          · rw [if_neg c11] at H; cases H
        · rw [if_neg c7] at H; cases H
      · rw [if_neg c6] at H
        have c6b0 : decide (x < (a0.size : Int)) = false := decide_eq_false c6
        obtain rfl := Option.some.inj H
        have hI := HI.out
        rw [nums_bytes acc HS.out] at hI
        have C12 := Aside0.mk (b_string w.heap.size w.heap.size _ wr hI HB.out.size)
        clear hI c6
        go_wp2_with (go_at_call 23; (refine C12.out.mono ?_))
        rintro e w13 rfl hb3
        have B3 := Aside0.mk (HB.out.trans hb3)
        clear hb3
        go_wp2
        go_ret
        exact ⟨rfl, B3.out⟩
end Go.Proofs.YtllnaagddpfclaaDoor.Ext
