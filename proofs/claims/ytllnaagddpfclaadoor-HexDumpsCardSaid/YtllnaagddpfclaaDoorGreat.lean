/- great: small letters as great ones, in a copy of a text's bytes: a plain function with rounds; the walk of the Go text. -/
import Derived.Test.YtllnaagddpfclaaDoorHexText
import Derived.Lib.ConvBytes
import Derived.Lib.Strings
import Derived.Lib.ItoaMem
import Derived.Lib.Walk
import Derived.BigQuiet
import Derived.Deep.QuietTactic
import Derived.Deep.LoopGhost
import Derived.RegionTactic
namespace Go.Proofs.YtllnaagddpfclaaDoor.Ext
open Go Go.RowKit Go.Proofs.YtllnaagddpfclaaDoor Go.Proofs.YtllnaagddpfclaaDoorW.PrintWords Go.Proofs.YtllnaagddpfclaaDoorW.PrintLast Go.Proofs.YtllnaagddpfclaaDoorW.PrintMore

def great.l0 : Nat → List Int → Int → Option ByteArray
  | 0, _, _ => none
  | k + 1, xs, x => if x < (xs.length : Int) then (if 0 ≤ x then (if rd xs x ≥ 97 then (if rd xs x ≤ 122 then great.l0 k (xs.set x.toNat ((rd xs x - 32) % 256)) (wrap64 (x + 1)) else great.l0 k xs (wrap64 (x + 1))) else great.l0 k xs (wrap64 (x + 1))) else none) else some (strOfNums xs)
def great.f (k : Nat) (s : ByteArray) : Option ByteArray := if s.size ≤ 1000000 then great.l0 k (bytesOf s) 0 else none
theorem great.mono_l : ∀ k, (∀ y0 y1, LeO (great.l0 k y0 y1) (great.l0 (k + 1) y0 y1))
  | 0 => fun _ _ r h => by simp [great.l0] at h
  | k + 1 => by
    have ih0 := great.mono_l k
    intro y0 y1
    unfold great.l0
    repeat' first
      | (with_reducible exact ih0 _ _)
      | (with_reducible exact LeO.refl _)
      | (with_reducible exact LeO.none _)
      | (with_reducible refine LeO.ite ?_ ?_)
theorem great.mono : ∀ a0 k, LeO (great.f k a0) (great.f (k + 1) a0) := fun a0 k => by
  unfold great.f
  exact LeO.ite (great.mono_l k _ _) (LeO.refl _)
/-- The block of a converted text: these bytes stand at its head, and may be written. -/
def Head (g : Nat) (xs : List Int) (w : World) : Prop := ∃ cs m, w.heap[g]? = some (.cells cs 5 (m, m + 1)) ∧ xs.length ≤ m ∧ ∀ j, (hj : j < xs.length) → cs[j]? = some (.int .u8 xs[j])
theorem Head.cell {g : Nat} {xs : List Int} {w : World} (h : Head g xs w) (i : Int) (h0 : 0 ≤ i) (h1 : i < xs.length) : w.cell? ⟨g, i.toNat, none⟩ = some (.int .u8 (rd xs i)) ∧ w.frozen? ⟨g, i.toNat, none⟩ = false := by
  obtain ⟨cs, m, hh, hm, hc⟩ := h
  have hi : i.toNat < xs.length := by omega
  constructor
  · simp only [World.cell?, hh]
    have := hc i.toNat hi
    simp [this, rd, hi]
  · simp only [World.frozen?, hh]
    simp
    omega
theorem Head.set {g : Nat} {xs : List Int} {w : World} (h : Head g xs w) (i : Int) (h0 : 0 ≤ i) (h1 : i < xs.length) (v : Int) : Head g (xs.set i.toNat v) (w.setCell ⟨g, i.toNat, none⟩ (.int .u8 v)) := by
  obtain ⟨cs, m, hh, hm, hc⟩ := h
  have hi : i.toNat < xs.length := by omega
  refine ⟨cs.setIfInBounds i.toNat (.int .u8 v), m, ?_, by simpa using hm, fun j hj => ?_⟩
  · have hlt : g < w.heap.size := (Array.getElem?_eq_some_iff.1 hh).1
    have := (Array.getElem?_eq_some_iff.1 hh).2
    simp [World.setCell, hlt, Array.getElem_modify, this]
  · have hj' : j < xs.length := by simpa using hj
    have hs : i.toNat < cs.size := (Array.getElem?_eq_some_iff.1 (hc i.toNat hi)).1
    by_cases he : i.toNat = j
    · subst he
      simp [hs]
    · rw [Array.getElem?_setIfInBounds_ne (by omega), hc j hj']
      simp [he]
theorem Head.drewN {g : Nat} {xs : List Int} {w : World} (h : Head g xs w) (n : Nat) : Head g xs (w.drewN n) := h
set_option maxHeartbeats 8000000 in
set_option maxRecDepth 100000 in
theorem great.calls (k : Nat) (a0 : ByteArray) (r : ByteArray) (w : World) (h : great.f k a0 = some r) :
    Calls Tryd.prog 13 #[.string a0] w fun e w' => e = .returned (.string r) ∧ Below w.heap.size w w' := by
  unfold great.f at h
  by_cases hsz : a0.size ≤ 1000000
  · rw [if_pos hsz] at h
    have H' := Aside0.mk h
    clear h
    have SZ := Aside0.mk hsz
    have kb := fun W => print_bytes (P := Tryd.prog) 9 32 5 Tryd.underlying9 Tryd.underlying32 Tryd.underlying5 a0 W
    clear hsz
    go_enter Tryd.func13, Tryd.ntmps13
    go_wp2
    have HH := Aside0.mk (show Head w.heap.size (bytesOf a0) (Lib.bytesWorld w 5 a0) from by
      refine ⟨_, _, Lib.bytesWorld_at_new w 5 a0, ?_, fun j hj => ?_⟩
      · rw [bytesOf_length]
        apply Decidable.byContradiction
        intro hn
        have hc := Lib.bytesWorld_cell w 5 a0 ((Lib.bytesCells w 5 a0).size) (by omega)
        simp [World.cell?, Lib.bytesWorld_at_new w 5 a0] at hc
      · rw [bytesOf_length] at hj
        have hc := Lib.bytesWorld_cell w 5 a0 j hj
        simp only [World.cell?, Lib.bytesWorld_at_new w 5 a0] at hc
        simp only [Option.isSome_none, Bool.false_eq_true, if_false] at hc
        rw [hc]
        have h' : j < a0.data.toList.length := by rw [data_length]; exact hj
        simp [bytesOf, List.getD_eq_getElem?_getD, List.getElem?_eq_getElem h'])
    have HB := Aside0.mk (bytes_below (Below.refl w.heap.size w) (Nat.le_refl _) 5 a0)
    have HL := Aside0.mk (bytesOf_length a0)
    clear kb
    go_loopg [4] k (fun kq v4 w' => ∃ (xs : List Int) (x : Int), v4 = .int .i64 x ∧ Aside0 (great.l0 kq xs x = some r) ∧ Aside0 (kq ≤ k) ∧ Aside0 (xs.length = a0.size) ∧ Aside0 (Head w.heap.size xs w') ∧ Aside0 (Below w.heap.size w w'))
    case atStart => exact ⟨bytesOf a0, 0, rfl, H', ⟨Nat.le_refl _⟩, HL, HH, HB⟩
    case round =>
      clear H' HH HB HL
      obtain ⟨xs, x, rfl, HA, HK1, HL, HH, HB⟩ := hrel
      cases gk with
      | zero => exact absurd HA.out (by simp [great.l0])
      | succ k1 =>
        have H := HA.out
        clear HA
        simp only [great.l0] at H
        rw [HL.out] at H
        by_cases c6 : x < (a0.size : Int)
        · rw [if_pos c6] at H
          by_cases c7 : 0 ≤ x
          · rw [if_pos c7] at H
            obtain ⟨hx0, hx1⟩ := HH.out.cell x c7 (by rw [HL.out]; exact c6)
            have X1 := Aside0.mk (show x < (xs.length : Int) by rw [HL.out]; exact c6)
            have X0 := Aside0.mk c7
            have c6b0 : decide (x < (a0.size : Int)) = true := decide_eq_true c6
            have p9 := eq_true c7
            have q9 := eq_true c6
            clear c6 c7
            by_cases c8 : rd xs x ≥ 97
            · rw [if_pos c8] at H
              have c8b0 : decide (rd xs x ≥ 97) = true := decide_eq_true c8
              by_cases c9 : rd xs x ≤ 122
              · rw [if_pos c9] at H
                have c9b0 : decide (rd xs x ≤ 122) = true := decide_eq_true c9
                have H2 := Aside0.mk H
                have S1 := Aside0.mk (HH.out.set x X0.out X1.out ((rd xs x - 32) % 256))
                clear H c8 c9
                go_wp2
                go_roundg k1
                case measure => have := HK1.out; omega
                case rel => exact ⟨xs.set x.toNat ((rd xs x - 32) % 256), wrap64 (x + 1), by first | rfl | (simp; done) | (simp [*]; done), H2, ⟨by have := HK1.out; omega⟩, ⟨by rw [List.length_set]; exact HL.out⟩, S1, ⟨HB.out.setCell (p := ⟨w.heap.size, x.toNat, none⟩) (Nat.le_refl _) _⟩⟩
              · rw [if_neg c9] at H
                have c9b0 : decide (rd xs x ≤ 122) = false := decide_eq_false c9
                have H2 := Aside0.mk H
                clear H c8 c9
                go_wp2
                go_roundg k1
                case measure => have := HK1.out; omega
                case rel => exact ⟨xs, wrap64 (x + 1), by first | rfl | (simp; done) | (simp [*]; done), H2, ⟨by have := HK1.out; omega⟩, HL, HH, HB⟩
            · rw [if_neg c8] at H
              have c8b0 : decide (rd xs x ≥ 97) = false := decide_eq_false c8
              have H2 := Aside0.mk H
              clear H c8
              go_wp2
              go_roundg k1
              case measure => have := HK1.out; omega
              case rel => exact ⟨xs, wrap64 (x + 1), by first | rfl | (simp; done) | (simp [*]; done), H2, ⟨by have := HK1.out; omega⟩, HL, HH, HB⟩
          · rw [if_neg c7] at H; cases H
        · rw [if_neg c6] at H
          have c6b0 : decide (x < (a0.size : Int)) = false := decide_eq_false c6
          obtain rfl := Option.some.inj H
          have hcv : ∀ c : Nat, (convert 32 9 (.slice (some ⟨w.heap.size, 0, none⟩) a0.size c)).run Tryd.prog wr = .ok (.string (strOfNums xs)) wr := fun c => by
            refine string_of_reads Tryd.underlying32 Tryd.underlying5 Tryd.underlying9 ⟨HL.out, by have := SZ.out; omega, fun _ => ⟨_, rfl, fun j hj => ?_⟩⟩
            rw [add_plain]
            have hc := (HH.out.cell (j : Int) (by omega) (by rw [HL.out]; omega)).1
            rw [Int.toNat_natCast] at hc
            rw [hc]
            simp [rd]
          clear c6
          go_wp2
          go_ret
          exact ⟨rfl, HB.out⟩
  · rw [if_neg hsz] at h; cases h
end Go.Proofs.YtllnaagddpfclaaDoor.Ext
