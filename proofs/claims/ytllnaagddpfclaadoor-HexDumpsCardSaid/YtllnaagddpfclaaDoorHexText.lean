/- hex.Text: what the loop over the builder leaves, as a plain function with rounds; the walk of the Go text. -/
import Derived.Test.YtllnaagddpfclaaDoorAx1
import Derived.Test.YtllnaagddpfclaaDoorBWrite
namespace Go.Proofs.YtllnaagddpfclaaDoor.Ext
open Go Go.RowKit Go.Proofs.YtllnaagddpfclaaDoor Go.Proofs.YtllnaagddpfclaaDoor.A Go.Proofs.YtllnaagddpfclaaDoorW.PrintWords Go.Proofs.YtllnaagddpfclaaDoorW.PrintLast Go.Proofs.YtllnaagddpfclaaDoorW.PrintMore

def isBytes (l : List Int) : Prop := ∀ x ∈ l, 0 ≤ x ∧ x < 256
theorem builderAt_below {T e : TypeId} {B b : Nat} {p : Value} {bs : List Value} {w w1 : World} (h : Lib.BuilderAt T e B b p bs w) (hb : Below w.heap.size w w1) : Lib.BuilderAt T e B b p bs w1 := by
  have hlt := h.lt
  obtain ⟨h1, v, h2, h3, h4⟩ := h
  exact ⟨h1, v, (hb.block b hlt).trans h2, pw_own_below h3 hb, h4⟩
theorem isBuilder_below {T e : TypeId} {B b : Nat} {bs : List Value} {w w1 : World} (h : Lib.IsBuilder T e B b bs w) (hb : Below w.heap.size w w1) : Lib.IsBuilder T e B b bs w1 :=
  h.elim (fun x => .inl (builderAt_below x hb)) (fun x => .inr (builderAt_below x hb))
theorem isBuilder_lt {T e : TypeId} {B b : Nat} {bs : List Value} {w : World} (h : Lib.IsBuilder T e B b bs w) : b < w.heap.size := h.elim (fun x => x.lt) (fun x => x.lt)
theorem nums_bytes (l : List Int) (h : isBytes l) : nums .u8 l = Lib.byteCells (l.map fun n => UInt8.ofNat n.toNat) := by
  unfold nums Lib.byteCells
  rw [List.map_map]
  apply List.map_congr_left
  intro x hx
  obtain ⟨h0, h1⟩ := h x hx
  simp
  omega
theorem bytes_app {l m : List Int} (h : isBytes l) (h' : isBytes m) : isBytes (l ++ m) := by
  intro x hx
  rcases List.mem_append.mp hx with hx | hx
  · exact h x hx
  · exact h' x hx
theorem two_is (c : Int) (t : List Int) (h : hex_two.f c = some t) : t.length = 2 ∧ isBytes t := by
  unfold hex_two.f at h
  repeat' split at h
  all_goals first | (cases h; done) | skip
  obtain rfl := Option.some.inj h
  refine ⟨rfl, ?_⟩
  intro x hx
  simp only [List.mem_cons, List.not_mem_nil, or_false] at hx
  rcases hx with rfl | rfl
  · have := bt_range ⟨#[48, 49, 50, 51, 52, 53, 54, 55, 56, 57, 97, 98, 99, 100, 101, 102]⟩ (c / 16); omega
  · have := bt_range ⟨#[48, 49, 50, 51, 52, 53, 54, 55, 56, 57, 97, 98, 99, 100, 101, 102]⟩ (Go.bits .and .u8 c 15); omega
def hex_Text.l0 : Nat → ByteArray → List Int → Int → Option ByteArray
  | 0, _, _, _ => none
  | k + 1, s, acc, x => if x < (s.size : Int) then (if 0 ≤ x then ((hex_two.f (bt s x)).bind fun t => (if acc.length ≤ 1000000 then (hex_Text.l0 k s (acc ++ t) (wrap64 (x + 1))) else none)) else none) else some (strOfNums acc)
def hex_Text.f (k : Nat) (s : ByteArray) : Option ByteArray := hex_Text.l0 k s [] 0
theorem hex_Text.mono_l : ∀ k, (∀ y0 y1 y2, LeO (hex_Text.l0 k y0 y1 y2) (hex_Text.l0 (k + 1) y0 y1 y2))
  | 0 => fun _ _ _ r h => by simp [hex_Text.l0] at h
  | k + 1 => by
    have ih0 := hex_Text.mono_l k
    intro y0 y1 y2
    unfold hex_Text.l0
    repeat' first
      | (with_reducible exact ih0 _ _ _)
      | (with_reducible exact LeO.refl _)
      | (with_reducible exact LeO.none _)
      | (with_reducible refine LeO.ite ?_ ?_)
      | (with_reducible refine LeO.bind ?_ (fun _ => ?_))
theorem hex_Text.mono : ∀ a0 k, LeO (hex_Text.f k a0) (hex_Text.f (k + 1) a0) := fun a0 k => hex_Text.mono_l k a0 [] 0
set_option maxHeartbeats 8000000 in
set_option maxRecDepth 100000 in
theorem hex_Text.calls (k : Nat) (a0 : ByteArray) (r : ByteArray) (w : World) (h : hex_Text.f k a0 = some r) :
    Calls Tryd.prog 11 #[.string a0] w fun e w' => e = .returned (.string r) ∧ Below w.heap.size w w' := by
  have H' := Aside0.mk (show hex_Text.l0 k a0 [] 0 = some r from h)
  clear h
  have HI := Aside0.mk (Lib.fresh_isBuilder 34 5 w)
  go_enter Tryd.func11, Tryd.ntmps11
  go_wp2
  go_loopg [7] k (fun kq v7 w' => ∃ (acc : List Int) (x : Int), v7 = .int .i64 x ∧ Aside0 (hex_Text.l0 kq a0 acc x = some r) ∧ Aside0 (kq ≤ k) ∧ Aside0 (isBytes acc) ∧ Aside0 (Lib.IsBuilder 34 5 w.heap.size w.heap.size (nums .u8 acc) w') ∧ Aside0 (Below w.heap.size w w'))
  case atStart => exact ⟨[], 0, rfl, H', ⟨Nat.le_refl _⟩, ⟨fun x hx => by cases hx⟩, HI, ⟨(Below.refl _ _).alloc (Nat.le_refl _) _⟩⟩
  case round =>
    clear H' HI
    obtain ⟨acc, x, rfl, HA, HK1, HS, HI, HB⟩ := hrel
    cases gk with
    | zero => exact absurd HA.out (by simp [hex_Text.l0])
    | succ k1 =>
      have H := HA.out
      clear HA
      simp only [hex_Text.l0] at H
      by_cases c6 : x < (a0.size : Int)
      · rw [if_pos c6] at H
        have c6b0 : decide (x < (a0.size : Int)) = true := decide_eq_true c6
        by_cases c7 : 0 ≤ x
        · rw [if_pos c7] at H
          obtain ⟨t, A10, H⟩ := Option.bind_eq_some_iff.mp H
          by_cases c11 : acc.length ≤ 1000000
          · rw [if_pos c11] at H
            obtain ⟨t2, t3⟩ := two_is _ _ A10
            have H2 := Aside0.mk H
            have A1 := Aside0.mk A10
            have T2 := Aside0.mk t2
            have T3 := Aside0.mk t3
            have L1 := Aside0.mk c11
            clear H A10 t2 t3 c11
            have p9 := eq_true c7
            have q9 := eq_true c6
            clear c6 c7
            have hx9 := bt_at a0 x
            go_wp2_with (go_at_call 22; (with_reducible refine (hex_two.calls (bt a0 x) t _ A1.out).mono ?_))
            rintro e w12 ⟨v, rfl, ho, hb⟩
            obtain ⟨g, cap, rfl, hg1, hg2, cs, hg3⟩ := Kd.R_form ho (by rw [T2.out]; omega)
            have hI2 := isBuilder_below HI.out hb
            have hlt := isBuilder_lt HI.out
            have hcell : ∀ (j : Nat) u, (nums .u8 t)[j]? = some u → w12.cell? ((⟨g, 0, none⟩ : Addr).add j) = some u := by
              intro j u hj
              rw [add_plain]
              obtain ⟨hjl, hju⟩ := List.getElem?_eq_some_iff.mp hj
              have hjl' : j < t.length := by simpa [nums] using hjl
              have hc := (Kd.R_celln 0 ho (j : Int) (by omega) (by omega)).1
              rw [Int.toNat_natCast] at hc
              rw [hc, ← hju]
              simp [nums, rdOf, hjl']
            have C12 := Aside0.mk (b_write w.heap.size w.heap.size (nums .u8 acc) ⟨g, 0, none⟩ t.length cap (nums .u8 t) w12 hI2 (by simp [nums]) hcell (by show g ≠ _; omega) (by
              intro u hu
              unfold nums at hu
              obtain ⟨z, _, rfl⟩ := List.mem_map.mp hu
              rfl) (by rw [show (nums .u8 acc).length = acc.length by simp [nums]]; have := L1.out; have := T2.out; omega) (by have := hb.size; have := HB.out.size; omega))
            have B12 := Aside0.mk (below_step HB.out hb)
            clear ho hb hg1 hg2 hg3 hI2 hlt hcell
            go_wp2_with (go_at_call 21; (refine C12.out.mono ?_))
            rintro e w13 ⟨rfl, hI3, hb3⟩
            have I3 := Aside0.mk hI3
            have B3 := Aside0.mk (B12.out.trans hb3)
            clear hI3 hb3 B12 C12
            go_wp2
            go_roundg k1
            case measure => have := HK1.out; omega
            case rel =>
              refine ⟨acc ++ t, wrap64 (x + 1), by first | rfl | (simp; done) | (simp [*]; done), H2, ⟨by have := HK1.out; omega⟩, ⟨bytes_app HS.out T3.out⟩, ⟨.inr ?_⟩, B3⟩
              rw [nums_append]
              exact I3.out
          · rw [if_neg c11] at H; cases H
        · rw [if_neg c7] at H; cases H
      · rw [if_neg c6] at H
        have c6b0 : decide (x < (a0.size : Int)) = false := decide_eq_false c6
        obtain rfl := Option.some.inj H
        have hI := HI.out
        rw [nums_bytes acc HS.out] at hI
        have C12 := Aside0.mk (b_string w.heap.size w.heap.size _ wr hI HB.out.size)
        clear hI c6
        go_wp2_with (go_at_call 23; (refine C12.out.mono ?_))
        rintro e w13 rfl hb3
        have B3 := Aside0.mk (HB.out.trans hb3)
        clear hb3
        go_wp2
        go_ret
        exact ⟨rfl, B3.out⟩
end Go.Proofs.YtllnaagddpfclaaDoor.Ext
