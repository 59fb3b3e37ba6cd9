/- SyntaxLevels: the law function answers true. -/
import Derived.Test.YthnhdompfhkepaaDoorCAwake
namespace Go.Proofs.YthnhdompfhkepaaDoor.Pure
open Go Go.RowKit Go.Proofs.YthnhdompfhkepaaDoor.Q Go.Proofs.YthnhdompfhkepaaDoorW.PrintWords Go.Proofs.YthnhdompfhkepaaDoorW.PrintLast Go.Proofs.YthnhdompfhkepaaDoorW.PrintMore
set_option linter.unusedSimpArgs false
set_option linter.unusedVariables false
set_option maxHeartbeats 8000000
set_option maxRecDepth 100000
/-! the nest of nots, and of whiles -/
def nE (n : Int) : Nat → S36
  | 0 => ⟨1, 0, n, noName, []⟩
  | k + 1 => ⟨7, 0, 0, noName, [nE n k]⟩
def wS (e : S36) : Nat → S43
  | 0 => ⟨3, noName, [e], [], []⟩
  | k + 1 => ⟨5, noName, [⟨5, 0, 0, noName, []⟩], [wS e k], []⟩
theorem GE_nE (n : Int) : ∀ (k : Nat) (lv : Int), GE (nE n k) lv ↔ lv + k ≤ 24
  | 0, lv => by simp [nE, GE_eq, GEs, FormE, nmE, arE, noName]
  | k + 1, lv => by
    rw [nE, GE_eq, GEs_iff]
    simp only [List.mem_singleton, forall_eq, GE_nE n k (lv + 1), FormE, nmE, arE, List.length_singleton]
    constructor
    · rintro ⟨h1, h2, h3⟩; omega
    · intro h; exact ⟨by omega, by simp, by omega⟩
theorem GS_wS (e : S36) (m : Nat) (he : ∀ lv, GE e lv ↔ lv + m ≤ 24) : ∀ (k : Nat) (lv : Int), GS (wS e k) lv ↔ lv + k + 1 + m ≤ 24
  | 0, lv => by
    rw [wS, GS_eq, GEs_iff]
    simp only [List.mem_singleton, forall_eq, he, FormS, nmS, arS, List.length_singleton, GSs_nil]
    constructor
    · rintro ⟨h1, h2, h3, h4⟩; omega
    · intro h; exact ⟨by omega, by simp, by omega, trivial, trivial⟩
  | k + 1, lv => by
    rw [wS, GS_eq, GEs_iff, GSs_iff]
    simp only [List.mem_singleton, forall_eq, GS_wS e m he k (lv + 1), FormS, nmS, arS, List.length_singleton, GSs_nil]
    constructor
    · rintro ⟨h1, h2, h3, h4, h5⟩; omega
    · intro h; exact ⟨by omega, by simp, by rw [GE_eq]; simp [GEs, FormE, nmE, arE, noName]; omega, by omega, trivial⟩
theorem OkE_nE (n : Int) (h : 0 ≤ n) (h' : n < 4294967296) : ∀ k, OkE (nE n k)
  | 0 => .mk _ h h' (by simp [nE]) (by simp [nE])
  | k + 1 => .mk _ (by simp [nE]) (by simp [nE]) (by simp [nE, maxN]) (by simpa [nE] using OkE_nE n h h' k)
theorem OkS_wS {e : S36} (h : OkE e) : ∀ k, OkS (wS e k)
  | 0 => .mk _ (by simp [wS, maxN]) (by simpa [wS] using h) (by simp [wS]) (by simp [wS]) (by simp [wS]) (by simp [wS])
  | k + 1 => .mk _ (by simp [wS, maxN]) (by simpa [wS] using OkE.mk ⟨5, 0, 0, noName, []⟩ (by decide) (by decide) (by decide) (by simp)) (by simp [wS, maxN]) (by simpa [wS] using OkS_wS h k) (by simp [wS]) (by simp [wS])
/-! the memory: what lies outside one block -/
def Same (B : Nat) (W W' : World) : Prop := W.heap.size ≤ W'.heap.size ∧ ∀ k, k < W.heap.size → k ≠ B → W'.heap[k]? = W.heap[k]?
theorem Same.trans {B : Nat} {W1 W2 W3 : World} (h : Same B W1 W2) (k : Same B W2 W3) : Same B W1 W3 := ⟨Nat.le_trans h.1 k.1, fun i hi hn => (k.2 i (Nat.lt_of_lt_of_le hi h.1) hn).trans (h.2 i hi hn)⟩
theorem Same.refl (B : Nat) (W : World) : Same B W W := ⟨Nat.le_refl _, fun _ _ _ => rfl⟩
theorem Same.alloc {B : Nat} {W1 W2 : World} (h : Same B W1 W2) (o : Obj) : Same B W1 (W2.alloc o) := h.trans ⟨by simp, fun i hi _ => Below.heap_alloc _ _ _ hi⟩
theorem Same.set {B : Nat} {W1 W2 : World} (h : Same B W1 W2) (i : Nat) (u : Value) : Same B W1 (W2.setCell ⟨B, i, none⟩ u) := h.trans ⟨by simp, fun i hi hn => Below.heap_setCell _ _ _ _ hn⟩
theorem Same.below {B : Nat} {W1 W2 : World} (h : Below W1.heap.size W1 W2) : Same B W1 W2 := ⟨h.size, fun i hi _ => h.block i hi⟩
def FarE (B : Nat) (W : World) (x : S36) (A : Option Addr) (c : Nat) : Prop := ∀ W', Same B W W' → InE W' x A c
def FarS (B : Nat) (W : World) (x : S43) (A2 : Option Addr) (c2 : Nat) (A3 : Option Addr) (c3 : Nat) (A4 : Option Addr) (c4 : Nat) : Prop := ∀ W', Same B W W' → InS W' x A2 c2 A3 c3 A4 c4
theorem FarE.go {B : Nat} {W W1 : World} {x : S36} {A : Option Addr} {c : Nat} (h : FarE B W x A c) (k : Same B W W1) : FarE B W1 x A c := fun W' s => h W' (k.trans s)
theorem FarS.go {B : Nat} {W W1 : World} {x : S43} {A2 : Option Addr} {c2 : Nat} {A3 : Option Addr} {c3 : Nat} {A4 : Option Addr} {c4 : Nat} (h : FarS B W x A2 c2 A3 c3 A4 c4) (k : Same B W W1) : FarS B W1 x A2 c2 A3 c3 A4 c4 := fun W' s => h W' (k.trans s)
def cellsE (x : S36) (A : Option Addr) (c : Nat) : Array Value := #[.int .i64 x.f0, .int .i64 x.f1, .int .u32 x.f2, .string x.f3, .slice A x.f4.length c]
def cellsS (x : S43) (A2 : Option Addr) (c2 : Nat) (A3 : Option Addr) (c3 : Nat) (A4 : Option Addr) (c4 : Nat) : Array Value := #[.int .i64 x.f0, .string x.f1, .slice A2 x.f2.length c2, .slice A3 x.f3.length c3, .slice A4 x.f4.length c4]
def put5 (W : World) (B : Nat) (v0 v1 v2 v3 v4 : Value) : World := ((((W.setCell ⟨B, 0, none⟩ v0).setCell ⟨B, 1, none⟩ v1).setCell ⟨B, 2, none⟩ v2).setCell ⟨B, 3, none⟩ v3).setCell ⟨B, 4, none⟩ v4
theorem put5_same {W : World} {B : Nat} {v0 v1 v2 v3 v4 : Value} : Same B W (put5 W B v0 v1 v2 v3 v4) := (((((Same.refl B W).set _ _).set _ _).set _ _).set _ _).set _ _
theorem put5_below {V W : World} {B : Nat} {v0 v1 v2 v3 v4 : Value} (h : Below V.heap.size V W) (hB : V.heap.size ≤ B) : Below V.heap.size V (put5 W B v0 v1 v2 v3 v4) := ((((h.setCell hB _).setCell hB _).setCell hB _).setCell hB _).setCell hB _
theorem put5_size {W : World} {B : Nat} {v0 v1 v2 v3 v4 : Value} : (put5 W B v0 v1 v2 v3 v4).heap.size = W.heap.size := by simp [put5]
theorem put5_blk {W : World} {B : Nat} {a0 a1 a2 a3 a4 v0 v1 v2 v3 v4 : Value} {t : TypeId} (h : W.heap[B]? = some (.cells #[a0, a1, a2, a3, a4] t (0, 0))) : (put5 W B v0 v1 v2 v3 v4).heap[B]? = some (.cells #[v0, v1, v2, v3, v4] t (0, 0)) := blk_set (blk_set (blk_set (blk_set (blk_set h 0 v0) 1 v1) 2 v2) 3 v3) 4 v4
/-- one more not -/
theorem roundE {W : World} {B : Nat} {x : S36} {A : Option Addr} {c : Nat} (h : W.heap[B]? = some (.cells (cellsE x A c) 36 (0, 0))) (hF : FarE B W x A c) :
    ((put5 W B (.int .i64 7) (.int .i64 0) (.int .u32 0) (.string ⟨#[]⟩) (.slice (some ⟨W.heap.size, 0, none⟩) 1 1)).alloc (.cells (cellsE x A c) 36)).heap[B]? = some (.cells (cellsE ⟨7, 0, 0, noName, [x]⟩ (some ⟨W.heap.size, 0, none⟩) 1) 36 (0, 0)) ∧
    FarE B ((put5 W B (.int .i64 7) (.int .i64 0) (.int .u32 0) (.string ⟨#[]⟩) (.slice (some ⟨W.heap.size, 0, none⟩) 1 1)).alloc (.cells (cellsE x A c) 36)) ⟨7, 0, 0, noName, [x]⟩ (some ⟨W.heap.size, 0, none⟩) 1 := by
  refine ⟨alloc_past (put5_blk h), fun W' s => (show InE W' _ _ _ from ⟨Nat.le_refl _, ?_⟩)⟩
  have hb : W'.heap[W.heap.size]? = some (.cells (cellsE x A c) 36) := (s.2 _ (by simp [put5_size]) (by have := blk_lt h; omega)).trans (alloc_at put5_size.symm)
  have hx := hF W' ((put5_same.alloc _).trans s)
  exact C_one hb x (k36_mk W' x hx.1 hx.2) rfl
/-- one more while -/
theorem roundS {W : World} {B : Nat} {y : S43} {A2 : Option Addr} {c2 : Nat} {A3 : Option Addr} {c3 : Nat} {A4 : Option Addr} {c4 : Nat} (h : W.heap[B]? = some (.cells (cellsS y A2 c2 A3 c3 A4 c4) 43 (0, 0))) (hF : FarS B W y A2 c2 A3 c3 A4 c4) :
    (((put5 W B (.int .i64 5) (.string ⟨#[]⟩) (.slice (some ⟨W.heap.size, 0, none⟩) 1 1) (.slice (some ⟨W.heap.size + 1, 0, none⟩) 1 1) (.slice none 0 0)).alloc (.cells #[.int .i64 5, .int .i64 0, .int .u32 0, .string ⟨#[]⟩, .slice none 0 0] 36)).alloc (.cells (cellsS y A2 c2 A3 c3 A4 c4) 43)).heap[B]? = some (.cells (cellsS ⟨5, noName, [⟨5, 0, 0, noName, []⟩], [y], []⟩ (some ⟨W.heap.size, 0, none⟩) 1 (some ⟨W.heap.size + 1, 0, none⟩) 1 none 0) 43 (0, 0)) ∧
    FarS B (((put5 W B (.int .i64 5) (.string ⟨#[]⟩) (.slice (some ⟨W.heap.size, 0, none⟩) 1 1) (.slice (some ⟨W.heap.size + 1, 0, none⟩) 1 1) (.slice none 0 0)).alloc (.cells #[.int .i64 5, .int .i64 0, .int .u32 0, .string ⟨#[]⟩, .slice none 0 0] 36)).alloc (.cells (cellsS y A2 c2 A3 c3 A4 c4) 43)) ⟨5, noName, [⟨5, 0, 0, noName, []⟩], [y], []⟩ (some ⟨W.heap.size, 0, none⟩) 1 (some ⟨W.heap.size + 1, 0, none⟩) 1 none 0 := by
  refine ⟨alloc_past (alloc_past (put5_blk h)), fun W' s => (show InS W' _ _ _ _ _ _ _ from ⟨⟨Nat.le_refl _, ?_⟩, ⟨Nat.le_refl _, ?_⟩, Nat.le_refl _, Kd.C_nil k43 W'⟩)⟩
  · have hb : W'.heap[W.heap.size]? = some (.cells #[.int .i64 5, .int .i64 0, .int .u32 0, .string ⟨#[]⟩, .slice none 0 0] 36) := (s.2 _ (by simp [put5_size]; omega) (by have := blk_lt h; omega)).trans (alloc_past (alloc_at put5_size.symm))
    exact C_one (d := k36) hb (⟨5, 0, 0, noName, []⟩ : S36) (k36_mk W' ⟨5, 0, 0, noName, []⟩ (A4 := none) (c4 := 0) (Nat.le_refl _) (Kd.C_nil k36 W')) rfl
  · have hb : W'.heap[W.heap.size + 1]? = some (.cells (cellsS y A2 c2 A3 c3 A4 c4) 43) := (s.2 _ (by simp [put5_size]) (by have := blk_lt h; omega)).trans (alloc_at (by simp [put5_size]))
    have hx := hF W' (((put5_same.alloc _).alloc _).trans s)
    exact C_one hb y (k43_mk W' y hx.1.1 hx.1.2 hx.2.1.1 hx.2.1.2 hx.2.2.1 hx.2.2.2) rfl
theorem startS {W : World} {B : Nat} {x : S36} {A : Option Addr} {c : Nat} (hF : FarE B W x A c) :
    FarS (W.heap.size + 1) ((W.alloc (.cells (cellsE x A c) 36)).alloc (.cells #[.int .i64 3, .string ⟨#[]⟩, .slice (some ⟨W.heap.size, 0, none⟩) 1 1, .slice none 0 0, .slice none 0 0] 43)) (wS x 0) (some ⟨W.heap.size, 0, none⟩) 1 none 0 none 0 := by
  intro W' s
  refine ⟨⟨Nat.le_refl _, ?_⟩, ⟨Nat.le_refl _, Kd.C_nil k43 W'⟩, Nat.le_refl _, Kd.C_nil k43 W'⟩
  have hb : W'.heap[W.heap.size]? = some (.cells (cellsE x A c) 36) := (s.2 _ (by simp; omega) (by omega)).trans (alloc_past (alloc_at rfl))
  have hx := hF W' ⟨by have := s.1; simp at this; omega, fun k hk _ => (s.2 k (by simp; omega) (by omega)).trans (((Same.refl B W).alloc _).alloc _ |>.2 k hk (by assumption))⟩
  exact C_one hb x (k36_mk W' x hx.1 hx.2) rfl
theorem endP {W : World} {B : Nat} {y : S43} {A2 : Option Addr} {c2 : Nat} {A3 : Option Addr} {c3 : Nat} {A4 : Option Addr} {c4 : Nat} (hF : FarS B W y A2 c2 A3 c3 A4 c4) {W' : World} (s : Below W.heap.size W W') {nm : ByteArray}
    (b1 : W'.heap[W.heap.size]? = some (.cells (cellsS y A2 c2 A3 c3 A4 c4) 43)) (b2 : W'.heap[W.heap.size + 1]? = some (.cells #[.string nm, .slice none 0 0, .slice none 0 0, .bool false, .slice (some ⟨W.heap.size, 0, none⟩) 1 1] 45)) :
    InP W' [] [] [⟨nm, [], [], false, [y]⟩] none 0 none 0 (some ⟨W.heap.size + 1, 0, none⟩) 1 := by
  have hx := hF W' (Same.below s)
  exact ⟨⟨Nat.le_refl _, Kd.C_nil Kd.string W'⟩, ⟨Nat.le_refl _, Kd.C_nil k59 W'⟩, Nat.le_refl _, C_one b2 _ (k45_mk W' ⟨nm, [], [], false, [y]⟩ (A1 := none) (c1 := 0) (Nat.le_refl _) (Kd.C_nil Kd.string W') (A2 := none) (c2 := 0) (Nat.le_refl _) (Kd.C_nil Kd.string W') (c4 := 1) (Nat.le_refl _) (C_one b1 y (k43_mk W' y hx.1.1 hx.1.2 hx.2.1.1 hx.2.1.2 hx.2.2.1 hx.2.2.2) rfl)) rfl⟩
theorem lvOk {n : Int} (h0 : 0 ≤ n) (h1 : n < 4294967296) (j i : Nat) : OkP [] [] [⟨⟨#[109, 97, 105, 110]⟩, [], [], false, [wS (nE n j) i]⟩] := ⟨by decide, by decide, by simp, by
  intro f hf
  obtain rfl := List.mem_singleton.mp hf
  exact ⟨by simp, by simp, by simp [maxN], by simpa using OkS_wS (OkE_nE n h0 h1 j) i⟩⟩
theorem lvIff (n : Int) (j i : Nat) : GP [] [] [⟨⟨#[109, 97, 105, 110]⟩, [], [], false, [wS (nE n j) i]⟩] ↔ (j : Int) + i + 2 ≤ 24 := by
  have hb : GSs [wS (nE n j) i] 1 ↔ (j : Int) + i + 2 ≤ 24 := by
    rw [GSs_iff]
    simp only [List.mem_singleton, forall_eq]
    rw [GS_wS (nE n j) j (GE_nE n j)]
    omega
  constructor
  · intro h
    exact hb.mp (h.funcs _ (List.mem_singleton.mpr rfl)).body
  · intro h
    refine ⟨by simp, by simp, by simp, by simp, ?_⟩
    intro x hx
    obtain rfl := List.mem_singleton.mp hx
    exact ⟨nameMain, by simp, by simp, by simp, hb.mpr h⟩
theorem RetB.fixL {p : Prop} {b : Bool} (h : b = true ↔ p) {w w' : World} {e : Ending} (k : RetB p w e w') : e = .returned (.bool b) ∧ Below w.heap.size w w' := by
  obtain ⟨c, e1, e2, e3⟩ := k
  have : c = b := by rw [Bool.eq_iff_iff, e2, h]
  exact ⟨by rw [e1, this], e3⟩
theorem syntaxLevels_c (a : Int) (ha0 : 0 ≤ a) (ha : a < 256) (b : Int) (hb0 : 0 ≤ b) (hb : b < 256) (n : Int) (hn0 : 0 ≤ n) (hn : n < 4294967296) (w : World) (hT : Ext.TAB w) :
    Calls Tryd.prog 9 #[.int .u8 a, .int .u8 b, .int .u32 n] w (fun e w' => e = .returned (.bool true) ∧ Below w.heap.size w w') := by
  have HT := Aside0.mk hT
  have HN := Aside0.mk (And.intro hn0 hn)
  clear hT hn0 hn
  by_cases h60 : a ≤ 60
  · by_cases h61 : b ≤ 60
    · have t1 : (60 < a) = False := eq_false (by omega)
      have t2 : (60 < b) = False := eq_false (by omega)
      go_enter Tryd.func9, Tryd.ntmps9
      go_wp2_with (first | (go_at_call 14; go_loud (refine (awake_c _ HT.out).mono ?_); rintro e w1 ⟨rfl, hB⟩; have HB1 := Aside0.mk hB; clear hB))
      go_loopg [8] a.toNat (fun m v wr => ∃ (j : Nat) (x : S36) (A : Option Addr) (c : Nat), v = .int .i64 j ∧ Aside0 (wr.heap[w1.heap.size]? = some (.cells (cellsE x A c) 36 (0, 0)) ∧ (m : Int) + j = a ∧ x = nE n j ∧ FarE w1.heap.size wr x A c) ∧ Aside0 (Below w1.heap.size w1 wr))
      case atStart =>
        refine ⟨0, nE n 0, none, 0, rfl, ⟨blk_new _ _, by omega, rfl, fun W' _ => ⟨Nat.le_refl _, Kd.C_nil k36 W'⟩⟩, ⟨balloc (brefl _) _⟩⟩
      case round =>
        obtain ⟨j, x, A, c, rfl, HJ, HB⟩ := hrel
        rename World => w2
        have q0 := blk_cell HJ.out.1 0
        have q1 := blk_cell HJ.out.1 1
        have q2 := blk_cell HJ.out.1 2
        have q3 := blk_cell HJ.out.1 3
        have q4 := blk_cell HJ.out.1 4
        have hz := blk_frozen HJ.out.1
        have hlt := blk_lt HJ.out.1
        unfold cellsE at q0 q1 q2 q3 q4
        have hw : wrap64 ((j : Int) + 1) = ((j + 1 : Nat) : Int) := by have := HJ.out.2.1; rw [wid (by omega)]; omega
        have hw2 : wrap64 a = a := wid (by omega)
        by_cases hj : (j : Int) < a
        · go_wp2
          go_roundg (a.toNat - (j + 1))
          case measure => have := HJ.out.2.1; omega
          case rel => exact ⟨j + 1, _, _, _, rfl, ⟨(roundE HJ.out.1 HJ.out.2.2.2).1, by omega, by rw [HJ.out.2.2.1]; rfl, (roundE HJ.out.1 HJ.out.2.2.2).2⟩, ⟨(put5_below HB.out (Nat.le_refl _)).alloc (by have := HB.out.size; rw [put5_size]; omega) _⟩⟩
        · go_wp2
          have HX := Aside0.mk HJ.out.2.2.2
          have ea : (j : Int) = a := by have := HJ.out.2.1; omega
          have HX0 := Aside0.mk HJ.out.2.2.1
          have HW := Aside0.mk (bstep HB1.out HB.out)
          go_loopg [10] b.toNat (fun m v wr => ∃ (i : Nat) (y : S43) (A2 : Option Addr) (c2 : Nat) (A3 : Option Addr) (c3 : Nat) (A4 : Option Addr) (c4 : Nat), v = .int .i64 i ∧ Aside0 (wr.heap[w2.heap.size + 1]? = some (.cells (cellsS y A2 c2 A3 c3 A4 c4) 43 (0, 0)) ∧ (m : Int) + i = b ∧ y = wS x i ∧ FarS (w2.heap.size + 1) wr y A2 c2 A3 c3 A4 c4) ∧ Aside0 (Below w2.heap.size w2 wr))
          case atStart =>
            refine ⟨0, wS x 0, _, 1, none, 0, none, 0, rfl, ⟨alloc_at (by simp), by omega, rfl, startS HX.out⟩, ⟨balloc (balloc (brefl _) _) _⟩⟩
          case round =>
            clear q0 q1 q2 q3 q4 hz hlt hw hj
            obtain ⟨i, y, A2, c2, A3, c3, A4, c4, rfl, HI, HC⟩ := hrel
            rename World => w3
            have q0 := blk_cell HI.out.1 0
            have q1 := blk_cell HI.out.1 1
            have q2 := blk_cell HI.out.1 2
            have q3 := blk_cell HI.out.1 3
            have q4 := blk_cell HI.out.1 4
            have hz := blk_frozen HI.out.1
            have hlt := blk_lt HI.out.1
            have hlt2 : w2.heap.size < w3.heap.size := by omega
            unfold cellsS at q0 q1 q2 q3 q4
            have hw : wrap64 ((i : Int) + 1) = ((i + 1 : Nat) : Int) := by have := HI.out.2.1; rw [wid (by omega)]; omega
            have hw3 : wrap64 b = b := wid (by omega)
            by_cases hi : (i : Int) < b
            · go_wp2
              go_roundg (b.toNat - (i + 1))
              case measure => have := HI.out.2.1; omega
              case rel => exact ⟨i + 1, _, _, _, _, _, _, _, rfl, ⟨(roundS HI.out.1 HI.out.2.2.2).1, by omega, by rw [HI.out.2.2.1]; rfl, (roundS HI.out.1 HI.out.2.2.2).2⟩, ⟨balloc (((put5_below HC.out (Nat.le_succ _)).alloc (by have := HC.out.size; rw [put5_size]; omega) _)) _⟩⟩
            · have hw4 : wrap64 (a + b) = a + b := wid (by omega)
              have hw5 : wrap64 (a + b + 2) = a + b + 2 := wid (by omega)
              have ei : (i : Int) = b := by have := HI.out.2.1; omega
              have HY := Aside0.mk HI.out.2.2.2
              obtain ⟨g, hg⟩ := (⟨decide (a + b + 2 ≤ 24), by simp⟩ : ∃ g : Bool, g = true ↔ a + b + 2 ≤ 24)
              have HG := Aside0.mk (show g = true ↔ GP [] [] [⟨⟨#[109, 97, 105, 110]⟩, [], [], false, [y]⟩] by rw [hg, HI.out.2.2.1, HX0.out, lvIff, ea, ei])
              have OKL := Aside0.mk (show OkP [] [] [⟨⟨#[109, 97, 105, 110]⟩, [], [], false, [y]⟩] by rw [HI.out.2.2.1, HX0.out]; exact lvOk HN.out.1 HN.out.2 j i)
              have eg : decide (a + b + 2 ≤ 24) = g := by rw [Bool.eq_iff_iff, hg, decide_eq_true_eq]
              have HW3 := Aside0.mk (bstep HW.out HC.out)
              have R := Aside0.mk (fun (W' : World) (s : Below w3.heap.size w3 W') b1 b2 => (right_c OKL.out none 0 none 0 (some ⟨w3.heap.size + 1, 0, none⟩) 1 W' (endP HY.out s b1 b2) (Ext.TAB.below HT.out (bstep HW3.out s))).mono fun e w'' k => k.fixL HG.out)
              clear hg
              go_wp2_with (go_at_call 16; go_loud (refine (R.out _ (balloc (balloc (balloc (brefl _) _) _) _) (alloc_past (alloc_past (alloc_at rfl))) (alloc_past (alloc_at (by simp)))).mono ?_); rintro e w4 ⟨rfl, hB⟩; have HW4 := Aside0.mk (bstep HW3.out (bstep (balloc (balloc (balloc (brefl _) _) _) _) hB)); clear hB)
              go_ret
              exact ⟨by simp [eg], HW4.out⟩
    · have t1 : (60 < a) = False := eq_false (by omega)
      have t2 : (60 < b) = True := eq_true (by omega)
      go_enter Tryd.func9, Tryd.ntmps9
      go_wp2_with (first | (go_at_call 14; go_loud (refine (awake_c _ HT.out).mono ?_); rintro e w1 ⟨rfl, hB⟩; have HB1 := Aside0.mk hB; clear hB))
      go_ret
      exact ⟨rfl, HB1.out⟩
  · have t1 : (60 < a) = True := eq_true (by omega)
    go_enter Tryd.func9, Tryd.ntmps9
    go_wp2_with (first | (go_at_call 14; go_loud (refine (awake_c _ HT.out).mono ?_); rintro e w1 ⟨rfl, hB⟩; have HB1 := Aside0.mk hB; clear hB))
    go_ret
    exact ⟨rfl, HB1.out⟩
end Go.Proofs.YthnhdompfhkepaaDoor.Pure
