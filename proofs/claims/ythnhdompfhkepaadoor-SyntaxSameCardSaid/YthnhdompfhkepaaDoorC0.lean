/- The base of the walks of chapter 14: values of the types, predicates, posts, elements of slices. -/
import Derived.Test.YthnhdompfhkepaaDoorQx0
namespace Go.Proofs.YthnhdompfhkepaaDoor.Pure
open Go Go.RowKit Go.Proofs.YthnhdompfhkepaaDoor.Q Go.Proofs.YthnhdompfhkepaaDoorW.PrintWords Go.Proofs.YthnhdompfhkepaaDoorW.PrintMore
abbrev maxN : Nat := 9223372036854775807
theorem bytes_ext {a b : ByteArray} (h : a.toList = b.toList) : a = b := by
  rw [ByteArray.toList_eq, ByteArray.toList_eq] at h
  cases a; cases b
  congr 1
  exact Array.toList_inj.mp h
theorem bytes_iff {a b : ByteArray} : a.toList = b.toList ↔ a = b := ⟨bytes_ext, fun h => by rw [h]⟩
def isL (b : UInt8) : Bool := (decide (97 ≤ b.toNat) && decide (b.toNat ≤ 122)) || (decide (65 ≤ b.toNat) && decide (b.toNat ≤ 90))
def isD (b : UInt8) : Bool := decide (48 ≤ b.toNat) && decide (b.toNat ≤ 57)
def isN (b : UInt8) : Bool := isL b || isD b || decide (b.toNat = 95)
def reserved : List ByteArray := [⟨#[118, 97, 114]⟩, ⟨#[97, 114, 114, 97, 121]⟩, ⟨#[102, 117, 110, 99]⟩, ⟨#[119, 111, 114, 100]⟩, ⟨#[105, 102]⟩, ⟨#[101, 108, 115, 101]⟩, ⟨#[119, 104, 105, 108, 101]⟩, ⟨#[114, 101, 116, 117, 114, 110]⟩, ⟨#[112, 117, 116]⟩, ⟨#[103, 101, 116]⟩]
structure NameOk (s : ByteArray) : Prop where
  size : s.size ≤ 20
  head : ∃ c l, s.data.toList = c :: l ∧ isL c = true
  all : ∀ c ∈ s.data.toList, isN c = true
  free : s ∉ reserved
/-- A value of the type Expr that came in. -/
inductive OkE : S36 → Prop
  | mk (x : S36) : 0 ≤ x.f2 → x.f2 < 4294967296 → x.f4.length ≤ maxN → (∀ y ∈ x.f4, OkE y) → OkE x
theorem OkE.len {x : S36} (h : OkE x) : x.f4.length ≤ maxN := by cases h; assumption
def noName : ByteArray := ⟨#[]⟩
/-- An expression that may be (levels aside). -/
inductive RE : S36 → Prop
  | num (n : Int) : 0 ≤ n → n < 4294967296 → RE ⟨1, 0, n, noName, []⟩
  | var (s : ByteArray) : NameOk s → RE ⟨2, 0, 0, s, []⟩
  | index (s : ByteArray) (a : S36) : NameOk s → RE a → RE ⟨3, 0, 0, s, [a]⟩
  | call (s : ByteArray) (l : List S36) : NameOk s → l.length ≤ 6 → (∀ y ∈ l, RE y) → RE ⟨4, 0, 0, s, l⟩
  | get : RE ⟨5, 0, 0, noName, []⟩
  | op (o : Int) (a b : S36) : 4 ≤ o → o ≤ 15 → RE a → RE b → RE ⟨6, o, 0, noName, [a, b]⟩
  | not (a : S36) : RE a → RE ⟨7, 0, 0, noName, [a]⟩
  | and (a b : S36) : RE a → RE b → RE ⟨8, 0, 0, noName, [a, b]⟩
  | or (a b : S36) : RE a → RE b → RE ⟨9, 0, 0, noName, [a, b]⟩
theorem noName_of {s : ByteArray} (h : s.toList = []) : s = noName := bytes_ext (by rw [h, ByteArray.toList_eq]; rfl)
inductive OkS : S43 → Prop
  | mk (x : S43) : x.f2.length ≤ maxN → (∀ e ∈ x.f2, OkE e) → x.f3.length ≤ maxN → (∀ s ∈ x.f3, OkS s) → x.f4.length ≤ maxN → (∀ s ∈ x.f4, OkS s) → OkS x
/-- A statement that may be, of a level. -/
inductive RS : Int → S43 → Prop
  | set (lv : Int) (s : ByteArray) (e : S36) : 0 ≤ lv → lv ≤ 24 → NameOk s → RE e → RS lv ⟨1, s, [e], [], []⟩
  | store (lv : Int) (s : ByteArray) (a b : S36) : 0 ≤ lv → lv ≤ 24 → NameOk s → RE a → RE b → RS lv ⟨2, s, [a, b], [], []⟩
  | put (lv : Int) (e : S36) : 0 ≤ lv → lv ≤ 24 → RE e → RS lv ⟨3, noName, [e], [], []⟩
  | cond (lv : Int) (e : S36) (t f : List S43) : 0 ≤ lv → lv ≤ 24 → RE e → (∀ s ∈ t, RS (lv + 1) s) → (∀ s ∈ f, RS (lv + 1) s) → RS lv ⟨4, noName, [e], t, f⟩
  | loop (lv : Int) (e : S36) (t : List S43) : 0 ≤ lv → lv ≤ 24 → RE e → (∀ s ∈ t, RS (lv + 1) s) → RS lv ⟨5, noName, [e], t, []⟩
  | call (lv : Int) (s : ByteArray) (l : List S36) : 0 ≤ lv → lv ≤ 24 → NameOk s → l.length ≤ 6 → (∀ e ∈ l, RE e) → RS lv ⟨6, s, l, [], []⟩
  | ret0 (lv : Int) : 0 ≤ lv → lv ≤ 24 → RS lv ⟨7, noName, [], [], []⟩
  | ret (lv : Int) (e : S36) : 0 ≤ lv → lv ≤ 24 → RE e → RS lv ⟨7, noName, [e], [], []⟩
structure OkF (f : S45) : Prop where
  params : f.f1.length ≤ 4611686018427387903
  locals : f.f2.length ≤ 4611686018427387903
  body : f.f4.length ≤ maxN
  stmts : ∀ s ∈ f.f4, OkS s
structure RF (f : S45) : Prop where
  name : NameOk f.f0
  params : ∀ s ∈ f.f1, NameOk s
  locals : ∀ s ∈ f.f2, NameOk s
  body : ∀ s ∈ f.f4, RS 1 s
structure OkP (vars : List ByteArray) (arrs : List S59) (funcs : List S45) : Prop where
  nvars : vars.length ≤ 1152921504606846976
  narrs : arrs.length ≤ 1152921504606846976
  nfuncs : funcs.length ≤ 1152921504606846976
  each : ∀ f ∈ funcs, OkF f
structure RP (vars : List ByteArray) (arrs : List S59) (funcs : List S45) : Prop where
  rvars : ∀ s ∈ vars, NameOk s
  rarrs : ∀ a ∈ arrs, NameOk a.f0 ∧ 1 ≤ a.f1 ∧ a.f1 ≤ 4096
  some : funcs ≠ []
  rfuncs : ∀ f ∈ funcs, RF f
mutual
def cE : S36 → Nat
  | ⟨_, _, _, _, l⟩ => 1 + cEs l
def cEs : List S36 → Nat
  | [] => 0
  | x :: l => cE x + cEs l
end
mutual
def cS : S43 → Nat
  | ⟨_, _, e, t, f⟩ => 1 + cEs e + cSs t + cSs f
def cSs : List S43 → Nat
  | [] => 0
  | x :: l => cS x + cSs l
end
def cF (f : S45) : Nat := f.f1.length + f.f2.length + cSs f.f4
def inF (l : List S45) : Nat := (l.map cF).sum
def parts (vars : List ByteArray) (arrs : List S59) (funcs : List S45) : Nat := vars.length + arrs.length + funcs.length + inF funcs
/-! posts -/
def RetI (n : Int) (w : World) (e : Ending) (w' : World) : Prop := e = .returned (.int .i64 n) ∧ Below w.heap.size w w'
def RetB (p : Prop) (w : World) (e : Ending) (w' : World) : Prop := ∃ b : Bool, e = .returned (.bool b) ∧ (b = true ↔ p) ∧ Below w.heap.size w w'
def RetS (s : ByteArray) (w : World) (e : Ending) (w' : World) : Prop := e = .returned (.string s) ∧ Below w.heap.size w w'
def RetT (p : Prop) (w : World) (e : Ending) (w' : World) : Prop := ∃ b : Bool, e = .returned (.bool b) ∧ (b = true → p) ∧ Below w.heap.size w w'
theorem RetT.no {p : Prop} {w w' : World} (hB : Below w.heap.size w w') : RetT p w (.returned (.bool false)) w' := ⟨false, rfl, (fun h => by cases h), hB⟩
theorem RetB.iff {p q : Prop} (h : p ↔ q) {w : World} {e : Ending} {w' : World} (k : RetB p w e w') : RetB q w e w' := by
  obtain ⟨b, e1, e2, e3⟩ := k
  exact ⟨b, e1, e2.trans h, e3⟩
theorem RetB.no {p : Prop} {w w' : World} (h : ¬ p) (hB : Below w.heap.size w w') : RetB p w (.returned (.bool false)) w' := ⟨false, rfl, iff_of_false (by decide) h, hB⟩
theorem RetB.yes {p : Prop} {w w' : World} (h : p) (hB : Below w.heap.size w w') : RetB p w (.returned (.bool true)) w' := ⟨true, rfl, iff_of_true rfl h, hB⟩
theorem name_it (p : Prop) : ∃ q : Prop, Aside0 (q ↔ p) := ⟨p, ⟨Iff.rfl⟩⟩
theorem bstep {w w1 w2 : World} (h : Below w.heap.size w w1) (k : Below w1.heap.size w1 w2) : Below w.heap.size w w2 := h.trans (k.mono h.size)
theorem balloc {w w1 : World} (h : Below w.heap.size w w1) (o : Obj) : Below w.heap.size w (w1.alloc o) := h.alloc h.size o
theorem brefl (w : World) : Below w.heap.size w w := Below.refl _ _
theorem bdrew {w w1 : World} (h : Below w.heap.size w w1) : Below w.heap.size w w1.drew := h.drew
/-- a box of the call's own, later -/
theorem box_up {w0 wi : World} {cs : Array Value} {t : TypeId} (h : Below (w0.alloc (.cells cs t)).heap.size (w0.alloc (.cells cs t)) wi) (i : Nat) (v : Value) (hv : cs[i]? = some v) : wi.cell? ⟨w0.heap.size, i, none⟩ = some v := by
  rw [h.cell (p := ⟨w0.heap.size, i, none⟩) (by simp), World.cell?_alloc_at _ _ _ _ rfl, hv]
theorem box1_up {w0 wi : World} {cs : Array Value} {t : TypeId} {o : Obj} (h : Below ((w0.alloc (.cells cs t)).alloc o).heap.size ((w0.alloc (.cells cs t)).alloc o) wi) (i : Nat) (v : Value) (hv : cs[i]? = some v) : wi.cell? ⟨w0.heap.size, i, none⟩ = some v := by
  rw [h.cell (p := ⟨w0.heap.size, i, none⟩) (by simp; omega), World.cell?_alloc_past _ _ _ (by simp), World.cell?_alloc_at _ _ _ _ rfl, hv]
theorem box2_up {w0 wi : World} {cs : Array Value} {t : TypeId} {o : Obj} (h : Below ((w0.alloc o).alloc (.cells cs t)).heap.size ((w0.alloc o).alloc (.cells cs t)) wi) (i : Nat) (v : Value) (hv : cs[i]? = some v) : wi.cell? ⟨w0.heap.size + 1, i, none⟩ = some v := by
  rw [h.cell (p := ⟨w0.heap.size + 1, i, none⟩) (by simp), World.cell?_alloc_at _ _ _ _ (by simp), hv]
theorem cell_up {w W : World} {p : Addr} {v : Value} (hb : Below w.heap.size w W) (h : w.cell? p = some v) : W.cell? p = some v := (hb.cell (World.block_lt_of_cell? w _ h)).trans h
/-- what a region with calls keeps: two cells and what was below -/
theorem two_up {B w w1 : World} {p q : Addr} {u v : Value} (h : w.cell? p = some u ∧ w.cell? q = some v ∧ Aside0 (Below B.heap.size B w)) (k : Aside0 (Below w.heap.size w w1)) : w1.cell? p = some u ∧ w1.cell? q = some v ∧ Aside0 (Below B.heap.size B w1) := ⟨cell_up k.out h.1, cell_up k.out h.2.1, ⟨bstep h.2.2.out k.out⟩⟩
theorem neN {a b : Nat} (h : ¬ a = b) : ((a : Int) == (b : Int)) = false ∧ (a == b) = false := ⟨by simp; omega, by simpa using h⟩
theorem beqI {a b : Int} (h : ¬ a = b) : (a == b) = false := by simpa using h
theorem wid {x : Int} (h : -9223372036854775808 ≤ x ∧ x < 9223372036854775808) : wrap64 x = x := by unfold wrap64; omega
theorem mem_of {α : Type} {l : List α} {j : Nat} {x : α} (h : l[j]? = some x) : x ∈ l := List.mem_of_getElem? h
theorem take_step {α : Type} {l : List α} {j : Nat} {x : α} (h : l[j]? = some x) : l.take (j + 1) = l.take j ++ [x] := by
  rw [List.take_add_one, h]; rfl
theorem take_all {α : Type} {l : List α} {j : Nat} (h : ¬ j < l.length) : l.take j = l := List.take_of_length_le (by omega)
/-- so far all may be, and the next may -/
theorem all_more {α : Type} {p : α → Prop} {l : List α} {j : Nat} {x : α} (hx : l[j]? = some x) (h : ∀ y ∈ l.take j, p y) (h1 : p x) : ∀ y ∈ l.take (j + 1), p y := by
  rw [take_step hx]
  intro y hy
  rcases List.mem_append.mp hy with hy | hy
  · exact h y hy
  · rw [List.mem_singleton.mp hy]; exact h1
theorem all_end {α : Type} {p : α → Prop} {l : List α} {j : Nat} (hj : ¬ j < l.length) (h : ∀ y ∈ l.take j, p y) : ∀ y ∈ l, p y := by rwa [take_all hj] at h
/-! values as calls take them -/
abbrev vE (x : S36) (A : Option Addr) (c : Nat) : Value := .agg #[.int .i64 x.f0, .int .i64 x.f1, .int .u32 x.f2, .string x.f3, .slice A x.f4.length c]
abbrev vS (x : S43) (A2 : Option Addr) (c2 : Nat) (A3 : Option Addr) (c3 : Nat) (A4 : Option Addr) (c4 : Nat) : Value := .agg #[.int .i64 x.f0, .string x.f1, .slice A2 x.f2.length c2, .slice A3 x.f3.length c3, .slice A4 x.f4.length c4]
abbrev vF (x : S45) (A1 : Option Addr) (c1 : Nat) (A2 : Option Addr) (c2 : Nat) (A4 : Option Addr) (c4 : Nat) : Value := .agg #[.string x.f0, .slice A1 x.f1.length c1, .slice A2 x.f2.length c2, .bool x.f3, .slice A4 x.f4.length c4]
abbrev vP (v : List ByteArray) (a : List S59) (f : List S45) (A0 : Option Addr) (c0 : Nat) (A1 : Option Addr) (c1 : Nat) (A2 : Option Addr) (c2 : Nat) : Value := .agg #[.slice A0 v.length c0, .slice A1 a.length c1, .slice A2 f.length c2]
/-- .. and as a box holds them -/
abbrev bE (x : S36) (A : Option Addr) (c : Nat) : Obj := .cells #[.int .i64 x.f0, .int .i64 x.f1, .int .u32 x.f2, .string x.f3, .slice A x.f4.length c] 36
abbrev bS (x : S43) (A2 : Option Addr) (c2 : Nat) (A3 : Option Addr) (c3 : Nat) (A4 : Option Addr) (c4 : Nat) : Obj := .cells #[.int .i64 x.f0, .string x.f1, .slice A2 x.f2.length c2, .slice A3 x.f3.length c3, .slice A4 x.f4.length c4] 43
abbrev bF (x : S45) (A1 : Option Addr) (c1 : Nat) (A2 : Option Addr) (c2 : Nat) (A4 : Option Addr) (c4 : Nat) : Obj := .cells #[.string x.f0, .slice A1 x.f1.length c1, .slice A2 x.f2.length c2, .bool x.f3, .slice A4 x.f4.length c4] 45
abbrev bP (v : List ByteArray) (a : List S59) (f : List S45) (A0 : Option Addr) (c0 : Nat) (A1 : Option Addr) (c1 : Nat) (A2 : Option Addr) (c2 : Nat) : Obj := .cells #[.slice A0 v.length c0, .slice A1 a.length c1, .slice A2 f.length c2] 26
/-- what lies behind an expression -/
def InE (w : World) (x : S36) (A : Option Addr) (c : Nat) : Prop := x.f4.length ≤ c ∧ Kd.C k36 w A x.f4.length x.f4
def InS (w : World) (x : S43) (A2 : Option Addr) (c2 : Nat) (A3 : Option Addr) (c3 : Nat) (A4 : Option Addr) (c4 : Nat) : Prop := (x.f2.length ≤ c2 ∧ Kd.C k36 w A2 x.f2.length x.f2) ∧ (x.f3.length ≤ c3 ∧ Kd.C k43 w A3 x.f3.length x.f3) ∧ x.f4.length ≤ c4 ∧ Kd.C k43 w A4 x.f4.length x.f4
def InF (w : World) (x : S45) (A1 : Option Addr) (c1 : Nat) (A2 : Option Addr) (c2 : Nat) (A4 : Option Addr) (c4 : Nat) : Prop := (x.f1.length ≤ c1 ∧ Kd.C Kd.string w A1 x.f1.length x.f1) ∧ (x.f2.length ≤ c2 ∧ Kd.C Kd.string w A2 x.f2.length x.f2) ∧ x.f4.length ≤ c4 ∧ Kd.C k43 w A4 x.f4.length x.f4
def InP (w : World) (v : List ByteArray) (a : List S59) (f : List S45) (A0 : Option Addr) (c0 : Nat) (A1 : Option Addr) (c1 : Nat) (A2 : Option Addr) (c2 : Nat) : Prop := (v.length ≤ c0 ∧ Kd.C Kd.string w A0 v.length v) ∧ (a.length ≤ c1 ∧ Kd.C k59 w A1 a.length a) ∧ f.length ≤ c2 ∧ Kd.C k45 w A2 f.length f
theorem InE.up {w w1 : World} (hb : Below w.heap.size w w1) {x : S36} {A : Option Addr} {c : Nat} (h : InE w x A c) : InE w1 x A c := ⟨h.1, Kd.C_below h.2 hb⟩
theorem InS.up {w w1 : World} (hb : Below w.heap.size w w1) {x : S43} {A2 : Option Addr} {c2 : Nat} {A3 : Option Addr} {c3 : Nat} {A4 : Option Addr} {c4 : Nat} (h : InS w x A2 c2 A3 c3 A4 c4) : InS w1 x A2 c2 A3 c3 A4 c4 := ⟨⟨h.1.1, Kd.C_below h.1.2 hb⟩, ⟨h.2.1.1, Kd.C_below h.2.1.2 hb⟩, h.2.2.1, Kd.C_below h.2.2.2 hb⟩
theorem InF.up {w w1 : World} (hb : Below w.heap.size w w1) {x : S45} {A2 : Option Addr} {c2 : Nat} {A3 : Option Addr} {c3 : Nat} {A4 : Option Addr} {c4 : Nat} (h : InF w x A2 c2 A3 c3 A4 c4) : InF w1 x A2 c2 A3 c3 A4 c4 := ⟨⟨h.1.1, Kd.C_below h.1.2 hb⟩, ⟨h.2.1.1, Kd.C_below h.2.1.2 hb⟩, h.2.2.1, Kd.C_below h.2.2.2 hb⟩
theorem InP.up {w w1 : World} (hb : Below w.heap.size w w1) {v : List ByteArray} {a : List S59} {f : List S45} {A2 : Option Addr} {c2 : Nat} {A3 : Option Addr} {c3 : Nat} {A4 : Option Addr} {c4 : Nat} (h : InP w v a f A2 c2 A3 c3 A4 c4) : InP w1 v a f A2 c2 A3 c3 A4 c4 := ⟨⟨h.1.1, Kd.C_below h.1.2 hb⟩, ⟨h.2.1.1, Kd.C_below h.2.1.2 hb⟩, h.2.2.1, Kd.C_below h.2.2.2 hb⟩
/-! elements of slices -/
theorem addr_of {w : World} {p : Addr} {v : Value} (h : w.cell? p = some v) : p.spot = none := by
  unfold World.cell? at h
  split at h
  · split at h
    · cases h
    · rename_i hs; simpa using hs
  · cases h
theorem el {α : Type} {d : Kd α} (z : α) {w : World} {A : Option Addr} {l : List α} (h : Kd.C d w A l.length l) (hz : 0 < d.sz) {j : Nat} (hj : j < l.length) :
    ∃ ad pb po c x, A = some ad ∧ ad.add (j * d.sz) = ⟨pb, po, none⟩ ∧ (pb < w.heap.size) = True ∧ c.length = d.sz ∧ d.K w x c ∧ (∀ i u, c[i]? = some u → w.cell? ⟨pb, po + i, none⟩ = some u) ∧ l[j]? = some x ∧ (0 ≤ (j : Int)) = True ∧ ((j : Int) < (l.length : Int)) = True ∧ wrap64 ((j : Int) + 1) = ((j + 1 : Nat) : Int) := by
  obtain ⟨ad, c, e, hl, hK, hc⟩ := Kd.C_get h z (j : Int) (by omega) (by omega)
  simp only [Int.toNat_natCast] at hK hc
  have hm := Kd.C_max h
  have h0 := hc 0 _ (List.getElem?_eq_getElem (by omega))
  have hs := addr_of h0
  have hb := World.block_lt_of_cell? w _ h0
  rw [Nat.add_zero] at hs hb
  refine ⟨ad, (ad.add (j * d.sz)).block, (ad.add (j * d.sz)).off, c, _, e, ?_, eq_true hb, hl, hK, fun i u hi => ?_, ?_, eq_true (by omega), eq_true (by omega), by unfold wrap64; omega⟩
  · rw [← hs]
  · have h1 := hc i u hi
    have e1 : ad.add (j * d.sz + i) = ⟨(ad.add (j * d.sz)).block, (ad.add (j * d.sz)).off + i, none⟩ := by
      rw [← hs]
      by_cases hz1 : j * d.sz = 0
      · rw [hz1, Nat.zero_add]
        by_cases hi0 : i = 0
        · subst hi0; rfl
        · simp only [Addr.add, hi0, if_true, if_false]
          have : ad.spot = none := by rw [hz1] at hs; exact hs
          rw [this]
      · have : ¬ (j * d.sz + i = 0) := by omega
        simp only [Addr.add, hz1, this, if_false, Nat.add_assoc]
    rw [e1] at h1
    exact h1
  · rw [List.getD_eq_getElem?_getD, List.getElem?_eq_getElem hj]; rfl
theorem el36 {w : World} {A : Option Addr} {l : List S36} (h : Kd.C k36 w A l.length l) {j : Nat} (hj : j < l.length) :
    ∃ ad pb po A4 c4 x, A = some ad ∧ ad.add (j * 5) = ⟨pb, po, none⟩ ∧ (pb < w.heap.size) = True ∧ w.cell? ⟨pb, po, none⟩ = some (.int .i64 x.f0) ∧ w.cell? ⟨pb, po + 1, none⟩ = some (.int .i64 x.f1) ∧ w.cell? ⟨pb, po + 2, none⟩ = some (.int .u32 x.f2) ∧ w.cell? ⟨pb, po + 3, none⟩ = some (.string x.f3) ∧ w.cell? ⟨pb, po + 4, none⟩ = some (.slice A4 x.f4.length c4) ∧
      Aside0 (l[j]? = some x ∧ InE w x A4 c4) ∧ (0 ≤ (j : Int)) = True ∧ ((j : Int) < (l.length : Int)) = True ∧ wrap64 ((j : Int) + 1) = ((j + 1 : Nat) : Int) := by
  obtain ⟨ad, pb, po, c, x, e, ea, hb, _, hK, hc, hx, r⟩ := el z36 h (show 0 < k36.sz by decide) hj
  obtain ⟨A4, c4, rfl, l4, g4⟩ := k36_open hK
  exact ⟨ad, pb, po, A4, c4, x, e, ea, hb, hc 0 _ rfl, hc 1 _ rfl, hc 2 _ rfl, hc 3 _ rfl, hc 4 _ rfl, ⟨hx, l4, g4⟩, r⟩
theorem el43 {w : World} {A : Option Addr} {l : List S43} (h : Kd.C k43 w A l.length l) {j : Nat} (hj : j < l.length) :
    ∃ ad pb po A2 c2 A3 c3 A4 c4 x, A = some ad ∧ ad.add (j * 5) = ⟨pb, po, none⟩ ∧ (pb < w.heap.size) = True ∧ w.cell? ⟨pb, po, none⟩ = some (.int .i64 x.f0) ∧ w.cell? ⟨pb, po + 1, none⟩ = some (.string x.f1) ∧ w.cell? ⟨pb, po + 2, none⟩ = some (.slice A2 x.f2.length c2) ∧ w.cell? ⟨pb, po + 3, none⟩ = some (.slice A3 x.f3.length c3) ∧ w.cell? ⟨pb, po + 4, none⟩ = some (.slice A4 x.f4.length c4) ∧
      Aside0 (l[j]? = some x ∧ InS w x A2 c2 A3 c3 A4 c4) ∧ (0 ≤ (j : Int)) = True ∧ ((j : Int) < (l.length : Int)) = True ∧ wrap64 ((j : Int) + 1) = ((j + 1 : Nat) : Int) := by
  obtain ⟨ad, pb, po, c, x, e, ea, hb, _, hK, hc, hx, r⟩ := el z43 h (show 0 < k43.sz by decide) hj
  obtain ⟨A2, c2, A3, c3, A4, c4, rfl, l2, g2, l3, g3, l4, g4⟩ := k43_open hK
  exact ⟨ad, pb, po, A2, c2, A3, c3, A4, c4, x, e, ea, hb, hc 0 _ rfl, hc 1 _ rfl, hc 2 _ rfl, hc 3 _ rfl, hc 4 _ rfl, ⟨hx, ⟨l2, g2⟩, ⟨l3, g3⟩, l4, g4⟩, r⟩
theorem el45 {w : World} {A : Option Addr} {l : List S45} (h : Kd.C k45 w A l.length l) {j : Nat} (hj : j < l.length) :
    ∃ ad pb po A2 c2 A3 c3 A4 c4 x, A = some ad ∧ ad.add (j * 5) = ⟨pb, po, none⟩ ∧ (pb < w.heap.size) = True ∧ w.cell? ⟨pb, po, none⟩ = some (.string x.f0) ∧ w.cell? ⟨pb, po + 1, none⟩ = some (.slice A2 x.f1.length c2) ∧ w.cell? ⟨pb, po + 2, none⟩ = some (.slice A3 x.f2.length c3) ∧ w.cell? ⟨pb, po + 3, none⟩ = some (.bool x.f3) ∧ w.cell? ⟨pb, po + 4, none⟩ = some (.slice A4 x.f4.length c4) ∧
      Aside0 (l[j]? = some x ∧ InF w x A2 c2 A3 c3 A4 c4) ∧ (0 ≤ (j : Int)) = True ∧ ((j : Int) < (l.length : Int)) = True ∧ wrap64 ((j : Int) + 1) = ((j + 1 : Nat) : Int) := by
  obtain ⟨ad, pb, po, c, x, e, ea, hb, _, hK, hc, hx, r⟩ := el z45 h (show 0 < k45.sz by decide) hj
  obtain ⟨A2, c2, A3, c3, A4, c4, rfl, l2, g2, l3, g3, l4, g4⟩ := k45_open hK
  exact ⟨ad, pb, po, A2, c2, A3, c3, A4, c4, x, e, ea, hb, hc 0 _ rfl, hc 1 _ rfl, hc 2 _ rfl, hc 3 _ rfl, hc 4 _ rfl, ⟨hx, ⟨l2, g2⟩, ⟨l3, g3⟩, l4, g4⟩, r⟩
theorem el59 {w : World} {A : Option Addr} {l : List S59} (h : Kd.C k59 w A l.length l) {j : Nat} (hj : j < l.length) :
    ∃ ad pb po x, A = some ad ∧ ad.add (j * 2) = ⟨pb, po, none⟩ ∧ (pb < w.heap.size) = True ∧ w.cell? ⟨pb, po, none⟩ = some (.string x.f0) ∧ w.cell? ⟨pb, po + 1, none⟩ = some (.int .i64 x.f1) ∧
      Aside0 (l[j]? = some x) ∧ (0 ≤ (j : Int)) = True ∧ ((j : Int) < (l.length : Int)) = True ∧ wrap64 ((j : Int) + 1) = ((j + 1 : Nat) : Int) := by
  obtain ⟨ad, pb, po, c, x, e, ea, hb, _, hK, hc, hx, r⟩ := el z59 h (show 0 < k59.sz by decide) hj
  obtain rfl := k59_open hK
  exact ⟨ad, pb, po, x, e, ea, hb, hc 0 _ rfl, hc 1 _ rfl, ⟨hx⟩, r⟩
theorem elS {w : World} {A : Option Addr} {l : List ByteArray} (h : Kd.C Kd.string w A l.length l) {j : Nat} (hj : j < l.length) :
    ∃ ad pb po x, A = some ad ∧ ad.add j = ⟨pb, po, none⟩ ∧ (pb < w.heap.size) = True ∧ w.cell? ⟨pb, po, none⟩ = some (.string x) ∧
      Aside0 (l[j]? = some x) ∧ (0 ≤ (j : Int)) = True ∧ ((j : Int) < (l.length : Int)) = True ∧ wrap64 ((j : Int) + 1) = ((j + 1 : Nat) : Int) := by
  obtain ⟨ad, pb, po, c, x, e, ea, hb, _, hK, hc, hx, r⟩ := el ByteArray.empty h (show 0 < Kd.string.sz by decide) hj
  obtain rfl : c = [.string x] := hK
  exact ⟨ad, pb, po, x, e, by simpa [Kd.string, Kd.scalar] using ea, hb, hc 0 _ rfl, ⟨hx⟩, r⟩
theorem cEs_app : ∀ a b : List S36, cEs (a ++ b) = cEs a + cEs b
  | [], b => by simp [cEs]
  | x :: a, b => by simp only [List.cons_append, cEs, cEs_app a b]; omega
theorem cSs_app : ∀ a b : List S43, cSs (a ++ b) = cSs a + cSs b
  | [], b => by simp [cSs]
  | x :: a, b => by simp only [List.cons_append, cSs, cSs_app a b]; omega
theorem cE_pos (x : S36) : 1 ≤ cE x := by cases x; simp [cE]
theorem cS_pos (x : S43) : 1 ≤ cS x := by cases x; simp only [cS]; omega
theorem cEs_len : ∀ l : List S36, l.length ≤ cEs l
  | [] => Nat.le_refl _
  | x :: l => by have := cE_pos x; have := cEs_len l; simp only [List.length_cons, cEs]; omega
theorem cSs_len : ∀ l : List S43, l.length ≤ cSs l
  | [] => Nat.le_refl _
  | x :: l => by have := cS_pos x; have := cSs_len l; simp only [List.length_cons, cSs]; omega
theorem cEs_step {l : List S36} {j : Nat} {x : S36} (h : l[j]? = some x) : cEs (l.take (j + 1)) = cEs (l.take j) + cE x ∧ cEs (l.take (j + 1)) ≤ cEs l := by
  have e := take_step h
  refine ⟨by rw [e, cEs_app]; simp [cEs], ?_⟩
  have : cEs l = cEs (l.take (j + 1)) + cEs (l.drop (j + 1)) := by rw [← cEs_app, List.take_append_drop]
  omega
theorem cSs_step {l : List S43} {j : Nat} {x : S43} (h : l[j]? = some x) : cSs (l.take (j + 1)) = cSs (l.take j) + cS x ∧ cSs (l.take (j + 1)) ≤ cSs l := by
  have e := take_step h
  refine ⟨by rw [e, cSs_app]; simp [cSs], ?_⟩
  have : cSs l = cSs (l.take (j + 1)) + cSs (l.drop (j + 1)) := by rw [← cSs_app, List.take_append_drop]
  omega
theorem inF_step {l : List S45} {j : Nat} {x : S45} (h : l[j]? = some x) : inF (l.take (j + 1)) = inF (l.take j) + cF x ∧ inF (l.take (j + 1)) ≤ inF l := by
  have e := take_step h
  refine ⟨by rw [e]; simp [inF], ?_⟩
  have : inF l = inF (l.take (j + 1)) + inF (l.drop (j + 1)) := by
    unfold inF
    rw [← List.sum_append_nat, ← List.map_append, List.take_append_drop]
  omega
end Go.Proofs.YthnhdompfhkepaaDoor.Pure
