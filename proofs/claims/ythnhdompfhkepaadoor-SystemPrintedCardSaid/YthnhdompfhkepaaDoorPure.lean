import Derived.Test.YthnhdompfhkepaaDoorQx14
import Derived.Test.YthnhdompfhkepaaDoorPrint
import Derived.Lib.ItoaLen
import Derived.Test.YthnhdompfhkepaaDoorQx24
import Derived.Test.YthnhdompfhkepaaDoorQx25
import Derived.ChangeArms
import Derived.DataElems
import Derived.SizedLaws
set_option linter.unusedSimpArgs false
set_option linter.unusedVariables false
namespace Go.Proofs.YthnhdompfhkepaaDoor.Pure
open Go Go.RowKit Go.Proofs.YthnhdompfhkepaaDoor.Q Go.Proofs.YthnhdompfhkepaaDoorW.PrintWords Go.Proofs.YthnhdompfhkepaaDoorW.PrintMore
/- Functions with rounds, from some number of rounds on; lists by places. -/
def Ev {α : Type} (g : Nat → Option α) (r : α) : Prop := ∃ K, ∀ k, K ≤ k → g k = some r
theorem Ev.const {α : Type} {g : Nat → Option α} {r : α} (h : ∀ k, g k = some r) : Ev g r := ⟨0, fun k _ => h k⟩
theorem Ev.some {α : Type} (r : α) : Ev (fun _ => some r) r := ⟨0, fun _ _ => rfl⟩
theorem Ev.succ {α : Type} {g : Nat → Option α} {r : α} (h : Ev (fun k => g (k + 1)) r) : Ev g r := by
  obtain ⟨K, h⟩ := h
  refine ⟨K + 1, fun k hk => ?_⟩
  obtain ⟨m, rfl⟩ : ∃ m, k = m + 1 := ⟨k - 1, by omega⟩
  exact h m (by omega)
theorem Ev.bind {α β : Type} {g : Nat → Option α} {f : Nat → α → Option β} {x : α} {r : β} (h : Ev g x) (h2 : Ev (fun k => f k x) r) : Ev (fun k => (g k).bind (f k)) r := by
  obtain ⟨K, h⟩ := h
  obtain ⟨L, h2⟩ := h2
  refine ⟨K + L, fun k hk => ?_⟩
  show (g k).bind (f k) = _
  rw [h k (by omega)]
  exact h2 k (by omega)
theorem Ev.pos {α : Type} {c : Prop} [Decidable c] {a b : Nat → Option α} {r : α} (hc : c) (h : Ev a r) : Ev (fun k => if c then a k else b k) r := by
  simpa only [if_pos hc] using h
theorem Ev.neg {α : Type} {c : Prop} [Decidable c] {a b : Nat → Option α} {r : α} (hc : ¬ c) (h : Ev b r) : Ev (fun k => if c then a k else b k) r := by
  simpa only [if_neg hc] using h
theorem Ev.at {α : Type} {g : Nat → Option α} {r : α} (h : Ev g r) : ∃ k, g k = Option.some r := by
  obtain ⟨K, h⟩ := h
  exact ⟨K, h K (Nat.le_refl _)⟩
def kw (g : Nat → Option Bool) (p : Prop) : Prop := ∃ b, Ev g b ∧ (b = true → p)
theorem kw.f {g : Nat → Option Bool} {p : Prop} (h : Ev g false) : kw g p := ⟨false, h, fun h => by cases h⟩
theorem kw.t {g : Nat → Option Bool} {p : Prop} (h : Ev g true) (hp : p) : kw g p := ⟨true, h, fun _ => hp⟩
theorem kw.b {g : Nat → Option Bool} {p : Prop} (b : Bool) (h : Ev g b) (hp : b = true → p) : kw g p := ⟨b, h, hp⟩
theorem kw.succ {g : Nat → Option Bool} {p : Prop} (h : kw (fun k => g (k + 1)) p) : kw g p := by
  obtain ⟨b, h, hp⟩ := h
  exact ⟨b, h.succ, hp⟩
theorem kw.pos {c : Prop} [Decidable c] {a b : Nat → Option Bool} {p : Prop} (hc : c) (h : kw a p) : kw (fun k => if c then a k else b k) p := by
  simpa only [if_pos hc] using h
theorem kw.neg {c : Prop} [Decidable c] {a b : Nat → Option Bool} {p : Prop} (hc : ¬ c) (h : kw b p) : kw (fun k => if c then a k else b k) p := by
  simpa only [if_neg hc] using h
theorem kw.imp {g : Nat → Option Bool} {p q : Prop} (h : kw g p) (hq : p → q) : kw g q := by
  obtain ⟨b, h, hp⟩ := h
  exact ⟨b, h, fun hb => hq (hp hb)⟩
theorem kw.ite {c : Prop} [Decidable c] {a b : Nat → Option Bool} {p : Prop} (h1 : c → kw a p) (h2 : ¬ c → kw b p) : kw (fun k => if c then a k else b k) p := by
  by_cases hc : c
  · exact (h1 hc).pos hc
  · exact (h2 hc).neg hc
theorem kw.bindE {α : Type} {g : Nat → Option α} {f : Nat → α → Option Bool} {x : α} {p : Prop} (h : Ev g x) (h2 : kw (fun k => f k x) p) : kw (fun k => (g k).bind (f k)) p := by
  obtain ⟨b, h2, hp⟩ := h2
  exact ⟨b, h.bind h2, hp⟩
theorem kw.bind {g : Nat → Option Bool} {f : Nat → Bool → Option Bool} {p q : Prop} (h : kw g q) (h2 : ∀ b, (b = true → q) → kw (fun k => f k b) p) : kw (fun k => (g k).bind (f k)) p := by
  obtain ⟨b, h, hq⟩ := h
  exact kw.bindE h (h2 b hq)
theorem kw.and {g : Nat → Option Bool} {f : Nat → Option Bool} {p q : Prop} (h : kw g q) (h2 : q → kw f p) : kw (fun k => (g k).bind fun t => if t = true then f k else Option.some false) p := by
  refine kw.bind h fun b hb => ?_
  cases b with
  | false => exact kw.f (Ev.neg (by decide) (Ev.some false))
  | true => exact (h2 (hb rfl)).pos rfl
theorem kw.last {g : Nat → Option Bool} {p : Prop} (h : kw g p) : kw (fun k => (g k).bind fun t => Option.some t) p := by
  obtain ⟨b, h, hp⟩ := h
  exact ⟨b, h.bind (Ev.some b), hp⟩
abbrev maxN : Nat := 9223372036854775807
theorem w1 {i n : Nat} (h : i < n) (hn : n ≤ maxN) : wrap64 ((i : Int) + 1) = ((i + 1 : Nat) : Int) := by
  unfold maxN at hn
  unfold wrap64
  omega
theorem rd36 {l : List S36} {i : Nat} (h : i < l.length) : kn l (i : Int) = l[i] := by simp [kn, List.getD_eq_getElem?_getD, h]
theorem rd43 {l : List S43} {i : Nat} (h : i < l.length) : kt l (i : Int) = l[i] := by simp [kt, List.getD_eq_getElem?_getD, h]
theorem rd45 {l : List S45} {i : Nat} (h : i < l.length) : km l (i : Int) = l[i] := by simp [km, List.getD_eq_getElem?_getD, h]
theorem rd59 {l : List S59} {i : Nat} (h : i < l.length) : jn l (i : Int) = l[i] := by simp [jn, List.getD_eq_getElem?_getD, h]
theorem rdS {l : List ByteArray} {i : Nat} (h : i < l.length) : rdOf ByteArray.empty l (i : Int) = l[i] := by simp [rdOf, List.getD_eq_getElem?_getD, h]
theorem bytes_ext {a b : ByteArray} (h : a.toList = b.toList) : a = b := by
  rw [ByteArray.toList_eq, ByteArray.toList_eq] at h
  cases a; cases b
  congr 1
  exact Array.toList_inj.mp h
def isL (b : UInt8) : Bool := (decide (97 ≤ b.toNat) && decide (b.toNat ≤ 122)) || (decide (65 ≤ b.toNat) && decide (b.toNat ≤ 90))
def isD (b : UInt8) : Bool := decide (48 ≤ b.toNat) && decide (b.toNat ≤ 57)
def isN (b : UInt8) : Bool := isL b || isD b || decide (b.toNat = 95)
def reserved : List ByteArray := [⟨#[118, 97, 114]⟩, ⟨#[97, 114, 114, 97, 121]⟩, ⟨#[102, 117, 110, 99]⟩, ⟨#[119, 111, 114, 100]⟩, ⟨#[105, 102]⟩, ⟨#[101, 108, 115, 101]⟩, ⟨#[119, 104, 105, 108, 101]⟩, ⟨#[114, 101, 116, 117, 114, 110]⟩, ⟨#[112, 117, 116]⟩, ⟨#[103, 101, 116]⟩]
structure jp (s : ByteArray) : Prop where
  size : s.size ≤ 20
  head : ∃ c l, s.data.toList = c :: l ∧ isL c = true
  all : ∀ c ∈ s.data.toList, isN c = true
  free : s ∉ reserved
theorem letter_f (b : UInt8) : sletter.f (b.toNat : Int) = some (isL b) := by
  have hA : ((b.toNat : Int) ≥ 97) ↔ 97 ≤ b.toNat := by omega
  have hB : ((b.toNat : Int) ≤ 122) ↔ b.toNat ≤ 122 := by omega
  have hC : ((b.toNat : Int) ≥ 65) ↔ 65 ≤ b.toNat := by omega
  have hD : ((b.toNat : Int) ≤ 90) ↔ b.toNat ≤ 90 := by omega
  unfold sletter.f isL
  simp only [hA, hB, hC, hD]
  by_cases a : 97 ≤ b.toNat <;> by_cases c : b.toNat ≤ 122 <;> by_cases d : 65 ≤ b.toNat <;> by_cases e : b.toNat ≤ 90 <;> simp [a, c, d, e]
theorem digit_f (b : UInt8) : sdigit.f (b.toNat : Int) = some (isD b) := by
  have hA : ((b.toNat : Int) ≥ 48) ↔ 48 ≤ b.toNat := by omega
  have hB : ((b.toNat : Int) ≤ 57) ↔ b.toNat ≤ 57 := by omega
  unfold sdigit.f isD
  simp only [hA, hB]
  by_cases a : 48 ≤ b.toNat <;> by_cases c : b.toNat ≤ 57 <;> simp [a, c]
theorem bt_get {s : ByteArray} {i : Nat} (h : i < s.size) : bt s (i : Int) = ((s[i]'h).toNat : Int) := by
  have := bt_at s (i : Int) (by simpa using h)
  rw [← this]
  simp
theorem name_l0 (s : ByteArray) (hs : s.size ≤ 20) : ∀ d i, i + d = s.size → kw (fun k => sName.l0 k s (i : Int)) (∀ j (h : j < s.size), i ≤ j → isN (s[j]'h) = true)
  | 0, i, h => by
    refine kw.succ ?_
    simp only [sName.l0]
    exact kw.neg (by omega) (kw.t (Ev.some _) (by intros; omega))
  | d + 1, i, h => by
    refine kw.succ ?_
    have hi : i < s.size := by omega
    simp only [sName.l0, bt_get hi, letter_f, digit_f, Option.bind_some, w1 hi (by unfold maxN; omega)]
    have next := name_l0 s hs d (i + 1) (by omega)
    have step : isN (s[i]'hi) = true → kw (fun k => sName.l0 k s ((i + 1 : Nat) : Int)) (∀ j (h : j < s.size), i ≤ j → isN (s[j]'h) = true) := fun hn => next.imp fun hj j h hij => by
      rcases Nat.eq_or_lt_of_le hij with rfl | hlt
      · exact hn
      · exact hj j h hlt
    refine kw.pos (by omega) (kw.pos (by omega) (kw.ite (fun h1 => step (by simp [isN, h1])) fun h1 => kw.ite (fun h2 => step (by simp [isN, h2])) fun h2 => kw.ite (fun h3 => step ?_) fun _ => kw.f (Ev.some _)))
    have : (s[i]'hi).toNat = 95 := by omega
    simp [isN, this]
theorem in_l0 (l : List ByteArray) (s : ByteArray) (hl : l.length ≤ maxN) : ∀ d i, i + d = l.length → kw (fun k => sin.l0 k l s (i : Int)) True
  | 0, i, h => by
    refine kw.succ ?_
    simp only [sin.l0]
    exact kw.neg (by omega) (kw.f (Ev.some _))
  | d + 1, i, h => by
    refine kw.succ ?_
    have hi : i < l.length := by omega
    simp only [sin.l0, w1 hi hl]
    exact kw.pos (by omega) (kw.pos (by omega) (kw.ite (fun _ => kw.t (Ev.some _) trivial) fun _ => in_l0 l s hl d (i + 1) (by omega)))
theorem name_j0 (s : ByteArray) (hs : s.size ≤ 20) (b : Bool) : kw (fun k => sName.j0 k s b) (b = false ∧ ∀ j (h : j < s.size), isN (s[j]'h) = true) := by
  refine kw.succ ?_
  simp only [sName.j0]
  cases b with
  | true => exact kw.pos (by simp) (kw.f (Ev.some _))
  | false => exact kw.neg (by decide) ((name_l0 s hs s.size 0 (by omega)).imp fun h => ⟨rfl, fun j hj => h j hj (Nat.zero_le _)⟩)
theorem name_j0t (s : ByteArray) (p : Prop) : kw (fun k => sName.j0 k s true) p := by
  refine kw.succ ?_
  simp only [sName.j0]
  exact kw.pos (by simp) (kw.f (Ev.some _))
theorem all_of (s : ByteArray) (h : ∀ j (h : j < s.size), isN (s[j]'h) = true) : ∀ c ∈ s.data.toList, isN c = true := by
  intro c hc
  obtain ⟨j, hj, rfl⟩ := List.getElem_of_mem hc
  exact h j (by simpa using hj)
theorem name_f (s : ByteArray) : kw (fun k => sName.f k s) (s.size ≤ 20 ∧ (∃ c l, s.data.toList = c :: l ∧ isL c = true) ∧ ∀ c ∈ s.data.toList, isN c = true) := by
  unfold sName.f
  refine kw.ite (fun _ => name_j0t s _) fun h0 => kw.ite (fun _ => name_j0t s _) fun h1 => ?_
  have hpos : 0 < (s.size : Int) := by omega
  refine kw.pos hpos ?_
  have h20 : s.size ≤ 20 := by omega
  have hp : 0 < s.size := by omega
  have hb : bt s 0 = ((s[0]'hp).toNat : Int) := bt_get (i := 0) hp
  simp only [hb, letter_f, Option.bind_some, sWords.f]
  refine kw.ite (fun hl => kw.bind (q := True) (in_l0 _ s (by decide) 10 0 rfl) fun b _ => (name_j0 s h20 b).imp fun h => ⟨h20, ?_, all_of s h.2⟩) fun _ => name_j0t s _
  cases hd : s.data.toList with
  | nil => have : s.size = s.data.toList.length := rfl; rw [hd] at this; rw [this] at hp; simp at hp
  | cons c l =>
    refine ⟨c, l, rfl, ?_⟩
    have : s[0]'hp = c := by
      have h2 : s.data.toList[0]'(by rw [hd]; simp) = s[0]'hp := rfl
      rw [← h2]
      simp [hd]
    rw [← this]
    exact hl
theorem isName_l0 (s : ByteArray) : ∀ d i, i + d = reserved.length → kw (fun k => rIsName.l0 k s reserved (i : Int)) ((∀ j (h : j < reserved.length), i ≤ j → reserved[j] ≠ s) ∧ s.size ≤ 20 ∧ (∃ c l, s.data.toList = c :: l ∧ isL c = true) ∧ ∀ c ∈ s.data.toList, isN c = true)
  | 0, i, h => by
    refine kw.succ ?_
    simp only [rIsName.l0]
    exact kw.neg (by omega) (kw.last ((name_f s).imp fun hh => ⟨fun j hj hij => by omega, hh⟩))
  | d + 1, i, h => by
    refine kw.succ ?_
    have hi : i < reserved.length := by omega
    simp only [rIsName.l0, rdS hi, w1 hi (by decide)]
    refine kw.pos (by omega) (kw.pos (by omega) (kw.ite (fun _ => kw.f (Ev.some _)) fun hne => (isName_l0 s d (i + 1) (by omega)).imp fun hh => ⟨fun j hj hij => ?_, hh.2⟩))
    rcases Nat.eq_or_lt_of_le hij with rfl | hlt
    · intro e; exact hne (by rw [← e])
    · exact hh.1 j hj hlt
theorem isName_f (s : ByteArray) : kw (fun k => rIsName.f k s) (jp s) := by
  unfold rIsName.f
  simp only [rwords.f, Option.bind_some]
  exact (isName_l0 s 10 0 rfl).imp fun h => ⟨h.2.1, h.2.2.1, h.2.2.2, fun hm => by
    obtain ⟨j, hj, e⟩ := List.getElem_of_mem hm
    exact h.1 j hj (Nat.zero_le _) e⟩
theorem names_l0 (l : List ByteArray) (hl : l.length ≤ maxN) : ∀ d i, i + d = l.length → kw (fun k => rnames.l0 k l (i : Int)) (∀ j (h : j < l.length), i ≤ j → jp (l[j]'h))
  | 0, i, h => by
    refine kw.succ ?_
    simp only [rnames.l0]
    exact kw.neg (by omega) (kw.t (Ev.some _) (by intros; omega))
  | d + 1, i, h => by
    refine kw.succ ?_
    have hi : i < l.length := by omega
    simp only [rnames.l0, rdS hi, w1 hi hl]
    refine kw.pos (by omega) (kw.pos (by omega) (kw.and (isName_f (l[i]'hi)) fun hn => (names_l0 l hl d (i + 1) (by omega)).imp fun hj j h hij => ?_))
    rcases Nat.eq_or_lt_of_le hij with rfl | hlt
    · exact hn
    · exact hj j h hlt
theorem names_f (l : List ByteArray) (hl : l.length ≤ maxN) : kw (fun k => rnames.f k l) (∀ s ∈ l, jp s) := by
  unfold rnames.f
  exact (names_l0 l hl l.length 0 (by omega)).imp fun h s hs => by
    obtain ⟨j, hj, e⟩ := List.getElem_of_mem hs
    rw [← e]
    exact h j hj (Nat.zero_le _)
inductive OkE : S36 → Prop
  | mk (x : S36) : 0 ≤ x.f2 → x.f2 < 4294967296 → x.f4.length ≤ maxN → (∀ y ∈ x.f4, OkE y) → OkE x
theorem OkE.len {x : S36} (h : OkE x) : x.f4.length ≤ maxN := by cases h; assumption
def jt : ByteArray := ⟨#[]⟩
inductive RE : S36 → Prop
  | num (n : Int) : 0 ≤ n → n < 4294967296 → RE ⟨1, 0, n, jt, []⟩
  | var (s : ByteArray) : jp s → RE ⟨2, 0, 0, s, []⟩
  | index (s : ByteArray) (a : S36) : jp s → RE a → RE ⟨3, 0, 0, s, [a]⟩
  | call (s : ByteArray) (l : List S36) : jp s → l.length ≤ 6 → (∀ y ∈ l, RE y) → RE ⟨4, 0, 0, s, l⟩
  | get : RE ⟨5, 0, 0, jt, []⟩
  | op (o : Int) (a b : S36) : 4 ≤ o → o ≤ 15 → RE a → RE b → RE ⟨6, o, 0, jt, [a, b]⟩
  | not (a : S36) : RE a → RE ⟨7, 0, 0, jt, [a]⟩
  | and (a b : S36) : RE a → RE b → RE ⟨8, 0, 0, jt, [a, b]⟩
  | or (a b : S36) : RE a → RE b → RE ⟨9, 0, 0, jt, [a, b]⟩
theorem noName_of {s : ByteArray} (h : s.toList = []) : s = jt := bytes_ext (by rw [h, ByteArray.toList_eq]; rfl)
theorem exprs_l0 (l : List S36) (hl : l.length ≤ maxN) (lv : Int) (ih : ∀ y ∈ l, kw (fun k => rRightExpr.f k y.f0 y.f1 y.f2 y.f3 y.f4 lv) (RE y)) :
    ∀ d i, i + d = l.length → kw (fun k => rRightExprs.l0 k l lv (i : Int)) (∀ j (h : j < l.length), i ≤ j → RE (l[j]'h))
  | 0, i, h => by
    refine kw.succ ?_
    simp only [rRightExprs.l0]
    exact kw.neg (by omega) (kw.t (Ev.some _) (by intros; omega))
  | d + 1, i, h => by
    refine kw.succ ?_
    have hi : i < l.length := by omega
    simp only [rRightExprs.l0, rd36 hi, w1 hi hl]
    refine kw.pos (by omega) (kw.pos (by omega) (kw.and (ih _ (List.getElem_mem hi)) fun hn => (exprs_l0 l hl lv ih d (i + 1) (by omega)).imp fun hj j h hij => ?_))
    rcases Nat.eq_or_lt_of_le hij with rfl | hlt
    · exact hn
    · exact hj j h hlt
theorem exprs_f (l : List S36) (hl : l.length ≤ maxN) (lv : Int) (ih : ∀ y ∈ l, kw (fun k => rRightExpr.f k y.f0 y.f1 y.f2 y.f3 y.f4 lv) (RE y)) : kw (fun k => rRightExprs.f k l lv) (∀ y ∈ l, RE y) := by
  refine kw.succ ?_
  simp only [rRightExprs.f]
  exact (exprs_l0 l hl lv ih l.length 0 (by omega)).imp fun h y hy => by
    obtain ⟨j, hj, e⟩ := List.getElem_of_mem hy
    rw [← e]
    exact h j hj (Nat.zero_le _)
section
variable {lv f0 f1 f2 : Int} {f3 : ByteArray} {l : List S36}
theorem e_j4 (hx : kw (fun k => rRightExprs.f k l (wrap64 (lv + 1))) (∀ y ∈ l, RE y)) (b : Bool) :
    kw (fun k => rRightExpr.j4 k lv (l.length : Int) f0 b f0 f1 f2 f3 l) ((b = true ∧ l.length = 1 ∨ f0 = 4 ∧ l.length ≤ 6 ∨ f0 = 6 ∧ 4 ≤ f1 ∧ f1 ≤ 15 ∧ l.length = 2 ∨ f0 = 8 ∧ l.length = 2 ∨ f0 = 9 ∧ l.length = 2) ∧ ∀ y ∈ l, RE y) := by
  refine kw.succ ?_
  simp only [rRightExpr.j4]
  have no : ∀ p, kw (fun _ => some false) p := fun p => kw.f (Ev.some _)
  refine kw.ite (fun hb => kw.ite (fun h => (kw.last hx).imp fun hh => ⟨.inl ⟨hb, by omega⟩, hh⟩) fun _ => no _) fun _ => ?_
  refine kw.ite (fun hb => kw.ite (fun h => (kw.last hx).imp fun hh => ⟨.inr (.inl ⟨hb, by omega⟩), hh⟩) fun _ => no _) fun _ => ?_
  refine kw.ite (fun hb => kw.ite (fun h => kw.ite (fun h' => kw.ite (fun h'' => (kw.last hx).imp fun hh => ⟨.inr (.inr (.inl ⟨hb, h, h', by omega⟩)), hh⟩) fun _ => no _) fun _ => no _) fun _ => no _) fun _ => ?_
  refine kw.ite (fun hb => kw.ite (fun h => (kw.last hx).imp fun hh => ⟨.inr (.inr (.inr (.inl ⟨hb, by omega⟩))), hh⟩) fun _ => no _) fun _ => ?_
  exact kw.ite (fun hb => kw.ite (fun h => (kw.last hx).imp fun hh => ⟨.inr (.inr (.inr (.inr ⟨hb, by omega⟩))), hh⟩) fun _ => no _) fun _ => no _
def shapeE (f0 f1 : Int) (l : List S36) : Prop := (f0 = 1 ∨ f0 = 2 ∨ f0 = 5) ∧ l = [] ∨ ((f0 = 3 ∨ f0 = 7) ∧ l.length = 1 ∨ f0 = 4 ∧ l.length ≤ 6 ∨ f0 = 6 ∧ 4 ≤ f1 ∧ f1 ≤ 15 ∧ l.length = 2 ∨ f0 = 8 ∧ l.length = 2 ∨ f0 = 9 ∧ l.length = 2) ∧ ∀ y ∈ l, RE y
theorem e_j3 (hx : kw (fun k => rRightExprs.f k l (wrap64 (lv + 1))) (∀ y ∈ l, RE y)) (b : Bool) (hb : b = true → f0 = 1 ∨ f0 = 2 ∨ f0 = 5) :
    kw (fun k => rRightExpr.j3 k lv (l.length : Int) f0 b f0 f1 f2 f3 l) (shapeE f0 f1 l) := by
  refine kw.succ ?_
  simp only [rRightExpr.j3]
  refine kw.ite (fun h => kw.b _ (Ev.some _) fun hz => .inl ⟨hb h, ?_⟩) fun _ => kw.ite (fun h => (e_j4 hx _).imp fun hh => .inr ⟨?_, hh.2⟩) fun _ => (e_j4 hx _).imp fun hh => .inr ⟨?_, hh.2⟩
  · have := beq_iff_eq.mp hz
    exact List.length_eq_zero_iff.mp (by omega)
  · rcases hh.1 with h1 | h1
    · exact .inl ⟨.inl h, h1.2⟩
    · exact .inr h1
  · rcases hh.1 with h1 | h1
    · exact .inl ⟨.inr (beq_iff_eq.mp h1.1), h1.2⟩
    · exact .inr h1
theorem e_j2 (hx : kw (fun k => rRightExprs.f k l (wrap64 (lv + 1))) (∀ y ∈ l, RE y)) (b : Bool) :
    kw (fun k => rRightExpr.j2 k lv b f0 f1 f2 f3 l) (b = false ∧ shapeE f0 f1 l) := by
  refine kw.succ ?_
  simp only [rRightExpr.j2]
  refine kw.ite (fun _ => kw.f (Ev.some _)) fun h => ?_
  have hb : b = false := by simpa using h
  refine kw.ite (fun h => (e_j3 hx _ (fun _ => .inl h)).imp fun hh => ⟨hb, hh⟩) fun _ => kw.ite (fun h => (e_j3 hx _ (fun _ => .inr (.inl h))).imp fun hh => ⟨hb, hh⟩) fun _ => (e_j3 hx _ (fun h => .inr (.inr (beq_iff_eq.mp h)))).imp fun hh => ⟨hb, hh⟩
theorem e_j1 (hx : kw (fun k => rRightExprs.f k l (wrap64 (lv + 1))) (∀ y ∈ l, RE y)) (b : Bool) :
    kw (fun k => rRightExpr.j1 k lv b f0 f1 f2 f3 l) (((b = true ∧ jp f3) ∨ (b = false ∧ f3 = jt)) ∧ shapeE f0 f1 l) := by
  refine kw.succ ?_
  simp only [rRightExpr.j1]
  refine kw.ite (fun _ => (e_j2 hx true).imp fun h => by cases h.1) fun hn => kw.ite (fun hb => kw.bind (isName_f f3) fun t ht => (e_j2 hx (!t)).imp fun h => ⟨.inl ⟨hb, ht (by simpa using h.1)⟩, h.2⟩) fun hb => (e_j2 hx false).imp fun h => ⟨.inr ⟨by simpa using hb, ?_⟩, h.2⟩
  have hb' : b = false := by simpa using hb
  subst hb'
  exact noName_of (by simpa using hn)
theorem e_j0 (hx : kw (fun k => rRightExprs.f k l (wrap64 (lv + 1))) (∀ y ∈ l, RE y)) (b : Bool) :
    kw (fun k => rRightExpr.j0 k lv b f0 f1 f2 f3 l) (b = false ∧ (((f0 = 2 ∨ f0 = 3 ∨ f0 = 4) ∧ jp f3) ∨ (¬ (f0 = 2 ∨ f0 = 3 ∨ f0 = 4) ∧ f3 = jt)) ∧ shapeE f0 f1 l) := by
  refine kw.succ ?_
  simp only [rRightExpr.j0]
  refine kw.ite (fun _ => kw.f (Ev.some _)) fun h => ?_
  have hb : b = false := by simpa using h
  refine kw.ite (fun h2 => (e_j1 hx true).imp fun hh => ⟨hb, .inl ⟨.inl h2, ?_⟩, hh.2⟩) fun h2 => kw.ite (fun h3 => (e_j1 hx true).imp fun hh => ⟨hb, .inl ⟨.inr (.inl h3), ?_⟩, hh.2⟩) fun h3 => (e_j1 hx _).imp fun hh => ⟨hb, ?_, hh.2⟩
  · rcases hh.1 with h | h
    · exact h.2
    · cases h.1
  · rcases hh.1 with h | h
    · exact h.2
    · cases h.1
  · rcases hh.1 with h | h
    · exact .inl ⟨.inr (.inr (beq_iff_eq.mp h.1)), h.2⟩
    · have := beq_eq_false_iff_ne.mp h.1
      exact .inr ⟨by rintro (h | h | h) <;> contradiction, h.2⟩
end
theorem right_shape {x : S36} (h0 : 0 ≤ x.f2) (h1 : x.f2 < 4294967296) (hop : x.f0 = 6 ∨ x.f1 = 0) (hnum : x.f0 = 1 ∨ x.f2 = 0)
    (hn : ((x.f0 = 2 ∨ x.f0 = 3 ∨ x.f0 = 4) ∧ jp x.f3) ∨ (¬ (x.f0 = 2 ∨ x.f0 = 3 ∨ x.f0 = 4) ∧ x.f3 = jt)) (hs : shapeE x.f0 x.f1 x.f4) : RE x := by
  obtain ⟨f0, f1, f2, f3, l⟩ := x
  simp only at *
  have nn : ¬ (f0 = 2 ∨ f0 = 3 ∨ f0 = 4) → f3 = jt := fun h => by
    rcases hn with h' | h'
    · exact absurd h'.1 h
    · exact h'.2
  have nk : (f0 = 2 ∨ f0 = 3 ∨ f0 = 4) → jp f3 := fun h => by
    rcases hn with h' | h'
    · exact h'.2
    · exact absurd h h'.1
  clear hn
  have two : l.length = 2 → ∃ a b, l = [a, b] := by
    intro h
    match l, h with
    | [a, b], _ => exact ⟨a, b, rfl⟩
  have one : l.length = 1 → ∃ a, l = [a] := by
    intro h
    match l, h with
    | [a], _ => exact ⟨a, rfl⟩
  rcases hs with ⟨hk, rfl⟩ | ⟨hk, hall⟩
  · rcases hk with rfl | rfl | rfl
    · obtain rfl : f1 = 0 := by omega
      obtain rfl : f3 = jt := nn (by omega)
      exact .num _ h0 h1
    · obtain rfl : f1 = 0 := by omega
      obtain rfl : f2 = 0 := by omega
      exact .var _ (nk (by omega))
    · obtain rfl : f1 = 0 := by omega
      obtain rfl : f2 = 0 := by omega
      obtain rfl : f3 = jt := nn (by omega)
      exact .get
  · rcases hk with ⟨rfl | rfl, hl⟩ | ⟨rfl, hl⟩ | ⟨rfl, ho, ho', hl⟩ | ⟨rfl, hl⟩ | ⟨rfl, hl⟩
    · obtain ⟨a, rfl⟩ := one hl
      obtain rfl : f1 = 0 := by omega
      obtain rfl : f2 = 0 := by omega
      exact .index _ _ (nk (by omega)) (hall _ (by simp))
    · obtain ⟨a, rfl⟩ := one hl
      obtain rfl : f1 = 0 := by omega
      obtain rfl : f2 = 0 := by omega
      obtain rfl : f3 = jt := nn (by omega)
      exact .not _ (hall _ (by simp))
    · obtain rfl : f1 = 0 := by omega
      obtain rfl : f2 = 0 := by omega
      exact .call _ _ (nk (by omega)) hl hall
    · obtain ⟨a, b, rfl⟩ := two hl
      obtain rfl : f2 = 0 := by omega
      obtain rfl : f3 = jt := nn (by omega)
      exact .op _ _ _ ho ho' (hall _ (by simp)) (hall _ (by simp))
    · obtain ⟨a, b, rfl⟩ := two hl
      obtain rfl : f1 = 0 := by omega
      obtain rfl : f2 = 0 := by omega
      obtain rfl : f3 = jt := nn (by omega)
      exact .and _ _ (hall _ (by simp)) (hall _ (by simp))
    · obtain ⟨a, b, rfl⟩ := two hl
      obtain rfl : f1 = 0 := by omega
      obtain rfl : f2 = 0 := by omega
      obtain rfl : f3 = jt := nn (by omega)
      exact .or _ _ (hall _ (by simp)) (hall _ (by simp))
theorem expr_f (x : S36) (hx : OkE x) : ∀ lv : Int, 0 ≤ lv → lv ≤ 1000 → kw (fun k => rRightExpr.f k x.f0 x.f1 x.f2 x.f3 x.f4 lv) (RE x) := by
  induction hx with
  | mk x h0 h1 hl _ ih =>
    intro lv hv0 hv1
    have hw : lv ≤ 24 → kw (fun k => rRightExprs.f k x.f4 (wrap64 (lv + 1))) (∀ y ∈ x.f4, RE y) := fun h => by
      have e : wrap64 (lv + 1) = lv + 1 := by unfold wrap64; omega
      rw [e]
      exact exprs_f x.f4 hl (lv + 1) fun y hy => ih y hy (lv + 1) (by omega) (by omega)
    have bad : ∀ p, kw (fun k => rRightExpr.j0 k lv true x.f0 x.f1 x.f2 x.f3 x.f4) p := fun p => by
      refine kw.succ ?_
      simp only [rRightExpr.j0]
      exact kw.pos (by simp) (kw.f (Ev.some _))
    have num : ∀ hop : x.f0 = 6 ∨ x.f1 = 0, lv ≤ 24 → kw (fun k => if x.f0 = 1 then rRightExpr.j0 k lv false x.f0 x.f1 x.f2 x.f3 x.f4 else rRightExpr.j0 k lv (x.f2 != 0) x.f0 x.f1 x.f2 x.f3 x.f4) (RE x) := fun hop h24 =>
      kw.ite (fun h => (e_j0 (hw h24) false).imp fun hh => right_shape h0 h1 hop (.inl h) hh.2.1 hh.2.2) fun h => (e_j0 (hw h24) _).imp fun hh => right_shape h0 h1 hop (.inr (by simpa using hh.1)) hh.2.1 hh.2.2
    refine kw.succ ?_
    simp only [rRightExpr.f]
    refine kw.ite (fun _ => bad _) fun h24 => kw.ite (fun h6 => num (.inl h6) (by omega)) fun _ => kw.ite (fun h => num (.inr h) (by omega)) fun _ => bad _
inductive OkS : S43 → Prop
  | mk (x : S43) : x.f2.length ≤ maxN → (∀ e ∈ x.f2, OkE e) → x.f3.length ≤ maxN → (∀ s ∈ x.f3, OkS s) → x.f4.length ≤ maxN → (∀ s ∈ x.f4, OkS s) → OkS x
inductive RS : Int → S43 → Prop
  | set (lv : Int) (s : ByteArray) (e : S36) : 0 ≤ lv → lv ≤ 24 → jp s → RE e → RS lv ⟨1, s, [e], [], []⟩
  | store (lv : Int) (s : ByteArray) (a b : S36) : 0 ≤ lv → lv ≤ 24 → jp s → RE a → RE b → RS lv ⟨2, s, [a, b], [], []⟩
  | put (lv : Int) (e : S36) : 0 ≤ lv → lv ≤ 24 → RE e → RS lv ⟨3, jt, [e], [], []⟩
  | cond (lv : Int) (e : S36) (t f : List S43) : 0 ≤ lv → lv ≤ 24 → RE e → (∀ s ∈ t, RS (lv + 1) s) → (∀ s ∈ f, RS (lv + 1) s) → RS lv ⟨4, jt, [e], t, f⟩
  | loop (lv : Int) (e : S36) (t : List S43) : 0 ≤ lv → lv ≤ 24 → RE e → (∀ s ∈ t, RS (lv + 1) s) → RS lv ⟨5, jt, [e], t, []⟩
  | call (lv : Int) (s : ByteArray) (l : List S36) : 0 ≤ lv → lv ≤ 24 → jp s → l.length ≤ 6 → (∀ e ∈ l, RE e) → RS lv ⟨6, s, l, [], []⟩
  | ret0 (lv : Int) : 0 ≤ lv → lv ≤ 24 → RS lv ⟨7, jt, [], [], []⟩
  | ret (lv : Int) (e : S36) : 0 ≤ lv → lv ≤ 24 → RE e → RS lv ⟨7, jt, [e], [], []⟩
theorem stmts_l0 (l : List S43) (hl : l.length ≤ maxN) (lv : Int) (ih : ∀ y ∈ l, kw (fun k => rRightStmt.f k y.f0 y.f1 y.f2 y.f3 y.f4 lv) (RS lv y)) :
    ∀ d i, i + d = l.length → kw (fun k => rRightStmts.l0 k l lv (i : Int)) (∀ j (h : j < l.length), i ≤ j → RS lv (l[j]'h))
  | 0, i, h => by
    refine kw.succ ?_
    simp only [rRightStmts.l0]
    exact kw.neg (by omega) (kw.t (Ev.some _) (by intros; omega))
  | d + 1, i, h => by
    refine kw.succ ?_
    have hi : i < l.length := by omega
    simp only [rRightStmts.l0, rd43 hi, w1 hi hl]
    refine kw.pos (by omega) (kw.pos (by omega) (kw.and (ih _ (List.getElem_mem hi)) fun hn => (stmts_l0 l hl lv ih d (i + 1) (by omega)).imp fun hj j h hij => ?_))
    rcases Nat.eq_or_lt_of_le hij with rfl | hlt
    · exact hn
    · exact hj j h hlt
theorem stmts_f (l : List S43) (hl : l.length ≤ maxN) (lv : Int) (ih : ∀ y ∈ l, kw (fun k => rRightStmt.f k y.f0 y.f1 y.f2 y.f3 y.f4 lv) (RS lv y)) : kw (fun k => rRightStmts.f k l lv) (∀ y ∈ l, RS lv y) := by
  refine kw.succ ?_
  simp only [rRightStmts.f]
  exact (stmts_l0 l hl lv ih l.length 0 (by omega)).imp fun h y hy => by
    obtain ⟨j, hj, e⟩ := List.getElem_of_mem hy
    rw [← e]
    exact h j hj (Nat.zero_le _)
section
variable {lv f0 : Int} {f1 : ByteArray} {l : List S36} {t f : List S43}
def Parts (lv : Int) (l : List S36) (t f : List S43) : Prop := (∀ y ∈ l, RE y) ∧ (∀ s ∈ t, RS (lv + 1) s) ∧ ∀ s ∈ f, RS (lv + 1) s
def fitsS (f0 : Int) (l : List S36) : Prop := (f0 = 1 ∨ f0 = 3 ∨ f0 = 4 ∨ f0 = 5) ∧ l.length = 1 ∨ f0 = 2 ∧ l.length = 2 ∨ f0 = 6 ∧ l.length ≤ 6 ∨ f0 = 7 ∧ l.length ≤ 1
theorem s_j3 (he : kw (fun k => rRightExprs.f k l (wrap64 (lv + 1))) (∀ y ∈ l, RE y)) (ht : kw (fun k => rRightStmts.f k t (wrap64 (lv + 1))) (∀ s ∈ t, RS (lv + 1) s)) (hf : kw (fun k => rRightStmts.f k f (wrap64 (lv + 1))) (∀ s ∈ f, RS (lv + 1) s))
    (b : Bool) (hb : b = true → f0 = 1 ∨ f0 = 3 ∨ f0 = 4 ∨ f0 = 5) :
    kw (fun k => rRightStmt.j3 k lv (l.length : Int) false f0 b f0 f1 l t f) (fitsS f0 l ∧ Parts lv l t f) := by
  refine kw.succ ?_
  simp only [rRightStmt.j3]
  have all : kw (fun k => (rRightExprs.f k l (wrap64 (lv + 1))).bind fun t1 => if t1 = true then ((rRightStmts.f k t (wrap64 (lv + 1))).bind fun t2 => if t2 = true then ((rRightStmts.f k f (wrap64 (lv + 1))).bind fun t3 => some t3) else some false) else some false) (Parts lv l t f) :=
    kw.and he fun h1 => kw.and ht fun h2 => (kw.last hf).imp fun h3 => ⟨h1, h2, h3⟩
  refine kw.ite (fun h => kw.ite (fun h1 => all.imp fun hh => ⟨.inl ⟨hb h, by omega⟩, hh⟩) fun _ => kw.f (Ev.some _)) fun _ => ?_
  refine kw.ite (fun h => kw.ite (fun h1 => all.imp fun hh => ⟨.inr (.inl ⟨h, by omega⟩), hh⟩) fun _ => kw.f (Ev.some _)) fun _ => ?_
  refine kw.ite (fun h => kw.ite (fun h1 => all.imp fun hh => ⟨.inr (.inr (.inl ⟨h, by omega⟩)), hh⟩) fun _ => kw.f (Ev.some _)) fun _ => ?_
  refine kw.ite (fun h => kw.ite (fun h1 => all.imp fun hh => ⟨.inr (.inr (.inr ⟨h, by omega⟩)), hh⟩) fun _ => kw.f (Ev.some _)) fun _ => ?_
  exact kw.neg (by decide) (kw.f (Ev.some _))
theorem s_j2 (he : kw (fun k => rRightExprs.f k l (wrap64 (lv + 1))) (∀ y ∈ l, RE y)) (ht : kw (fun k => rRightStmts.f k t (wrap64 (lv + 1))) (∀ s ∈ t, RS (lv + 1) s)) (hf : kw (fun k => rRightStmts.f k f (wrap64 (lv + 1))) (∀ s ∈ f, RS (lv + 1) s)) (b : Bool) :
    kw (fun k => rRightStmt.j2 k lv b f0 f1 l t f) (b = false ∧ fitsS f0 l ∧ Parts lv l t f) := by
  refine kw.succ ?_
  simp only [rRightStmt.j2]
  refine kw.ite (fun _ => kw.f (Ev.some _)) fun h => ?_
  have hb : b = false := by simpa using h
  refine kw.ite (fun h => (s_j3 he ht hf _ (fun _ => .inl h)).imp fun hh => ⟨hb, hh⟩) fun _ => kw.ite (fun h => (s_j3 he ht hf _ (fun _ => .inr (.inl h))).imp fun hh => ⟨hb, hh⟩) fun _ => kw.ite (fun h => (s_j3 he ht hf _ (fun _ => .inr (.inr (.inl h)))).imp fun hh => ⟨hb, hh⟩) fun _ => (s_j3 he ht hf _ (fun h => .inr (.inr (.inr (beq_iff_eq.mp h))))).imp fun hh => ⟨hb, hh⟩
theorem s_j1 (he : kw (fun k => rRightExprs.f k l (wrap64 (lv + 1))) (∀ y ∈ l, RE y)) (ht : kw (fun k => rRightStmts.f k t (wrap64 (lv + 1))) (∀ s ∈ t, RS (lv + 1) s)) (hf : kw (fun k => rRightStmts.f k f (wrap64 (lv + 1))) (∀ s ∈ f, RS (lv + 1) s)) (b : Bool) :
    kw (fun k => rRightStmt.j1 k lv b f0 f1 l t f) (((b = true ∧ jp f1) ∨ (b = false ∧ f1 = jt)) ∧ fitsS f0 l ∧ Parts lv l t f) := by
  refine kw.succ ?_
  simp only [rRightStmt.j1]
  refine kw.ite (fun _ => (s_j2 he ht hf true).imp fun h => by cases h.1) fun hn => kw.ite (fun hb => kw.bind (isName_f f1) fun u hu => (s_j2 he ht hf (!u)).imp fun h => ⟨.inl ⟨hb, hu (by simpa using h.1)⟩, h.2⟩) fun hb => (s_j2 he ht hf false).imp fun h => ⟨.inr ⟨by simpa using hb, ?_⟩, h.2⟩
  have hb' : b = false := by simpa using hb
  subst hb'
  exact noName_of (by simpa using hn)
theorem s_j0 (he : kw (fun k => rRightExprs.f k l (wrap64 (lv + 1))) (∀ y ∈ l, RE y)) (ht : kw (fun k => rRightStmts.f k t (wrap64 (lv + 1))) (∀ s ∈ t, RS (lv + 1) s)) (hf : kw (fun k => rRightStmts.f k f (wrap64 (lv + 1))) (∀ s ∈ f, RS (lv + 1) s)) (b : Bool) :
    kw (fun k => rRightStmt.j0 k lv b f0 f1 l t f) (b = false ∧ (((f0 = 1 ∨ f0 = 2 ∨ f0 = 6) ∧ jp f1) ∨ (¬ (f0 = 1 ∨ f0 = 2 ∨ f0 = 6) ∧ f1 = jt)) ∧ fitsS f0 l ∧ Parts lv l t f) := by
  refine kw.succ ?_
  simp only [rRightStmt.j0]
  refine kw.ite (fun _ => kw.f (Ev.some _)) fun h => ?_
  have hb : b = false := by simpa using h
  refine kw.ite (fun h2 => (s_j1 he ht hf true).imp fun hh => ⟨hb, .inl ⟨.inl h2, ?_⟩, hh.2⟩) fun h2 => kw.ite (fun h3 => (s_j1 he ht hf true).imp fun hh => ⟨hb, .inl ⟨.inr (.inl h3), ?_⟩, hh.2⟩) fun h3 => (s_j1 he ht hf _).imp fun hh => ⟨hb, ?_, hh.2⟩
  · rcases hh.1 with h | h
    · exact h.2
    · cases h.1
  · rcases hh.1 with h | h
    · exact h.2
    · cases h.1
  · rcases hh.1 with h | h
    · exact .inl ⟨.inr (.inr (beq_iff_eq.mp h.1)), h.2⟩
    · have := beq_eq_false_iff_ne.mp h.1
      exact .inr ⟨by rintro (h | h | h) <;> contradiction, h.2⟩
end
theorem right_stmt {lv : Int} {x : S43} (h0 : 0 ≤ lv) (h24 : lv ≤ 24) (hf : x.f0 = 4 ∨ x.f4 = []) (ht : x.f0 = 4 ∨ x.f0 = 5 ∨ x.f3 = [])
    (hn : ((x.f0 = 1 ∨ x.f0 = 2 ∨ x.f0 = 6) ∧ jp x.f1) ∨ (¬ (x.f0 = 1 ∨ x.f0 = 2 ∨ x.f0 = 6) ∧ x.f1 = jt)) (hs : fitsS x.f0 x.f2) (hp : Parts lv x.f2 x.f3 x.f4) : RS lv x := by
  obtain ⟨f0, f1, l, t, f⟩ := x
  simp only at *
  have nn : ¬ (f0 = 1 ∨ f0 = 2 ∨ f0 = 6) → f1 = jt := fun h => by
    rcases hn with h' | h'
    · exact absurd h'.1 h
    · exact h'.2
  have nk : (f0 = 1 ∨ f0 = 2 ∨ f0 = 6) → jp f1 := fun h => by
    rcases hn with h' | h'
    · exact h'.2
    · exact absurd h h'.1
  clear hn
  have ef : f0 ≠ 4 → f = [] := fun h => by exact hf.resolve_left h
  have et : f0 ≠ 4 → f0 ≠ 5 → t = [] := fun h h5 => by exact (ht.resolve_left h).resolve_left h5
  have two : l.length = 2 → ∃ a b, l = [a, b] := by
    intro h
    match l, h with
    | [a, b], _ => exact ⟨a, b, rfl⟩
  have one : l.length = 1 → ∃ a, l = [a] := by
    intro h
    match l, h with
    | [a], _ => exact ⟨a, rfl⟩
  obtain ⟨he, h3, h4⟩ := hp
  rcases hs with ⟨rfl | rfl | rfl | rfl, hl⟩ | ⟨rfl, hl⟩ | ⟨rfl, hl⟩ | ⟨rfl, hl⟩
  · obtain ⟨a, rfl⟩ := one hl
    obtain rfl := ef (by omega)
    obtain rfl := et (by omega) (by omega)
    exact .set _ _ _ h0 h24 (nk (by omega)) (he _ (by simp))
  · obtain ⟨a, rfl⟩ := one hl
    obtain rfl := ef (by omega)
    obtain rfl := et (by omega) (by omega)
    obtain rfl := nn (by omega)
    exact .put _ _ h0 h24 (he _ (by simp))
  · obtain ⟨a, rfl⟩ := one hl
    obtain rfl := nn (by omega)
    exact .cond _ _ _ _ h0 h24 (he _ (by simp)) h3 h4
  · obtain ⟨a, rfl⟩ := one hl
    obtain rfl := ef (by omega)
    obtain rfl := nn (by omega)
    exact .loop _ _ _ h0 h24 (he _ (by simp)) h3
  · obtain ⟨a, b, rfl⟩ := two hl
    obtain rfl := ef (by omega)
    obtain rfl := et (by omega) (by omega)
    exact .store _ _ _ _ h0 h24 (nk (by omega)) (he _ (by simp)) (he _ (by simp))
  · obtain rfl := ef (by omega)
    obtain rfl := et (by omega) (by omega)
    exact .call _ _ _ h0 h24 (nk (by omega)) hl he
  · obtain rfl := ef (by omega)
    obtain rfl := et (by omega) (by omega)
    obtain rfl := nn (by omega)
    match l, hl, he with
    | [], _, _ => exact .ret0 _ h0 h24
    | [a], _, he => exact .ret _ _ h0 h24 (he _ (by simp))
theorem stmt_f (x : S43) (hx : OkS x) : ∀ lv : Int, 0 ≤ lv → lv ≤ 1000 → kw (fun k => rRightStmt.f k x.f0 x.f1 x.f2 x.f3 x.f4 lv) (RS lv x) := by
  induction hx with
  | mk x hl hE ht hT hf hF ihT ihF =>
    intro lv hv0 hv1
    have bad : ∀ p, kw (fun k => rRightStmt.j0 k lv true x.f0 x.f1 x.f2 x.f3 x.f4) p := fun p => by
      refine kw.succ ?_
      simp only [rRightStmt.j0]
      exact kw.pos (by simp) (kw.f (Ev.some _))
    refine kw.succ ?_
    simp only [rRightStmt.f]
    refine kw.ite (fun _ => bad _) fun h24 => ?_
    have e : wrap64 (lv + 1) = lv + 1 := by unfold wrap64; omega
    have h1 : kw (fun k => rRightExprs.f k x.f2 (wrap64 (lv + 1))) (∀ y ∈ x.f2, RE y) := by
      rw [e]
      exact exprs_f x.f2 hl (lv + 1) fun y hy => expr_f y (hE y hy) (lv + 1) (by omega) (by omega)
    have h2 : kw (fun k => rRightStmts.f k x.f3 (wrap64 (lv + 1))) (∀ s ∈ x.f3, RS (lv + 1) s) := by
      rw [e]
      exact stmts_f x.f3 ht (lv + 1) fun y hy => ihT y hy (lv + 1) (by omega) (by omega)
    have h3 : kw (fun k => rRightStmts.f k x.f4 (wrap64 (lv + 1))) (∀ s ∈ x.f4, RS (lv + 1) s) := by
      rw [e]
      exact stmts_f x.f4 hf (lv + 1) fun y hy => ihF y hy (lv + 1) (by omega) (by omega)
    have go : ∀ b, (b = false → (x.f0 = 4 ∨ x.f4 = []) ∧ (x.f0 = 4 ∨ x.f0 = 5 ∨ x.f3 = [])) → kw (fun k => rRightStmt.j0 k lv b x.f0 x.f1 x.f2 x.f3 x.f4) (RS lv x) := fun b hb =>
      (s_j0 h1 h2 h3 b).imp fun hh => right_stmt hv0 (by omega) (hb hh.1).1 (hb hh.1).2 hh.2.1 hh.2.2.1 hh.2.2.2
    refine kw.ite (fun h4 => go false fun _ => ⟨.inl h4, .inl h4⟩) fun h4 => kw.ite (fun _ => bad _) fun hne => ?_
    have hnil : x.f4 = [] := List.length_eq_zero_iff.mp (by omega)
    refine kw.ite (fun h5 => go false fun _ => ⟨.inr hnil, .inr (.inl h5)⟩) fun h5 => go _ fun hz => ⟨.inr hnil, .inr (.inr (List.length_eq_zero_iff.mp (by have := of_decide_eq_false hz; omega)))⟩
structure OkF (f : S45) : Prop where
  params : f.f1.length ≤ 4611686018427387903
  locals : f.f2.length ≤ 4611686018427387903
  body : f.f4.length ≤ maxN
  stmts : ∀ s ∈ f.f4, OkS s
structure RF (f : S45) : Prop where
  name : jp f.f0
  params : ∀ s ∈ f.f1, jp s
  locals : ∀ s ∈ f.f2, jp s
  body : ∀ s ∈ f.f4, RS 1 s
structure OkP (vars : List ByteArray) (arrs : List S59) (funcs : List S45) : Prop where
  nvars : vars.length ≤ 1152921504606846976
  narrs : arrs.length ≤ 1152921504606846976
  nfuncs : funcs.length ≤ 1152921504606846976
  each : ∀ f ∈ funcs, OkF f
structure RP (vars : List ByteArray) (arrs : List S59) (funcs : List S45) : Prop where
  rvars : ∀ s ∈ vars, jp s
  rarrs : ∀ a ∈ arrs, jp a.f0 ∧ 1 ≤ a.f1 ∧ a.f1 ≤ 4096
  some : funcs ≠ []
  rfuncs : ∀ f ∈ funcs, RF f
theorem right_l1 {vars : List ByteArray} {arrs : List S59} {funcs : List S45} (hp : OkP vars arrs funcs) :
    ∀ d i, i + d = funcs.length → kw (fun k => rRight.l1 k (i : Int) vars arrs funcs) (∀ j (h : j < funcs.length), i ≤ j → RF (funcs[j]'h))
  | 0, i, h => by
    refine kw.succ ?_
    simp only [rRight.l1]
    exact kw.neg (by omega) (kw.t (Ev.some _) (by intros; omega))
  | d + 1, i, h => by
    refine kw.succ ?_
    have hi : i < funcs.length := by omega
    have hF := hp.each _ (List.getElem_mem hi)
    simp only [rRight.l1, rd45 hi, w1 hi (Nat.le_trans hp.nfuncs (by decide))]
    refine kw.pos (by omega) (kw.pos (by omega) (kw.and (isName_f _) fun h1 => kw.ite (fun _ => kw.f (Ev.some _)) fun _ => kw.and (names_f _ (Nat.le_trans hF.params (by decide))) fun h2 => kw.and (names_f _ (Nat.le_trans hF.locals (by decide))) fun h3 => kw.and (stmts_f _ hF.body 1 fun y hy => stmt_f y (hF.stmts y hy) 1 (by omega) (by omega)) fun h4 => (right_l1 hp d (i + 1) (by omega)).imp fun hj j h hij => ?_))
    rcases Nat.eq_or_lt_of_le hij with rfl | hlt
    · exact ⟨h1, h2, h3, h4⟩
    · exact hj j h hlt
theorem right_l0 {vars : List ByteArray} {arrs : List S59} {funcs : List S45} (hp : OkP vars arrs funcs) :
    ∀ d i, i + d = arrs.length → kw (fun k => rRight.l0 k (i : Int) vars arrs funcs) ((∀ j (h : j < arrs.length), i ≤ j → jp (arrs[j]'h).f0 ∧ 1 ≤ (arrs[j]'h).f1 ∧ (arrs[j]'h).f1 ≤ 4096) ∧ ∀ f ∈ funcs, RF f)
  | 0, i, h => by
    refine kw.succ ?_
    simp only [rRight.l0]
    exact kw.neg (by omega) ((right_l1 hp funcs.length 0 (by omega)).imp fun hh => ⟨by intros; omega, fun f hf => by
      obtain ⟨j, hj, e⟩ := List.getElem_of_mem hf
      rw [← e]
      exact hh j hj (Nat.zero_le _)⟩)
  | d + 1, i, h => by
    refine kw.succ ?_
    have hi : i < arrs.length := by omega
    simp only [rRight.l0, rd59 hi, w1 hi (Nat.le_trans hp.narrs (by decide))]
    refine kw.pos (by omega) (kw.pos (by omega) (kw.and (isName_f _) fun h1 => kw.ite (fun _ => kw.f (Ev.some _)) fun h2 => kw.ite (fun _ => kw.f (Ev.some _)) fun h3 => (right_l0 hp d (i + 1) (by omega)).imp fun hj => ⟨fun j h hij => ?_, hj.2⟩))
    rcases Nat.eq_or_lt_of_le hij with rfl | hlt
    · exact ⟨h1, by omega, by omega⟩
    · exact hj.1 j h hlt
theorem right_f {vars : List ByteArray} {arrs : List S59} {funcs : List S45} (hp : OkP vars arrs funcs) : kw (fun k => rRight.f k vars arrs funcs) (RP vars arrs funcs) := by
  unfold rRight.f
  have bad : ∀ p, kw (fun k => rRight.j0 k true vars arrs funcs) p := fun p => by
    refine kw.succ ?_
    simp only [rRight.j0]
    exact kw.pos (by simp) (kw.f (Ev.some _))
  refine kw.bind (names_f vars (Nat.le_trans hp.nvars (by decide))) fun b hb => kw.ite (fun h => kw.ite (fun _ => bad _) fun h1 => ?_) fun _ => bad _
  have go : kw (fun k => rRight.l0 k 0 vars arrs funcs) (RP vars arrs funcs) := (right_l0 hp arrs.length 0 (by omega)).imp fun hh => ⟨hb h, fun a ha => by
    obtain ⟨j, hj, e⟩ := List.getElem_of_mem ha
    rw [← e]
    exact hh.1 j hj (Nat.zero_le _), fun e => by subst e; simp at h1, hh.2⟩
  refine kw.succ ?_
  simp only [rRight.j0]
  exact kw.ite (fun _ => kw.f (Ev.some _)) fun _ => go
mutual
def cE : S36 → Nat
  | ⟨_, _, _, _, l⟩ => 1 + cEs l
def cEs : List S36 → Nat
  | [] => 0
  | x :: l => cE x + cEs l
end
mutual
def cS : S43 → Nat
  | ⟨_, _, e, t, f⟩ => 1 + cEs e + cSs t + cSs f
def cSs : List S43 → Nat
  | [] => 0
  | x :: l => cS x + cSs l
end
def inE (l : List S36) : Nat := (l.map fun y => cEs y.f4).sum
def inS (l : List S43) : Nat := (l.map fun y => cEs y.f2 + cSs y.f3 + cSs y.f4).sum
theorem cEs_eq : ∀ l, cEs l = l.length + inE l
  | [] => rfl
  | ⟨a, b, c, d, k⟩ :: l => by
    have h : inE (⟨a, b, c, d, k⟩ :: l) = cEs k + inE l := by simp [inE]
    simp only [cEs, cE, cEs_eq l, h, List.length_cons]
    omega
theorem cSs_eq : ∀ l, cSs l = l.length + inS l
  | [] => rfl
  | ⟨a, b, e, t, f⟩ :: l => by
    have h : inS (⟨a, b, e, t, f⟩ :: l) = cEs e + cSs t + cSs f + inS l := by simp [inS]
    simp only [cSs, cS, cSs_eq l, h, List.length_cons]
    omega
theorem inE_drop {l : List S36} {i : Nat} (h : i < l.length) : inE (l.drop i) = cEs (l[i]'h).f4 + inE (l.drop (i + 1)) := by
  unfold inE
  rw [List.drop_eq_getElem_cons h]
  rfl
theorem inS_drop {l : List S43} {i : Nat} (h : i < l.length) : inS (l.drop i) = (cEs (l[i]'h).f2 + cSs (l[i]'h).f3 + cSs (l[i]'h).f4) + inS (l.drop (i + 1)) := by
  unfold inS
  rw [List.drop_eq_getElem_cons h]
  rfl
def Left (g : Nat → Option Int) (left : Int) (n : Nat) : Prop := ∃ r, Ev g r ∧ r ≤ left ∧ (r > 0 → r + n ≤ left)
theorem Left.succ {g : Nat → Option Int} {left : Int} {n : Nat} (h : Left (fun k => g (k + 1)) left n) : Left g left n := by
  obtain ⟨r, h, hr⟩ := h
  exact ⟨r, h.succ, hr⟩
theorem Left.pos {c : Prop} [Decidable c] {a b : Nat → Option Int} {left : Int} {n : Nat} (hc : c) (h : Left a left n) : Left (fun k => if c then a k else b k) left n := by
  simpa only [if_pos hc] using h
theorem Left.neg {c : Prop} [Decidable c] {a b : Nat → Option Int} {left : Int} {n : Nat} (hc : ¬ c) (h : Left b left n) : Left (fun k => if c then a k else b k) left n := by
  simpa only [if_neg hc] using h
theorem Left.ite {c : Prop} [Decidable c] {a b : Nat → Option Int} {left : Int} {n : Nat} (h1 : c → Left a left n) (h2 : ¬ c → Left b left n) : Left (fun k => if c then a k else b k) left n := by
  by_cases hc : c
  · exact (h1 hc).pos hc
  · exact (h2 hc).neg hc
theorem Left.bind {g : Nat → Option Int} {f : Nat → Int → Option Int} {left : Int} {m n : Nat} (h : Left g left m) (h2 : ∀ r, r ≤ left → (r > 0 → r + m ≤ left) → Left (fun k => f k r) r n) : Left (fun k => (g k).bind (f k)) left (m + n) := by
  obtain ⟨r, h, h0, h1⟩ := h
  obtain ⟨s, k, k0, k1⟩ := h2 r h0 h1
  refine ⟨s, h.bind k, by omega, fun hs => ?_⟩
  have := k1 hs
  have := h1 (by omega)
  omega
theorem Left.cast {g : Nat → Option Int} {left : Int} {m n : Nat} (h : Left g left m) (e : n ≤ m) : Left g left n := by
  obtain ⟨r, h, h0, h1⟩ := h
  exact ⟨r, h, h0, fun hr => by have := h1 hr; omega⟩
def FewE (l : List S36) : Prop := ∀ left deep : Int, 0 < left → left ≤ 1000 → 0 ≤ deep → deep ≤ 1000 → Left (fun k => qexprs.f k l left deep) left (cEs l)
theorem fewE_l0 (l : List S36) (hl : l.length ≤ maxN) (ih : ∀ y ∈ l, FewE y.f4) (deep : Int) (h0 : 1 ≤ deep) (h1 : deep ≤ 1000) :
    ∀ d i, i + d = l.length → ∀ left : Int, left ≤ 1000 → Left (fun k => qexprs.l0 k l left deep (i : Int)) left (inE (l.drop i))
  | 0, i, h, left, hle => by
    refine Left.succ ?_
    simp only [qexprs.l0]
    refine Left.neg (by omega) ⟨left, Ev.some _, Int.le_refl _, fun _ => ?_⟩
    rw [List.drop_eq_nil_of_le (by omega)]
    simp [inE]
  | d + 1, i, h, left, hle => by
    refine Left.succ ?_
    have hi : i < l.length := by omega
    have hw : wrap64 (deep - 1) = deep - 1 := by unfold wrap64; omega
    simp only [qexprs.l0, rd36 hi, w1 hi hl, hw]
    refine Left.pos (by omega) (Left.ite (fun hp => Left.pos (by omega) ?_) fun hp => ⟨left, Ev.some _, Int.le_refl _, fun h => absurd h hp⟩)
    rw [inE_drop hi]
    exact Left.bind (ih _ (List.getElem_mem hi) left (deep - 1) (by omega) hle (by omega) (by omega)) fun r hr _ => fewE_l0 l hl ih deep h0 h1 d (i + 1) (by omega) r (by omega)
theorem fewE_list (l : List S36) (hl : l.length ≤ maxN) (ih : ∀ y ∈ l, FewE y.f4) : FewE l := by
  intro left deep h0 h1 h2 h3
  refine Left.succ ?_
  simp only [qexprs.f]
  refine Left.ite (fun _ => ⟨0, Ev.some _, by omega, fun h => by omega⟩) fun hd => ?_
  have hw : wrap64 (left - (l.length : Int)) = left - l.length := by unfold maxN at hl; unfold wrap64; omega
  rw [hw]
  obtain ⟨r, he, hr, hs⟩ := fewE_l0 l hl ih deep (by omega) h3 l.length 0 (by omega) (left - l.length) (by omega)
  refine ⟨r, he, by omega, fun h => ?_⟩
  have := hs h
  rw [cEs_eq]
  rw [List.drop_zero] at this
  push_cast
  omega
theorem fewE (x : S36) (hx : OkE x) : FewE x.f4 := by
  induction hx with
  | mk x _ _ hl _ ih => exact fewE_list x.f4 hl ih
def FewS (l : List S43) : Prop := ∀ left deep : Int, 0 < left → left ≤ 1000 → 0 ≤ deep → deep ≤ 1000 → Left (fun k => qstmts.f k l left deep) left (cSs l)
theorem fewS_l0 (l : List S43) (hl : l.length ≤ maxN) (ihE : ∀ y ∈ l, FewE y.f2) (ih3 : ∀ y ∈ l, FewS y.f3) (ih4 : ∀ y ∈ l, FewS y.f4) (deep : Int) (h0 : 1 ≤ deep) (h1 : deep ≤ 1000) :
    ∀ d i, i + d = l.length → ∀ left : Int, left ≤ 1000 → Left (fun k => qstmts.l0 k l left deep (i : Int)) left (inS (l.drop i))
  | 0, i, h, left, hle => by
    refine Left.succ ?_
    simp only [qstmts.l0]
    refine Left.neg (by omega) (Left.succ ?_)
    simp only [qstmts.j1]
    refine Left.neg (by decide) ⟨left, Ev.some _, Int.le_refl _, fun _ => ?_⟩
    rw [List.drop_eq_nil_of_le (by omega)]
    simp [inS]
  | d + 1, i, h, left, hle => by
    refine Left.succ ?_
    have hi : i < l.length := by omega
    have hw : wrap64 (deep - 1) = deep - 1 := by unfold wrap64; omega
    simp only [qstmts.l0]
    refine Left.pos (by omega) (Left.succ ?_)
    simp only [qstmts.j1, rd43 hi, w1 hi hl, hw]
    refine Left.ite (fun hp => ?_) fun hp => ⟨left, Ev.some _, Int.le_refl _, fun h => absurd (by simpa using h) hp⟩
    have hp' : left > 0 := by simpa using hp
    refine Left.pos (by omega) (Left.pos (by omega) ?_)
    have next := fewS_l0 l hl ihE ih3 ih4 deep h0 h1 d (i + 1) (by omega)
    have none_left : ∀ (g : Nat → Option Int) (r : Int) (m n : Nat), ¬ r > 0 → Left g r m → Left g r n := fun g r m n hr hg => by
      obtain ⟨s, e, e0, e1⟩ := hg
      exact ⟨s, e, e0, fun h => by omega⟩
    have hm := List.getElem_mem hi
    rw [inS_drop hi, show ∀ a b c d : Nat, a + b + c + d = a + (b + (c + d)) by intros; omega]
    refine Left.bind (ihE _ hm left (deep - 1) hp' hle (by omega) (by omega)) fun r1 hr1 _ => Left.ite (fun hp1 => ?_) fun hp1 => none_left _ _ _ _ hp1 (next r1 (by omega))
    refine Left.bind (ih3 _ hm r1 (deep - 1) hp1 (by omega) (by omega) (by omega)) fun r2 hr2 _ => Left.ite (fun hp2 => ?_) fun hp2 => none_left _ _ _ _ hp2 (next r2 (by omega))
    exact Left.bind (ih4 _ hm r2 (deep - 1) hp2 (by omega) (by omega) (by omega)) fun r3 hr3 _ => next r3 (by omega)
theorem fewS_list (l : List S43) (hl : l.length ≤ maxN) (ihE : ∀ y ∈ l, FewE y.f2) (ih3 : ∀ y ∈ l, FewS y.f3) (ih4 : ∀ y ∈ l, FewS y.f4) : FewS l := by
  intro left deep h0 h1 h2 h3
  refine Left.succ ?_
  simp only [qstmts.f]
  refine Left.ite (fun _ => ⟨0, Ev.some _, by omega, fun h => by omega⟩) fun hd => ?_
  have hw : wrap64 (left - (l.length : Int)) = left - l.length := by unfold maxN at hl; unfold wrap64; omega
  rw [hw]
  obtain ⟨r, he, hr, hs⟩ := fewS_l0 l hl ihE ih3 ih4 deep (by omega) h3 l.length 0 (by omega) (left - l.length) (by omega)
  refine ⟨r, he, by omega, fun h => ?_⟩
  have := hs h
  rw [cSs_eq]
  rw [List.drop_zero] at this
  push_cast
  omega
theorem fewE_of (x : S43) (hx : OkS x) : FewE x.f2 := by
  cases hx with
  | mk _ hl hE _ _ _ _ => exact fewE_list x.f2 hl fun y hy => fewE y (hE y hy)
theorem fewS (x : S43) (hx : OkS x) : FewS x.f3 ∧ FewS x.f4 := by
  induction hx with
  | mk x hl hE ht hT hf hF ihT ihF =>
    exact ⟨fewS_list x.f3 ht (fun y hy => fewE_of y (hT y hy)) (fun y hy => (ihT y hy).1) (fun y hy => (ihT y hy).2), fewS_list x.f4 hf (fun y hy => fewE_of y (hF y hy)) (fun y hy => (ihF y hy).1) (fun y hy => (ihF y hy).2)⟩
theorem fewS_body (l : List S43) (hl : l.length ≤ maxN) (h : ∀ s ∈ l, OkS s) : FewS l :=
  fewS_list l hl (fun y hy => fewE_of y (h y hy)) (fun y hy => (fewS y (h y hy)).1) (fun y hy => (fewS y (h y hy)).2)
def cF (f : S45) : Nat := f.f1.length + f.f2.length + cSs f.f4
def inF (l : List S45) : Nat := (l.map cF).sum
theorem inF_drop {l : List S45} {i : Nat} (h : i < l.length) : inF (l.drop i) = cF (l[i]'h) + inF (l.drop (i + 1)) := by
  unfold inF
  rw [List.drop_eq_getElem_cons h]
  rfl
theorem few_l0 {vars : List ByteArray} {arrs : List S59} {funcs : List S45} (hp : OkP vars arrs funcs) :
    ∀ d i, i + d = funcs.length → ∀ left : Int, left ≤ 1000 → kw (fun k => qFew.l0 k left (i : Int) vars arrs funcs) (0 < left ∧ (inF (funcs.drop i) : Int) < left)
  | 0, i, h, left, hle => by
    refine kw.succ ?_
    simp only [qFew.l0]
    refine kw.neg (by omega) (kw.succ ?_)
    simp only [qFew.j1]
    refine kw.neg (by decide) (kw.b _ (Ev.some _) fun h => ?_)
    have := of_decide_eq_true h
    rw [List.drop_eq_nil_of_le (by omega)]
    simp [inF]
    omega
  | d + 1, i, h, left, hle => by
    refine kw.succ ?_
    have hi : i < funcs.length := by omega
    have hF := hp.each _ (List.getElem_mem hi)
    simp only [qFew.l0]
    refine kw.pos (by omega) (kw.succ ?_)
    simp only [qFew.j1, rd45 hi, w1 hi (Nat.le_trans hp.nfuncs (by decide))]
    refine kw.ite (fun hpo => ?_) fun hpo => kw.b _ (Ev.some _) fun h => absurd h hpo
    have hpos : left > 0 := by simpa using hpo
    have n1 := hF.params
    have n2 := hF.locals
    have e1 : wrap64 (left - ((funcs[i]'hi).f1.length : Int)) = left - (funcs[i]'hi).f1.length := by unfold wrap64; omega
    rw [e1]
    have next := few_l0 hp d (i + 1) (by omega)
    refine kw.pos (by omega) (kw.pos (by omega) (kw.ite (fun hp2 => ?_) fun hp2 => ?_))
    · by_cases hbig : left - (funcs[i]'hi).f1.length - (funcs[i]'hi).f2.length < -9223372036854775808
      · exfalso
        unfold wrap64 at hp2
        omega
      · have e2 : wrap64 (left - ((funcs[i]'hi).f1.length : Int) - ((funcs[i]'hi).f2.length : Int)) = left - (funcs[i]'hi).f1.length - (funcs[i]'hi).f2.length := by unfold wrap64; omega
        rw [e2] at hp2 ⊢
        obtain ⟨r, he, h0, h1⟩ := fewS_body _ hF.body hF.stmts _ 40 hp2 (by omega) (by omega) (by omega)
        refine kw.bindE he ((next r (by omega)).imp fun hh => ?_)
        have := h1 hh.1
        rw [inF_drop hi]
        unfold cF
        refine ⟨hpos, ?_⟩
        have := hh.2
        push_cast
        omega
    · exact (next _ (by omega)).imp fun hh => absurd hh.1 hp2
def parts (vars : List ByteArray) (arrs : List S59) (funcs : List S45) : Nat := vars.length + arrs.length + funcs.length + inF funcs
theorem few_f {vars : List ByteArray} {arrs : List S59} {funcs : List S45} (hp : OkP vars arrs funcs) : kw (fun k => qFew.f k vars arrs funcs 100) (parts vars arrs funcs < 100) := by
  unfold qFew.f
  have h1 := hp.nvars
  have h2 := hp.narrs
  have h3 := hp.nfuncs
  have e : wrap64 (wrap64 (wrap64 (100 - (vars.length : Int)) - (arrs.length : Int)) - (funcs.length : Int)) = 100 - (vars.length : Int) - arrs.length - funcs.length := by
    have e1 : wrap64 (100 - (vars.length : Int)) = 100 - (vars.length : Int) := by unfold wrap64; omega
    have e2 : wrap64 (100 - (vars.length : Int) - (arrs.length : Int)) = 100 - (vars.length : Int) - arrs.length := by unfold wrap64; omega
    rw [e1, e2]
    unfold wrap64
    omega
  rw [e]
  refine (few_l0 hp funcs.length 0 (by omega) _ (by omega)).imp fun hh => ?_
  have := hh.2
  rw [List.drop_zero] at this
  unfold parts
  omega
theorem small_f {vars : List ByteArray} {arrs : List S59} {funcs : List S45} (hp : OkP vars arrs funcs) : kw (fun k => qSmall.f k vars arrs funcs 100) (RP vars arrs funcs ∧ parts vars arrs funcs < 100) := by
  unfold qSmall.f
  exact kw.and (few_f hp) fun h1 => (kw.last (right_f hp)).imp fun h2 => ⟨h2, h1⟩
abbrev B (s : ByteArray) : List UInt8 := s.data.toList
def joinT (l : List (List UInt8)) : List UInt8 := Lib.join l [44, 32]
def signT (o : Int) : List UInt8 := B (Ext.signsL.getD (o - 4).toNat ByteArray.empty)
mutual
def exT : S36 → List UInt8
  | ⟨f0, f1, f2, f3, l⟩ =>
    if f0 = 1 then Lib.decDigits f2.toNat
    else if f0 = 2 then B f3
    else if f0 = 3 then B f3 ++ [91] ++ (exTs l).headD [] ++ [93]
    else if f0 = 4 then B f3 ++ [40] ++ joinT (exTs l) ++ [41]
    else if f0 = 5 then [103, 101, 116, 40, 41]
    else if f0 = 6 then [40] ++ (exTs l).headD [] ++ [32] ++ signT f1 ++ [32] ++ (exTs l).tail.headD [] ++ [41]
    else if f0 = 7 then [33] ++ (exTs l).headD []
    else if f0 = 8 then [40] ++ (exTs l).headD [] ++ [32] ++ [38, 38] ++ [32] ++ (exTs l).tail.headD [] ++ [41]
    else [40] ++ (exTs l).headD [] ++ [32] ++ [124, 124] ++ [32] ++ (exTs l).tail.headD [] ++ [41]
def exTs : List S36 → List (List UInt8)
  | [] => []
  | x :: l => exT x :: exTs l
end
theorem exTs_eq (l : List S36) : exTs l = l.map exT := by
  induction l with
  | nil => rfl
  | cons a l ih => simp [exTs, ih]
theorem exT_num (n : Int) : exT ⟨1, 0, n, jt, []⟩ = Lib.decDigits n.toNat := by simp [exT]
theorem exT_var (s : ByteArray) : exT ⟨2, 0, 0, s, []⟩ = B s := by simp [exT]
theorem exT_index (s : ByteArray) (a : S36) : exT ⟨3, 0, 0, s, [a]⟩ = B s ++ [91] ++ exT a ++ [93] := by simp [exT, exTs]
theorem exT_call (s : ByteArray) (l : List S36) : exT ⟨4, 0, 0, s, l⟩ = B s ++ [40] ++ joinT (l.map exT) ++ [41] := by simp [exT, exTs_eq]
theorem exT_get : exT ⟨5, 0, 0, jt, []⟩ = [103, 101, 116, 40, 41] := by simp [exT]
theorem exT_op (o : Int) (a b : S36) : exT ⟨6, o, 0, jt, [a, b]⟩ = [40] ++ exT a ++ [32] ++ signT o ++ [32] ++ exT b ++ [41] := by simp [exT, exTs]
theorem exT_not (a : S36) : exT ⟨7, 0, 0, jt, [a]⟩ = [33] ++ exT a := by simp [exT, exTs]
theorem exT_and (a b : S36) : exT ⟨8, 0, 0, jt, [a, b]⟩ = [40] ++ exT a ++ [32] ++ [38, 38] ++ [32] ++ exT b ++ [41] := by simp [exT, exTs]
theorem exT_or (a b : S36) : exT ⟨9, 0, 0, jt, [a, b]⟩ = [40] ++ exT a ++ [32] ++ [124, 124] ++ [32] ++ exT b ++ [41] := by simp [exT, exTs]
theorem name_len {s : ByteArray} (h : jp s) : (B s).length ≤ 20 := h.size
theorem joinT_len : ∀ l : List (List UInt8), (joinT l).length ≤ (l.map List.length).sum + 2 * l.length
  | [] => by simp [joinT, Lib.join_nil]
  | a :: l => by
    unfold joinT
    rw [Lib.join_cons, List.length_append]
    have : ∀ r : List (List UInt8), (Lib.joinTail [44, 32] r).length = (r.map List.length).sum + 2 * r.length := by
      intro r
      induction r with
      | nil => rfl
      | cons b r ih =>
        have e : Lib.joinTail [44, 32] (b :: r) = [44, 32] ++ b ++ Lib.joinTail [44, 32] r := by simp [Lib.joinTail]
        rw [e, List.length_append, ih]
        simp
        omega
    rw [this]
    simp
    omega
theorem sign_len {o : Int} (h : 4 ≤ o) (h' : o ≤ 15) : (signT o).length ≤ 2 := by
  have : o = 4 ∨ o = 5 ∨ o = 6 ∨ o = 7 ∨ o = 8 ∨ o = 9 ∨ o = 10 ∨ o = 11 ∨ o = 12 ∨ o = 13 ∨ o = 14 ∨ o = 15 := by omega
  rcases this with rfl | rfl | rfl | rfl | rfl | rfl | rfl | rfl | rfl | rfl | rfl | rfl <;> decide
theorem cEs_sum (l : List S36) : cEs l = (l.map cE).sum := by
  induction l with
  | nil => rfl
  | cons a l ih => simp [cEs, ih]
theorem exT_len {x : S36} (h : RE x) : (exT x).length ≤ 40 * cE x := by
  induction h with
  | num n h0 h1 =>
    rw [exT_num, Lib.decDigits_length]
    have := Lib.nDigits_le20 n.toNat (by omega)
    simp [cE, cEs]
    omega
  | var s h => rw [exT_var]; have := h.size; simp [cE, cEs]; omega
  | index s a h _ ih => rw [exT_index]; have := name_len h; simp [cE, cEs] at *; omega
  | call s l h hl hall ih =>
    rw [exT_call]
    have h1 := name_len h
    have h2 := joinT_len (l.map exT)
    have h3 : ((l.map exT).map List.length).sum ≤ 40 * cEs l := by
      clear h2 hl hall
      induction l with
      | nil => simp [cEs]
      | cons a l il =>
        have e1 := ih a (by simp)
        have e2 := il (fun y hy => ih y (by simp [hy]))
        simp only [List.map_cons, List.sum_cons, cEs] at *
        omega
    simp only [List.length_append, List.length_map, List.length_cons, List.length_nil, cE] at *
    omega
  | get => rw [exT_get]; simp [cE, cEs]
  | op o a b h0 h1 _ _ ia ib => rw [exT_op]; have := sign_len h0 h1; simp [cE, cEs] at *; omega
  | not a _ ih => rw [exT_not]; simp [cE, cEs] at *; omega
  | and a b _ _ ia ib => rw [exT_and]; simp [cE, cEs] at *; omega
  | or a b _ _ ia ib => rw [exT_or]; simp [cE, cEs] at *; omega
def T (l : List UInt8) : ByteArray := ⟨l.toArray⟩
theorem T_app (a b : List UInt8) : T a ++ T b = T (a ++ b) := by
  apply ByteArray.ext
  show (T a ++ T b).data = _
  rw [ByteArray.data_append]
  simp [T]
theorem T_size (a : List UInt8) : (T a).size = a.length := by simp [T, ByteArray.size]
theorem T_B (s : ByteArray) : T (B s) = s := by cases s; simp [T, B]
theorem B_T (l : List UInt8) : B (T l) = l := by simp [T, B]
theorem text_f {n : Int} (h0 : 0 ≤ n) (h1 : n < 4294967296) : word_Text.f n = some (T (Lib.decDigits n.toNat)) := by
  have e : IntKind.u64.wrap n = n := by
    show n % _ = n
    simp only [IntKind.bits]
    omega
  unfold word_Text.f
  rw [e]
  unfold Ext.strconv_FormatUint.f
  rw [if_pos ⟨rfl, h0, by omega⟩]
  rfl
theorem join_f (l : List (List UInt8)) (h : l.length ≤ 1000) (hl : (joinT l).length ≤ 1000000) : Ext.strings_Join.f (l.map T) (⟨#[44, 32]⟩ : ByteArray) = some (T (joinT l)) := by
  have e : (l.map T).map (·.data.toList) = l := by
    rw [List.map_map]
    conv => rhs; rw [← List.map_id l]
    exact List.map_congr_left fun a _ => B_T a
  unfold Ext.strings_Join.f
  rw [e]
  have hj : Lib.join l (⟨#[44, 32]⟩ : ByteArray).data.toList = joinT l := rfl
  rw [hj, if_pos ⟨by rw [List.length_map]; omega, by omega⟩]
  rfl
def EvE (x : S36) : Prop := Ev (fun k => yExpr.f k x.f0 x.f1 x.f2 x.f3 x.f4) (T (exT x))
theorem Ev.cast {α : Type} {g : Nat → Option α} {r s : α} (h : Ev g r) (e : r = s) : Ev g s := e ▸ h
theorem args_l0 (l : List S36) (hl : l.length ≤ 100) (ih : ∀ y ∈ l, EvE y) (hj : (joinT (l.map exT)).length ≤ 1000000) :
    ∀ d i, i + d = l.length → Ev (fun k => yargs.l0 k ((l.take i).map fun y => T (exT y)) l (l.length : Int) (i : Int)) (T (joinT (l.map exT)))
  | 0, i, h => by
    refine Ev.succ ?_
    simp only [yargs.l0]
    refine Ev.neg (by omega) ?_
    have hi : i = l.length := by omega
    subst hi
    rw [List.take_length]
    have := join_f (l.map exT) (by rw [List.length_map]; omega) hj
    rw [List.map_map] at this
    have e : (l.map fun y => T (exT y)) = l.map (T ∘ exT) := rfl
    rw [e]
    refine Ev.const fun k => ?_
    rw [this]
    rfl
  | d + 1, i, h => by
    refine Ev.succ ?_
    have hi : i < l.length := by omega
    simp only [yargs.l0, rd36 hi, w1 hi (show l.length ≤ maxN by unfold maxN; omega)]
    refine Ev.pos (by omega) (Ev.pos (by omega) (Ev.pos (by omega) (Ev.bind (ih _ (List.getElem_mem hi)) (Ev.pos (by rw [List.length_map, List.length_take]; omega) ?_))))
    have e : ((l.take i).map fun y => T (exT y)) ++ [T (exT (l[i]'hi))] = (l.take (i + 1)).map fun y => T (exT y) := by
      rw [List.take_succ_eq_append_getElem hi, List.map_append]
      rfl
    rw [e]
    exact args_l0 l hl ih hj d (i + 1) (by omega)
theorem args_f (l : List S36) (hl : l.length ≤ 100) (ih : ∀ y ∈ l, EvE y) (hj : (joinT (l.map exT)).length ≤ 1000000) : Ev (fun k => yargs.f k l) (T (joinT (l.map exT))) := by
  refine Ev.succ ?_
  simp only [yargs.f]
  exact args_l0 l hl ih hj l.length 0 (by omega)
theorem lit_T : (⟨#[40]⟩ : ByteArray) = T [40] ∧ (⟨#[41]⟩ : ByteArray) = T [41] ∧ (⟨#[32]⟩ : ByteArray) = T [32] ∧ (⟨#[91]⟩ : ByteArray) = T [91] ∧ (⟨#[93]⟩ : ByteArray) = T [93] ∧ (⟨#[33]⟩ : ByteArray) = T [33] := ⟨rfl, rfl, rfl, rfl, rfl, rfl⟩
theorem two_f (f0 f1 f2 : Int) (f3 : ByteArray) (a b : S36) (s : List UInt8) (ha : EvE a) (hb : EvE b) (la : (exT a).length ≤ 100000) (lb : (exT b).length ≤ 100000) (ls : s.length ≤ 100) :
    Ev (fun k => ytwo.f k f0 f1 f2 f3 [a, b] (T s)) (T ([40] ++ exT a ++ [32] ++ s ++ [32] ++ exT b ++ [41])) := by
  refine Ev.succ ?_
  have r0 : kn [a, b] 0 = a := rfl
  have r1 : kn [a, b] 1 = b := rfl
  simp only [ytwo.f, r0, r1]
  refine Ev.pos (by simp) (Ev.bind ha ?_)
  obtain ⟨e1, e2, e3, _⟩ := lit_T
  simp only [e1, e2, e3, T_app, T_size]
  refine Ev.pos (by (try simp only [List.length_append, List.length_cons, List.length_nil]); omega) (Ev.pos (by (try simp only [List.length_append, List.length_cons, List.length_nil]); omega) (Ev.pos (by (try simp only [List.length_append, List.length_cons, List.length_nil]); omega) (Ev.pos (by (try simp only [List.length_append, List.length_cons, List.length_nil]); omega) (Ev.pos (by simp) (Ev.bind hb ?_)))))
  simp only [T_app, T_size]
  exact Ev.pos (by (try simp only [List.length_append, List.length_cons, List.length_nil]); omega) (Ev.pos (by (try simp only [List.length_append, List.length_cons, List.length_nil]); omega) (Ev.some _))
theorem le_sum {α : Type} (f : α → Nat) {x : α} : ∀ {l : List α}, x ∈ l → f x ≤ (l.map f).sum
  | y :: l, h => by
    rcases List.mem_cons.mp h with rfl | h
    · simp
    · have := le_sum f h
      simp
      omega
theorem expr_ev {x : S36} (h : RE x) (hc : cE x ≤ 1000) : EvE x := by
  induction h with
  | num n h0 h1 =>
    refine Ev.succ ?_
    simp only [yExpr.f, exT_num]
    refine Ev.pos (by decide) (Ev.const fun k => ?_)
    rw [text_f h0 h1]
    rfl
  | var s h =>
    refine Ev.succ ?_
    simp only [yExpr.f, exT_var, T_B]
    exact Ev.neg (by decide) (Ev.pos (by decide) (Ev.some _))
  | index s a h hr ih =>
    have ha := ih (by simp [cE, cEs] at hc; omega)
    have la := exT_len hr
    have hn := name_len h
    have hs := h.size
    refine Ev.succ ?_
    have r0 : kn [a] 0 = a := rfl
    simp only [yExpr.f, exT_index, r0]
    refine Ev.neg (by decide) (Ev.neg (by decide) (Ev.pos (by decide) (Ev.pos (by omega) (Ev.pos (by simp) (Ev.bind ha ?_)))))
    obtain ⟨e1, e2, e3, e4, e5, e6⟩ := lit_T
    have es : s = T (B s) := (T_B s).symm
    rw [es]
    simp only [e4, e5, T_app, T_size, B_T]
    simp only [cE, cEs] at hc
    exact Ev.pos (by (try simp only [List.length_append, List.length_cons, List.length_nil]); omega) (Ev.pos (by (try simp only [List.length_append, List.length_cons, List.length_nil]); omega) (Ev.some _))
  | call s l h hl hr ih =>
    have hn := name_len h
    have hs := h.size
    simp only [cE] at hc
    have each : ∀ y ∈ l, cE y ≤ cEs l := fun y hy => by
      rw [cEs_sum]
      exact le_sum cE hy
    have hx : RE ⟨4, 0, 0, s, l⟩ := .call s l h hl hr
    have lx := exT_len hx
    rw [exT_call] at lx
    simp only [cE, List.length_append] at lx
    have ha := args_f l (by omega) (fun y hy => ih y hy (by have := each y hy; omega)) (by omega)
    refine Ev.succ ?_
    simp only [yExpr.f, exT_call]
    refine Ev.neg (by decide) (Ev.neg (by decide) (Ev.neg (by decide) (Ev.pos (by decide) (Ev.pos (by omega) (Ev.bind ha ?_)))))
    obtain ⟨e1, e2, e3, e4, e5, e6⟩ := lit_T
    have es : s = T (B s) := (T_B s).symm
    rw [es]
    simp only [e1, e2, T_app, T_size, B_T]
    exact Ev.pos (by (try simp only [List.length_append, List.length_cons, List.length_nil]); omega) (Ev.pos (by (try simp only [List.length_append, List.length_cons, List.length_nil]); omega) (Ev.some _))
  | get =>
    refine Ev.succ ?_
    simp only [yExpr.f, exT_get]
    exact Ev.neg (by decide) (Ev.neg (by decide) (Ev.neg (by decide) (Ev.neg (by decide) (Ev.pos (by decide) (Ev.some _)))))
  | op o a b h0 h1 ra rb ia ib =>
    simp only [cE, cEs] at hc
    have ha := ia (by omega)
    have hb := ib (by omega)
    have la := exT_len ra
    have lb := exT_len rb
    have ls := sign_len h0 h1
    refine Ev.succ ?_
    have hw : wrap64 (o - 4) = o - 4 := by unfold wrap64; omega
    have hsg : rdOf ByteArray.empty Ext.signsL (o - 4) = T (signT o) := by
      unfold signT rdOf
      rw [T_B]
    simp only [yExpr.f, exT_op, hw, hsg]
    refine Ev.neg (by decide) (Ev.neg (by decide) (Ev.neg (by decide) (Ev.neg (by decide) (Ev.neg (by decide) (Ev.pos (by decide) (Ev.pos (by omega) (Ev.pos (by omega) ?_)))))))
    exact Ev.bind (two_f _ _ _ _ a b (signT o) ha hb (by omega) (by omega) (by omega)) (Ev.some _)
  | not a ra ih =>
    simp only [cE, cEs] at hc
    have ha := ih (by omega)
    have la := exT_len ra
    refine Ev.succ ?_
    have r0 : kn [a] 0 = a := rfl
    simp only [yExpr.f, exT_not, r0]
    refine Ev.neg (by decide) (Ev.neg (by decide) (Ev.neg (by decide) (Ev.neg (by decide) (Ev.neg (by decide) (Ev.neg (by decide) (Ev.pos (by decide) (Ev.pos (by simp) (Ev.bind ha ?_))))))))
    obtain ⟨e1, e2, e3, e4, e5, e6⟩ := lit_T
    simp only [e6, T_app, T_size]
    exact Ev.pos (by omega) (Ev.some _)
  | and a b ra rb ia ib =>
    simp only [cE, cEs] at hc
    have la := exT_len ra
    have lb := exT_len rb
    refine Ev.succ ?_
    simp only [yExpr.f, exT_and]
    refine Ev.neg (by decide) (Ev.neg (by decide) (Ev.neg (by decide) (Ev.neg (by decide) (Ev.neg (by decide) (Ev.neg (by decide) (Ev.neg (by decide) (Ev.pos (by decide) ?_)))))))
    exact Ev.bind (two_f _ _ _ _ a b [38, 38] (ia (by omega)) (ib (by omega)) (by omega) (by omega) (by decide)) (Ev.some _)
  | or a b ra rb ia ib =>
    simp only [cE, cEs] at hc
    have la := exT_len ra
    have lb := exT_len rb
    refine Ev.succ ?_
    simp only [yExpr.f, exT_or]
    refine Ev.neg (by decide) (Ev.neg (by decide) (Ev.neg (by decide) (Ev.neg (by decide) (Ev.neg (by decide) (Ev.neg (by decide) (Ev.neg (by decide) (Ev.neg (by decide) ?_)))))))
    exact Ev.bind (two_f _ _ _ _ a b [124, 124] (ia (by omega)) (ib (by omega)) (by omega) (by omega) (by decide)) (Ev.some _)
def js (n : Nat) (parts : List (List UInt8)) : List UInt8 := Lib.repeatL [32, 32] n ++ parts.flatten ++ [10]
theorem jl (n : Nat) (parts : List (List UInt8)) : (js n parts).length = 2 * n + (parts.map List.length).sum + 1 := by
  unfold js
  rw [List.length_append, List.length_append, Ext.repeat_len, List.length_flatten]
  rfl
theorem line_ev (n : Nat) (parts : List ByteArray) (acc : List UInt8) (hn : n ≤ 1000) (h : acc.length + (js n (parts.map B)).length ≤ 1000000000) : Ext.lineT (n : Int) parts acc = some (acc ++ js n (parts.map B)) := by
  rw [jl] at h
  have e : ((parts.map B).map List.length) = parts.map (·.size) := by
    rw [List.map_map]
    rfl
  rw [e] at h
  unfold Ext.lineT
  rw [if_pos ⟨by omega, by omega, by rw [Int.toNat_natCast]; omega⟩]
  unfold js
  rw [Int.toNat_natCast]
  congr 1
  simp only [List.append_assoc, List.flatMap_def]
mutual
def stX : Nat → S43 → List UInt8
  | n, ⟨f0, f1, e, t, f⟩ =>
    if f0 = 1 then js n [B f1, [32, 61, 32], (e.map exT).headD [], [59]]
    else if f0 = 2 then js n [B f1, [91], (e.map exT).headD [], [93, 32, 61, 32], (e.map exT).tail.headD [], [59]]
    else if f0 = 3 then js n [[112, 117, 116, 40], (e.map exT).headD [], [41, 59]]
    else if f0 = 6 then js n [B f1, [40], joinT (e.map exT), [41, 59]]
    else if f0 = 7 then (if e = [] then js n [[114, 101, 116, 117, 114, 110, 59]] else js n [[114, 101, 116, 117, 114, 110, 32], (e.map exT).headD [], [59]])
    else if f0 = 5 then js n [[119, 104, 105, 108, 101, 32, 40], (e.map exT).headD [], [41, 32, 123]] ++ stsX (n + 1) t ++ js n [[125]]
    else js n [[105, 102, 32, 40], (e.map exT).headD [], [41, 32, 123]] ++ stsX (n + 1) t ++ (if f = [] then [] else js n [[125, 32, 101, 108, 115, 101, 32, 123]] ++ stsX (n + 1) f) ++ js n [[125]]
def stsX : Nat → List S43 → List UInt8
  | _, [] => []
  | n, x :: l => stX n x ++ stsX n l
end
section
variable (n : Nat) (s : ByteArray) (a b : S36) (l : List S36) (t f : List S43)
theorem stX_set : stX n ⟨1, s, [a], [], []⟩ = js n [B s, [32, 61, 32], exT a, [59]] := by simp [stX]
theorem stX_store : stX n ⟨2, s, [a, b], [], []⟩ = js n [B s, [91], exT a, [93, 32, 61, 32], exT b, [59]] := by simp [stX]
theorem stX_put : stX n ⟨3, jt, [a], [], []⟩ = js n [[112, 117, 116, 40], exT a, [41, 59]] := by simp [stX]
theorem stX_call : stX n ⟨6, s, l, [], []⟩ = js n [B s, [40], joinT (l.map exT), [41, 59]] := by simp [stX]
theorem stX_ret0 : stX n ⟨7, jt, [], [], []⟩ = js n [[114, 101, 116, 117, 114, 110, 59]] := by simp [stX]
theorem stX_ret : stX n ⟨7, jt, [a], [], []⟩ = js n [[114, 101, 116, 117, 114, 110, 32], exT a, [59]] := by simp [stX]
theorem stX_loop : stX n ⟨5, jt, [a], t, []⟩ = js n [[119, 104, 105, 108, 101, 32, 40], exT a, [41, 32, 123]] ++ stsX (n + 1) t ++ js n [[125]] := by simp [stX]
theorem stX_cond : stX n ⟨4, jt, [a], t, f⟩ = js n [[105, 102, 32, 40], exT a, [41, 32, 123]] ++ stsX (n + 1) t ++ (if f = [] then [] else js n [[125, 32, 101, 108, 115, 101, 32, 123]] ++ stsX (n + 1) f) ++ js n [[125]] := by simp [stX]
end
theorem stsX_eq (n : Nat) (l : List S43) : stsX n l = (l.map (stX n)).flatten := by
  induction l with
  | nil => rfl
  | cons a l ih => simp [stsX, ih]
theorem stsX_len {n : Nat} {l : List S43} (h : ∀ x ∈ l, (stX n x).length ≤ 200 * cS x) : (stsX n l).length ≤ 200 * cSs l := by
  induction l with
  | nil => simp [stsX, cSs]
  | cons a l ih =>
    have h1 := h a (by simp)
    have h2 := ih fun x hx => h x (by simp [hx])
    simp only [stsX, cSs, List.length_append]
    omega
theorem stX_len {lv : Int} {x : S43} (h : RS lv x) : ∀ n : Nat, lv = n → (stX n x).length ≤ 200 * cS x := by
  induction h with
  | set lv s e h0 h1 hs he => intro n hn; rw [stX_set, jl]; have := exT_len he; have := hs.size; simp [cS, cSs, cEs] at *; omega
  | store lv s a b h0 h1 hs ha hb => intro n hn; rw [stX_store, jl]; have := exT_len ha; have := exT_len hb; have := hs.size; simp [cS, cSs, cEs] at *; omega
  | put lv e h0 h1 he => intro n hn; rw [stX_put, jl]; have := exT_len he; simp [cS, cSs, cEs] at *; omega
  | cond lv e t f h0 h1 he _ _ it jf =>
    intro n hn
    rw [stX_cond]
    have h1' := exT_len he
    have h2 := stsX_len (n := n + 1) fun x hx => it x hx (n + 1) (by omega)
    have h3 := stsX_len (n := n + 1) fun x hx => jf x hx (n + 1) (by omega)
    have h4 : (if f = [] then [] else js n [[125, 32, 101, 108, 115, 101, 32, 123]] ++ stsX (n + 1) f).length ≤ 2 * n + 9 + 200 * cSs f := by
      split
      · simp
      · rw [List.length_append, jl]
        simp
        omega
    rw [List.length_append, List.length_append, List.length_append, jl, jl]
    simp only [cS, cEs, List.map_cons, List.map_nil, List.sum_cons, List.sum_nil, List.length_cons, List.length_nil]
    omega
  | loop lv e t h0 h1 he _ it =>
    intro n hn
    rw [stX_loop]
    have h1' := exT_len he
    have h2 := stsX_len (n := n + 1) fun x hx => it x hx (n + 1) (by omega)
    rw [List.length_append, List.length_append, jl, jl]
    simp only [cS, cEs, cSs, List.map_cons, List.map_nil, List.sum_cons, List.sum_nil, List.length_cons, List.length_nil]
    omega
  | call lv s l h0 h1 hs hl he =>
    intro n hn
    rw [stX_call, jl]
    have hx : RE ⟨4, 0, 0, s, l⟩ := .call s l hs hl he
    have lx := exT_len hx
    rw [exT_call] at lx
    simp only [cE, List.length_append, List.length_cons, List.length_nil] at lx
    simp only [cS, cSs, List.map_cons, List.map_nil, List.sum_cons, List.sum_nil, List.length_cons, List.length_nil]
    omega
  | ret0 lv h0 h1 => intro n hn; rw [stX_ret0, jl]; simp [cS, cSs, cEs]; omega
  | ret lv e h0 h1 he => intro n hn; rw [stX_ret, jl]; have := exT_len he; simp [cS, cSs, cEs] at *; omega
theorem exAt0 {a : S36} {l : List S36} (h : EvE a) : Ev (fun k => Ext.exAt k (a :: l) 0) (T (exT a)) := by
  have r0 : kn (a :: l) 0 = a := rfl
  unfold Ext.exAt
  simp only [r0]
  exact Ev.pos (by simp) h
theorem exAt1 {a b : S36} (h : EvE b) : Ev (fun k => Ext.exAt k [a, b] 1) (T (exT b)) := by
  have r0 : kn [a, b] 1 = b := rfl
  unfold Ext.exAt
  simp only [r0]
  exact Ev.pos (by simp) h
def EvS (n : Nat) (x : S43) : Prop := ∀ acc : List UInt8, acc.length + 200 * cS x ≤ 900000000 → Ev (fun k => Ext.stmtT k (n : Int) x.f0 x.f1 x.f2 x.f3 x.f4 acc) (acc ++ stX n x)
theorem stmts_ev {n : Nat} : ∀ {l : List S43}, (∀ x ∈ l, EvS n x) → (∀ x ∈ l, (stX n x).length ≤ 200 * cS x) → ∀ acc : List UInt8, acc.length + 200 * cSs l ≤ 900000000 → Ev (fun k => Ext.stmtsT k (n : Int) l acc) (acc ++ stsX n l)
  | [], _, _, acc, _ => by
    refine Ev.succ ?_
    simp only [Ext.stmtsT, stsX, List.append_nil]
    exact Ev.some _
  | x :: l, h, hl, acc, hacc => by
    refine Ev.succ ?_
    simp only [cSs] at hacc
    have h1 := hl x (by simp)
    simp only [Ext.stmtsT, stsX]
    refine Ev.bind (h x (by simp) acc (by omega)) ?_
    rw [← List.append_assoc]
    exact stmts_ev (fun y hy => h y (by simp [hy])) (fun y hy => hl y (by simp [hy])) _ (by rw [List.length_append]; omega)
def Ends (p : UInt8 → Bool) (r : List UInt8) : Prop := ∀ c t, r = c :: t → p c = false
theorem Ends.nil (p : UInt8 → Bool) : Ends p [] := fun _ _ h => by cases h
theorem Ends.cons {p : UInt8 → Bool} {c : UInt8} (h : p c = false) (t : List UInt8) : Ends p (c :: t) := fun _ _ e => by cases e; exact h
theorem span_dec {p : UInt8 → Bool} : ∀ {a b r r' : List UInt8}, (∀ c ∈ a, p c = true) → (∀ c ∈ b, p c = true) → Ends p r → Ends p r' → a ++ r = b ++ r' → a = b ∧ r = r'
  | [], [], _, _, _, _, _, _, e => ⟨rfl, e⟩
  | [], c :: b, r, r', _, hb, hr, _, e => by
    have := hr c (b ++ r') e
    rw [hb c (by simp)] at this
    cases this
  | c :: a, [], r, r', ha, _, _, hr', e => by
    have := hr' c (a ++ r) e.symm
    rw [ha c (by simp)] at this
    cases this
  | c :: a, d :: b, r, r', ha, hb, hr, hr', e => by
    simp only [List.cons_append, List.cons.injEq] at e
    obtain ⟨h1, h2⟩ := span_dec (fun c hc => ha c (by simp [hc])) (fun c hc => hb c (by simp [hc])) hr hr' e.2
    exact ⟨by rw [e.1, h1], h2⟩
def valD (l : List UInt8) : Nat := l.foldl (fun v c => 10 * v + (c.toNat - 48)) 0
theorem dig_toNat {i : Nat} (h : i < 10) : (UInt8.ofNat (48 + i)).toNat = 48 + i := by
  rw [UInt8.toNat_ofNat']
  omega
theorem dec_rec {u : Nat} (h : ¬ u < 10) : Lib.decDigits u = Lib.decDigits (u / 10) ++ [UInt8.ofNat (48 + u % 10)] := by
  rw [Lib.decDigits, dif_neg h]
theorem val_dec (u : Nat) : valD (Lib.decDigits u) = u := by
  induction u using Nat.strongRecOn with
  | _ u ih =>
    by_cases h : u < 10
    · rw [Lib.decDigits_one h]
      simp only [valD, List.foldl_cons, List.foldl_nil]
      rw [dig_toNat h]
      omega
    · rw [dec_rec h]
      have := ih (u / 10) (by omega)
      unfold valD at this ⊢
      rw [List.foldl_append, this]
      simp only [List.foldl_cons, List.foldl_nil]
      rw [dig_toNat (by omega)]
      omega
theorem isD_dig {i : Nat} (h : i < 10) : isD (UInt8.ofNat (48 + i)) = true := by
  unfold isD
  rw [dig_toNat h]
  simp
  omega
theorem dec_isD (u : Nat) : ∀ c ∈ Lib.decDigits u, isD c = true := by
  induction u using Nat.strongRecOn with
  | _ u ih =>
    by_cases h : u < 10
    · rw [Lib.decDigits_one h]
      intro c hc
      rw [List.mem_singleton.mp hc]
      exact isD_dig h
    · rw [dec_rec h]
      intro c hc
      rcases List.mem_append.mp hc with hc | hc
      · exact ih (u / 10) (by omega) c hc
      · rw [List.mem_singleton.mp hc]
        exact isD_dig (by omega)
theorem dec_head (u : Nat) : ∃ c t, Lib.decDigits u = c :: t ∧ isD c = true := by
  cases h : Lib.decDigits u with
  | nil =>
    have := Lib.decDigits_length u
    have := Lib.nDigits_pos u
    rw [h] at *
    simp at *
    omega
  | cons c t => exact ⟨c, t, rfl, dec_isD u c (by rw [h]; simp)⟩
def Stop (r : List UInt8) : Prop := ∀ c t, r = c :: t → isN c = false ∧ c ≠ 40 ∧ c ≠ 91
theorem Stop.ends {r : List UInt8} (h : Stop r) : Ends isN r := fun c t e => (h c t e).1
theorem Stop.cons {c : UInt8} (h : isN c = false) (h1 : c ≠ 40) (h2 : c ≠ 91) (t : List UInt8) : Stop (c :: t) := fun _ _ e => by cases e; exact ⟨h, h1, h2⟩
theorem isD_N {c : UInt8} (h : isD c = true) : isN c = true := by simp [isN, h]
theorem isL_N {c : UInt8} (h : isL c = true) : isN c = true := by simp [isN, h]
theorem Ends.dig {r : List UInt8} (h : Ends isN r) : Ends isD r := fun c t e => by
  have := h c t e
  cases hd : isD c with
  | false => rfl
  | true => rw [isD_N hd] at this; cases this
theorem tails_dec {α : Type} (f : α → List UInt8) (P : α → Prop) (e : UInt8) (he : e ≠ 44) (S : List UInt8 → Prop) (h44 : ∀ r, S (44 :: r)) (hSe : ∀ r, S (e :: r)) :
    ∀ t : List α, (∀ x ∈ t, ∀ y, P y → ∀ r r', S r → S r' → f x ++ r = f y ++ r' → x = y ∧ r = r') → ∀ t' : List α, (∀ y ∈ t', P y) → ∀ r r', Lib.joinTail [44, 32] (t.map f) ++ e :: r = Lib.joinTail [44, 32] (t'.map f) ++ e :: r' → t = t' ∧ r = r'
  | [], _, [], _, r, r', h => by
    simp [Lib.joinTail] at h
    exact ⟨rfl, h⟩
  | [], _, y :: t', _, r, r', h => by
    simp [Lib.joinTail] at h
    exact absurd h.1 he
  | x :: t, _, [], _, r, r', h => by
    simp [Lib.joinTail] at h
    exact absurd h.1.symm he
  | x :: t, hx, y :: t', hy, r, r', h => by
    have ex : ∀ (z : α) (l : List α), Lib.joinTail [44, 32] ((z :: l).map f) = [44, 32] ++ (f z ++ Lib.joinTail [44, 32] (l.map f)) := fun z l => by simp [Lib.joinTail]
    have st : ∀ (l : List α) (r : List UInt8), S (Lib.joinTail [44, 32] (l.map f) ++ e :: r) := fun l r => by
      cases l with
      | nil => exact hSe r
      | cons z l => rw [ex]; exact h44 _
    rw [ex, ex] at h
    simp only [List.append_assoc] at h
    have h := List.append_cancel_left h
    obtain ⟨rfl, h2⟩ := hx x (by simp) y (hy y (by simp)) _ _ (st _ _) (st _ _) h
    obtain ⟨rfl, h3⟩ := tails_dec f P e he S h44 hSe t (fun z hz => hx z (by simp [hz])) t' (fun z hz => hy z (by simp [hz])) r r' h2
    exact ⟨rfl, h3⟩
theorem joins_dec {α : Type} (f : α → List UInt8) (P : α → Prop) (e : UInt8) (he : e ≠ 44) (S : List UInt8 → Prop) (h44 : ∀ r, S (44 :: r)) (hSe : ∀ r, S (e :: r)) (hne : ∀ y, P y → ∃ c s, f y = c :: s ∧ c ≠ e)
    (t : List α) (ht : ∀ x ∈ t, P x ∧ ∀ y, P y → ∀ r r', S r → S r' → f x ++ r = f y ++ r' → x = y ∧ r = r') (t' : List α) (ht' : ∀ y ∈ t', P y) (r r' : List UInt8) (h : joinT (t.map f) ++ e :: r = joinT (t'.map f) ++ e :: r') : t = t' ∧ r = r' := by
  unfold joinT at h
  have ex : ∀ (z : α) (l : List α), Lib.joinTail [44, 32] ((z :: l).map f) = [44, 32] ++ (f z ++ Lib.joinTail [44, 32] (l.map f)) := fun z l => by simp [Lib.joinTail]
  have st : ∀ (l : List α) (r : List UInt8), S (Lib.joinTail [44, 32] (l.map f) ++ e :: r) := fun l r => by
    cases l with
    | nil => exact hSe r
    | cons z l => rw [ex]; exact h44 _
  cases t with
  | nil =>
    cases t' with
    | nil => simp [Lib.join_nil] at h; exact ⟨rfl, h⟩
    | cons y t' =>
      obtain ⟨c, s, e1, e2⟩ := hne y (ht' y (by simp))
      rw [List.map_nil, Lib.join_nil, List.map_cons, Lib.join_cons, e1] at h
      simp at h
      exact absurd h.1.symm e2
  | cons x t =>
    cases t' with
    | nil =>
      obtain ⟨c, s, e1, e2⟩ := hne x (ht x (by simp)).1
      rw [List.map_nil, Lib.join_nil, List.map_cons, Lib.join_cons, e1] at h
      simp at h
      exact absurd h.1 e2
    | cons y t' =>
      rw [List.map_cons, List.map_cons, Lib.join_cons, Lib.join_cons, List.append_assoc, List.append_assoc] at h
      obtain ⟨rfl, h2⟩ := (ht x (by simp)).2 y (ht' y (by simp)) _ _ (st _ _) (st _ _) h
      obtain ⟨rfl, h3⟩ := tails_dec f P e he S h44 hSe t (fun z hz => (ht z (by simp [hz])).2) t' (fun z hz => ht' z (by simp [hz])) r r' h2
      exact ⟨rfl, h3⟩
theorem B_inj {a b : ByteArray} (h : B a = B b) : a = b := by rw [← T_B a, h, T_B]
theorem name_dec {a b : ByteArray} (ha : jp a) (hb : jp b) {r r' : List UInt8} (hr : Ends isN r) (hr' : Ends isN r') (h : B a ++ r = B b ++ r') : a = b ∧ r = r' := by
  obtain ⟨h1, h2⟩ := span_dec ha.all hb.all hr hr' h
  exact ⟨B_inj h1, h2⟩
theorem name_head {a : ByteArray} (h : jp a) : ∃ c s, B a = c :: s ∧ isL c = true := h.head
theorem not_res {s r : ByteArray} (h : jp s) (hr : r ∈ reserved) (e : B s = B r) : False := h.free (B_inj e ▸ hr)
def chC (c : UInt8) : Nat := if isD c = true then 0 else if c = 40 then 2 else if c = 33 then 3 else 1
def cls (x : S36) : Nat := if x.f0 = 1 then 0 else if x.f0 = 7 then 3 else if x.f0 = 6 ∨ x.f0 = 8 ∨ x.f0 = 9 then 2 else 1
theorem chC_L {c : UInt8} (h : isL c = true) : chC c = 1 := by
  have hd : ¬ isD c = true := by
    intro hd
    simp only [isD, isL, Bool.and_eq_true, Bool.or_eq_true, decide_eq_true_eq] at *
    omega
  have h40 : c ≠ 40 := by rintro rfl; revert h; decide
  have h33 : c ≠ 33 := by rintro rfl; revert h; decide
  simp [chC, hd, h40, h33]
theorem ex_head {x : S36} (h : RE x) : ∃ c t, exT x = c :: t ∧ chC c = cls x ∧ c ≠ 41 := by
  have hL : ∀ {c : UInt8}, isL c = true → c ≠ 41 := fun h => by rintro rfl; revert h; decide
  cases h with
  | num n h0 h1 =>
    obtain ⟨c, t, e, hd⟩ := dec_head n.toNat
    exact ⟨c, t, by rw [exT_num, e], by simp [chC, cls, hd], by rintro rfl; revert hd; decide⟩
  | var s h =>
    obtain ⟨c, t, e, hl⟩ := name_head h
    exact ⟨c, t, by rw [exT_var, e], by rw [chC_L hl]; simp [cls], hL hl⟩
  | index s a h =>
    obtain ⟨c, t, e, hl⟩ := name_head h
    exact ⟨c, t ++ [91] ++ exT a ++ [93], by rw [exT_index, e]; simp, by rw [chC_L hl]; simp [cls], hL hl⟩
  | call s l h =>
    obtain ⟨c, t, e, hl⟩ := name_head h
    exact ⟨c, t ++ [40] ++ joinT (l.map exT) ++ [41], by rw [exT_call, e]; simp, by rw [chC_L hl]; simp [cls], hL hl⟩
  | get => exact ⟨103, [101, 116, 40, 41], exT_get, by decide, by decide⟩
  | op o a b => exact ⟨40, _, by rw [exT_op]; simp only [List.append_assoc, List.cons_append, List.nil_append]; rfl, by simp [cls, chC, isD], by decide⟩
  | not a => exact ⟨33, _, by rw [exT_not]; rfl, by simp [cls, chC, isD], by decide⟩
  | and a b => exact ⟨40, _, by rw [exT_and]; simp only [List.append_assoc, List.cons_append, List.nil_append]; rfl, by simp [cls, chC, isD], by decide⟩
  | or a b => exact ⟨40, _, by rw [exT_or]; simp only [List.append_assoc, List.cons_append, List.nil_append]; rfl, by simp [cls, chC, isD], by decide⟩
theorem cls_eq {a b : S36} (ha : RE a) (hb : RE b) {r r' : List UInt8} (h : exT a ++ r = exT b ++ r') : cls a = cls b := by
  obtain ⟨c, t, e, hc, _⟩ := ex_head ha
  obtain ⟨d, u, e', hd, _⟩ := ex_head hb
  rw [e, e'] at h
  simp only [List.cons_append, List.cons.injEq] at h
  rw [← hc, ← hd, h.1]
def Told (a : S36) : Prop := ∀ b, RE b → ∀ r r', Stop r → Stop r' → exT a ++ r = exT b ++ r' → a = b ∧ r = r'
theorem signs_ok {o : Int} (h : 4 ≤ o) (h' : o ≤ 15) : (∀ c ∈ signT o, (c != 32) = true) ∧ signT o ≠ [38, 38] ∧ signT o ≠ [124, 124] ∧ ∀ o', 4 ≤ o' → o' ≤ 15 → signT o = signT o' → o = o' := by
  have key : ∀ o : Int, 4 ≤ o → o ≤ 15 → o = 4 ∨ o = 5 ∨ o = 6 ∨ o = 7 ∨ o = 8 ∨ o = 9 ∨ o = 10 ∨ o = 11 ∨ o = 12 ∨ o = 13 ∨ o = 14 ∨ o = 15 := by intros; omega
  refine ⟨?_, ?_, ?_, fun o' g g' => ?_⟩
  · rcases key o h h' with rfl | rfl | rfl | rfl | rfl | rfl | rfl | rfl | rfl | rfl | rfl | rfl <;> decide
  · rcases key o h h' with rfl | rfl | rfl | rfl | rfl | rfl | rfl | rfl | rfl | rfl | rfl | rfl <;> decide
  · rcases key o h h' with rfl | rfl | rfl | rfl | rfl | rfl | rfl | rfl | rfl | rfl | rfl | rfl <;> decide
  · rcases key o h h' with rfl | rfl | rfl | rfl | rfl | rfl | rfl | rfl | rfl | rfl | rfl | rfl <;> rcases key o' g g' with rfl | rfl | rfl | rfl | rfl | rfl | rfl | rfl | rfl | rfl | rfl | rfl <;> decide
theorem two_dec {a a' b b' : S36} {s s' r r' : List UInt8} (ta : Told a) (tb : Told b) (ra : RE a') (rb : RE b') (hs : ∀ c ∈ s, (c != 32) = true) (hs' : ∀ c ∈ s', (c != 32) = true)
    (h : [40] ++ exT a ++ [32] ++ s ++ [32] ++ exT b ++ [41] ++ r = [40] ++ exT a' ++ [32] ++ s' ++ [32] ++ exT b' ++ [41] ++ r') : a = a' ∧ s = s' ∧ b = b' ∧ r = r' := by
  simp only [List.append_assoc, List.cons_append, List.nil_append, List.cons.injEq, true_and] at h
  obtain ⟨e1, h2⟩ := ta a' ra _ _ (Stop.cons (by decide) (by decide) (by decide) _) (Stop.cons (by decide) (by decide) (by decide) _) h
  simp only [List.cons.injEq, true_and] at h2
  obtain ⟨e2, h3⟩ := span_dec hs hs' (Ends.cons (by decide) _) (Ends.cons (by decide) _) h2
  simp only [List.cons.injEq, true_and] at h3
  obtain ⟨e3, h4⟩ := tb b' rb _ _ (Stop.cons (by decide) (by decide) (by decide) _) (Stop.cons (by decide) (by decide) (by decide) _) h3
  exact ⟨e1, e2, e3, by simpa using h4⟩
theorem getN : (⟨#[103, 101, 116]⟩ : ByteArray) ∈ reserved := by simp [reserved]
theorem get_all : ∀ c ∈ ([103, 101, 116] : List UInt8), isN c = true := by decide
theorem no_get {s : ByteArray} (h : jp s) {r r' : List UInt8} (hr : Ends isN r) (hr' : Ends isN r') : ¬ (B s ++ r = [103, 101, 116] ++ r') := fun e => by
  obtain ⟨h1, _⟩ := span_dec h.all get_all hr hr' e
  exact not_res h getN h1
theorem e91 (t : List UInt8) : Ends isN (91 :: t) := Ends.cons (by decide) t
theorem e40 (t : List UInt8) : Ends isN (40 :: t) := Ends.cons (by decide) t
theorem told {a : S36} (ha : RE a) : Told a := by
  induction ha with
  | num n h0 h1 =>
    intro b hb r r' hr hr' e
    have hc := cls_eq (.num n h0 h1) hb e
    cases hb <;> simp [cls] at hc
    rename_i m g0 g1
    rw [exT_num, exT_num] at e
    obtain ⟨e1, e2⟩ := span_dec (dec_isD _) (dec_isD _) hr.ends.dig hr'.ends.dig e
    have := congrArg valD e1
    rw [val_dec, val_dec] at this
    obtain rfl : n = m := by omega
    exact ⟨rfl, e2⟩
  | var s h =>
    intro b hb r r' hr hr' e
    have hc := cls_eq (.var s h) hb e
    cases hb <;> simp [cls] at hc
    · rename_i s' h'
      rw [exT_var, exT_var] at e
      obtain ⟨rfl, e2⟩ := name_dec h h' hr.ends hr'.ends e
      exact ⟨rfl, e2⟩
    · rename_i s' x h' _
      rw [exT_var, exT_index] at e
      simp only [List.append_assoc] at e
      obtain ⟨_, e2⟩ := name_dec h h' hr.ends (e91 _) e
      exact absurd rfl (hr _ _ e2).2.2
    · rename_i s' l h' _ _
      rw [exT_var, exT_call] at e
      simp only [List.append_assoc] at e
      obtain ⟨_, e2⟩ := name_dec h h' hr.ends (e40 _) e
      exact absurd rfl (hr _ _ e2).2.1
    · rw [exT_var, exT_get] at e
      exact absurd e (no_get h hr.ends (e40 (41 :: r')))
  | index s a h ra ih =>
    intro b hb r r' hr hr' e
    have hc := cls_eq (.index s a h ra) hb e
    cases hb <;> simp [cls] at hc
    · rename_i s' h'
      rw [exT_index, exT_var] at e
      simp only [List.append_assoc] at e
      obtain ⟨_, e2⟩ := name_dec h h' (e91 _) hr'.ends e
      exact absurd rfl (hr' _ _ e2.symm).2.2
    · rename_i s' x h' rx
      rw [exT_index, exT_index] at e
      simp only [List.append_assoc] at e
      obtain ⟨rfl, e2⟩ := name_dec h h' (e91 _) (e91 _) e
      simp only [List.cons_append, List.nil_append, List.cons.injEq, true_and] at e2
      obtain ⟨rfl, e3⟩ := ih x rx _ _ (Stop.cons (by decide) (by decide) (by decide) _) (Stop.cons (by decide) (by decide) (by decide) _) e2
      simp only [List.cons.injEq, true_and] at e3
      exact ⟨rfl, e3⟩
    · rename_i s' l h' _ _
      rw [exT_index, exT_call] at e
      simp only [List.append_assoc] at e
      obtain ⟨_, e2⟩ := name_dec h h' (e91 _) (e40 _) e
      simp at e2
    · rw [exT_index, exT_get] at e
      simp only [List.append_assoc] at e
      exact absurd e (no_get h (e91 _) (e40 (41 :: r')))
  | call s l h hl ra ih =>
    intro b hb r r' hr hr' e
    have hc := cls_eq (.call s l h hl ra) hb e
    cases hb <;> simp [cls] at hc
    · rename_i s' h'
      rw [exT_call, exT_var] at e
      simp only [List.append_assoc] at e
      obtain ⟨_, e2⟩ := name_dec h h' (e40 _) hr'.ends e
      exact absurd rfl (hr' _ _ e2.symm).2.1
    · rename_i s' x h' rx
      rw [exT_call, exT_index] at e
      simp only [List.append_assoc] at e
      obtain ⟨_, e2⟩ := name_dec h h' (e40 _) (e91 _) e
      simp at e2
    · rename_i s' l' h' hl' rl'
      rw [exT_call, exT_call] at e
      simp only [List.append_assoc] at e
      obtain ⟨rfl, e2⟩ := name_dec h h' (e40 _) (e40 _) e
      simp only [List.cons_append, List.nil_append, List.cons.injEq, true_and] at e2
      obtain ⟨rfl, e3⟩ := joins_dec exT RE 41 (by decide) Stop (fun _ => Stop.cons (by decide) (by decide) (by decide) _) (fun _ => Stop.cons (by decide) (by decide) (by decide) _) (fun y hy => by
        obtain ⟨c, t, e1, _, e3⟩ := ex_head hy
        exact ⟨c, t, e1, e3⟩) l (fun x hx => ⟨ra x hx, ih x hx⟩) l' rl' r r' e2
      exact ⟨rfl, e3⟩
    · rw [exT_call, exT_get] at e
      simp only [List.append_assoc] at e
      exact absurd e (no_get h (e40 _) (e40 (41 :: r')))
  | get =>
    intro b hb r r' hr hr' e
    have hc := cls_eq .get hb e
    cases hb <;> simp [cls] at hc
    · rename_i s' h'
      rw [exT_get, exT_var] at e
      exact absurd e.symm (no_get h' hr'.ends (e40 (41 :: r)))
    · rename_i s' x h' rx
      rw [exT_get, exT_index] at e
      simp only [List.append_assoc (B s')] at e
      exact absurd e.symm (no_get h' (e91 _) (e40 (41 :: r)))
    · rename_i s' l' h' hl' rl'
      rw [exT_get, exT_call] at e
      simp only [List.append_assoc (B s')] at e
      exact absurd e.symm (no_get h' (e40 _) (e40 (41 :: r)))
    · exact ⟨rfl, List.append_cancel_left e⟩
  | not a ra ih =>
    intro b hb r r' hr hr' e
    have hc := cls_eq (.not a ra) hb e
    cases hb <;> simp [cls] at hc
    rename_i x rx
    rw [exT_not, exT_not] at e
    simp only [List.append_assoc, List.cons_append, List.nil_append, List.cons.injEq, true_and] at e
    obtain ⟨rfl, e3⟩ := ih x rx _ _ hr hr' e
    exact ⟨rfl, e3⟩
  | op o a b h0 h1 ra rb ia ib =>
    intro y hy r r' hr hr' e
    obtain ⟨s1, s2, s3, s4⟩ := signs_ok h0 h1
    have hc := cls_eq (.op o a b h0 h1 ra rb) hy e
    cases hy <;> simp [cls] at hc
    · rename_i o' a' b' g0 g1 ra' rb'
      rw [exT_op, exT_op] at e
      obtain ⟨rfl, hs, rfl, e2⟩ := two_dec ia ib ra' rb' s1 (signs_ok g0 g1).1 e
      obtain rfl := s4 o' g0 g1 hs
      exact ⟨rfl, e2⟩
    · rename_i a' b' ra' rb'
      rw [exT_op, exT_and] at e
      exact absurd (two_dec ia ib ra' rb' s1 (by decide) e).2.1 s2
    · rename_i a' b' ra' rb'
      rw [exT_op, exT_or] at e
      exact absurd (two_dec ia ib ra' rb' s1 (by decide) e).2.1 s3
  | and a b ra rb ia ib =>
    intro y hy r r' hr hr' e
    have hc := cls_eq (.and a b ra rb) hy e
    cases hy <;> simp [cls] at hc
    · rename_i o' a' b' g0 g1 ra' rb'
      rw [exT_and, exT_op] at e
      exact absurd (two_dec ia ib ra' rb' (by decide) (signs_ok g0 g1).1 e).2.1.symm (signs_ok g0 g1).2.1
    · rename_i a' b' ra' rb'
      rw [exT_and, exT_and] at e
      obtain ⟨rfl, _, rfl, e2⟩ := two_dec ia ib ra' rb' (by decide) (by decide) e
      exact ⟨rfl, e2⟩
    · rename_i a' b' ra' rb'
      rw [exT_and, exT_or] at e
      exact absurd (two_dec ia ib ra' rb' (by decide) (by decide) e).2.1 (by decide)
  | or a b ra rb ia ib =>
    intro y hy r r' hr hr' e
    have hc := cls_eq (.or a b ra rb) hy e
    cases hy <;> simp [cls] at hc
    · rename_i o' a' b' g0 g1 ra' rb'
      rw [exT_or, exT_op] at e
      exact absurd (two_dec ia ib ra' rb' (by decide) (signs_ok g0 g1).1 e).2.1.symm (signs_ok g0 g1).2.2.1
    · rename_i a' b' ra' rb'
      rw [exT_or, exT_and] at e
      exact absurd (two_dec ia ib ra' rb' (by decide) (by decide) e).2.1 (by decide)
    · rename_i a' b' ra' rb'
      rw [exT_or, exT_or] at e
      obtain ⟨rfl, _, rfl, e2⟩ := two_dec ia ib ra' rb' (by decide) (by decide) e
      exact ⟨rfl, e2⟩
def rep (n : Nat) : List UInt8 := Lib.repeatL [32, 32] n
theorem rep_succ (n : Nat) : rep (n + 1) = rep n ++ [32, 32] := by
  unfold rep
  have : ∀ n, (Lib.repeatL [32, 32] n : List UInt8) = List.replicate (2 * n) 32 := fun n => by
    induction n with
    | zero => rfl
    | succ n ih =>
      have e : (Lib.repeatL [32, 32] (n + 1) : List UInt8) = [32, 32] ++ Lib.repeatL [32, 32] n := by simp [Lib.repeatL, List.replicate_succ]
      rw [e, ih, show 2 * (n + 1) = 2 + 2 * n by omega, ← List.replicate_append_replicate]
      rfl
  rw [this, this, show 2 * (n + 1) = 2 * n + 2 by omega, ← List.replicate_append_replicate]
  rfl
theorem jm (n : Nat) (parts : List (List UInt8)) (r : List UInt8) : js n parts ++ r = rep n ++ (parts.flatten ++ 10 :: r) := by
  unfold js rep
  simp only [List.append_assoc, List.cons_append, List.nil_append]
def kS (x : S43) : Int := if x.f0 = 1 ∨ x.f0 = 2 ∨ x.f0 = 6 then 0 else x.f0
def putW : ByteArray := ⟨#[112, 117, 116]⟩
def ifW : ByteArray := ⟨#[105, 102]⟩
def whileW : ByteArray := ⟨#[119, 104, 105, 108, 101]⟩
def returnW : ByteArray := ⟨#[114, 101, 116, 117, 114, 110]⟩
theorem st_form {lv : Int} {x : S43} (h : RS lv x) (n : Nat) : ∃ w tl, stX n x = rep n ++ (w ++ tl) ∧ (∀ r, Ends isN (tl ++ r)) ∧ (∀ c ∈ w, isN c = true) ∧ (∃ c t, w = c :: t ∧ isL c = true) ∧
    ((kS x = 0 ∧ ∃ s, jp s ∧ w = B s) ∨ (kS x = 3 ∧ w = B putW) ∨ (kS x = 4 ∧ w = B ifW) ∨ (kS x = 5 ∧ w = B whileW) ∨ (kS x = 7 ∧ w = B returnW)) := by
  have nm : ∀ {s : ByteArray}, jp s → (∀ c ∈ B s, isN c = true) ∧ ∃ c t, B s = c :: t ∧ isL c = true := fun h => ⟨h.all, name_head h⟩
  have lf : ∀ (n : Nat) (p : List (List UInt8)), js n p = rep n ++ (p.flatten ++ [10]) := fun n p => by
    have := jm n p []
    simpa using this
  cases h with
  | set lv s e h0 h1 hs he =>
    refine ⟨B s, [32, 61, 32] ++ exT e ++ [59, 10], by rw [stX_set, lf]; simp, fun r => Ends.cons (by decide) _, (nm hs).1, (nm hs).2, .inl ⟨by simp [kS], s, hs, rfl⟩⟩
  | store lv s a b h0 h1 hs ha hb =>
    refine ⟨B s, [91] ++ exT a ++ [93, 32, 61, 32] ++ exT b ++ [59, 10], by rw [stX_store, lf]; simp, fun r => Ends.cons (by decide) _, (nm hs).1, (nm hs).2, .inl ⟨by simp [kS], s, hs, rfl⟩⟩
  | call lv s l h0 h1 hs hl he =>
    refine ⟨B s, [40] ++ joinT (l.map exT) ++ [41, 59, 10], by rw [stX_call, lf]; simp, fun r => Ends.cons (by decide) _, (nm hs).1, (nm hs).2, .inl ⟨by simp [kS], s, hs, rfl⟩⟩
  | put lv e h0 h1 he =>
    refine ⟨B putW, [40] ++ exT e ++ [41, 59, 10], by rw [stX_put, lf]; simp [putW, B], fun r => Ends.cons (by decide) _, by decide, ⟨112, [117, 116], rfl, by decide⟩, .inr (.inl ⟨by simp [kS], rfl⟩)⟩
  | cond lv e t f h0 h1 he ht hf =>
    refine ⟨B ifW, [32, 40] ++ exT e ++ [41, 32, 123, 10] ++ stsX (n + 1) t ++ (if f = [] then [] else js n [[125, 32, 101, 108, 115, 101, 32, 123]] ++ stsX (n + 1) f) ++ js n [[125]], by rw [stX_cond, lf n [[105, 102, 32, 40], exT e, [41, 32, 123]]]; simp [ifW, B], fun r => Ends.cons (by decide) _, by decide, ⟨105, [102], rfl, by decide⟩, .inr (.inr (.inl ⟨by simp [kS], rfl⟩))⟩
  | loop lv e t h0 h1 he ht =>
    refine ⟨B whileW, [32, 40] ++ exT e ++ [41, 32, 123, 10] ++ stsX (n + 1) t ++ js n [[125]], by rw [stX_loop, lf n [[119, 104, 105, 108, 101, 32, 40], exT e, [41, 32, 123]]]; simp [whileW, B], fun r => Ends.cons (by decide) _, by decide, ⟨119, [104, 105, 108, 101], rfl, by decide⟩, .inr (.inr (.inr (.inl ⟨by simp [kS], rfl⟩)))⟩
  | ret0 lv h0 h1 =>
    refine ⟨B returnW, [59, 10], by rw [stX_ret0, lf]; simp [returnW, B], fun r => Ends.cons (by decide) _, by decide, ⟨114, [101, 116, 117, 114, 110], rfl, by decide⟩, .inr (.inr (.inr (.inr ⟨by simp [kS], rfl⟩)))⟩
  | ret lv e h0 h1 he =>
    refine ⟨B returnW, [32] ++ exT e ++ [59, 10], by rw [stX_ret, lf]; simp [returnW, B], fun r => Ends.cons (by decide) _, by decide, ⟨114, [101, 116, 117, 114, 110], rfl, by decide⟩, .inr (.inr (.inr (.inr ⟨by simp [kS], rfl⟩)))⟩
theorem res4 : putW ∈ reserved ∧ ifW ∈ reserved ∧ whileW ∈ reserved ∧ returnW ∈ reserved := by simp [reserved, putW, ifW, whileW, returnW]
theorem k_eq {lv lv' : Int} {x y : S43} (hx : RS lv x) (hy : RS lv' y) {n : Nat} {r r' : List UInt8} (e : stX n x ++ r = stX n y ++ r') : kS x = kS y := by
  obtain ⟨w, tl, e1, he, ha, _, hk⟩ := st_form hx n
  obtain ⟨w', tl', e1', he', ha', _, hk'⟩ := st_form hy n
  rw [e1, e1'] at e
  simp only [List.append_assoc] at e
  have e := List.append_cancel_left e
  obtain ⟨hw, _⟩ := span_dec ha ha' (he r) (he' r') e
  have ne : ∀ {s u : ByteArray}, jp s → u ∈ reserved → B s = B u → False := fun h hr e => not_res h hr e
  obtain ⟨r1, r2, r3, r4⟩ := res4
  rcases hk with ⟨k, s, hs, rfl⟩ | ⟨k, rfl⟩ | ⟨k, rfl⟩ | ⟨k, rfl⟩ | ⟨k, rfl⟩ <;> rcases hk' with ⟨k', s', hs', rfl⟩ | ⟨k', rfl⟩ | ⟨k', rfl⟩ | ⟨k', rfl⟩ | ⟨k', rfl⟩ <;>
    first
      | (rw [k, k']; done)
      | exact absurd hw (by decide)
      | exact (ne hs r1 hw).elim
      | exact (ne hs r2 hw).elim
      | exact (ne hs r3 hw).elim
      | exact (ne hs r4 hw).elim
      | exact (ne hs' r1 hw.symm).elim
      | exact (ne hs' r2 hw.symm).elim
      | exact (ne hs' r3 hw.symm).elim
      | exact (ne hs' r4 hw.symm).elim
def EndAt (n : Nat) (r : List UInt8) : Prop := ∃ t, r = rep n ++ 125 :: t
def ToldS (n : Nat) (x : S43) : Prop := ∀ y, RS (n : Int) y → ∀ r r', stX n x ++ r = stX n y ++ r' → x = y ∧ r = r'
theorem end_no {lv : Int} {y : S43} (hy : RS lv y) {n : Nat} {r s : List UInt8} (h : EndAt n r) : ¬ (r = stX (n + 1) y ++ s) := by
  obtain ⟨t, rfl⟩ := h
  obtain ⟨w, tl, e1, _⟩ := st_form hy (n + 1)
  rw [e1, rep_succ]
  simp only [List.append_assoc]
  intro e
  have e := List.append_cancel_left e
  simp at e
theorem list_dec (n : Nat) : ∀ l : List S43, (∀ x ∈ l, ToldS (n + 1) x ∧ RS ((n + 1 : Nat) : Int) x) → ∀ l' : List S43, (∀ y ∈ l', RS ((n + 1 : Nat) : Int) y) → ∀ r r', EndAt n r → EndAt n r' → stsX (n + 1) l ++ r = stsX (n + 1) l' ++ r' → l = l' ∧ r = r'
  | [], _, [], _, r, r', _, _, e => ⟨rfl, e⟩
  | [], _, y :: l', hl', r, r', hr, _, e => by
    simp only [stsX, List.nil_append, List.append_assoc] at e
    exact absurd e (end_no (hl' y (by simp)) hr)
  | x :: l, hl, [], _, r, r', _, hr', e => by
    simp only [stsX, List.nil_append, List.append_assoc] at e
    exact absurd e.symm (end_no (hl x (by simp)).2 hr')
  | x :: l, hl, y :: l', hl', r, r', hr, hr', e => by
    simp only [stsX, List.append_assoc] at e
    obtain ⟨rfl, e2⟩ := (hl x (by simp)).1 y (hl' y (by simp)) _ _ e
    obtain ⟨rfl, e3⟩ := list_dec n l (fun z hz => hl z (by simp [hz])) l' (fun z hz => hl' z (by simp [hz])) r r' hr hr' e2
    exact ⟨rfl, e3⟩
theorem endAt_line (n : Nat) (p : List UInt8) (r : List UInt8) : EndAt n (js n [125 :: p] ++ r) := ⟨p ++ 10 :: r, by rw [jm]; simp⟩
theorem endAt_else (n : Nat) (f : List S43) (r : List UInt8) : EndAt n ((if f = [] then [] else js n [[125, 32, 101, 108, 115, 101, 32, 123]] ++ stsX (n + 1) f) ++ (js n [[125]] ++ r)) := by
  split
  · exact endAt_line n [] r
  · rw [List.append_assoc]
    exact endAt_line n [32, 101, 108, 115, 101, 32, 123] _
theorem stop41 (t : List UInt8) : Stop (41 :: t) := Stop.cons (by decide) (by decide) (by decide) t
theorem stop59 (t : List UInt8) : Stop (59 :: t) := Stop.cons (by decide) (by decide) (by decide) t
theorem stop93 (t : List UInt8) : Stop (93 :: t) := Stop.cons (by decide) (by decide) (by decide) t
theorem e32 (t : List UInt8) : Ends isN (32 :: t) := Ends.cons (by decide) t
theorem jr {c d : UInt8} {t u : List UInt8} (h : c :: t = d :: u) : t = u := by injection h
theorem stold {lv : Int} {x : S43} (h : RS lv x) : ∀ n : Nat, lv = n → ToldS n x := by
  induction h with
  | set lv s a h0 h1 hs he =>
    intro n hn y hy r r' e
    subst hn
    have hk := k_eq (.set _ s a h0 h1 hs he) hy e
    cases hy <;> simp [kS] at hk
    · rename_i s' a' hs' he' _ _
      rw [stX_set, stX_set, jm, jm] at e
      replace e := List.append_cancel_left e
      simp only [List.flatten_cons, List.flatten_nil, List.append_assoc, List.append_nil, List.cons_append, List.nil_append] at e
      obtain ⟨e1, e2⟩ := name_dec hs hs' (e32 _) (e32 _) e
      obtain ⟨e3, e4⟩ := told he _ he' _ _ (stop59 _) (stop59 _) (jr (jr (jr e2)))
      exact ⟨by rw [e1, e3], jr (jr e4)⟩
    · rename_i s' a' b' hs' ha' hb' _ _
      rw [stX_set, stX_store, jm, jm] at e
      replace e := List.append_cancel_left e
      simp only [List.flatten_cons, List.flatten_nil, List.append_assoc, List.append_nil, List.cons_append, List.nil_append] at e
      obtain ⟨_, e2⟩ := name_dec hs hs' (e32 _) (e91 _) e
      simp at e2
    · rename_i s' l' hs' hl' he' _ _
      rw [stX_set, stX_call, jm, jm] at e
      replace e := List.append_cancel_left e
      simp only [List.flatten_cons, List.flatten_nil, List.append_assoc, List.append_nil, List.cons_append, List.nil_append] at e
      obtain ⟨_, e2⟩ := name_dec hs hs' (e32 _) (e40 _) e
      simp at e2
  | store lv s a b h0 h1 hs ha hb =>
    intro n hn y hy r r' e
    subst hn
    have hk := k_eq (.store _ s a b h0 h1 hs ha hb) hy e
    cases hy <;> simp [kS] at hk
    · rename_i s' a' hs' he' _ _
      rw [stX_store, stX_set, jm, jm] at e
      replace e := List.append_cancel_left e
      simp only [List.flatten_cons, List.flatten_nil, List.append_assoc, List.append_nil, List.cons_append, List.nil_append] at e
      obtain ⟨_, e2⟩ := name_dec hs hs' (e91 _) (e32 _) e
      simp at e2
    · rename_i s' a' b' hs' ha' hb' _ _
      rw [stX_store, stX_store, jm, jm] at e
      replace e := List.append_cancel_left e
      simp only [List.flatten_cons, List.flatten_nil, List.append_assoc, List.append_nil, List.cons_append, List.nil_append] at e
      obtain ⟨e1, e2⟩ := name_dec hs hs' (e91 _) (e91 _) e
      obtain ⟨e3, e4⟩ := told ha _ ha' _ _ (stop93 _) (stop93 _) (jr e2)
      obtain ⟨e5, e6⟩ := told hb _ hb' _ _ (stop59 _) (stop59 _) (jr (jr (jr (jr e4))))
      exact ⟨by rw [e1, e3, e5], jr (jr e6)⟩
    · rename_i s' l' hs' hl' he' _ _
      rw [stX_store, stX_call, jm, jm] at e
      replace e := List.append_cancel_left e
      simp only [List.flatten_cons, List.flatten_nil, List.append_assoc, List.append_nil, List.cons_append, List.nil_append] at e
      obtain ⟨_, e2⟩ := name_dec hs hs' (e91 _) (e40 _) e
      simp at e2
  | call lv s l h0 h1 hs hl he =>
    intro n hn y hy r r' e
    subst hn
    have hk := k_eq (.call _ s l h0 h1 hs hl he) hy e
    cases hy <;> simp [kS] at hk
    · rename_i s' a' hs' he' _ _
      rw [stX_call, stX_set, jm, jm] at e
      replace e := List.append_cancel_left e
      simp only [List.flatten_cons, List.flatten_nil, List.append_assoc, List.append_nil, List.cons_append, List.nil_append] at e
      obtain ⟨_, e2⟩ := name_dec hs hs' (e40 _) (e32 _) e
      simp at e2
    · rename_i s' a' b' hs' ha' hb' _ _
      rw [stX_call, stX_store, jm, jm] at e
      replace e := List.append_cancel_left e
      simp only [List.flatten_cons, List.flatten_nil, List.append_assoc, List.append_nil, List.cons_append, List.nil_append] at e
      obtain ⟨_, e2⟩ := name_dec hs hs' (e40 _) (e91 _) e
      simp at e2
    · rename_i s' l' hs' hl' he' _ _
      rw [stX_call, stX_call, jm, jm] at e
      replace e := List.append_cancel_left e
      simp only [List.flatten_cons, List.flatten_nil, List.append_assoc, List.append_nil, List.cons_append, List.nil_append] at e
      obtain ⟨e1, e2⟩ := name_dec hs hs' (e40 _) (e40 _) e
      obtain ⟨e3, e4⟩ := joins_dec exT RE 41 (by decide) Stop (fun _ => Stop.cons (by decide) (by decide) (by decide) _) (fun _ => stop41 _) (fun y hy => by
        obtain ⟨c, t, e1, _, e3⟩ := ex_head hy
        exact ⟨c, t, e1, e3⟩) l (fun x hx => ⟨he x hx, told (he x hx)⟩) l' he' _ _ (jr e2)
      exact ⟨by rw [e1, e3], jr (jr e4)⟩
  | put lv a h0 h1 he =>
    intro n hn y hy r r' e
    subst hn
    have hk := k_eq (.put _ a h0 h1 he) hy e
    cases hy <;> simp [kS] at hk
    rename_i a' he' _ _
    rw [stX_put, stX_put, jm, jm] at e
    replace e := List.append_cancel_left e
    simp only [List.flatten_cons, List.flatten_nil, List.append_assoc, List.append_nil, List.cons_append, List.nil_append, List.cons.injEq, true_and] at e
    obtain ⟨e3, e4⟩ := told he _ he' _ _ (stop41 _) (stop41 _) e
    exact ⟨by rw [e3], jr (jr (jr e4))⟩
  | ret0 lv h0 h1 =>
    intro n hn y hy r r' e
    subst hn
    have hk := k_eq (.ret0 _ h0 h1) hy e
    cases hy <;> simp [kS] at hk
    · exact ⟨rfl, List.append_cancel_left e⟩
    · rename_i a' he' _ _
      rw [stX_ret0, stX_ret, jm, jm] at e
      replace e := List.append_cancel_left e
      simp at e
  | ret lv a h0 h1 he =>
    intro n hn y hy r r' e
    subst hn
    have hk := k_eq (.ret _ a h0 h1 he) hy e
    cases hy <;> simp [kS] at hk
    · rw [stX_ret0, stX_ret, jm, jm] at e
      replace e := List.append_cancel_left e
      simp at e
    · rename_i a' he' _ _
      rw [stX_ret, stX_ret, jm, jm] at e
      replace e := List.append_cancel_left e
      simp only [List.flatten_cons, List.flatten_nil, List.append_assoc, List.append_nil, List.cons_append, List.nil_append, List.cons.injEq, true_and] at e
      obtain ⟨e3, e4⟩ := told he _ he' _ _ (stop59 _) (stop59 _) e
      exact ⟨by rw [e3], jr (jr e4)⟩
  | loop lv a t h0 h1 he ht it =>
    intro n hn y hy r r' e
    subst hn
    have hk := k_eq (.loop _ a t h0 h1 he ht) hy e
    have c1 : (n : Int) + 1 = ((n + 1 : Nat) : Int) := by omega
    rw [c1] at ht it
    cases hy <;> simp [kS] at hk
    rename_i a' t' he' _ _ ht'
    rw [c1] at ht'
    rw [stX_loop, stX_loop] at e
    simp only [List.append_assoc] at e
    rw [jm n [[119, 104, 105, 108, 101, 32, 40], exT a, [41, 32, 123]], jm n [[119, 104, 105, 108, 101, 32, 40], exT a', [41, 32, 123]]] at e
    replace e := List.append_cancel_left e
    simp only [List.flatten_cons, List.flatten_nil, List.append_assoc, List.append_nil, List.cons_append, List.nil_append, List.cons.injEq, true_and] at e
    obtain ⟨e3, e4⟩ := told he _ he' _ _ (stop41 _) (stop41 _) e
    obtain ⟨e5, e6⟩ := list_dec n t (fun x hx => ⟨it x hx (n + 1) rfl, ht x hx⟩) t' ht' _ _ (endAt_line n [] r) (endAt_line n [] r') (jr (jr (jr (jr e4))))
    exact ⟨by rw [e3, e5], List.append_cancel_left e6⟩
  | cond lv a t f h0 h1 he ht hf it jf =>
    intro n hn y hy r r' e
    subst hn
    have hk := k_eq (.cond _ a t f h0 h1 he ht hf) hy e
    have c1 : (n : Int) + 1 = ((n + 1 : Nat) : Int) := by omega
    rw [c1] at ht it hf jf
    cases hy <;> simp [kS] at hk
    rename_i a' t' f' he' _ _ ht' hf'
    rw [c1] at ht' hf'
    rw [stX_cond, stX_cond] at e
    simp only [List.append_assoc] at e
    rw [jm n [[105, 102, 32, 40], exT a, [41, 32, 123]], jm n [[105, 102, 32, 40], exT a', [41, 32, 123]]] at e
    replace e := List.append_cancel_left e
    simp only [List.flatten_cons, List.flatten_nil, List.append_assoc, List.append_nil, List.cons_append, List.nil_append, List.cons.injEq, true_and] at e
    obtain ⟨e3, e4⟩ := told he _ he' _ _ (stop41 _) (stop41 _) e
    obtain ⟨e5, e6⟩ := list_dec n t (fun x hx => ⟨it x hx (n + 1) rfl, ht x hx⟩) t' ht' _ _ (endAt_else n f r) (endAt_else n f' r') (jr (jr (jr (jr e4))))
    have no : ∀ (g : List S43) (r r' : List UInt8), js n [[125]] ++ r = (js n [[125, 32, 101, 108, 115, 101, 32, 123]] ++ stsX (n + 1) g) ++ (js n [[125]] ++ r') → False := fun g r r' h => by
      rw [List.append_assoc, jm n [[125]] r, jm n [[125, 32, 101, 108, 115, 101, 32, 123]]] at h
      replace h := List.append_cancel_left h
      simp at h
    by_cases hz : f = [] <;> by_cases hz' : f' = []
    · subst hz; subst hz'
      simp only [if_true, List.nil_append] at e6
      exact ⟨by rw [e3, e5], List.append_cancel_left e6⟩
    · subst hz
      rw [if_pos rfl, if_neg hz', List.nil_append] at e6
      exact (no _ _ _ e6).elim
    · subst hz'
      rw [if_neg hz, if_pos rfl, List.nil_append] at e6
      exact (no _ _ _ e6.symm).elim
    · rw [if_neg hz, if_neg hz', List.append_assoc, List.append_assoc] at e6
      obtain ⟨e7, e8⟩ := list_dec n f (fun x hx => ⟨jf x hx (n + 1) rfl, hf x hx⟩) f' hf' _ _ (endAt_line n [] r) (endAt_line n [] r') (List.append_cancel_left e6)
      exact ⟨by rw [e3, e5, e7], List.append_cancel_left e8⟩
theorem line_at {n : Nat} {parts : List ByteArray} {P : List (List UInt8)} {acc : List UInt8} (e : parts.map B = P) (hn : n ≤ 1000) (h : acc.length + (js n P).length ≤ 1000000000) : Ev (fun _ => Ext.lineT (n : Int) parts acc) (acc ++ js n P) := by
  subst e
  exact Ev.const fun _ => line_ev n parts acc hn h
theorem cSs_sum (t : List S43) : cSs t = (t.map cS).sum := by
  induction t with
  | nil => rfl
  | cons a l ih => simp [cSs, ih]
theorem stmt_ev {lv : Int} {x : S43} (h : RS lv x) : ∀ n : Nat, lv = n → cS x ≤ 1000 → EvS n x := by
  induction h with
  | set lv s e h0 h1 hs he =>
    intro n hn hc acc hacc
    simp only [cS, cEs, cSs] at hc hacc
    have hl := exT_len he
    have hz := hs.size
    refine Ev.succ ?_
    rw [stX_set]
    simp only [Ext.stmtT]
    refine Ev.pos (by simp) (Ev.bind (exAt0 (expr_ev he (by omega))) (line_at (by simp [B_T]) (by omega) ?_))
    rw [jl]
    simp
    omega
  | store lv s a b h0 h1 hs ha hb =>
    intro n hn hc acc hacc
    simp only [cS, cEs, cSs] at hc hacc
    have hl := exT_len ha
    have hl' := exT_len hb
    have hz := hs.size
    refine Ev.succ ?_
    rw [stX_store]
    simp only [Ext.stmtT]
    refine Ev.neg (by decide) (Ev.pos (by simp) (Ev.bind (exAt0 (expr_ev ha (by omega))) (Ev.bind (exAt1 (expr_ev hb (by omega))) (line_at (by simp [B_T]) (by omega) ?_))))
    rw [jl]
    simp
    omega
  | put lv e h0 h1 he =>
    intro n hn hc acc hacc
    simp only [cS, cEs, cSs] at hc hacc
    have hl := exT_len he
    refine Ev.succ ?_
    rw [stX_put]
    simp only [Ext.stmtT]
    refine Ev.neg (by decide) (Ev.neg (by decide) (Ev.pos (by simp) (Ev.bind (exAt0 (expr_ev he (by omega))) (line_at (by simp [B_T]) (by omega) ?_))))
    rw [jl]
    simp
    omega
  | call lv s l h0 h1 hs hl he =>
    intro n hn hc acc hacc
    simp only [cS, cSs] at hc hacc
    have hx : RE ⟨4, 0, 0, s, l⟩ := .call s l hs hl he
    have lx := exT_len hx
    rw [exT_call] at lx
    simp only [cE, List.length_append, List.length_cons, List.length_nil] at lx
    have each : ∀ y ∈ l, cE y ≤ cEs l := fun y hy => by
      rw [cEs_sum]
      exact le_sum cE hy
    refine Ev.succ ?_
    rw [stX_call]
    simp only [Ext.stmtT]
    refine Ev.neg (by decide) (Ev.neg (by decide) (Ev.neg (by decide) (Ev.pos (by simp) (Ev.bind (args_f l (by omega) (fun y hy => expr_ev (he y hy) (by have := each y hy; omega)) (by omega)) (line_at (by simp [B_T]) (by omega) ?_)))))
    rw [jl]
    simp only [List.map_cons, List.map_nil, List.sum_cons, List.sum_nil, List.length_cons, List.length_nil]
    omega
  | ret0 lv h0 h1 =>
    intro n hn hc acc hacc
    simp only [cS, cSs, cEs] at hc hacc
    refine Ev.succ ?_
    rw [stX_ret0]
    simp only [Ext.stmtT]
    refine Ev.neg (by decide) (Ev.neg (by decide) (Ev.neg (by decide) (Ev.neg (by decide) (Ev.pos (by simp) (Ev.pos (by simp) (line_at (by simp) (by omega) ?_))))))
    rw [jl]
    simp
    omega
  | ret lv e h0 h1 he =>
    intro n hn hc acc hacc
    simp only [cS, cEs, cSs] at hc hacc
    have hl := exT_len he
    refine Ev.succ ?_
    rw [stX_ret]
    simp only [Ext.stmtT]
    refine Ev.neg (by decide) (Ev.neg (by decide) (Ev.neg (by decide) (Ev.neg (by decide) (Ev.pos (by simp) (Ev.neg (by simp) (Ev.bind (exAt0 (expr_ev he (by omega))) (line_at (by simp [B_T]) (by omega) ?_)))))))
    rw [jl]
    simp
    omega
  | loop lv e t h0 h1 he ht it =>
    intro n hn hc acc hacc
    simp only [cS, cEs, cSs] at hc hacc
    have hl := exT_len he
    have each : ∀ y ∈ t, cS y ≤ cSs t := fun y hy => by rw [cSs_sum]; exact le_sum cS hy
    have hlen := stsX_len (n := n + 1) fun x hx => stX_len (ht x hx) (n + 1) (by omega)
    refine Ev.succ ?_
    rw [stX_loop]
    have el : (n : Int) + 1 = ((n + 1 : Nat) : Int) := by omega
    simp only [Ext.stmtT, el]
    refine Ev.neg (by decide) (Ev.neg (by decide) (Ev.neg (by decide) (Ev.neg (by decide) (Ev.neg (by decide) (Ev.pos (by simp) (Ev.bind (exAt0 (expr_ev he (by omega))) (Ev.bind (line_at (P := [[119, 104, 105, 108, 101, 32, 40], exT e, [41, 32, 123]]) (by simp [B_T]) (by omega) ?_) (Ev.bind (stmts_ev (fun x hx => it x hx (n + 1) (by omega) (by have := each x hx; omega)) (fun x hx => stX_len (ht x hx) (n + 1) (by omega)) _ ?_) ((line_at (P := [[125]]) (by simp) (by omega) ?_).cast (by simp only [List.append_assoc]))))))))))
    · rw [jl]; simp; omega
    · rw [List.length_append, jl]; simp; omega
    · rw [List.length_append, List.length_append, jl, jl]; simp; omega
  | cond lv e t f h0 h1 he ht hf it jf =>
    intro n hn hc acc hacc
    simp only [cS, cEs] at hc hacc
    have hl := exT_len he
    have eachT : ∀ y ∈ t, cS y ≤ cSs t := fun y hy => by rw [cSs_sum]; exact le_sum cS hy
    have eachF : ∀ y ∈ f, cS y ≤ cSs f := fun y hy => by rw [cSs_sum]; exact le_sum cS hy
    have lenT := stsX_len (n := n + 1) fun x hx => stX_len (ht x hx) (n + 1) (by omega)
    have lenF := stsX_len (n := n + 1) fun x hx => stX_len (hf x hx) (n + 1) (by omega)
    refine Ev.succ ?_
    rw [stX_cond]
    have el : (n : Int) + 1 = ((n + 1 : Nat) : Int) := by omega
    simp only [Ext.stmtT, el]
    refine Ev.neg (by decide) (Ev.neg (by decide) (Ev.neg (by decide) (Ev.neg (by decide) (Ev.neg (by decide) (Ev.neg (by decide) (Ev.bind (exAt0 (expr_ev he (by omega))) (Ev.bind (line_at (P := [[105, 102, 32, 40], exT e, [41, 32, 123]]) (by simp [B_T]) (by omega) ?_) (Ev.bind (stmts_ev (fun x hx => it x hx (n + 1) (by omega) (by have := eachT x hx; omega)) (fun x hx => stX_len (ht x hx) (n + 1) (by omega)) _ ?_) ?_))))))))
    · rw [jl]; simp; omega
    · rw [List.length_append, jl]; simp; omega
    · by_cases hz : f = []
      · subst hz
        refine Ev.neg (by simp) ((line_at (P := [[125]]) (by simp) (by omega) ?_).cast (by simp))
        rw [List.length_append, List.length_append, jl, jl]; simp; omega
      · have : 0 < f.length := List.length_pos_iff.mpr hz
        refine Ev.pos (by omega) (Ev.bind (line_at (P := [[125, 32, 101, 108, 115, 101, 32, 123]]) (by simp) (by omega) ?_) (Ev.bind (stmts_ev (fun x hx => jf x hx (n + 1) (by omega) (by have := eachF x hx; omega)) (fun x hx => stX_len (hf x hx) (n + 1) (by omega)) _ ?_) ((line_at (P := [[125]]) (by simp) (by omega) ?_).cast (by rw [if_neg hz]; simp only [List.append_assoc]))))
        · rw [List.length_append, List.length_append, jl, jl]; simp; omega
        · rw [List.length_append, List.length_append, List.length_append, jl, jl]; simp; omega
        · rw [List.length_append, List.length_append, List.length_append, List.length_append, jl, jl, jl]; simp; omega
def namesX (l : List ByteArray) : List UInt8 := joinT (l.map B)
def varsX (n : Nat) (l : List ByteArray) : List UInt8 := if l = [] then [] else js n [[118, 97, 114, 32], namesX l, [59]]
def arrX (a : S59) : List UInt8 := js 0 [[97, 114, 114, 97, 121, 32], B a.f0, [91], Lib.decDigits a.f1.toNat, [93, 59]]
def endX (wd : Bool) : List UInt8 := if wd = true then [41, 32, 119, 111, 114, 100, 32, 123] else [41, 32, 123]
def headX (f : S45) : List UInt8 := js 0 [[102, 117, 110, 99, 32], B f.f0, [40], namesX f.f1, endX f.f3]
def funX (f : S45) : List UInt8 := headX f ++ varsX 1 f.f2 ++ stsX 1 f.f4 ++ js 0 [[125]]
def arrsX (l : List S59) : List UInt8 := (l.map arrX).flatten
def funsX (l : List S45) : List UInt8 := (l.map funX).flatten
def progX (vars : List ByteArray) (arrs : List S59) (funcs : List S45) : List UInt8 := varsX 0 vars ++ arrsX arrs ++ funsX funcs
theorem namesX_len {l : List ByteArray} (h : ∀ s ∈ l, jp s) : (namesX l).length ≤ 22 * l.length := by
  have h1 := joinT_len (l.map B)
  have h2 : ((l.map B).map List.length).sum ≤ 20 * l.length := by
    clear h1
    induction l with
    | nil => simp
    | cons a l ih =>
      have e1 := name_len (h a (by simp))
      have e2 := ih fun s hs => h s (by simp [hs])
      simp only [List.map_cons, List.sum_cons, List.length_cons]
      omega
  unfold namesX
  rw [List.length_map] at h1
  omega
theorem names_ev {l : List ByteArray} (h : ∀ s ∈ l, jp s) (hl : l.length ≤ 1000) : Ext.strings_Join.f l (⟨#[44, 32]⟩ : ByteArray) = some (T (namesX l)) := by
  have h1 := namesX_len h
  have e : (l.map B).map T = l := by
    rw [List.map_map]
    conv => rhs; rw [← List.map_id l]
    exact List.map_congr_left fun s _ => T_B s
  have := join_f (l.map B) (by rw [List.length_map]; omega) (by unfold namesX at h1; omega)
  rw [e] at this
  exact this
theorem varsX_len {n : Nat} {l : List ByteArray} (h : ∀ s ∈ l, jp s) : (varsX n l).length ≤ 2 * n + 6 + 22 * l.length := by
  have h1 := namesX_len h
  unfold varsX
  split
  · simp
  · rw [jl]
    simp
    omega
theorem vars_ev {n : Nat} {l : List ByteArray} (h : ∀ s ∈ l, jp s) (hl : l.length ≤ 1000) (hn : n ≤ 1000) (acc : List UInt8) (ha : acc.length ≤ 900000000) : Ext.varsT (n : Int) l acc = some (acc ++ varsX n l) := by
  unfold Ext.varsT
  by_cases hz : l = []
  · subst hz
    simp [varsX]
  · have : 0 < l.length := List.length_pos_iff.mpr hz
    have h1 := namesX_len h
    rw [if_pos (by omega), names_ev h hl, Option.bind_some]
    have e : ([⟨#[118, 97, 114, 32]⟩, T (namesX l), ⟨#[59]⟩] : List ByteArray).map B = [[118, 97, 114, 32], namesX l, [59]] := by simp [B_T]
    rw [line_ev n _ acc hn (by rw [e, jl]; simp; omega), e]
    unfold varsX
    rw [if_neg hz]
theorem arr_ev {a : S59} (h : jp a.f0 ∧ 1 ≤ a.f1 ∧ a.f1 ≤ 4096) (acc : List UInt8) (ha : acc.length ≤ 900000000) : ((word_Text.f (IntKind.u32.wrap a.f1)).bind fun t => Ext.lineT 0 [⟨#[97, 114, 114, 97, 121, 32]⟩, a.f0, ⟨#[91]⟩, t, ⟨#[93, 59]⟩] acc) = some (acc ++ arrX a) ∧ (arrX a).length ≤ 60 := by
  have e1 : IntKind.u32.wrap a.f1 = a.f1 := by
    show a.f1 % _ = a.f1
    simp only [IntKind.bits]
    omega
  have hd := Lib.nDigits_le20 a.f1.toNat (by omega)
  have hs := h.1.size
  have e : ([⟨#[97, 114, 114, 97, 121, 32]⟩, a.f0, ⟨#[91]⟩, T (Lib.decDigits a.f1.toNat), ⟨#[93, 59]⟩] : List ByteArray).map B = [[97, 114, 114, 97, 121, 32], B a.f0, [91], Lib.decDigits a.f1.toNat, [93, 59]] := by simp [B_T]
  have hlen : (arrX a).length ≤ 60 := by
    unfold arrX
    rw [jl]
    simp only [List.map_cons, List.map_nil, List.sum_cons, List.sum_nil, List.length_cons, List.length_nil, Lib.decDigits_length]
    have : (B a.f0).length = a.f0.size := rfl
    omega
  refine ⟨?_, hlen⟩
  rw [e1, text_f (by omega) (by omega), Option.bind_some]
  have := line_ev 0 [⟨#[97, 114, 114, 97, 121, 32]⟩, a.f0, ⟨#[91]⟩, T (Lib.decDigits a.f1.toNat), ⟨#[93, 59]⟩] acc (by omega) (by rw [e]; unfold arrX at hlen; omega)
  rw [e] at this
  exact this
theorem arrs_ev : ∀ (l : List S59), (∀ a ∈ l, jp a.f0 ∧ 1 ≤ a.f1 ∧ a.f1 ≤ 4096) → ∀ acc : List UInt8, acc.length + 60 * l.length ≤ 900000000 → Ext.arrsT l acc = some (acc ++ arrsX l) ∧ (arrsX l).length ≤ 60 * l.length
  | [], _, acc, _ => by simp [Ext.arrsT, arrsX]
  | a :: l, h, acc, hacc => by
    rw [List.length_cons] at hacc
    obtain ⟨h1, h2⟩ := arr_ev (h a (by simp)) acc (by omega)
    have e : arrsX (a :: l) = arrX a ++ arrsX l := by simp [arrsX]
    obtain ⟨h3, h4⟩ := arrs_ev l (fun b hb => h b (by simp [hb])) (acc ++ arrX a) (by rw [List.length_append]; omega)
    refine ⟨?_, by rw [e, List.length_append, List.length_cons]; omega⟩
    simp only [Ext.arrsT]
    rw [h1, Option.bind_some, h3, e, List.append_assoc]
theorem endS_B (wd : Bool) : B (Ext.endS wd) = endX wd := by cases wd <;> rfl
theorem fun_ev {f : S45} (h : RF f) (hc : cF f ≤ 900) (acc : List UInt8) (ha : acc.length ≤ 100000000) : Ev (fun k => Ext.funcT k f acc) (acc ++ funX f) ∧ (funX f).length ≤ 100 + 200 * cF f := by
  unfold cF at hc
  have hn := h.name.size
  have h1 := namesX_len h.params
  have h2 := varsX_len (n := 1) h.locals
  have each : ∀ y ∈ f.f4, cS y ≤ cSs f.f4 := fun y hy => by rw [cSs_sum]; exact le_sum cS hy
  have h3 := stsX_len (n := 1) (l := f.f4) fun x hx => stX_len (h.body x hx) 1 rfl
  have he : (endX f.f3).length ≤ 8 := by cases f.f3 <;> decide
  have hh : (headX f).length ≤ 40 + 22 * f.f1.length := by
    unfold headX
    rw [jl]
    simp only [List.map_cons, List.map_nil, List.sum_cons, List.sum_nil, List.length_cons, List.length_nil]
    have : (B f.f0).length = f.f0.size := rfl
    omega
  have e : ([⟨#[102, 117, 110, 99, 32]⟩, f.f0, ⟨#[40]⟩, T (namesX f.f1), Ext.endS f.f3] : List ByteArray).map B = [[102, 117, 110, 99, 32], B f.f0, [40], namesX f.f1, endX f.f3] := by simp [B_T, endS_B]
  constructor
  · unfold Ext.funcT funX
    rw [names_ev h.params (by omega)]
    have l1 := line_ev 0 [⟨#[102, 117, 110, 99, 32]⟩, f.f0, ⟨#[40]⟩, T (namesX f.f1), Ext.endS f.f3] acc (by omega) (by rw [e]; unfold headX at hh; omega)
    rw [e] at l1
    simp only [Option.bind_some]
    refine Ev.bind (Ev.const fun _ => l1) (Ev.bind (Ev.const fun _ => vars_ev (n := 1) h.locals (by omega) (by omega) _ (by rw [List.length_append]; unfold headX at hh; omega)) (Ev.bind (stmts_ev (n := 1) (fun x hx => stmt_ev (h.body x hx) 1 rfl (by have := each x hx; omega)) (fun x hx => stX_len (h.body x hx) 1 rfl) _ ?_) ((line_at (P := [[125]]) (n := 0) (by simp) (by omega) ?_).cast ?_)))
    · rw [List.length_append, List.length_append]; unfold headX at hh; omega
    · have l2 : (js 0 [[125]]).length = 2 := by rw [jl]; rfl
      rw [List.length_append, List.length_append, List.length_append, l2]; unfold headX at hh; omega
    · simp only [List.append_assoc]
      rfl
  · unfold funX
    rw [List.length_append, List.length_append, List.length_append, jl]
    unfold cF
    simp
    omega
theorem funs_ev : ∀ (l : List S45), (∀ f ∈ l, RF f) → inF l ≤ 900 → l.length ≤ 100 → ∀ acc : List UInt8, acc.length + 100 * l.length + 200 * inF l ≤ 100000000 → Ev (fun k => Ext.funcsT k l acc) (acc ++ funsX l)
  | [], _, _, _, acc, _ => by
    simp only [Ext.funcsT, funsX, List.map_nil, List.flatten_nil, List.append_nil]
    exact Ev.some _
  | f :: l, h, hc, hl, acc, hacc => by
    have ec : inF (f :: l) = cF f + inF l := by simp [inF]
    have e : funsX (f :: l) = funX f ++ funsX l := by simp [funsX]
    rw [ec] at hc hacc
    rw [List.length_cons] at hl hacc
    obtain ⟨h1, h2⟩ := fun_ev (h f (by simp)) (by omega) acc (by omega)
    simp only [Ext.funcsT]
    refine Ev.bind h1 ((funs_ev l (fun g hg => h g (by simp [hg])) (by omega) (by omega) (acc ++ funX f) (by rw [List.length_append]; omega)).cast ?_)
    rw [e, List.append_assoc]
theorem progX_ne {vars : List ByteArray} {arrs : List S59} {funcs : List S45} (h : funcs ≠ []) : progX vars arrs funcs ≠ [] := by
  cases funcs with
  | nil => exact absurd rfl h
  | cons f l =>
    intro he
    unfold progX funsX at he
    have := (List.append_eq_nil_iff.mp he).2
    rw [List.map_cons, List.flatten_cons] at this
    have := (List.append_eq_nil_iff.mp this).1
    unfold funX at this
    have := (List.append_eq_nil_iff.mp this).2
    have h2 := congrArg List.length this
    rw [jl] at h2
    simp at h2
theorem print_ev {vars : List ByteArray} {arrs : List S59} {funcs : List S45} (h : RP vars arrs funcs) (hc : parts vars arrs funcs < 100) : Ev (fun k => Ext.yPrint.f k vars arrs funcs) (T (progX vars arrs funcs)) := by
  unfold parts at hc
  have v := vars_ev (n := 0) h.rvars (by omega) (by omega) [] (by simp)
  have vl := varsX_len (n := 0) h.rvars
  obtain ⟨a, al⟩ := arrs_ev arrs h.rarrs ([] ++ varsX 0 vars) (by simp; omega)
  unfold Ext.yPrint.f
  refine Ev.bind (Ev.const fun _ => v) (Ev.bind (Ev.const fun _ => a) (Ev.bind (funs_ev funcs h.rfuncs (by omega) (by omega) _ (by simp; omega)) ?_))
  have e : [] ++ varsX 0 vars ++ arrsX arrs ++ funsX funcs = progX vars arrs funcs := by simp [progX]
  rw [e]
  exact Ev.const fun _ => by rw [if_neg (progX_ne h.some)]; rfl
theorem line0 (parts : List (List UInt8)) (r : List UInt8) : js 0 parts ++ r = parts.flatten ++ 10 :: r := by
  rw [jm]
  rfl
theorem names_dec {e : UInt8} (he : e ≠ 44) (hN : isN e = false) {l l' : List ByteArray} (h : ∀ s ∈ l, jp s) (h' : ∀ s ∈ l', jp s) {r r' : List UInt8} (e1 : namesX l ++ e :: r = namesX l' ++ e :: r') : l = l' ∧ r = r' :=
  joins_dec B jp e he (Ends isN) (fun r => Ends.cons (by decide) r) (fun r => Ends.cons hN r) (fun y hy => by
    obtain ⟨c, t, e1, hl⟩ := name_head hy
    refine ⟨c, t, e1, ?_⟩
    rintro rfl
    rw [isL_N hl] at hN
    cases hN) l (fun x hx => ⟨h x hx, fun y hy r r' hr hr' e => name_dec (h x hx) hy hr hr' e⟩) l' h' r r' e1
theorem end_dec {w w' : Bool} {r r' : List UInt8} (e : endX w ++ 10 :: r = endX w' ++ 10 :: r') : w = w' ∧ r = r' := by
  cases w <;> cases w' <;> simp [endX] at e ⊢ <;> exact e
def varW : ByteArray := ⟨#[118, 97, 114]⟩
theorem vars_form (n : Nat) {l : List ByteArray} (h : l ≠ []) (r : List UInt8) : varsX n l ++ r = rep n ++ (B varW ++ (32 :: (namesX l ++ 59 :: 10 :: r))) := by
  unfold varsX
  rw [if_neg h, jm]
  simp [varW, B]
theorem no_var {lv : Int} {x : S43} (h : RS lv x) {r s : List UInt8} : ¬ (stX 1 x ++ r = rep 1 ++ (B varW ++ 32 :: s)) := by
  obtain ⟨w, tl, e1, he, ha, _, hk⟩ := st_form h 1
  rw [e1]
  simp only [List.append_assoc]
  intro e
  replace e := List.append_cancel_left e
  obtain ⟨hw, _⟩ := span_dec ha (show ∀ c ∈ B varW, isN c = true by decide) (he r) (e32 s) e
  have hv : varW ∈ reserved := by simp [reserved, varW]
  rcases hk with ⟨_, s, hs, rfl⟩ | ⟨_, rfl⟩ | ⟨_, rfl⟩ | ⟨_, rfl⟩ | ⟨_, rfl⟩
  · exact not_res hs hv hw
  all_goals exact absurd hw (by decide)
theorem body_no_var {l : List S43} (h : ∀ x ∈ l, RS 1 x) {r s : List UInt8} : ¬ (stsX 1 l ++ (js 0 [[125]] ++ r) = rep 1 ++ (B varW ++ 32 :: s)) := by
  cases l with
  | nil =>
    rw [line0]
    intro e
    rw [show rep 1 = [32, 32] from rfl] at e
    simp [stsX] at e
  | cons x l =>
    simp only [stsX, List.append_assoc]
    exact no_var (h x (by simp))
theorem fun_dec {f g : S45} (hf : RF f) (hg : RF g) {r r' : List UInt8} (e : funX f ++ r = funX g ++ r') : f = g ∧ r = r' := by
  obtain ⟨f0, f1, f2, f3, f4⟩ := f
  obtain ⟨g0, g1, g2, g3, g4⟩ := g
  have hfn := hf.name
  have hfp := hf.params
  have hfl := hf.locals
  have hfb := hf.body
  have hgn := hg.name
  have hgp := hg.params
  have hgl := hg.locals
  have hgb := hg.body
  simp only at hfn hfp hfl hfb hgn hgp hgl hgb
  unfold funX headX at e
  simp only [List.append_assoc] at e
  rw [line0 [[102, 117, 110, 99, 32], B f0, [40], namesX f1, endX f3], line0 [[102, 117, 110, 99, 32], B g0, [40], namesX g1, endX g3]] at e
  simp only [List.flatten_cons, List.flatten_nil, List.append_assoc, List.append_nil, List.cons_append, List.nil_append, List.cons.injEq, true_and] at e
  obtain ⟨q0, u1⟩ := name_dec hfn hgn (e40 _) (e40 _) e
  clear e
  have u2 := jr u1
  clear u1
  subst q0
  have ex : ∀ w : Bool, ∃ t, endX w = 41 :: t := fun w => by cases w <;> exact ⟨_, rfl⟩
  obtain ⟨t1, x1⟩ := ex f3
  obtain ⟨t2, x2⟩ := ex g3
  rw [x1, x2] at u2
  obtain ⟨q1, u3⟩ := names_dec (e := 41) (by decide) (by decide) hfp hgp u2
  clear u2
  subst q1
  have e' : endX f3 ++ 10 :: (varsX 1 f2 ++ (stsX 1 f4 ++ (js 0 [[125]] ++ r))) = endX g3 ++ 10 :: (varsX 1 g2 ++ (stsX 1 g4 ++ (js 0 [[125]] ++ r'))) := by
    rw [x1, x2, List.cons_append, List.cons_append]; exact congrArg (41 :: ·) u3
  obtain ⟨q2, e⟩ := end_dec e'
  clear u3 x1 x2 e'
  subst q2
  have body : ∀ {r r' : List UInt8}, stsX 1 f4 ++ (js 0 [[125]] ++ r) = stsX 1 g4 ++ (js 0 [[125]] ++ r') → f4 = g4 ∧ r = r' := fun {r r'} e => by
    obtain ⟨q, e⟩ := list_dec 0 f4 (fun x hx => ⟨stold (hfb x hx) 1 rfl, hfb x hx⟩) g4 hgb _ _ (endAt_line 0 [] r) (endAt_line 0 [] r') e
    exact ⟨q, List.append_cancel_left e⟩
  by_cases hz : f2 = [] <;> by_cases hz' : g2 = []
  · subst hz; subst hz'
    simp only [varsX, if_true, List.nil_append] at e
    obtain ⟨q, u⟩ := body e
    subst q
    exact ⟨rfl, u⟩
  · subst hz
    rw [vars_form 1 hz'] at e
    simp only [varsX, if_true, List.nil_append] at e
    exact absurd e (body_no_var hfb)
  · subst hz'
    rw [vars_form 1 hz] at e
    simp only [varsX, if_true, List.nil_append] at e
    exact absurd e.symm (body_no_var hgb)
  · rw [vars_form 1 hz, vars_form 1 hz'] at e
    replace e := jr (List.append_cancel_left (List.append_cancel_left e))
    obtain ⟨q, u⟩ := names_dec (e := 59) (by decide) (by decide) hfl hgl e
    obtain ⟨q', u'⟩ := body (jr u)
    subst q
    subst q'
    exact ⟨rfl, u'⟩
theorem fun_head (f : S45) : ∃ t, funX f = 102 :: t := by
  unfold funX headX
  simp only [List.append_assoc]
  rw [line0]
  exact ⟨_, rfl⟩
theorem funs_dec : ∀ l l' : List S45, (∀ f ∈ l, RF f) → (∀ f ∈ l', RF f) → funsX l = funsX l' → l = l'
  | [], [], _, _, _ => rfl
  | [], g :: l', _, _, e => by
    obtain ⟨t, h⟩ := fun_head g
    simp [funsX, h] at e
  | f :: l, [], _, _, e => by
    obtain ⟨t, h⟩ := fun_head f
    simp [funsX, h] at e
  | f :: l, g :: l', h, h', e => by
    have e1 : ∀ (f : S45) (l : List S45), funsX (f :: l) = funX f ++ funsX l := fun f l => by simp [funsX]
    rw [e1, e1] at e
    obtain ⟨q, e⟩ := fun_dec (h f (by simp)) (h' g (by simp)) e
    rw [q, funs_dec l l' (fun x hx => h x (by simp [hx])) (fun x hx => h' x (by simp [hx])) e]
def ArrOk (a : S59) : Prop := jp a.f0 ∧ 1 ≤ a.f1 ∧ a.f1 ≤ 4096
theorem arr_form (a : S59) (r : List UInt8) : arrX a ++ r = [97, 114, 114, 97, 121, 32] ++ (B a.f0 ++ (91 :: (Lib.decDigits a.f1.toNat ++ (93 :: 59 :: 10 :: r)))) := by
  unfold arrX
  rw [line0]
  simp
theorem arrs_dec : ∀ l l' : List S59, (∀ a ∈ l, ArrOk a) → (∀ a ∈ l', ArrOk a) → ∀ t t' : List UInt8, arrsX l ++ 102 :: t = arrsX l' ++ 102 :: t' → l = l' ∧ t = t'
  | [], [], _, _, _, _, e => by
    simp [arrsX] at e
    exact ⟨rfl, e⟩
  | [], b :: l', _, _, _, _, e => by
    have e1 : ∀ (f : S59) (l : List S59), arrsX (f :: l) = arrX f ++ arrsX l := fun f l => by simp [arrsX]
    rw [e1, List.append_assoc, arr_form] at e
    simp [arrsX] at e
  | a :: l, [], _, _, _, _, e => by
    have e1 : ∀ (f : S59) (l : List S59), arrsX (f :: l) = arrX f ++ arrsX l := fun f l => by simp [arrsX]
    rw [e1, List.append_assoc, arr_form] at e
    simp [arrsX] at e
  | a :: l, b :: l', h, h', t, t', e => by
    have e1 : ∀ (f : S59) (l : List S59), arrsX (f :: l) = arrX f ++ arrsX l := fun f l => by simp [arrsX]
    rw [e1, e1, List.append_assoc, List.append_assoc, arr_form, arr_form] at e
    replace e := List.append_cancel_left e
    obtain ⟨n1, n2, n3⟩ := h a (by simp)
    obtain ⟨m1, m2, m3⟩ := h' b (by simp)
    obtain ⟨q0, e⟩ := name_dec n1 m1 (e91 _) (e91 _) e
    obtain ⟨q1, e⟩ := span_dec (dec_isD _) (dec_isD _) (Ends.cons (by decide) _) (Ends.cons (by decide) _) (jr e)
    have q2 := congrArg valD q1
    rw [val_dec, val_dec] at q2
    obtain ⟨q3, e⟩ := arrs_dec l l' (fun x hx => h x (by simp [hx])) (fun x hx => h' x (by simp [hx])) t t' (jr (jr (jr e)))
    refine ⟨?_, e⟩
    rw [q3]
    congr 1
    exact (by cases a; cases b; simp only at q0 q2 n2 m2; subst q0; congr 1; omega)
theorem prog_dec {v v' : List ByteArray} {a a' : List S59} {f f' : List S45} (h : RP v a f) (h' : RP v' a' f') (e : progX v a f = progX v' a' f') : v = v' ∧ a = a' ∧ f = f' := by
  have hd : ∀ {f : List S45}, f ≠ [] → ∃ t, funsX f = 102 :: t := fun {f} hf => by
    cases f with
    | nil => exact absurd rfl hf
    | cons g l =>
      obtain ⟨t, ht⟩ := fun_head g
      exact ⟨t ++ funsX l, by simp [funsX, ht]⟩
  obtain ⟨t, ht⟩ := hd h.some
  obtain ⟨t', ht'⟩ := hd h'.some
  have rest : arrsX a ++ funsX f = arrsX a' ++ funsX f' → a = a' ∧ f = f' := fun e => by
    rw [ht, ht'] at e
    obtain ⟨q, e⟩ := arrs_dec a a' h.rarrs h'.rarrs t t' e
    exact ⟨q, funs_dec f f' h.rfuncs h'.rfuncs (by rw [ht, ht', e])⟩
  have no : ∀ (a : List S59) (t s : List UInt8), arrsX a ++ 102 :: t = 118 :: s → False := fun a t s e => by
    cases a with
    | nil => simp [arrsX] at e
    | cons x l =>
      have e1 : arrsX (x :: l) = arrX x ++ arrsX l := by simp [arrsX]
      rw [e1, List.append_assoc, arr_form] at e
      simp at e
  have vf : ∀ {l : List ByteArray}, l ≠ [] → ∀ r, varsX 0 l ++ r = 118 :: 97 :: 114 :: 32 :: (namesX l ++ 59 :: 10 :: r) := fun hl r => vars_form 0 hl r
  unfold progX at e
  simp only [List.append_assoc] at e
  by_cases hz : v = [] <;> by_cases hz' : v' = []
  · subst hz; subst hz'
    simp only [varsX, if_true, List.nil_append] at e
    exact ⟨rfl, rest e⟩
  · subst hz
    rw [vf hz'] at e
    simp only [varsX, if_true, List.nil_append] at e
    rw [ht] at e
    exact (no _ _ _ e).elim
  · subst hz'
    rw [vf hz] at e
    simp only [varsX, if_true, List.nil_append] at e
    rw [ht'] at e
    exact (no _ _ _ e.symm).elim
  · rw [vf hz, vf hz'] at e
    replace e := jr (jr (jr (jr e)))
    obtain ⟨q, e⟩ := names_dec (e := 59) (by decide) (by decide) h.rvars h'.rvars e
    exact ⟨q, rest (jr e)⟩
def Dec (g : Nat → Option Bool) (p : Prop) : Prop := ∃ b, Ev g b ∧ (b = true ↔ p)
theorem Dec.f {g : Nat → Option Bool} {p : Prop} (h : Ev g false) (hp : ¬ p) : Dec g p := ⟨false, h, by simp [hp]⟩
theorem Dec.t {g : Nat → Option Bool} {p : Prop} (h : Ev g true) (hp : p) : Dec g p := ⟨true, h, by simp [hp]⟩
theorem Dec.no {p : Prop} (hp : ¬ p) : Dec (fun _ => some false) p := Dec.f (Ev.some _) hp
theorem Dec.succ {g : Nat → Option Bool} {p : Prop} (h : Dec (fun k => g (k + 1)) p) : Dec g p := by
  obtain ⟨b, h, hp⟩ := h
  exact ⟨b, h.succ, hp⟩
theorem Dec.pos {c : Prop} [Decidable c] {a b : Nat → Option Bool} {p : Prop} (hc : c) (h : Dec a p) : Dec (fun k => if c then a k else b k) p := by
  simpa only [if_pos hc] using h
theorem Dec.neg {c : Prop} [Decidable c] {a b : Nat → Option Bool} {p : Prop} (hc : ¬ c) (h : Dec b p) : Dec (fun k => if c then a k else b k) p := by
  simpa only [if_neg hc] using h
theorem Dec.ite {c : Prop} [Decidable c] {a b : Nat → Option Bool} {p : Prop} (h1 : c → Dec a p) (h2 : ¬ c → Dec b p) : Dec (fun k => if c then a k else b k) p := by
  by_cases hc : c
  · exact (h1 hc).pos hc
  · exact (h2 hc).neg hc
theorem Dec.iff {g : Nat → Option Bool} {p q : Prop} (h : Dec g p) (hq : p ↔ q) : Dec g q := by
  obtain ⟨b, h, hp⟩ := h
  exact ⟨b, h, hp.trans hq⟩
theorem Dec.and {g f : Nat → Option Bool} {p q : Prop} (h : Dec g q) (h2 : Dec f p) : Dec (fun k => (g k).bind fun t => if t = true then f k else Option.some false) (q ∧ p) := by
  obtain ⟨b, h, hb⟩ := h
  cases b with
  | false => exact Dec.f (h.bind (Ev.neg (by decide) (Ev.some false))) fun hp => by simp [hp.1] at hb
  | true =>
    obtain ⟨c, h2, hc⟩ := h2
    refine ⟨c, h.bind (Ev.pos rfl h2), ?_⟩
    rw [hc]
    simp at hb
    simp [hb]
theorem Dec.last {g : Nat → Option Bool} {p : Prop} (h : Dec g p) : Dec (fun k => (g k).bind fun t => Option.some t) p := by
  obtain ⟨b, h, hp⟩ := h
  exact ⟨b, h.bind (Ev.some b), hp⟩
theorem bytes_iff {a b : ByteArray} : a.toList = b.toList ↔ a = b := ⟨bytes_ext, fun h => by rw [h]⟩
theorem drop_iff {α : Type} {l m : List α} {i : Nat} (h : i < l.length) (h' : i < m.length) : l.drop i = m.drop i ↔ l[i]'h = m[i]'h' ∧ l.drop (i + 1) = m.drop (i + 1) := by
  rw [List.drop_eq_getElem_cons h, List.drop_eq_getElem_cons h', List.cons.injEq]
theorem eqS_l0 (l m : List ByteArray) (hl : l.length ≤ maxN) (hm : m.length = l.length) : ∀ d i, i + d = l.length → Dec (fun k => slices_Equal_string_string.l0 k l m (l.length : Int) (i : Int)) (l.drop i = m.drop i)
  | 0, i, h => by
    refine Dec.succ ?_
    simp only [slices_Equal_string_string.l0]
    refine Dec.neg (by omega) (Dec.t (Ev.some _) ?_)
    rw [List.drop_eq_nil_of_le (by omega), List.drop_eq_nil_of_le (by omega)]
  | d + 1, i, h => by
    refine Dec.succ ?_
    have hi : i < l.length := by omega
    have hi' : i < m.length := by omega
    simp only [slices_Equal_string_string.l0, rdS hi, rdS hi', w1 hi hl]
    refine Dec.pos (by omega) (Dec.pos (by omega) (Dec.pos (by omega) (Dec.pos (by omega) (Dec.ite (fun he => (eqS_l0 l m hl hm d (i + 1) (by omega)).iff ?_) fun he => Dec.no ?_))))
    · rw [drop_iff hi hi']
      simp [bytes_iff.mp he]
    · rw [drop_iff hi hi']
      exact fun hh => he (bytes_iff.mpr hh.1)
theorem eqS_f (l m : List ByteArray) (hl : l.length ≤ maxN) : Dec (fun k => slices_Equal_string_string.f k l m) (l = m) := by
  unfold slices_Equal_string_string.f
  exact Dec.ite (fun h => (eqS_l0 l m hl (by omega) l.length 0 (by omega)).iff (by simp)) fun h => Dec.no fun e => h (by rw [e])
theorem s59_iff (a b : S59) : a = b ↔ a.f0 = b.f0 ∧ a.f1 = b.f1 := by cases a; cases b; simp
theorem eqA_l0 (l m : List S59) (hl : l.length ≤ maxN) (hm : m.length = l.length) : ∀ d i, i + d = l.length → Dec (fun k => api_Array.l0 k l m (l.length : Int) (i : Int)) (l.drop i = m.drop i)
  | 0, i, h => by
    refine Dec.succ ?_
    simp only [api_Array.l0]
    refine Dec.neg (by omega) (Dec.t (Ev.some _) ?_)
    rw [List.drop_eq_nil_of_le (by omega), List.drop_eq_nil_of_le (by omega)]
  | d + 1, i, h => by
    refine Dec.succ ?_
    have hi : i < l.length := by omega
    have hi' : i < m.length := by omega
    simp only [api_Array.l0, rd59 hi, rd59 hi', w1 hi hl]
    refine Dec.pos (by omega) (Dec.pos (by omega) (Dec.pos (by omega) (Dec.pos (by omega) (Dec.ite (fun he => Dec.no ?_) fun he => (eqA_l0 l m hl hm d (i + 1) (by omega)).iff ?_))))
    · rw [drop_iff hi hi', s59_iff]
      intro hh
      simp [hh.1.1, hh.1.2] at he
    · rw [drop_iff hi hi', s59_iff]
      simp at he
      simp [bytes_iff.mp he.1, he.2]
theorem eqA_f (l m : List S59) (hl : l.length ≤ maxN) : Dec (fun k => api_Array.f k l m) (l = m) := by
  unfold api_Array.f
  exact Dec.ite (fun h => (eqA_l0 l m hl (by omega) l.length 0 (by omega)).iff (by simp)) fun h => Dec.no fun e => h (by rw [e])
def EqE (x : S36) : Prop := ∀ y : S36, Dec (fun k => ysameExpr.f k x.f0 x.f1 x.f2 x.f3 x.f4 y.f0 y.f1 y.f2 y.f3 y.f4) (x = y)
theorem eqE_l0 (l m : List S36) (hl : l.length ≤ maxN) (hm : m.length = l.length) (ih : ∀ x ∈ l, EqE x) : ∀ d i, i + d = l.length → Dec (fun k => api_Expr.l0 k m l (l.length : Int) (i : Int)) (l.drop i = m.drop i)
  | 0, i, h => by
    refine Dec.succ ?_
    simp only [api_Expr.l0]
    refine Dec.neg (by omega) (Dec.t (Ev.some _) ?_)
    rw [List.drop_eq_nil_of_le (by omega), List.drop_eq_nil_of_le (by omega)]
  | d + 1, i, h => by
    refine Dec.succ ?_
    have hi : i < l.length := by omega
    have hi' : i < m.length := by omega
    simp only [api_Expr.l0, rd36 hi, rd36 hi', w1 hi hl]
    refine Dec.pos (by omega) (Dec.pos (by omega) (Dec.pos (by omega) (Dec.pos (by omega) ?_)))
    exact (Dec.and (ih _ (List.getElem_mem hi) (m[i]'hi')) (eqE_l0 l m hl hm ih d (i + 1) (by omega))).iff (drop_iff hi hi').symm
theorem eqE_list (l m : List S36) (hl : l.length ≤ maxN) (ih : ∀ x ∈ l, EqE x) : Dec (fun k => api_Expr.f k l m) (l = m) := by
  refine Dec.succ ?_
  simp only [api_Expr.f]
  exact Dec.ite (fun h => (eqE_l0 l m hl (by omega) ih l.length 0 (by omega)).iff (by simp)) fun h => Dec.no fun e => h (by rw [e])
theorem s36_iff (a b : S36) : a = b ↔ a.f0 = b.f0 ∧ a.f1 = b.f1 ∧ a.f2 = b.f2 ∧ a.f3 = b.f3 ∧ a.f4 = b.f4 := by cases a; cases b; simp
theorem eqE (x : S36) (hx : OkE x) : EqE x := by
  induction hx with
  | mk x _ _ hl _ ih =>
    intro y
    refine Dec.succ ?_
    simp only [ysameExpr.f]
    refine Dec.iff ?_ (s36_iff x y).symm
    refine Dec.ite (fun h0 => Dec.ite (fun h1 => Dec.ite (fun h2 => Dec.ite (fun h3 => ?_) fun h => ?_) fun h => ?_) fun h => ?_) fun h => ?_
    · exact (Dec.last (eqE_list x.f4 y.f4 hl ih)).iff (by simp [h0, h1, h2, bytes_iff.mp h3])
    · exact Dec.no fun hh => h (bytes_iff.mpr hh.2.2.2.1)
    · exact Dec.no fun hh => h hh.2.2.1
    · exact Dec.no fun hh => h hh.2.1
    · exact Dec.no fun hh => h hh.1
def EqS (x : S43) : Prop := ∀ y : S43, Dec (fun k => ysameStmt.f k x.f0 x.f1 x.f2 x.f3 x.f4 y.f0 y.f1 y.f2 y.f3 y.f4) (x = y)
theorem eqT_l0 (l m : List S43) (hl : l.length ≤ maxN) (hm : m.length = l.length) (ih : ∀ x ∈ l, EqS x) : ∀ d i, i + d = l.length → Dec (fun k => api_Stmt.l0 k m l (l.length : Int) (i : Int)) (l.drop i = m.drop i)
  | 0, i, h => by
    refine Dec.succ ?_
    simp only [api_Stmt.l0]
    refine Dec.neg (by omega) (Dec.t (Ev.some _) ?_)
    rw [List.drop_eq_nil_of_le (by omega), List.drop_eq_nil_of_le (by omega)]
  | d + 1, i, h => by
    refine Dec.succ ?_
    have hi : i < l.length := by omega
    have hi' : i < m.length := by omega
    simp only [api_Stmt.l0, rd43 hi, rd43 hi', w1 hi hl]
    refine Dec.pos (by omega) (Dec.pos (by omega) (Dec.pos (by omega) (Dec.pos (by omega) ?_)))
    exact (Dec.and (ih _ (List.getElem_mem hi) (m[i]'hi')) (eqT_l0 l m hl hm ih d (i + 1) (by omega))).iff (drop_iff hi hi').symm
theorem eqT_list (l m : List S43) (hl : l.length ≤ maxN) (ih : ∀ x ∈ l, EqS x) : Dec (fun k => api_Stmt.f k l m) (l = m) := by
  refine Dec.succ ?_
  simp only [api_Stmt.f]
  exact Dec.ite (fun h => (eqT_l0 l m hl (by omega) ih l.length 0 (by omega)).iff (by simp)) fun h => Dec.no fun e => h (by rw [e])
theorem s43_iff (a b : S43) : a = b ↔ a.f0 = b.f0 ∧ a.f1 = b.f1 ∧ a.f2 = b.f2 ∧ a.f3 = b.f3 ∧ a.f4 = b.f4 := by cases a; cases b; simp
theorem eqS (x : S43) (hx : OkS x) : EqS x := by
  induction hx with
  | mk x hl hE ht hT hf hF ihT ihF =>
    intro y
    refine Dec.succ ?_
    simp only [ysameStmt.f]
    refine Dec.iff ?_ (s43_iff x y).symm
    refine Dec.ite (fun h0 => Dec.ite (fun h1 => ?_) fun h => ?_) fun h => ?_
    · exact (Dec.and (eqE_list x.f2 y.f2 hl fun z hz => eqE z (hE z hz)) (Dec.and (eqT_list x.f3 y.f3 ht ihT) (Dec.last (eqT_list x.f4 y.f4 hf ihF)))).iff (by simp [h0, bytes_iff.mp h1])
    · exact Dec.no fun hh => h (bytes_iff.mpr hh.2.1)
    · exact Dec.no fun hh => h hh.1
theorem s45_iff (a b : S45) : a = b ↔ a.f0 = b.f0 ∧ a.f3 = b.f3 ∧ a.f1 = b.f1 ∧ a.f2 = b.f2 ∧ a.f4 = b.f4 := by
  cases a; cases b; simp only [S45.mk.injEq]
  constructor
  · rintro ⟨h1, h2, h3, h4, h5⟩; exact ⟨h1, h4, h2, h3, h5⟩
  · rintro ⟨h1, h4, h2, h3, h5⟩; exact ⟨h1, h2, h3, h4, h5⟩
theorem eqF (x y : S45) (hx : OkF x) : Dec (fun k => ysameFunc.f k x.f0 x.f1 x.f2 x.f3 x.f4 y.f0 y.f1 y.f2 y.f3 y.f4) (x = y) := by
  unfold ysameFunc.f
  refine Dec.iff ?_ (s45_iff x y).symm
  refine Dec.ite (fun h0 => Dec.ite (fun h1 => ?_) fun h => ?_) fun h => ?_
  · exact (Dec.and (eqS_f x.f1 y.f1 (Nat.le_trans hx.params (by decide))) (Dec.and (eqS_f x.f2 y.f2 (Nat.le_trans hx.locals (by decide))) (Dec.last (eqT_list x.f4 y.f4 hx.body fun z hz => eqS z (hx.stmts z hz))))).iff (by simp [bytes_iff.mp h0, beq_iff_eq.mp h1])
  · exact Dec.no fun hh => h (by simp [hh.2.1])
  · exact Dec.no fun hh => h (bytes_iff.mpr hh.1)
theorem eqF_l0 (l m : List S45) (hl : l.length ≤ maxN) (hm : m.length = l.length) (ih : ∀ x ∈ l, OkF x) : ∀ d i, i + d = l.length → Dec (fun k => api_Func.l0 k m l (l.length : Int) (i : Int)) (l.drop i = m.drop i)
  | 0, i, h => by
    refine Dec.succ ?_
    simp only [api_Func.l0]
    refine Dec.neg (by omega) (Dec.t (Ev.some _) ?_)
    rw [List.drop_eq_nil_of_le (by omega), List.drop_eq_nil_of_le (by omega)]
  | d + 1, i, h => by
    refine Dec.succ ?_
    have hi : i < l.length := by omega
    have hi' : i < m.length := by omega
    simp only [api_Func.l0, rd45 hi, rd45 hi', w1 hi hl]
    refine Dec.pos (by omega) (Dec.pos (by omega) (Dec.pos (by omega) (Dec.pos (by omega) ?_)))
    exact (Dec.and (eqF (l[i]'hi) (m[i]'hi') (ih _ (List.getElem_mem hi))) (eqF_l0 l m hl hm ih d (i + 1) (by omega))).iff (drop_iff hi hi').symm
theorem eqF_f (l m : List S45) (hl : l.length ≤ maxN) (ih : ∀ x ∈ l, OkF x) : Dec (fun k => api_Func.f k l m) (l = m) := by
  unfold api_Func.f
  exact Dec.ite (fun h => (eqF_l0 l m hl (by omega) ih l.length 0 (by omega)).iff (by simp)) fun h => Dec.no fun e => h (by rw [e])
theorem same_f {v : List ByteArray} {a : List S59} {f : List S45} (hp : OkP v a f) (v' : List ByteArray) (a' : List S59) (f' : List S45) : Dec (fun k => ySame.f k v a f v' a' f') (v = v' ∧ a = a' ∧ f = f') := by
  unfold ySame.f
  exact Dec.and (eqS_f v v' (Nat.le_trans hp.nvars (by decide))) (Dec.and (eqA_f a a' (Nat.le_trans hp.narrs (by decide))) (Dec.last (eqF_f f f' (Nat.le_trans hp.nfuncs (by decide)) hp.each)))
theorem systemPrinted {v : List ByteArray} {a : List S59} {f : List S45} {v' : List ByteArray} {a' : List S59} {f' : List S45} (hp : OkP v a f) (hq : OkP v' a' f') : ∃ k, tSystemPrinted.f k v a f v' a' f' = some true := by
  suffices h : Ev (fun k => tSystemPrinted.f k v a f v' a' f') true from h.at
  unfold tSystemPrinted.f
  have out : Ev (fun k => tSystemPrinted.j0 k true v a f v' a' f') true := by
    refine Ev.succ ?_
    simp only [tSystemPrinted.j0]
    exact Ev.pos (by simp) (Ev.some _)
  obtain ⟨b, hb, h1⟩ := small_f hp
  cases b with
  | false => exact hb.bind (Ev.neg (by decide) out)
  | true =>
    obtain ⟨b', hb', h2⟩ := small_f hq
    refine hb.bind (Ev.pos rfl (hb'.bind ?_))
    cases b' with
    | false => exact out
    | true =>
      obtain ⟨r1, c1⟩ := h1 rfl
      obtain ⟨r2, c2⟩ := h2 rfl
      obtain ⟨s, hs, hi⟩ := same_f hp v' a' f'
      refine Ev.succ ?_
      simp only [tSystemPrinted.j0]
      refine Ev.neg (by decide) ((print_ev r1 c1).bind ((print_ev r2 c2).bind (hs.bind ((Ev.some _).cast ?_))))
      have key : (T (progX v a f)).toList = (T (progX v' a' f')).toList ↔ s = true := by
        rw [hi, bytes_iff]
        constructor
        · intro e
          have e2 : progX v a f = progX v' a' f' := by rw [← B_T (progX v a f), e, B_T]
          exact prog_dec r1 r2 e2
        · rintro ⟨rfl, rfl, rfl⟩
          rfl
      cases s with
      | true =>
        have := key.mpr rfl
        simp [this]
      | false =>
        have : ¬ _ := fun h => by have := key.mp h; cases this
        simp [this]
section
variable {H : Type} {enc : TypeId × Value → H} {W : World}
def W9 (t : TypeId) (d : DataW H) : Prop := ∀ q ∈ d.weights Tryd.prog t, q ≤ reachBytes
def Opens {α : Type} (enc : TypeId × Value → H) (W : World) (n : Nat) (t : TypeId) (d : Kd α) (ok : α → Prop) : Prop :=
  ∀ m, m < n → ∀ cs x, DataW.trod enc Tryd.prog W 0 (fun _ => true) true m t cs = some x → W9 t x.1 → ∃ v, d.K W v cs ∧ ok v
theorem weights_all {P : Program} {e : TypeId} {l : List (DataW H)} {i : Nat} {d : DataW H} (h : l[i]? = some d) : ∀ q ∈ d.weights P e, q ∈ DataW.weightsAll P e l := by
  induction l generalizing i with
  | nil => simp at h
  | cons a l ih =>
    intro q hq
    simp only [DataW.weightsAll, List.mem_append]
    cases i with
    | zero => simp at h; subst h; exact .inl hq
    | succ i => exact .inr (ih (by simpa using h) q hq)
theorem open_sl {α : Type} {n : Nat} {st e : TypeId} {d : Kd α} {ok : α → Prop} (hst : Tryd.prog.underlying st = some (.slice e)) (hsz : Tryd.prog.cellsOf e = d.sz) (he : Opens enc W n e d ok)
    {cs : List Value} {x : DataW H × List MemPlace} {m : Nat} (hm : m < n + 1) (h : DataW.trod enc Tryd.prog W 0 (fun _ => true) true m st cs = some x) (hw : W9 st x.1) :
    ∃ A c, ∃ l : List α, cs = [.slice A l.length c] ∧ l.length ≤ c ∧ Kd.C d W A l.length l ∧ (∀ v ∈ l, ok v) ∧ l.length * Tryd.prog.bytesOf e ≤ reachBytes := by
  rcases DataW.trod_slice hst h with ⟨rfl, _⟩ | ⟨a, len, cap, elems, rest, k, hk, rfl, rfl, _, hl, hmx, hel, hget, _, _⟩
  · exact ⟨none, 0, [], rfl, Nat.le_refl _, Kd.C_nil d W, by simp, by simp⟩
  · have hwt : (elems.length + rest.length) * Tryd.prog.bytesOf e ≤ reachBytes := by
      have := hw ((elems.length + rest.length) * Tryd.prog.bytesOf e) (by simp [DataW.weights, hst])
      exact this
    have each : ∀ i : Fin len, ∃ v : α, (∃ c, W.cells? 0 (a.add (i.1 * Tryd.prog.cellsOf e)) (Tryd.prog.cellsOf e) = some c ∧ d.K W v c) ∧ ok v := fun i => by
      have h1 := hget i.1 i.2
      have hlt : i.1 < elems.length := by rw [hel]; exact i.2
      rw [List.getElem?_eq_getElem hlt, Option.bind_eq_some_iff] at h1
      obtain ⟨c, hc, hy⟩ := h1
      obtain ⟨v, hv, ho⟩ := he k (by omega) c _ hy (fun q hq => hw q (by
        simp only [DataW.weights, hst, List.mem_cons, List.mem_append]
        exact .inr (.inl (weights_all (i := i.1) (by simp [hlt]) q hq))))
      exact ⟨v, ⟨c, hc, hv⟩, ho⟩
    refine ⟨some a, cap, List.ofFn fun i => (each i).choose, by simp, by simpa using hl, ⟨rfl, by have : cap ≤ 9223372036854775807 := hmx; simp; omega, fun _ => ⟨a, rfl, fun j p hj => ?_⟩⟩, ?_, ?_⟩
    · obtain ⟨hj', hp⟩ := List.getElem?_eq_some_iff.mp hj
      rw [List.length_ofFn] at hj'
      rw [List.getElem_ofFn] at hp
      obtain ⟨⟨c, hc, hv⟩, _⟩ := (each ⟨j, hj'⟩).choose_spec
      rw [hp] at hv
      obtain ⟨_, hcl, hcc⟩ := World.cells?_some hc
      refine ⟨c, d.K_len hv, hv, fun i u hu => ?_⟩
      have hi : i < c.length := (List.getElem?_eq_some_iff.mp hu).1
      rw [← hu, ← hcc i (by omega), Addr.add_add, hsz]
    · intro v hv
      obtain ⟨i, hi, rfl⟩ := List.getElem_of_mem hv
      rw [List.getElem_ofFn]
      exact (each _).choose_spec.2
    · rw [List.length_ofFn, ← hel]
      exact Nat.le_trans (Nat.mul_le_mul_right _ (Nat.le_add_right _ _)) hwt
theorem weights_each {P : Program} : ∀ {ts : List TypeId} {ds : List (DataW H)} {i : Nat} {t : TypeId} {d : DataW H}, ts[i]? = some t → ds[i]? = some d → ∀ q ∈ d.weights P t, q ∈ DataW.weightsEach P ts ds :=
  fun ht hd q hq => DataW.weights_mem_each ht hd q hq
theorem cells_len {m : Nat} {t : TypeId} {fs : Array Field} {cs : List Value} {x : DataW H × List MemPlace} (ht : Tryd.prog.underlying t = some (.struct fs)) (h : DataW.trod enc Tryd.prog W 0 (fun _ => true) true m t cs = some x) : cs.length = Tryd.prog.cellsOf t := by
  obtain ⟨xs, k, hk, rfl, hl, hx, hf⟩ := DataW.trod_struct ht h
  exact hl
theorem field {n m : Nat} {t : TypeId} {fs : Array Field} {cs : List Value} {x : DataW H × List MemPlace} (ht : Tryd.prog.underlying t = some (.struct fs)) (h : DataW.trod enc Tryd.prog W 0 (fun _ => true) true m t cs = some x) (hw : W9 t x.1) (hm : m < n + 1)
    (i u o z : Nat) (hi : (fs[i]?).map (fun f => (f.type, f.offset)) = some (u, o)) (hz : Tryd.prog.cellsOf u = z) : ∃ k y, k < n ∧ DataW.trod enc Tryd.prog W 0 (fun _ => true) true k u ((cs.drop o).take z) = some y ∧ W9 u y.1 := by
  obtain ⟨xs, k, hk, rfl, hl, hx, hf⟩ := DataW.trod_struct ht h
  obtain ⟨f, hif, he⟩ := Option.map_eq_some_iff.mp hi
  clear hi
  cases he
  subst hz
  have h1 := hf i f hif
  have hlt : i < xs.length := by rw [hx]; exact (Array.getElem?_eq_some_iff.mp hif).1
  rw [List.getElem?_eq_getElem hlt] at h1
  refine ⟨k, _, by omega, h1, fun q hq => hw q ?_⟩
  simp only [DataW.weights, ht]
  exact weights_each (i := i) (by simp [hif]) (by simp [hlt]) q hq
theorem openStr (n : Nat) : Opens enc W n 9 Kd.string (fun _ => True) := fun m _ cs x h _ => by
  obtain ⟨s, rfl, _⟩ := DataW.trod_string Tryd.underlying9 h
  exact ⟨s, rfl, trivial⟩
set_option maxRecDepth 100000 in
theorem openE : ∀ n, Opens enc W n 36 k36 OkE
  | 0 => fun m hm => absurd hm (Nat.not_lt_zero m)
  | n + 1 => fun m hm cs x h hw => by
    have hl := cells_len Tryd.underlying36 h
    rw [show Tryd.prog.cellsOf 36 = 5 by kernel_rfl] at hl
    match cs, hl with
    | [c0, c1, c2, c3, c4], _ =>
      obtain ⟨_, _, _, h0, _⟩ := field (n := n) Tryd.underlying36 h hw hm 0 3 0 1 rfl (by kernel_rfl)
      obtain ⟨_, _, _, h1, _⟩ := field (n := n) Tryd.underlying36 h hw hm 1 3 1 1 rfl (by kernel_rfl)
      obtain ⟨_, _, _, h2, _⟩ := field (n := n) Tryd.underlying36 h hw hm 2 33 2 1 rfl (by kernel_rfl)
      obtain ⟨_, _, _, h3, _⟩ := field (n := n) Tryd.underlying36 h hw hm 3 9 3 1 rfl (by kernel_rfl)
      obtain ⟨_, _, k4_, h4, w4⟩ := field (n := n) Tryd.underlying36 h hw hm 4 34 4 1 rfl (by kernel_rfl)
      simp only [List.drop_zero, List.drop_succ_cons, List.take_succ_cons, List.take_zero] at h0 h1 h2 h3 h4
      obtain ⟨f0, e0, _, _⟩ := DataW.trod_int Tryd.underlying3 h0
      obtain ⟨f1, e1, _, _⟩ := DataW.trod_int Tryd.underlying3 h1
      obtain ⟨f2, e2, _, wf⟩ := DataW.trod_int Tryd.underlying33 h2
      obtain ⟨f3, e3, _, _⟩ := DataW.trod_string Tryd.underlying9 h3
      obtain ⟨A, c, l, e4, hlc, hC, hok, _⟩ := open_sl (n := n) Tryd.underlying34 (show Tryd.prog.cellsOf 36 = k36.sz by kernel_rfl) (openE n) (Nat.lt_succ_of_lt k4_) h4 w4
      simp only [List.cons.injEq, and_true] at e0 e1 e2 e3 e4
      subst e0 e1 e2 e3 e4
      refine ⟨⟨f0, f1, f2, f3, l⟩, k36_mk W ⟨f0, f1, f2, f3, l⟩ hlc hC, .mk _ ?_ ?_ (Kd.C_max hC) hok⟩
      · have m0 : IntKind.u32.min = 0 := by decide
        simp [Lit.wf] at wf; show 0 ≤ f2; omega
      · have m1 : IntKind.u32.max = 4294967295 := by decide
        simp [Lit.wf] at wf; show f2 < _; omega
set_option maxRecDepth 100000 in
theorem openS : ∀ n, Opens enc W n 43 k43 OkS
  | 0 => fun m hm => absurd hm (Nat.not_lt_zero m)
  | n + 1 => fun m hm cs x h hw => by
    have hl := cells_len Tryd.underlying43 h
    rw [show Tryd.prog.cellsOf 43 = 5 by kernel_rfl] at hl
    match cs, hl with
    | [c0, c1, c2, c3, c4], _ =>
      obtain ⟨_, _, _, h0, _⟩ := field (n := n) Tryd.underlying43 h hw hm 0 3 0 1 rfl (by kernel_rfl)
      obtain ⟨_, _, _, h1, _⟩ := field (n := n) Tryd.underlying43 h hw hm 1 9 1 1 rfl (by kernel_rfl)
      obtain ⟨_, _, k2_, h2, w2⟩ := field (n := n) Tryd.underlying43 h hw hm 2 34 2 1 rfl (by kernel_rfl)
      obtain ⟨_, _, k3_, h3, w3⟩ := field (n := n) Tryd.underlying43 h hw hm 3 41 3 1 rfl (by kernel_rfl)
      obtain ⟨_, _, k4_, h4, w4⟩ := field (n := n) Tryd.underlying43 h hw hm 4 41 4 1 rfl (by kernel_rfl)
      simp only [List.drop_zero, List.drop_succ_cons, List.take_succ_cons, List.take_zero] at h0 h1 h2 h3 h4
      obtain ⟨f0, e0, _, _⟩ := DataW.trod_int Tryd.underlying3 h0
      obtain ⟨f1, e1, _, _⟩ := DataW.trod_string Tryd.underlying9 h1
      obtain ⟨A2, c2', l2, e2, hlc2, hC2, hok2, _⟩ := open_sl (n := n) Tryd.underlying34 (show Tryd.prog.cellsOf 36 = k36.sz by kernel_rfl) (openE n) (Nat.lt_succ_of_lt k2_) h2 w2
      obtain ⟨A3, c3', l3, e3, hlc3, hC3, hok3, _⟩ := open_sl (n := n) Tryd.underlying41 (show Tryd.prog.cellsOf 43 = k43.sz by kernel_rfl) (openS n) (Nat.lt_succ_of_lt k3_) h3 w3
      obtain ⟨A4, c4', l4, e4, hlc4, hC4, hok4, _⟩ := open_sl (n := n) Tryd.underlying41 (show Tryd.prog.cellsOf 43 = k43.sz by kernel_rfl) (openS n) (Nat.lt_succ_of_lt k4_) h4 w4
      simp only [List.cons.injEq, and_true] at e0 e1 e2 e3 e4
      subst e0 e1 e2 e3 e4
      exact ⟨⟨f0, f1, l2, l3, l4⟩, k43_mk W ⟨f0, f1, l2, l3, l4⟩ hlc2 hC2 hlc3 hC3 hlc4 hC4, .mk _ (Kd.C_max hC2) hok2 (Kd.C_max hC3) hok3 (Kd.C_max hC4) hok4⟩
set_option maxRecDepth 100000 in
theorem openA (n : Nat) : Opens enc W n 59 k59 (fun _ => True) := fun m hm cs x h hw => by
    have hl := cells_len Tryd.underlying59 h
    rw [show Tryd.prog.cellsOf 59 = 2 by kernel_rfl] at hl
    match cs, hl with
    | [c0, c1], _ =>
      obtain ⟨_, _, _, h0, _⟩ := field (n := n) Tryd.underlying59 h hw (by omega) 0 9 0 1 rfl (by kernel_rfl)
      obtain ⟨_, _, _, h1, _⟩ := field (n := n) Tryd.underlying59 h hw (by omega) 1 3 1 1 rfl (by kernel_rfl)
      simp only [List.drop_zero, List.drop_succ_cons, List.take_succ_cons, List.take_zero] at h0 h1
      obtain ⟨f0, e0, _, _⟩ := DataW.trod_string Tryd.underlying9 h0
      obtain ⟨f1, e1, _, _⟩ := DataW.trod_int Tryd.underlying3 h1
      simp only [List.cons.injEq, and_true] at e0 e1
      subst e0 e1
      exact ⟨⟨f0, f1⟩, k59_mk W ⟨f0, f1⟩, trivial⟩
set_option maxRecDepth 100000 in
theorem openF (n : Nat) : Opens enc W n 45 k45 OkF := fun m hm cs x h hw => by
    have hl := cells_len Tryd.underlying45 h
    rw [show Tryd.prog.cellsOf 45 = 5 by kernel_rfl] at hl
    match cs, hl with
    | [c0, c1, c2, c3, c4], _ =>
      obtain ⟨_, _, _, h0, _⟩ := field (n := n) Tryd.underlying45 h hw (by omega) 0 9 0 1 rfl (by kernel_rfl)
      obtain ⟨_, _, k1_, h1, w1⟩ := field (n := n) Tryd.underlying45 h hw (by omega) 1 22 1 1 rfl (by kernel_rfl)
      obtain ⟨_, _, k2_, h2, w2⟩ := field (n := n) Tryd.underlying45 h hw (by omega) 2 22 2 1 rfl (by kernel_rfl)
      obtain ⟨_, _, _, h3, _⟩ := field (n := n) Tryd.underlying45 h hw (by omega) 3 4 3 1 rfl (by kernel_rfl)
      obtain ⟨_, _, k4_, h4, w4⟩ := field (n := n) Tryd.underlying45 h hw (by omega) 4 41 4 1 rfl (by kernel_rfl)
      simp only [List.drop_zero, List.drop_succ_cons, List.take_succ_cons, List.take_zero] at h0 h1 h2 h3 h4
      obtain ⟨f0, e0, _, _⟩ := DataW.trod_string Tryd.underlying9 h0
      obtain ⟨A1, c1', l1, e1, hlc1, hC1, _, q1⟩ := open_sl (n := n) Tryd.underlying22 (show Tryd.prog.cellsOf 9 = Kd.string.sz by kernel_rfl) (openStr n) (Nat.lt_succ_of_lt k1_) h1 w1
      obtain ⟨A2, c2', l2, e2, hlc2, hC2, _, q2⟩ := open_sl (n := n) Tryd.underlying22 (show Tryd.prog.cellsOf 9 = Kd.string.sz by kernel_rfl) (openStr n) (Nat.lt_succ_of_lt k2_) h2 w2
      obtain ⟨f3, e3, _⟩ := DataW.trod_bool Tryd.underlying4 h3
      obtain ⟨A4, c4', l4, e4, hlc4, hC4, hok4, _⟩ := open_sl (n := n) Tryd.underlying41 (show Tryd.prog.cellsOf 43 = k43.sz by kernel_rfl) (openS n) (Nat.lt_succ_of_lt k4_) h4 w4
      simp only [List.cons.injEq, and_true] at e0 e1 e2 e3 e4
      subst e0 e1 e2 e3 e4
      rw [show Tryd.prog.bytesOf 9 = 16 by kernel_rfl] at q1 q2
      unfold reachBytes at q1 q2
      exact ⟨⟨f0, l1, l2, f3, l4⟩, k45_mk W ⟨f0, l1, l2, f3, l4⟩ hlc1 hC1 hlc2 hC2 hlc4 hC4, ⟨by show l1.length ≤ _; omega, by show l2.length ≤ _; omega, Kd.C_max hC4, hok4⟩⟩
set_option maxRecDepth 100000 in
theorem openP {v : Value} {d : DataW H} {ps : List MemPlace} (h : DataW.Trod enc Tryd.prog W 0 (fun _ => true) true 26 v d ps) (hw : W9 26 d) :
    ∃ A0 c0 l0 A1 c1 l1 A2 c2 l2, v = .agg #[.slice A0 (List.length l0) c0, .slice A1 (List.length l1) c1, .slice A2 (List.length l2) c2] ∧ l0.length ≤ c0 ∧ Kd.C Kd.string W A0 l0.length l0 ∧ l1.length ≤ c1 ∧ Kd.C k59 W A1 l1.length l1 ∧ l2.length ≤ c2 ∧ Kd.C k45 W A2 l2.length l2 ∧ OkP l0 l1 l2 := by
  obtain ⟨m, h⟩ := h
  have hl := cells_len Tryd.underlying26 h
  rw [show Tryd.prog.cellsOf 26 = 3 by kernel_rfl] at hl
  obtain ⟨_, _, k0_, h0, w0⟩ := field (n := m) Tryd.underlying26 h hw (by omega) 0 22 0 1 rfl (by kernel_rfl)
  obtain ⟨_, _, k1_, h1, w1⟩ := field (n := m) Tryd.underlying26 h hw (by omega) 1 23 1 1 rfl (by kernel_rfl)
  obtain ⟨_, _, k2_, h2, w2⟩ := field (n := m) Tryd.underlying26 h hw (by omega) 2 24 2 1 rfl (by kernel_rfl)
  have hv : ∃ cs : Array Value, v = .agg cs := by
    cases v <;> simp [Value.cells] at hl
    exact ⟨_, rfl⟩
  obtain ⟨cs, rfl⟩ := hv
  simp only [Value.cells] at hl h0 h1 h2
  obtain ⟨cs⟩ := cs
  match cs, hl with
  | [c0, c1, c2], _ =>
    simp only [List.drop_zero, List.drop_succ_cons, List.take_succ_cons, List.take_zero] at h0 h1 h2
    obtain ⟨A0, n0, l0, e0, hlc0, hC0, _, q0⟩ := open_sl (n := m) Tryd.underlying22 (show Tryd.prog.cellsOf 9 = Kd.string.sz by kernel_rfl) (openStr m) (Nat.lt_succ_of_lt k0_) h0 w0
    obtain ⟨A1, n1, l1, e1, hlc1, hC1, _, q1⟩ := open_sl (n := m) Tryd.underlying23 (show Tryd.prog.cellsOf 59 = k59.sz by kernel_rfl) (openA m) (Nat.lt_succ_of_lt k1_) h1 w1
    obtain ⟨A2, n2, l2, e2, hlc2, hC2, hok, q2⟩ := open_sl (n := m) Tryd.underlying24 (show Tryd.prog.cellsOf 45 = k45.sz by kernel_rfl) (openF m) (Nat.lt_succ_of_lt k2_) h2 w2
    simp only [List.cons.injEq, and_true] at e0 e1 e2
    subst e0 e1 e2
    have b1 : 1 ≤ Tryd.prog.bytesOf 59 := of_decide_eq_true (by kernel_rfl)
    have b2 : 1 ≤ Tryd.prog.bytesOf 45 := of_decide_eq_true (by kernel_rfl)
    rw [show Tryd.prog.bytesOf 9 = 16 by kernel_rfl] at q0
    have g1 := Nat.le_trans (Nat.le_mul_of_pos_right l1.length b1) q1
    have g2 := Nat.le_trans (Nat.le_mul_of_pos_right l2.length b2) q2
    unfold reachBytes at q0 g1 g2
    exact ⟨A0, n0, l0, A1, n1, l1, A2, n2, l2, rfl, hlc0, hC0, hlc1, hC1, hlc2, hC2, ⟨by omega, by omega, by omega, hok⟩⟩
end

end Go.Proofs.YthnhdompfhkepaaDoor.Pure
