/- Trees that may be, of a level: said of the tree alone. -/
import Derived.Test.YthnhdompfhkepaaDoorC0
namespace Go.Proofs.YthnhdompfhkepaaDoor.Pure
open Go Go.RowKit Go.Proofs.YthnhdompfhkepaaDoor.Q Go.Proofs.YthnhdompfhkepaaDoorW.PrintWords Go.Proofs.YthnhdompfhkepaaDoorW.PrintMore
def nmE (f0 : Int) (f3 : ByteArray) : Prop := ((f0 = 2 ∨ f0 = 3 ∨ f0 = 4) ∧ NameOk f3) ∨ (¬ (f0 = 2 ∨ f0 = 3 ∨ f0 = 4) ∧ f3 = noName)
def arE (f0 f1 : Int) (n : Nat) : Prop := (f0 = 1 ∨ f0 = 2 ∨ f0 = 5) ∧ n = 0 ∨ (f0 = 3 ∨ f0 = 7) ∧ n = 1 ∨ f0 = 4 ∧ n ≤ 6 ∨ f0 = 6 ∧ 4 ≤ f1 ∧ f1 ≤ 15 ∧ n = 2 ∨ (f0 = 8 ∨ f0 = 9) ∧ n = 2
def FormE (f0 f1 f2 : Int) (f3 : ByteArray) (n : Nat) : Prop := (f0 = 1 ∨ f2 = 0) ∧ (f0 = 6 ∨ f1 = 0) ∧ nmE f0 f3 ∧ arE f0 f1 n
theorem noName_iff (s : ByteArray) : s = noName ↔ s.toList.isEmpty = true := by
  constructor
  · rintro rfl; rw [ByteArray.toList_eq]; rfl
  · intro h; exact bytes_ext (by rw [List.isEmpty_iff.mp h, ByteArray.toList_eq]; rfl)
def nmS (f0 : Int) (f1 : ByteArray) : Prop := ((f0 = 1 ∨ f0 = 2 ∨ f0 = 6) ∧ NameOk f1) ∨ (¬ (f0 = 1 ∨ f0 = 2 ∨ f0 = 6) ∧ f1 = noName)
def arS (f0 : Int) (n : Nat) : Prop := (f0 = 1 ∨ f0 = 3 ∨ f0 = 4 ∨ f0 = 5) ∧ n = 1 ∨ f0 = 2 ∧ n = 2 ∨ f0 = 6 ∧ n ≤ 6 ∨ f0 = 7 ∧ n ≤ 1
def FormS (f0 : Int) (f1 : ByteArray) (n2 n3 n4 : Nat) : Prop := (f0 = 4 ∨ n4 = 0) ∧ (f0 = 4 ∨ f0 = 5 ∨ n3 = 0) ∧ nmS f0 f1 ∧ arS f0 n2
mutual
def GE : S36 → Int → Prop
  | ⟨f0, f1, f2, f3, l⟩, lv => lv ≤ 24 ∧ FormE f0 f1 f2 f3 l.length ∧ GEs l (lv + 1)
def GEs : List S36 → Int → Prop
  | [], _ => True
  | x :: l, lv => GE x lv ∧ GEs l lv
end
mutual
def GS : S43 → Int → Prop
  | ⟨f0, f1, e, t, f⟩, lv => lv ≤ 24 ∧ FormS f0 f1 e.length t.length f.length ∧ GEs e (lv + 1) ∧ GSs t (lv + 1) ∧ GSs f (lv + 1)
def GSs : List S43 → Int → Prop
  | [], _ => True
  | x :: l, lv => GS x lv ∧ GSs l lv
end
structure GF (f : S45) : Prop where
  name : NameOk f.f0
  nparams : f.f1.length ≤ 6
  params : ∀ s ∈ f.f1, NameOk s
  locals : ∀ s ∈ f.f2, NameOk s
  body : GSs f.f4 1
structure GP (v : List ByteArray) (a : List S59) (f : List S45) : Prop where
  vars : ∀ s ∈ v, NameOk s
  arrs : ∀ x ∈ a, NameOk x.f0 ∧ 1 ≤ x.f1 ∧ x.f1 ≤ 4096
  some : 1 ≤ f.length
  few : f.length ≤ 64
  funcs : ∀ x ∈ f, GF x
theorem GE_eq (x : S36) (lv : Int) : GE x lv ↔ lv ≤ 24 ∧ FormE x.f0 x.f1 x.f2 x.f3 x.f4.length ∧ GEs x.f4 (lv + 1) := by cases x; simp only [GE]
theorem GS_eq (x : S43) (lv : Int) : GS x lv ↔ lv ≤ 24 ∧ FormS x.f0 x.f1 x.f2.length x.f3.length x.f4.length ∧ GEs x.f2 (lv + 1) ∧ GSs x.f3 (lv + 1) ∧ GSs x.f4 (lv + 1) := by cases x; simp only [GS]
theorem GEs_iff (l : List S36) (lv : Int) : GEs l lv ↔ ∀ x ∈ l, GE x lv := by
  induction l with
  | nil => simp [GEs]
  | cons a l ih => simp [GEs, ih]
theorem GSs_iff (l : List S43) (lv : Int) : GSs l lv ↔ ∀ x ∈ l, GS x lv := by
  induction l with
  | nil => simp [GSs]
  | cons a l ih => simp [GSs, ih]
theorem GEs_nil (lv : Int) : GEs [] lv = True := by simp [GEs]
theorem GSs_nil (lv : Int) : GSs [] lv = True := by simp [GSs]
theorem nameNe {s : ByteArray} (h : NameOk s) : ¬ s.toList = [] := by
  obtain ⟨c, l, hl, _⟩ := h.head
  rw [ByteArray.toList_eq, hl]
  simp
end Go.Proofs.YthnhdompfhkepaaDoor.Pure
