/- Plain laws of hex texts: digits, what is loaded, what is parsed, and that the program's and the document's functions do that; no Go text in sight but the printed functions. -/
import Derived.Test.YtllnaagddpfclaaDoorQx4
import Derived.Test.YtllnaagddpfclaaDoorTexts
import Derived.Laws.BitsLemmas
namespace Go.Proofs.YtllnaagddpfclaaDoor.Hex
open Go Go.RowKit Go.Proofs.YtllnaagddpfclaaDoor Go.Proofs.YtllnaagddpfclaaDoor.Q Go.Proofs.YtllnaagddpfclaaDoor.Texts Go.Proofs.YtllnaagddpfclaaDoorW.PrintWords Go.Proofs.YtllnaagddpfclaaDoorW.PrintLast Go.Proofs.YtllnaagddpfclaaDoorW.PrintMore

theorem awake_40 : seedcornlaw02_awake.f 40 = some true := by decide +kernel
theorem awake_ev : Ev (fun k => seedcornlaw02_awake.f k) true :=
  ⟨40, fun _ h => at_rounds (g := fun k => seedcornlaw02_awake.f k) (fun k => seedcornlaw02_awake.mono k) h awake_40⟩

/-- A digit's value; 255: it is none. -/
def valD (c : Int) : Int := if 48 ≤ c ∧ c ≤ 57 then c - 48 else if 97 ≤ c ∧ c ≤ 102 then c - 87 else if 65 ≤ c ∧ c ≤ 70 then c - 55 else 255
theorem valD_range (c : Int) : (0 ≤ valD c ∧ valD c ≤ 15) ∨ valD c = 255 := by 
  unfold valD
  repeat' split
  all_goals omega
theorem value_ev (c : Int) (h0 : 0 ≤ c) (h1 : c < 256) (k : Nat) : hex_value.f (k + 2) c = some (valD c) := by
  unfold hex_value.f valD
  by_cases a : 48 ≤ c
  · rw [if_pos (show c ≥ 48 from a)]
    by_cases b : c ≤ 57
    · rw [if_pos ⟨a, b⟩, decide_eq_true b]
      simp only [hex_value.j0, if_true]
      congr 1; omega
    · rw [if_neg (by omega), decide_eq_false b]
      simp only [hex_value.j0, Bool.false_eq_true, if_false]
      by_cases d : 97 ≤ c
      · rw [if_pos (show c ≥ 97 from d)]
        by_cases e : c ≤ 102
        · rw [if_pos ⟨d, e⟩, decide_eq_true e]
          simp only [hex_value.j1, if_true]
          congr 1; omega
        · rw [if_neg (by omega), if_neg (by omega), decide_eq_false e]
          simp only [hex_value.j1, Bool.false_eq_true, if_false]
          rw [if_pos (by omega), if_neg (by omega)]
      · rw [if_neg (show ¬ c ≥ 97 from d), if_neg (by omega)]
        simp only [hex_value.j1, Bool.false_eq_true, if_false]
        by_cases f : 65 ≤ c ∧ c ≤ 70
        · rw [if_pos f, if_pos (by omega), if_pos (by omega)]
          congr 1; omega
        · rw [if_neg f]
          by_cases g : c ≥ 65
          · rw [if_pos g, if_neg (by omega)]
          · rw [if_neg g]
  · rw [if_neg (show ¬ c ≥ 48 from a), if_neg (by omega), if_neg (by omega), if_neg (by omega)]
    simp only [hex_value.j0, hex_value.j1, Bool.false_eq_true, if_false]
    rw [if_neg (by omega), if_neg (by omega)]

/-- What is loaded of bytes; h: a digit that waits; r: within a comment. -/
def loadS : List Int → Option Int → Bool → List Int
  | [], _, _ => []
  | c :: l, h, r => if c = 10 then loadS l h false else if r = true then loadS l h true else if c = 35 then loadS l h true else if valD c = 255 then loadS l h false else match h with
    | some d => (16 * d + valD c) :: loadS l none false
    | none => loadS l (some (valD c)) false
/-- .. and what stands behind them. -/
def stS : List Int → Option Int → Bool → Option Int × Bool
  | [], h, r => (h, r)
  | c :: l, h, r => if c = 10 then stS l h false else if r = true then stS l h true else if c = 35 then stS l h true else if valD c = 255 then stS l h false else match h with
    | some _ => stS l none false
    | none => stS l (some (valD c)) false
theorem load_append (l m : List Int) (h : Option Int) (r : Bool) : loadS (l ++ m) h r = loadS l h r ++ loadS m (stS l h r).1 (stS l h r).2 := by
  induction l generalizing h r with
  | nil => rfl
  | cons c l ih =>
    simp only [List.cons_append, loadS, stS]
    by_cases h1 : c = 10
    · simp only [if_pos h1, ih]
    simp only [if_neg h1]
    by_cases h2 : r = true
    · simp only [if_pos h2, ih]
    simp only [if_neg h2]
    by_cases h3 : c = 35
    · simp only [if_pos h3, ih]
    simp only [if_neg h3]
    by_cases h4 : valD c = 255
    · simp only [if_pos h4, ih]
    simp only [if_neg h4]
    cases h with
    | none => simp only [ih]
    | some d => simp only [ih, List.cons_append]
theorem st_append (l m : List Int) (h : Option Int) (r : Bool) : stS (l ++ m) h r = stS m (stS l h r).1 (stS l h r).2 := by
  induction l generalizing h r with
  | nil => rfl
  | cons c l ih =>
    simp only [List.cons_append, stS]
    by_cases h1 : c = 10
    · simp only [if_pos h1, ih]
    simp only [if_neg h1]
    by_cases h2 : r = true
    · simp only [if_pos h2, ih]
    simp only [if_neg h2]
    by_cases h3 : c = 35
    · simp only [if_pos h3, ih]
    simp only [if_neg h3]
    by_cases h4 : valD c = 255
    · simp only [if_pos h4, ih]
    simp only [if_neg h4]
    cases h with
    | none => simp only [ih]
    | some d => simp only [ih]
theorem load_len (l : List Int) (h : Option Int) (r : Bool) : 2 * (loadS l h r).length ≤ l.length + (if h.isSome then 1 else 0) := by
  induction l generalizing h r with
  | nil => simp [loadS]
  | cons c l ih =>
    simp only [loadS]
    split
    · have := ih h false; simp only [List.length_cons]; omega
    split
    · have := ih h true; simp only [List.length_cons]; omega
    split
    · have := ih h true; simp only [List.length_cons]; omega
    split
    · have := ih h false; simp only [List.length_cons]; omega
    cases h with
    | none => have := ih (some (valD c)) false; simp only [List.length_cons, Option.isSome_some, if_true, Option.isSome_none, Bool.false_eq_true, if_false] at this ⊢; omega
    | some d => have := ih none false; simp only [List.length_cons, Option.isSome_some, if_true, Option.isSome_none, Bool.false_eq_true, if_false] at this ⊢; omega
theorem or_u8 (d v : Int) (d0 : 0 ≤ d) (d1 : d ≤ 15) (v0 : 0 ≤ v) (v1 : v ≤ 15) : Go.bits .or .u8 ((d * 16) % 256) v = 16 * d + v := by
  rw [bits_join .u8 8 (by decide) (fun n g0 g1 => by rw [IntKind.wrap_u8]; omega) 4 ((d * 16) % 256) v (by omega) (by omega) (by omega) v0 (by omega) (by omega)]
  omega
theorem load_loop (s : ByteArray) (hs : s.size ≤ 1000000) (n : Nat) : ∀ (i : Nat) (acc : List Int) (hi : Int) (half rem : Bool), i + n = s.size → acc.length ≤ i → (half = true → 0 ≤ hi ∧ hi ≤ 15) →
    Ev (fun k => hex_Load.l0 k s acc hi half rem (s.size : Int) (i : Int)) (strOfNums (acc ++ loadS ((bytesOf s).drop i) (if half = true then some hi else none) rem)) := by
  induction n with
  | zero =>
    intro i acc hi half rem hin _ _
    rw [List.drop_of_length_le (by rw [← size_len]; omega)]
    simp only [loadS, List.append_nil]
    refine Ev.step (f := fun _ => some (strOfNums acc)) (fun k => ?_) (Ev.now _)
    simp only [hex_Load.l0]
    rw [if_neg (by omega)]
  | succ n ih =>
    intro i acc hi half rem hin ha hh
    have hw : wrap64 ((i : Int) + 1) = ((i + 1 : Nat) : Int) := by unfold wrap64; omega
    obtain ⟨b0, b1⟩ := bt_range s (i : Int)
    have hv := valD_range (bt s (i : Int))
    rw [drop_bt s i (by omega)]
    simp only [loadS]
    refine Ev.step (f := fun k => (hex_value.f k (bt s (i : Int))).bind fun t110 => (if (bt s (i : Int)) = 10 then (hex_Load.l0 k s acc hi half false (s.size : Int) ((i + 1 : Nat) : Int)) else (if rem = true then (hex_Load.l0 k s acc hi half rem (s.size : Int) ((i + 1 : Nat) : Int)) else (if (bt s (i : Int)) = 35 then (hex_Load.l0 k s acc hi half true (s.size : Int) ((i + 1 : Nat) : Int)) else (if t110 = 255 then (hex_Load.l0 k s acc hi half rem (s.size : Int) ((i + 1 : Nat) : Int)) else (if half = true then (if acc.length < 140737488355328 then (hex_Load.l0 k s (acc ++ [Go.bits .or .u8 ((hi * 16) % 256) t110]) hi false rem (s.size : Int) ((i + 1 : Nat) : Int)) else none) else (hex_Load.l0 k s acc t110 true rem (s.size : Int) ((i + 1 : Nat) : Int)))))))) (fun k => ?_) ?_
    · simp only [hex_Load.l0]
      rw [if_pos (by omega), if_pos (by omega), if_pos (by omega), hw]
    · refine Ev.bind (a := valD (bt s (i : Int))) ⟨2, fun k hk => by obtain ⟨k, rfl⟩ : ∃ m, k = m + 2 := ⟨k - 2, by omega⟩; exact value_ev _ b0 (by omega) k⟩ ?_
      by_cases h1 : bt s (i : Int) = 10
      · simp only [if_pos h1]; exact ih (i + 1) acc hi half false (by omega) (by omega) hh
      simp only [if_neg h1]
      by_cases h2 : rem = true
      · subst h2; simp only [if_true]; exact ih (i + 1) acc hi half true (by omega) (by omega) hh
      simp only [if_neg h2]
      have h2' : rem = false := by simpa using h2
      subst h2'
      by_cases h3 : bt s (i : Int) = 35
      · simp only [if_pos h3]; exact ih (i + 1) acc hi half true (by omega) (by omega) hh
      simp only [if_neg h3]
      by_cases h4 : valD (bt s (i : Int)) = 255
      · simp only [if_pos h4]; exact ih (i + 1) acc hi half false (by omega) (by omega) hh
      simp only [if_neg h4]
      cases half with
      | true =>
        obtain ⟨q0, q1⟩ := hh rfl
        simp only [if_true, if_pos (show acc.length < 140737488355328 by omega)]
        have := ih (i + 1) (acc ++ [16 * hi + valD (bt s (i : Int))]) hi false false (by omega) (by simp; omega) (fun h => by cases h)
        simp only [Bool.false_eq_true, if_false, List.append_assoc, List.cons_append, List.nil_append] at this
        rw [or_u8 hi _ q0 q1 (by omega) (by omega)]
        exact this
      | false =>
        simp only [Bool.false_eq_true, if_false]
        have := ih (i + 1) acc (valD (bt s (i : Int))) true false (by omega) (by omega) (fun _ => by omega)
        simp only [if_true] at this
        exact this
theorem load_ev (s : ByteArray) (hs : s.size ≤ 1000000) : Ev (fun k => hex_Load.f k s) (strOfNums (loadS (bytesOf s) none false)) := by
  have h := load_loop s hs s.size 0 [] 0 false false (by omega) (by simp) (fun h => by cases h)
  simp only [List.nil_append, List.drop_zero, Bool.false_eq_true, if_false] at h
  exact h
theorem load_bytes (l : List Int) (h : Option Int) (r : Bool) (hh : ∀ d, h = some d → 0 ≤ d ∧ d ≤ 15) : isBytes (loadS l h r) := by
  induction l generalizing h r with
  | nil => intro x hx; cases hx
  | cons c l ih =>
    simp only [loadS]
    split
    · exact ih h false hh
    split
    · exact ih h true hh
    split
    · exact ih h true hh
    split
    · exact ih h false hh
    rename_i hc
    have hv := valD_range c
    cases h with
    | none => exact ih (some (valD c)) false (fun d e => by cases e; omega)
    | some d =>
      obtain ⟨d0, d1⟩ := hh d rfl
      intro x hx
      rcases List.mem_cons.mp hx with rfl | hx
      · omega
      · exact ih none false (fun d e => by cases e) x hx

/-! parsed -/
def pairs : List Int → List Int
  | a :: b :: r => (16 * valD a + valD b) :: pairs r
  | _ => []
def allD (l : List Int) : Prop := ∀ c ∈ l, valD c ≠ 255
theorem digit_not (c : Int) (h : valD c ≠ 255) : c ≠ 10 ∧ c ≠ 35 := by
  constructor <;> (intro e; subst e; exact h rfl)
theorem load_digits (n : Nat) : ∀ l : List Int, l.length ≤ n → allD l → loadS l none false = pairs l := by
  induction n with
  | zero => intro l hl _; have : l = [] := List.length_eq_zero_iff.mp (by omega)
            subst this; rfl
  | succ n ih =>
    intro l hl ha
    match l, hl, ha with
    | [], _, _ => rfl
    | [a], _, ha =>
      have h1 := ha a (by simp)
      obtain ⟨p, q⟩ := digit_not a h1
      simp [loadS, p, q, h1, pairs]
    | a :: b :: r, hl, ha =>
      have h1 := ha a (by simp)
      have h2 := ha b (by simp)
      obtain ⟨p, q⟩ := digit_not a h1
      obtain ⟨p', q'⟩ := digit_not b h2
      have := ih r (by simp at hl; omega) (fun c hc => ha c (by simp [hc]))
      simp [loadS, p, q, h1, p', q', h2, pairs, this]
theorem pairs_len (n : Nat) : ∀ l : List Int, l.length ≤ n → (pairs l).length = l.length / 2 := by
  induction n with
  | zero => intro l hl; have : l = [] := List.length_eq_zero_iff.mp (by omega)
            subst this; rfl
  | succ n ih =>
    intro l hl
    match l, hl with
    | [], _ => rfl
    | [a], _ => simp [pairs]
    | a :: b :: r, hl =>
      have := ih r (by simp at hl; omega)
      simp only [pairs, List.length_cons, this]
      omega
/-- What is parsed of bytes, from place i on. -/
def firstBad : List Int → Nat → Option Nat
  | [], _ => none
  | c :: l, i => if valD c = 255 then some i else firstBad l (i + 1)
theorem bad_none (l : List Int) (i : Nat) (h : firstBad l i = none) : allD l := by
  induction l generalizing i with
  | nil => intro c hc; cases hc
  | cons c l ih =>
    simp only [firstBad] at h
    by_cases hc : valD c = 255
    · rw [if_pos hc] at h; cases h
    · rw [if_neg hc] at h
      intro x hx
      rcases List.mem_cons.mp hx with rfl | hx
      · exact hc
      · exact ih (i + 1) h x hx
theorem none_bad (l : List Int) (i : Nat) (h : allD l) : firstBad l i = none := by
  induction l generalizing i with
  | nil => rfl
  | cons c l ih =>
    simp only [firstBad]
    rw [if_neg (h c (by simp))]
    exact ih (i + 1) (fun x hx => h x (by simp [hx]))
def parseS (l : List Int) : ByteArray × Int × Int := match firstBad l 0 with
  | some i => (⟨#[]⟩, (i : Int), 3)
  | none => if l.length % 2 = 1 then (⟨#[]⟩, (l.length : Int), 3) else (strOfNums (pairs l), 0, 0)
/-- The bytes half done: of an odd number of digits the last one waits in the high place. -/
def halves : List Int → List Int
  | a :: b :: r => (16 * valD a + valD b) :: halves r
  | [a] => [16 * valD a]
  | [] => []
theorem halves_len (n : Nat) : ∀ l : List Int, l.length ≤ n → (halves l).length = (l.length + 1) / 2 := by
  induction n with
  | zero => intro l hl; have : l = [] := List.length_eq_zero_iff.mp (by omega)
            subst this; rfl
  | succ n ih =>
    intro l hl
    match l, hl with
    | [], _ => rfl
    | [a], _ => simp [halves]
    | a :: b :: r, hl =>
      have := ih r (by simp at hl; omega)
      simp only [halves, List.length_cons, this]
      omega
theorem halves_even (n : Nat) : ∀ l : List Int, l.length ≤ n → l.length % 2 = 0 → halves l = pairs l := by
  induction n with
  | zero => intro l hl _; have : l = [] := List.length_eq_zero_iff.mp (by omega)
            subst this; rfl
  | succ n ih =>
    intro l hl h2
    match l, hl, h2 with
    | [], _, _ => rfl
    | [a], _, h2 => simp at h2
    | a :: b :: r, hl, h2 =>
      have := ih r (by simp at hl; omega) (by simp at h2; omega)
      simp only [halves, pairs, this]
theorem halves_even_snoc (n : Nat) : ∀ (l : List Int) (c : Int), l.length ≤ n → l.length % 2 = 0 → halves (l ++ [c]) = halves l ++ [16 * valD c] := by
  induction n with
  | zero => intro l c hl _; have : l = [] := List.length_eq_zero_iff.mp (by omega)
            subst this; rfl
  | succ n ih =>
    intro l c hl h2
    match l, hl, h2 with
    | [], _, _ => rfl
    | [a], _, h2 => simp at h2
    | a :: b :: r, hl, h2 =>
      have := ih r c (by simp at hl; omega) (by simp at h2; omega)
      simp only [List.cons_append, halves, this]
theorem halves_odd_snoc (n : Nat) : ∀ (l : List Int) (c : Int), l.length ≤ n → l.length % 2 = 1 → ∃ d, (halves l).getD (l.length / 2) 0 = 16 * d ∧ 0 ≤ d ∧ (d ≤ 15 ∨ d = 255) ∧ halves (l ++ [c]) = (halves l).set (l.length / 2) (16 * d + valD c) ∧ (allD l → d ≤ 15) := by
  induction n with
  | zero => intro l c hl h2; omega
  | succ n ih =>
    intro l c hl h2
    match l, hl, h2 with
    | [], _, h2 => simp at h2
    | [a], _, _ =>
      refine ⟨valD a, by simp [halves], ?_, ?_, by simp [halves], ?_⟩
      · have := valD_range a; omega
      · have := valD_range a; omega
      · intro h; have := valD_range a; have := h a (by simp); omega
    | a :: b :: r, hl, h2 =>
      obtain ⟨d, e1, e2, e3, e4, e5⟩ := ih r c (by simp at hl; omega) (by simp at h2; omega)
      have hx : (a :: b :: r).length / 2 = r.length / 2 + 1 := by simp only [List.length_cons]; omega
      refine ⟨d, ?_, e2, e3, ?_, fun h => e5 (fun x hx => h x (by simp [hx]))⟩
      · rw [hx]; simpa [halves] using e1
      · rw [hx]
        simp only [List.cons_append, halves, e4, List.set_cons_succ]
end Go.Proofs.YtllnaagddpfclaaDoor.Hex
