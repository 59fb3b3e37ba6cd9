/- HexNotes, with no Go text in sight. -/
import Derived.Test.YtllnaagddpfclaaDoorQx16
import Derived.Test.YtllnaagddpfclaaDoorHexBase
namespace Go.Proofs.YtllnaagddpfclaaDoor.Pure
open Go Go.RowKit Go.Proofs.YtllnaagddpfclaaDoor Go.Proofs.YtllnaagddpfclaaDoor.Q Go.Proofs.YtllnaagddpfclaaDoor.Texts Go.Proofs.YtllnaagddpfclaaDoor.Hex Go.Proofs.YtllnaagddpfclaaDoorW.PrintWords Go.Proofs.YtllnaagddpfclaaDoorW.PrintLast Go.Proofs.YtllnaagddpfclaaDoorW.PrintMore
theorem has_loop (s : ByteArray) (c : Int) (hs : s.size ≤ 1000000) (n : Nat) : ∀ i : Nat, i + n = s.size → Ev (fun k => seedcornlaw02_has.l0 k s c (i : Int)) (decide (c ∈ (bytesOf s).drop i)) := by
  induction n with
  | zero =>
    intro i hin
    rw [List.drop_of_length_le (by rw [← size_len]; omega)]
    refine Ev.step (f := fun _ => some false) (fun k => ?_) (by simpa using Ev.now _)
    simp only [seedcornlaw02_has.l0]
    rw [if_neg (by omega)]
  | succ n ih =>
    intro i hin
    have hw : wrap64 ((i : Int) + 1) = ((i + 1 : Nat) : Int) := by unfold wrap64; omega
    rw [drop_bt s i (by omega)]
    refine Ev.step (f := fun k => if bt s (i : Int) = c then some true else seedcornlaw02_has.l0 k s c ((i + 1 : Nat) : Int)) (fun k => ?_) ?_
    · simp only [seedcornlaw02_has.l0]
      rw [if_pos (by omega), if_pos (by omega), hw]
    · by_cases h : bt s (i : Int) = c
      · simp only [if_pos h]
        have : decide (c ∈ bt s (i : Int) :: List.drop (i + 1) (bytesOf s)) = true := by rw [h]; simp
        rw [this]
        exact Ev.now _
      · simp only [if_neg h]
        have : decide (c ∈ bt s (i : Int) :: List.drop (i + 1) (bytesOf s)) = decide (c ∈ List.drop (i + 1) (bytesOf s)) := by
          simp only [List.mem_cons, show ¬ c = bt s (i : Int) from fun e => h e.symm, false_or]
        rw [this]
        exact ih (i + 1) (by omega)
theorem has_ev (s : ByteArray) (c : Int) (hs : s.size ≤ 1000000) : Ev (fun k => seedcornlaw02_has.f k s c) (decide (c ∈ bytesOf s)) := by
  have h := has_loop s c hs s.size 0 (by omega)
  rw [List.drop_zero] at h
  exact h
theorem st_open (l : List Int) (h : Option Int) (hl : (35 : Int) ∉ l) : (stS l h false).2 = false := by
  induction l generalizing h with
  | nil => rfl
  | cons c l ih =>
    have h1 : c ≠ 35 := fun e => hl (by simp [e])
    have h2 : (35 : Int) ∉ l := fun e => hl (by simp [e])
    simp only [stS, Bool.false_eq_true, if_false, if_neg h1]
    split
    · exact ih h h2
    split
    · exact ih h h2
    cases h with
    | none => exact ih _ h2
    | some d => exact ih _ h2
theorem note_load (l : List Int) (h : Option Int) (hl : (10 : Int) ∉ l) : loadS l h true = [] ∧ stS l h true = (h, true) := by
  induction l with
  | nil => exact ⟨rfl, rfl⟩
  | cons c l ih =>
    have h1 : c ≠ 10 := fun e => hl (by simp [e])
    have h2 : (10 : Int) ∉ l := fun e => hl (by simp [e])
    simp only [loadS, stS, if_neg h1, if_true]
    exact ih h2
theorem idle (a m b : List Int) (ha : (35 : Int) ∉ a) (hm : ∀ h, loadS m h false = [] ∧ stS m h false = (h, false)) : loadS (a ++ m ++ b) none false = loadS (a ++ b) none false := by
  have e := st_open a none ha
  rw [load_append, load_append, load_append, st_append]
  generalize stS a none false = st at e ⊢
  obtain ⟨h, r⟩ := st
  simp only at e
  subst e
  obtain ⟨p, q⟩ := hm h
  simp only [p, q, List.append_nil]
theorem idle_note (l : List Int) (hl : (10 : Int) ∉ l) (h : Option Int) : loadS ([35] ++ l ++ [10]) h false = [] ∧ stS ([35] ++ l ++ [10]) h false = (h, false) := by
  obtain ⟨p, q⟩ := note_load l h hl
  have p' : loadS ([35] ++ l) h false = [] := p
  have q' : stS ([35] ++ l) h false = (h, true) := q
  rw [load_append ([35] ++ l) [10], st_append ([35] ++ l) [10], p', q']
  exact ⟨rfl, rfl⟩
theorem j0_true (a b c : ByteArray) : Ev (fun k => seedcornlaw02_HexNotes.j0 k a b c true) true := Ev.step (f := fun _ => some true) (fun _ => rfl) (Ev.now _)
theorem lit_size : ((⟨#[122, 71, 45, 0]⟩ : ByteArray)).size = 4 := rfl
theorem lit1_size (x : UInt8) : ((⟨#[x]⟩ : ByteArray)).size = 1 := rfl
theorem HexNotes : seedcornlaw02_HexNotes.Pure := by
  intro a b c _ _ _
  apply Ev.rounds
  unfold seedcornlaw02_HexNotes.f
  refine Ev.bind awake_ev ?_
  simp only [if_true]
  by_cases ha : (a.size : Int) > 1000
  · simp only [if_pos ha]; exact j0_true a b c
  by_cases hb : (b.size : Int) > 1000
  · simp only [if_neg ha, if_pos hb]; exact j0_true a b c
  by_cases hc : (c.size : Int) > 1000
  · simp only [if_neg ha, if_neg hb, if_pos hc]; exact j0_true a b c
  simp only [if_neg ha, if_neg hb, if_neg hc]
  refine Ev.bind (has_ev a 35 (by omega)) ?_
  by_cases h1 : (35 : Int) ∈ bytesOf a
  · rw [decide_eq_true h1]; simp only [if_true]; exact j0_true a b c
  rw [decide_eq_false h1]
  simp only [Bool.false_eq_true, if_false]
  refine Ev.bind (has_ev c 10 (by omega)) ?_
  by_cases h2 : (10 : Int) ∈ bytesOf c
  · rw [decide_eq_true h2]; exact j0_true a b c
  rw [decide_eq_false h2]
  have l1 : loadS (bytesOf ((((a ++ (⟨#[35]⟩ : ByteArray)) ++ c) ++ (⟨#[10]⟩ : ByteArray)) ++ b)) none false = loadS (bytesOf (a ++ b)) none false := by
    have e35 : bytesOf (⟨#[35]⟩ : ByteArray) = [35] := rfl
    have e10 : bytesOf (⟨#[10]⟩ : ByteArray) = [10] := rfl
    simp only [bytes_append, e35, e10]
    have := idle (bytesOf a) ([35] ++ bytesOf c ++ [10]) (bytesOf b) h1 (idle_note _ h2)
    simpa only [List.append_assoc] using this
  have l2 : loadS (bytesOf ((a ++ (⟨#[10]⟩ : ByteArray)) ++ b)) none false = loadS (bytesOf (a ++ b)) none false := by
    have e10 : bytesOf (⟨#[10]⟩ : ByteArray) = [10] := rfl
    simp only [bytes_append, e10]
    exact idle (bytesOf a) [10] (bytesOf b) h1 (fun h => ⟨rfl, rfl⟩)
  have l3 : loadS (bytesOf ((a ++ (⟨#[122, 71, 45, 0]⟩ : ByteArray)) ++ b)) none false = loadS (bytesOf (a ++ b)) none false := by
    have e4 : bytesOf (⟨#[122, 71, 45, 0]⟩ : ByteArray) = [122, 71, 45, 0] := rfl
    simp only [bytes_append, e4]
    exact idle (bytesOf a) [122, 71, 45, 0] (bytesOf b) h1 (fun h => ⟨rfl, rfl⟩)
  have s1 := lit_size
  have z0 : (a ++ b).size ≤ 1000000 := by rw [ByteArray.size_append]; omega
  have z1 : ((((a ++ (⟨#[35]⟩ : ByteArray)) ++ c) ++ (⟨#[10]⟩ : ByteArray)) ++ b).size ≤ 1000000 := by simp only [ByteArray.size_append, lit1_size]; omega
  have z2 : ((a ++ (⟨#[10]⟩ : ByteArray)) ++ b).size ≤ 1000000 := by simp only [ByteArray.size_append, lit1_size]; omega
  have z3 : ((a ++ (⟨#[122, 71, 45, 0]⟩ : ByteArray)) ++ b).size ≤ 1000000 := by simp only [ByteArray.size_append, lit_size]; omega
  have y1 : a.size + 1 ≤ 9223372036854775807 := by omega
  have y2 : (a ++ (⟨#[35]⟩ : ByteArray)).size + c.size ≤ 9223372036854775807 := by simp only [ByteArray.size_append, lit1_size]; omega
  have y3 : ((a ++ (⟨#[35]⟩ : ByteArray)) ++ c).size + 1 ≤ 9223372036854775807 := by simp only [ByteArray.size_append, lit1_size]; omega
  have y4 : (((a ++ (⟨#[35]⟩ : ByteArray)) ++ c) ++ (⟨#[10]⟩ : ByteArray)).size + b.size ≤ 9223372036854775807 := by simp only [ByteArray.size_append, lit1_size]; omega
  have y5 : a.size + b.size ≤ 9223372036854775807 := by omega
  have y6 : (a ++ (⟨#[10]⟩ : ByteArray)).size + b.size ≤ 9223372036854775807 := by simp only [ByteArray.size_append, lit1_size]; omega
  have y7 : a.size + 4 ≤ 9223372036854775807 := by omega
  have y8 : (a ++ (⟨#[122, 71, 45, 0]⟩ : ByteArray)).size + b.size ≤ 9223372036854775807 := by simp only [ByteArray.size_append, lit_size]; omega
  refine Ev.step (fun k => by
    simp only [seedcornlaw02_HexNotes.j0, Bool.false_eq_true, if_false]
    rw [if_pos y1, if_pos y2, if_pos y3, if_pos y4]) (Ev.bind (load_ev _ z1) ?_)
  simp only [if_pos y5]
  refine Ev.bind (load_ev _ z0) ?_
  rw [l1]
  simp only [if_true, if_pos y6]
  refine Ev.bind (load_ev _ z2) (Ev.bind (load_ev _ z0) ?_)
  rw [l2]
  simp only [if_true, if_pos y7, if_pos y8]
  refine Ev.bind (load_ev _ z3) (Ev.bind (load_ev _ z0) ?_)
  rw [l3]
  simp only [beq_self_eq_true]
  exact Ev.now _
end Go.Proofs.YtllnaagddpfclaaDoor.Pure
