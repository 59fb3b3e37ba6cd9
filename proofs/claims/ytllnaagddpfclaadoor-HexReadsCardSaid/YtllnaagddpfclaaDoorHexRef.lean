/- The document's Load and Parse answer what is loaded, and what is parsed. -/
import Derived.Test.YtllnaagddpfclaaDoorQx10
import Derived.Test.YtllnaagddpfclaaDoorHexBase
namespace Go.Proofs.YtllnaagddpfclaaDoor.Hex
open Go Go.RowKit Go.Proofs.YtllnaagddpfclaaDoor Go.Proofs.YtllnaagddpfclaaDoor.Q Go.Proofs.YtllnaagddpfclaaDoor.Texts Go.Proofs.YtllnaagddpfclaaDoorW.PrintWords Go.Proofs.YtllnaagddpfclaaDoorW.PrintLast Go.Proofs.YtllnaagddpfclaaDoorW.PrintMore

def dig (c : Int) : Int := if valD c = 255 then -1 else valD c
theorem digit_ev (c : Int) (h0 : 0 ≤ c) (h1 : c < 256) (k : Nat) : seedcornref02_Digit.f (k + 2) c = some (dig c) := by
  have w0 : wrap64 c = c := by unfold wrap64; omega
  unfold seedcornref02_Digit.f dig
  by_cases a : 48 ≤ c
  · rw [if_pos (show c ≥ 48 from a)]
    by_cases b : c ≤ 57
    · have hv : valD c = c - 48 := by unfold valD; rw [if_pos ⟨a, b⟩]
      rw [hv, decide_eq_true b, if_neg (show ¬ c - 48 = 255 by omega)]
      simp only [seedcornref02_Digit.j0, if_true]
      rw [w0]; congr 1; unfold wrap64; omega
    · rw [decide_eq_false b]
      simp only [seedcornref02_Digit.j0, Bool.false_eq_true, if_false]
      by_cases d : 97 ≤ c
      · rw [if_pos (show c ≥ 97 from d)]
        by_cases e : c ≤ 102
        · have hv : valD c = c - 87 := by unfold valD; rw [if_neg (by omega), if_pos ⟨d, e⟩]
          rw [hv, decide_eq_true e, if_neg (show ¬ c - 87 = 255 by omega)]
          simp only [seedcornref02_Digit.j1, if_true]
          rw [w0]; congr 1; unfold wrap64; omega
        · have hv : valD c = 255 := by unfold valD; rw [if_neg (by omega), if_neg (by omega), if_neg (by omega)]
          rw [hv, decide_eq_false e, if_pos rfl]
          simp only [seedcornref02_Digit.j1, Bool.false_eq_true, if_false]
          rw [if_pos (show c ≥ 65 by omega), if_neg (show ¬ c ≤ 70 by omega)]
      · rw [if_neg (show ¬ c ≥ 97 from d)]
        simp only [seedcornref02_Digit.j1, Bool.false_eq_true, if_false]
        by_cases f : 65 ≤ c ∧ c ≤ 70
        · have hv : valD c = c - 55 := by unfold valD; rw [if_neg (by omega), if_neg (by omega), if_pos f]
          rw [hv, if_pos (show c ≥ 65 by omega), if_pos (show c ≤ 70 by omega), if_neg (show ¬ c - 55 = 255 by omega), w0]
          congr 1; unfold wrap64; omega
        · have hv : valD c = 255 := by unfold valD; rw [if_neg (by omega), if_neg (by omega), if_neg f]
          rw [hv, if_pos rfl]
          by_cases g : c ≥ 65
          · rw [if_pos g, if_neg (show ¬ c ≤ 70 by omega)]
          · rw [if_neg g]
  · have hv : valD c = 255 := by unfold valD; rw [if_neg (by omega), if_neg (by omega), if_neg (by omega)]
    rw [hv, if_neg (show ¬ c ≥ 48 from a), if_pos rfl]
    simp only [seedcornref02_Digit.j0, seedcornref02_Digit.j1, Bool.false_eq_true, if_false]
    rw [if_neg (show ¬ c ≥ 97 by omega), if_neg (show ¬ c ≥ 65 by omega)]
def waits : Option Int → Int
  | none => -1
  | some d => d
theorem rload_loop (s : ByteArray) (hs : s.size ≤ 1000000) (n : Nat) : ∀ (i : Nat) (acc : List Int) (h : Option Int) (rem : Bool), i + n = s.size → acc.length ≤ i → (∀ d, h = some d → 0 ≤ d ∧ d ≤ 15) →
    Ev (fun k => seedcornref02_Load.l0 k s acc rem (waits h) (i : Int)) (strOfNums (acc ++ loadS ((bytesOf s).drop i) h rem)) := by
  induction n with
  | zero =>
    intro i acc h rem hin _ _
    rw [List.drop_of_length_le (by rw [← size_len]; omega)]
    simp only [loadS, List.append_nil]
    refine Ev.step (f := fun _ => some (strOfNums acc)) (fun k => ?_) (Ev.now _)
    simp only [seedcornref02_Load.l0]
    rw [if_neg (by omega)]
  | succ n ih =>
    intro i acc h rem hin ha hh
    have hw : wrap64 ((i : Int) + 1) = ((i + 1 : Nat) : Int) := by unfold wrap64; omega
    obtain ⟨b0, b1⟩ := bt_range s (i : Int)
    have hv := valD_range (bt s (i : Int))
    have hwt : -1 ≤ waits h ∧ waits h ≤ 15 := by
      cases h with
      | none => simp [waits]
      | some d => have := hh d rfl; simp only [waits]; omega
    rw [drop_bt s i (by omega)]
    simp only [loadS]
    have last : ∀ (r2 : Bool) (b : Bool) (r : ByteArray), Ev (fun k => seedcornref02_Load.j3 k s acc r2 (waits h) (i : Int) (dig (bt s (i : Int))) (if r2 = true then true else decide (dig (bt s (i : Int)) < 0))) r → Ev (fun k => seedcornref02_Load.j2 k s acc r2 (waits h) (i : Int)) r := by
      intro r2 _ r he
      refine Ev.step (fun k => by
        simp only [seedcornref02_Load.j2]
        rw [if_pos (by omega), if_pos (by omega)]) ?_
      refine Ev.bind (a := dig (bt s (i : Int))) ⟨2, fun k hk => by obtain ⟨k, rfl⟩ : ∃ m, k = m + 2 := ⟨k - 2, by omega⟩; exact digit_ev _ b0 (by omega) k⟩ ?_
      cases r2 with
      | true => simpa using he
      | false => simpa using he
    have skip : ∀ (r2 : Bool) (t : Int), Ev (fun k => seedcornref02_Load.j3 k s acc r2 (waits h) (i : Int) t true) (strOfNums (acc ++ loadS ((bytesOf s).drop (i + 1)) h r2)) := by
      intro r2 t
      refine Ev.step (fun k => by
        simp only [seedcornref02_Load.j3, if_true]
        rw [hw]) (ih (i + 1) acc h r2 (by omega) (by omega) hh)
    by_cases h3 : bt s (i : Int) = 35
    · rw [if_neg (by omega), h3]
      have e0 : valD 35 = 255 := rfl
      simp only [e0, if_true, ite_self]
      refine Ev.step (fun k => by
        simp only [seedcornref02_Load.l0]
        rw [if_pos (by omega), if_pos (by omega), if_pos h3]) (Ev.step (fun k => by
        simp only [seedcornref02_Load.j1]
        rw [if_pos (by omega), if_pos (by omega), if_neg (by omega)]) (last true true _ ?_))
      simp only [if_true]
      exact skip true _
    · refine Ev.step (fun k => by
        simp only [seedcornref02_Load.l0]
        rw [if_pos (by omega), if_pos (by omega), if_neg h3]) ?_
      by_cases h1 : bt s (i : Int) = 10
      · rw [if_pos h1]
        refine Ev.step (fun k => by
          simp only [seedcornref02_Load.j1]
          rw [if_pos (by omega), if_pos (by omega), if_pos h1]) (last false false _ ?_)
        have e1 : dig (bt s (i : Int)) = -1 := by rw [h1]; rfl
        rw [e1]
        exact skip false _
      · rw [if_neg h1]
        refine Ev.step (fun k => by
          simp only [seedcornref02_Load.j1]
          rw [if_pos (by omega), if_pos (by omega), if_neg h1]) (last rem rem _ ?_)
        cases rem with
        | true => simp only [if_true]; exact skip true _
        | false =>
          simp only [Bool.false_eq_true, if_false, if_neg h3]
          by_cases h4 : valD (bt s (i : Int)) = 255
          · have e1 : dig (bt s (i : Int)) = -1 := by unfold dig; rw [if_pos h4]
            rw [if_pos h4, e1]
            exact skip false _
          · have e1 : dig (bt s (i : Int)) = valD (bt s (i : Int)) := by unfold dig; rw [if_neg h4]
            rw [if_neg h4, e1, decide_eq_false (by omega)]
            have hj : ∀ (v : Int) (k : Nat), seedcornref02_Load.j3 (k + 1) s acc false (waits h) (i : Int) v false = (if waits h < 0 then seedcornref02_Load.l0 k s acc false v ((i + 1 : Nat) : Int) else if acc.length < 140737488355328 then seedcornref02_Load.l0 k s (acc ++ [(wrap64 ((wrap64 (16 * waits h)) + v)) % 256]) false (-1) ((i + 1 : Nat) : Int) else none) := by
              intro v k
              simp only [seedcornref02_Load.j3, Bool.false_eq_true, if_false, hw]
            refine Ev.step (fun k => hj _ k) ?_
            cases h with
            | none =>
              refine Ev.congr (fun k => if_pos (show waits none < 0 by decide)) ?_
              exact ih (i + 1) acc (some (valD (bt s (i : Int)))) false (by omega) (by omega) (fun d e => by cases e; omega)
            | some d =>
              obtain ⟨d0, d1⟩ := hh d rfl
              have hi := ih (i + 1) (acc ++ [16 * d + valD (bt s (i : Int))]) none false (by omega) (by simp; omega) (fun d e => by cases e)
              rw [List.append_assoc, List.cons_append, List.nil_append] at hi
              have ew : (wrap64 ((wrap64 (16 * waits (some d))) + valD (bt s (i : Int)))) % 256 = 16 * d + valD (bt s (i : Int)) := by simp only [waits]; unfold wrap64; omega
              refine Ev.congr (fun k => if_neg (show ¬ waits (some d) < 0 by simp only [waits]; omega)) ?_
              refine Ev.congr (fun k => if_pos (show acc.length < 140737488355328 by omega)) ?_
              rw [ew]
              exact hi
theorem rload_ev (s : ByteArray) (hs : s.size ≤ 1000000) : Ev (fun k => seedcornref02_Load.f k s) (strOfNums (loadS (bytesOf s) none false)) := by
  have h := rload_loop s hs s.size 0 [] none false (by omega) (by simp) (fun d e => by cases e)
  simp only [List.nil_append, List.drop_zero] at h
  exact h
theorem rparse_loop (s : ByteArray) (hs : s.size ≤ 1000000) (n : Nat) : ∀ i : Nat, i + n = s.size → allD ((bytesOf s).take i) →
    Ev (fun k => seedcornref02_Parse.l0 k s (i : Int)) (match firstBad ((bytesOf s).drop i) i with
      | some j => (⟨#[]⟩, (j : Int), 3)
      | none => if (bytesOf s).length % 2 = 1 then (⟨#[]⟩, ((bytesOf s).length : Int), 3) else (strOfNums (pairs (bytesOf s)), 0, 0)) := by
  have hL := size_len s
  induction n with
  | zero =>
    intro i hin ha
    rw [List.drop_of_length_le (by omega)]
    simp only [firstBad]
    rw [List.take_of_length_le (by omega)] at ha
    by_cases h2 : (bytesOf s).length % 2 = 1
    · rw [if_pos h2]
      refine Ev.step (f := fun _ => some (⟨#[]⟩, ((bytesOf s).length : Int), 3)) (fun k => ?_) (Ev.now _)
      simp only [seedcornref02_Parse.l0]
      rw [if_neg (by omega), if_pos (by omega), hL]
    · rw [if_neg h2]
      refine Ev.step (fun k => by
        simp only [seedcornref02_Parse.l0]
        rw [if_neg (by omega), if_neg (by omega)]) (Ev.bind (rload_ev s hs) ?_)
      rw [load_digits _ _ (Nat.le_refl _) ha]
      exact Ev.now _
  | succ n ih =>
    intro i hin ha
    have hw : wrap64 ((i : Int) + 1) = ((i + 1 : Nat) : Int) := by unfold wrap64; omega
    obtain ⟨b0, b1⟩ := bt_range s (i : Int)
    have hv := valD_range (bt s (i : Int))
    rw [drop_bt s i (by omega)]
    simp only [firstBad]
    refine Ev.step (fun k => by
      simp only [seedcornref02_Parse.l0]
      rw [if_pos (by omega), if_pos (by omega), hw]) ?_
    refine Ev.bind (a := dig (bt s (i : Int))) ⟨2, fun k hk => by obtain ⟨k, rfl⟩ : ∃ m, k = m + 2 := ⟨k - 2, by omega⟩; exact digit_ev _ b0 (by omega) k⟩ ?_
    by_cases hc : valD (bt s (i : Int)) = 255
    · have e1 : dig (bt s (i : Int)) = -1 := by unfold dig; rw [if_pos hc]
      simp only [e1, if_pos hc, if_pos (show (-1 : Int) < 0 by omega)]
      exact Ev.now _
    · have e1 : dig (bt s (i : Int)) = valD (bt s (i : Int)) := by unfold dig; rw [if_neg hc]
      simp only [e1, if_neg hc, if_neg (show ¬ valD (bt s (i : Int)) < 0 by omega)]
      refine ih (i + 1) (by omega) ?_
      have hi : i < (bytesOf s).length := by omega
      rw [List.take_succ_eq_append_getElem hi]
      intro c hcm
      rcases List.mem_append.mp hcm with h | h
      · exact ha c h
      · obtain rfl := List.mem_singleton.mp h
        have hbt := bt_list s i
        simp [hi] at hbt
        rw [← hbt]; exact hc
theorem rparse_ev (s : ByteArray) (hs : s.size ≤ 1000000) : Ev (fun k => seedcornref02_Parse.f k s) (parseS (bytesOf s)) :=
  rparse_loop s hs s.size 0 (by omega) (fun c hc => by simp at hc)
end Go.Proofs.YtllnaagddpfclaaDoor.Hex
