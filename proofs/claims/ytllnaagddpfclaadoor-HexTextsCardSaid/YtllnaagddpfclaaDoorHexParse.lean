/- hex.Parse answers what is parsed: the first bad place, or the pairs. -/
import Derived.Test.YtllnaagddpfclaaDoorHexBase
namespace Go.Proofs.YtllnaagddpfclaaDoor.Hex
open Go Go.RowKit Go.Proofs.YtllnaagddpfclaaDoor Go.Proofs.YtllnaagddpfclaaDoor.Q Go.Proofs.YtllnaagddpfclaaDoor.Texts Go.Proofs.YtllnaagddpfclaaDoorW.PrintWords Go.Proofs.YtllnaagddpfclaaDoorW.PrintLast Go.Proofs.YtllnaagddpfclaaDoorW.PrintMore

theorem take_snoc (l : List Int) (i : Nat) (h : i < l.length) : l.take (i + 1) = l.take i ++ [l.getD i 0] := by
  rw [List.take_succ_eq_append_getElem h]
  simp [h]
theorem or_u8' (d v : Int) (d0 : 0 ≤ d) (d1 : d ≤ 15) (v0 : 0 ≤ v) (v1 : v ≤ 15) : Go.bits .or .u8 (16 * d) v = 16 * d + v := by
  have := or_u8 d v d0 d1 v0 v1
  rwa [show (d * 16) % 256 = 16 * d by omega] at this
def parseFrom (l : List Int) (i : Nat) : ByteArray × Int × Int := match firstBad (l.drop i) i with
  | some j => (⟨#[]⟩, (j : Int), 3)
  | none => if l.length % 2 = 1 then (⟨#[]⟩, (l.length : Int), 3) else (strOfNums (pairs l), 0, 0)
theorem Parse_l0 (k : Nat) (s : ByteArray) (l : List Int) (n i q m i' : Int) (h : i < n) (h0 : 0 ≤ i) (h1 : i < (s.size : Int)) (hq : wrap64 (Int.tdiv i 2) = q) (hm : Int.tmod i 2 = m) (hw : wrap64 (i + 1) = i') : hex_Parse.l0 (k + 1) s l n i = (hex_value.f k (bt s i)).bind fun t104 => (if t104 = 255 then (some ((⟨#[]⟩ : ByteArray), i, 3)) else (if m = 0 then (if l.length < 140737488355328 then (hex_Parse.l0 k s (l ++ [(t104 * 16) % 256]) n i') else (none)) else (if 0 ≤ q then (if q < (l.length : Int) then (hex_Parse.l0 k s (l.set q.toNat (Go.bits .or .u8 (rd l q) t104)) n i') else (none)) else (none)))) := by
  simp only [hex_Parse.l0, hq, hm, hw]
  rw [if_pos h, if_pos h0, if_pos h1]
theorem parse_loop (s : ByteArray) (hs : s.size ≤ 1000000) (n : Nat) : ∀ i : Nat, i + n = s.size → allD ((bytesOf s).take i) →
    Ev (fun k => hex_Parse.l0 k s (halves ((bytesOf s).take i)) (s.size : Int) (i : Int)) (parseFrom (bytesOf s) i) := by
  have hL := size_len s
  induction n with
  | zero =>
    intro i hin ha
    unfold parseFrom
    rw [List.drop_of_length_le (by omega)]
    simp only [firstBad]
    rw [List.take_of_length_le (by omega)] at ha ⊢
    refine Ev.step (f := fun _ => some (if (bytesOf s).length % 2 = 1 then (⟨#[]⟩, ((bytesOf s).length : Int), 3) else (strOfNums (pairs (bytesOf s)), 0, 0))) (fun k => ?_) (Ev.now _)
    simp only [hex_Parse.l0]
    rw [if_neg (by omega)]
    by_cases h2 : (bytesOf s).length % 2 = 1
    · rw [if_pos (by omega), if_pos h2, hL]
    · rw [if_neg (by omega), if_neg h2, halves_even _ _ (Nat.le_refl _) (by omega)]
  | succ n ih =>
    intro i hin ha
    have hw : wrap64 ((i : Int) + 1) = ((i + 1 : Nat) : Int) := by unfold wrap64; omega
    obtain ⟨b0, b1⟩ := bt_range s (i : Int)
    have hv := valD_range (bt s (i : Int))
    have q5 : ¬ i % 2 = 0 → i % 2 = 1 := by omega
    have q0 : (i : Int) < (s.size : Int) := by omega
    have q1 : (0 : Int) ≤ (i : Int) := by omega
    have q2 : (0 : Int) ≤ ((i / 2 : Nat) : Int) := by omega
    have q3 : ∀ h : List Int, h.length = (i + 1) / 2 → h.length < 140737488355328 := by intro h hh; omega
    have q4 : ∀ h : List Int, h.length = (i + 1) / 2 → i % 2 = 1 → ((i / 2 : Nat) : Int) < (h.length : Int) := by intro h hh h2; omega
    have hi : i < (bytesOf s).length := by omega
    have hbt := bt_list s i
    have htl : Unit → ((bytesOf s).take i).length = i := fun _ => by rw [List.length_take]; omega
    have hsn := take_snoc (bytesOf s) i hi
    rw [← hbt] at hsn
    have hd : parseFrom (bytesOf s) i = if valD (bt s (i : Int)) = 255 then (⟨#[]⟩, (i : Int), 3) else parseFrom (bytesOf s) (i + 1) := by
      unfold parseFrom
      rw [drop_bt s i (by omega)]
      simp only [firstBad]
      by_cases hc : valD (bt s (i : Int)) = 255
      · rw [if_pos hc, if_pos hc]
      · rw [if_neg hc, if_neg hc]
    rw [hd]
    have hq : Int.tdiv (i : Int) 2 = ((i / 2 : Nat) : Int) := by rw [Int.tdiv_eq_ediv_of_nonneg (by omega)]; omega
    have hm : Int.tmod (i : Int) 2 = ((i % 2 : Nat) : Int) := by rw [Int.tmod_eq_emod_of_nonneg (by omega)]; omega
    have hqw : wrap64 ((i / 2 : Nat) : Int) = ((i / 2 : Nat) : Int) := by unfold wrap64; omega
    have hhl : Unit → (halves ((bytesOf s).take i)).length = (i + 1) / 2 := fun _ => (halves_len _ ((bytesOf s).take i) (Nat.le_refl _)).trans (by rw [htl ()])
    refine Ev.step (fun k => Parse_l0 k s _ _ _ _ _ _ q0 q1 q0 ((congrArg wrap64 hq).trans hqw) hm hw) ?_
    refine Ev.bind (a := valD (bt s (i : Int))) ⟨2, fun k hk => by obtain ⟨k, rfl⟩ : ∃ m, k = m + 2 := ⟨k - 2, by omega⟩; exact value_ev _ b0 (by omega) k⟩ ?_
    by_cases hc : valD (bt s (i : Int)) = 255
    · simp only [if_pos hc]; exact Ev.now _
    simp only [if_neg hc]
    have hnext := ih (i + 1) (by omega) (by
      rw [hsn]
      intro c hcm
      rcases List.mem_append.mp hcm with h | h
      · exact ha c h
      · obtain rfl := List.mem_singleton.mp h; exact hc)
    by_cases h2 : i % 2 = 0
    · simp only [if_pos (show ((i % 2 : Nat) : Int) = 0 by omega), if_pos (q3 _ (hhl ()))]
      rw [hsn, halves_even_snoc _ _ _ (Nat.le_refl _) (by rw [htl ()]; exact h2)] at hnext
      rw [show (valD (bt s (i : Int)) * 16) % 256 = 16 * valD (bt s (i : Int)) by omega]
      exact hnext
    · simp only [if_neg (show ¬ ((i % 2 : Nat) : Int) = 0 by omega), if_pos q2, if_pos (q4 _ (hhl ()) (q5 h2))]
      obtain ⟨d, e1, e2, e3, e4, e5⟩ := halves_odd_snoc _ ((bytesOf s).take i) (bt s (i : Int)) (Nat.le_refl _) (by rw [htl ()]; exact q5 h2)
      rw [htl ()] at e1 e4
      have e6 : rd (halves ((bytesOf s).take i)) ((i / 2 : Nat) : Int) = 16 * d := by unfold rd; rw [Int.toNat_natCast]; exact e1
      rw [hsn, e4] at hnext
      rw [e6, or_u8' d _ e2 (e5 ha) (by omega) (by omega), Int.toNat_natCast]
      exact hnext
theorem parse_ev (s : ByteArray) (hs : s.size ≤ 1000000) : Ev (fun k => hex_Parse.f k s) (parseS (bytesOf s)) := by
  have h := parse_loop s hs s.size 0 (by omega) (fun c hc => by simp at hc)
  have e : wrap64 ((s.size : Int) / 2) = (s.size : Int) / 2 := by unfold wrap64; omega
  refine Ev.congr (fun k => ?_) h
  unfold hex_Parse.f
  rw [e, if_pos (by omega), if_pos (by omega)]
  rfl
end Go.Proofs.YtllnaagddpfclaaDoor.Hex
