/- Any text is read as the document reads it; a word's text is the document's, and is read as it: the printed statement of WordReads. -/
import Derived.Test.YtdmgponiefhlnaaDoorQx9
import Derived.Test.YtdmgponiefhlnaaDoorBase
import Derived.Test.YtdmgponiefhlnaaDoorTexts
namespace Go.Proofs.YtdmgponiefhlnaaDoor.Pure
open Go Go.RowKit Go.Proofs.YtdmgponiefhlnaaDoor Go.Proofs.YtdmgponiefhlnaaDoor.Q Go.Proofs.YtdmgponiefhlnaaDoor.Base Go.Proofs.YtdmgponiefhlnaaDoor.Texts Go.Proofs.YtdmgponiefhlnaaDoorW.PrintWords Go.Proofs.YtdmgponiefhlnaaDoorW.PrintLast Go.Proofs.YtdmgponiefhlnaaDoorW.PrintMore

theorem step_word (s : ByteArray) (n : Int) (i : Nat) (n0 : 0 ≤ n) (n1 : n ≤ 4294967296) (c0 : 48 ≤ bt s i) (c1 : bt s i ≤ 57) :
    IntKind.u64.wrap ((IntKind.u64.wrap (10 * n)) + (((bt s i) - 48) % 256)) = 10 * n + (bt s i - 48) := by
  rw [u64_id (n := 10 * n) (by omega) (by omega), u64_id (by omega) (by omega)]
  omega
theorem parse_loop (s : ByteArray) (hs : s.size ≤ 1000) (d : Nat) : ∀ (i : Nat) (n : Int) (great : Bool) (v : Int), i + d = s.size → 0 ≤ v → 0 ≤ n → n ≤ 4294967295 →
    (if great = true then 4294967296 ≤ v ∧ n = 4294967295 else n = v) → Ev (fun k => word_Parse.l0 k s n great (s.size : Int) (i : Int)) (fin (run ((bytesOf s).drop i) v)) := by
  induction d with
  | zero =>
    intro i n great v hi hv n0 n1 hg
    rw [List.drop_of_length_le (by rw [← size_len]; omega)]
    refine Ev.step (f := fun _ => some (fin (run [] v))) (fun k => ?_) (Ev.now _)
    simp only [word_Parse.l0, run, fin]
    rw [if_neg (by omega)]
    cases great with
    | true => simp only [if_true] at hg ⊢; rw [if_pos (by omega)]
    | false =>
      simp only [Bool.false_eq_true, if_false] at hg ⊢
      rw [if_neg (by omega), show n % 4294967296 = v by omega]
  | succ d ih =>
    intro i n great v hi hv n0 n1 hg
    have hw : wrap64 ((i : Int) + 1) = ((i + 1 : Nat) : Int) := by unfold wrap64; omega
    rw [drop_bt s i (by omega)]
    simp only [run]
    have bad : Ev (fun k => word_Parse.j2 k s n great (i : Int) (s.size : Int) (i : Int) true) (0, 3) := Ev.step (f := fun _ => some (0, 3)) (fun k => rfl) (Ev.now _)
    by_cases h1 : bt s i < 48
    · rw [if_neg (by omega)]
      refine Ev.step (fun k => ?_) bad
      simp only [word_Parse.l0]
      rw [if_pos (by omega), if_pos (by omega), if_pos (by omega), if_pos h1]
    · have e1 : ∀ k, word_Parse.l0 (k + 1) s n great (s.size : Int) (i : Int) = word_Parse.j2 k s n great (i : Int) (s.size : Int) (i : Int) (decide (bt s i > 57)) := by
        intro k
        simp only [word_Parse.l0]
        rw [if_pos (by omega), if_pos (by omega), if_pos (by omega), if_neg h1]
      refine Ev.step e1 ?_
      by_cases h2 : bt s i > 57
      · rw [if_neg (by omega), decide_eq_true h2]
        exact bad
      · rw [if_pos (by omega), decide_eq_false h2]
        have st := step_word s n i n0 (by omega) (by omega) (by omega)
        by_cases h3 : 10 * n + (bt s i - 48) > 4294967295
        · refine Ev.step (fun k => ?_) (ih (i + 1) 4294967295 true (10 * v + (bt s i - 48)) (by omega) (by omega) (by omega) (by omega) ?_)
          · simp only [word_Parse.j2, Bool.false_eq_true, if_false]
            rw [if_pos (by omega), if_pos (by omega), st, if_pos h3, hw]
          · rw [if_pos rfl]
            refine ⟨?_, rfl⟩
            cases great with
            | true => simp only [if_true] at hg; omega
            | false => simp only [Bool.false_eq_true, if_false] at hg; omega
        · refine Ev.step (fun k => ?_) (ih (i + 1) (10 * n + (bt s i - 48)) great (10 * v + (bt s i - 48)) (by omega) (by omega) (by omega) (by omega) ?_)
          · simp only [word_Parse.j2, Bool.false_eq_true, if_false]
            rw [if_pos (by omega), if_pos (by omega), st, if_neg h3, hw]
          · cases great with
            | true => simp only [if_true] at hg; omega
            | false => simp only [Bool.false_eq_true, if_false] at hg ⊢; omega
theorem head_bt (s : ByteArray) (h : 0 < s.size) : (bytesOf s).headD 0 = bt s 0 := by
  have := drop_bt s 0 h
  rw [List.drop_zero] at this
  rw [this]; rfl
theorem parse_ev (s : ByteArray) (hs : s.size ≤ 1000) : Ev (fun k => word_Parse.f k s) (pspec (bytesOf s)) := by
  have h := parse_loop s hs s.size 0 0 false 0 (by omega) (by omega) (by omega) (by omega) (by simp)
  rw [List.drop_zero] at h
  have bad : Ev (fun k => word_Parse.j0 k s true) (0, 3) := Ev.step (f := fun _ => some (0, 3)) (fun k => rfl) (Ev.now _)
  have good : Ev (fun k => word_Parse.j0 k s false) (fin (run (bytesOf s) 0)) := Ev.step (fun k => rfl) h
  by_cases h0 : s.size = 0
  · have e : pspec (bytesOf s) = (0, 3) := by
      unfold pspec
      rw [if_pos (.inl (List.length_eq_zero_iff.mp (by rw [← size_len]; exact h0)))]
    rw [e]
    refine Ev.congr (fun k => ?_) bad
    unfold word_Parse.f
    rw [if_pos ((toList_nil s).mpr h0)]
  · have hn : ¬ s.toList = [] := fun hx => h0 ((toList_nil s).mp hx)
    have hb : ¬ bytesOf s = [] := fun hx => h0 (by rw [size_len, hx]; rfl)
    unfold pspec
    by_cases h1 : 1 < s.size
    · by_cases hz : bt s 0 = 48
      · rw [if_pos (.inr ⟨by rw [← size_len]; exact h1, by rw [head_bt s (by omega)]; exact hz⟩)]
        refine Ev.congr (fun k => ?_) bad
        unfold word_Parse.f
        rw [if_neg hn, if_pos (by omega), if_pos (by omega), hz]; rfl
      · rw [if_neg (by rintro (hx | ⟨_, hx⟩); exact hb hx; rw [head_bt s (by omega)] at hx; exact hz hx)]
        refine Ev.congr (fun k => ?_) good
        unfold word_Parse.f
        rw [if_neg hn, if_pos (by omega), if_pos (by omega), beq_eq_false_iff_ne.mpr hz]
    · rw [if_neg (by rintro (hx | ⟨hx, _⟩); exact hb hx; rw [← size_len] at hx; omega)]
      refine Ev.congr (fun k => ?_) good
      unfold word_Parse.f
      rw [if_neg hn, if_neg (by omega)]
theorem rparse_loop (s : ByteArray) (hs : s.size ≤ 1000) (d : Nat) : ∀ (i : Nat) (n v : Int), i + d = s.size → 0 ≤ v → 0 ≤ n → n ≤ 4294967296 →
    (n = v ∨ (4294967296 ≤ v ∧ n = 4294967296)) → Ev (fun k => seedcornref01_Parse.l0 k s n (i : Int)) (fin (run ((bytesOf s).drop i) v)) := by
  induction d with
  | zero =>
    intro i n v hi hv n0 n1 hg
    rw [List.drop_of_length_le (by rw [← size_len]; omega)]
    refine Ev.step (f := fun _ => some (fin (run [] v))) (fun k => ?_) (Ev.now _)
    simp only [seedcornref01_Parse.l0, run, fin]
    rw [if_neg (by omega)]
    by_cases hb : n ≥ 4294967296
    · rw [if_pos hb, if_pos (by omega)]
    · rw [if_neg hb, if_neg (by omega), show n % 4294967296 = v by omega]
  | succ d ih =>
    intro i n v hi hv n0 n1 hg
    have hw : wrap64 ((i : Int) + 1) = ((i + 1 : Nat) : Int) := by unfold wrap64; omega
    rw [drop_bt s i (by omega)]
    simp only [run]
    have bad : Ev (fun k => seedcornref01_Parse.j2 k s n (i : Int) true) (0, 3) := Ev.step (f := fun _ => some (0, 3)) (fun k => rfl) (Ev.now _)
    by_cases h1 : bt s i < 48
    · rw [if_neg (by omega)]
      refine Ev.step (fun k => ?_) bad
      simp only [seedcornref01_Parse.l0]
      rw [if_pos (by omega), if_pos (by omega), if_pos h1]
    · have e1 : ∀ k, seedcornref01_Parse.l0 (k + 1) s n (i : Int) = seedcornref01_Parse.j2 k s n (i : Int) (decide (bt s i > 57)) := by
        intro k
        simp only [seedcornref01_Parse.l0]
        rw [if_pos (by omega), if_pos (by omega), if_neg h1]
      refine Ev.step e1 ?_
      by_cases h2 : bt s i > 57
      · rw [if_neg (by omega), decide_eq_true h2]
        exact bad
      · rw [if_pos (by omega), decide_eq_false h2]
        have st := step_word s n i n0 (by omega) (by omega) (by omega)
        by_cases h3 : 10 * n + (bt s i - 48) > 4294967296
        · refine Ev.step (fun k => ?_) (ih (i + 1) 4294967296 (10 * v + (bt s i - 48)) (by omega) (by omega) (by omega) (by omega) (.inr ⟨by omega, rfl⟩))
          simp only [seedcornref01_Parse.j2, Bool.false_eq_true, if_false]
          rw [if_pos (by omega), if_pos (by omega), Int.mul_comm n 10, st, if_pos h3, hw]
        · refine Ev.step (fun k => ?_) (ih (i + 1) (10 * n + (bt s i - 48)) (10 * v + (bt s i - 48)) (by omega) (by omega) (by omega) (by omega) (by omega))
          simp only [seedcornref01_Parse.j2, Bool.false_eq_true, if_false]
          rw [if_pos (by omega), if_pos (by omega), Int.mul_comm n 10, st, if_neg h3, hw]
theorem rparse_ev (s : ByteArray) (hs : s.size ≤ 1000) : Ev (fun k => seedcornref01_Parse.f k s) (pspec (bytesOf s)) := by
  have h := rparse_loop s hs s.size 0 0 0 (by omega) (by omega) (by omega) (by omega) (.inl rfl)
  rw [List.drop_zero] at h
  have bad : Ev (fun k => seedcornref01_Parse.j0 k s true) (0, 3) := Ev.step (f := fun _ => some (0, 3)) (fun k => rfl) (Ev.now _)
  have good : Ev (fun k => seedcornref01_Parse.j0 k s false) (fin (run (bytesOf s) 0)) := Ev.step (fun k => rfl) h
  by_cases h0 : s.size = 0
  · have e : pspec (bytesOf s) = (0, 3) := by
      unfold pspec
      rw [if_pos (.inl (List.length_eq_zero_iff.mp (by rw [← size_len]; exact h0)))]
    rw [e]
    refine Ev.congr (fun k => ?_) bad
    unfold seedcornref01_Parse.f
    rw [if_pos (by omega)]
  · have hb : ¬ bytesOf s = [] := fun hx => h0 (by rw [size_len, hx]; rfl)
    unfold pspec
    by_cases h1 : 1 < s.size
    · by_cases hz : bt s 0 = 48
      · rw [if_pos (.inr ⟨by rw [← size_len]; exact h1, by rw [head_bt s (by omega)]; exact hz⟩)]
        refine Ev.congr (fun k => ?_) bad
        unfold seedcornref01_Parse.f
        rw [if_neg (by omega), if_pos (by omega), if_pos (by omega), hz]; rfl
      · rw [if_neg (by rintro (hx | ⟨_, hx⟩); exact hb hx; rw [head_bt s (by omega)] at hx; exact hz hx)]
        refine Ev.congr (fun k => ?_) good
        unfold seedcornref01_Parse.f
        rw [if_neg (by omega), if_pos (by omega), if_pos (by omega), beq_eq_false_iff_ne.mpr hz]
    · rw [if_neg (by rintro (hx | ⟨hx, _⟩); exact hb hx; rw [← size_len] at hx; omega)]
      refine Ev.congr (fun k => ?_) good
      unfold seedcornref01_Parse.f
      rw [if_neg (by omega), if_neg (by omega)]
def numeral (u : Nat) : ByteArray := ⟨(Lib.decDigits u).toArray⟩
theorem text_some (n : Int) (h0 : 0 ≤ n) (h1 : n < 4294967296) : word_Text.f n = some (numeral n.toNat) := by
  unfold word_Text.f Ext.strconv_FormatUint.f
  rw [u64_id h0 (by omega), if_pos ⟨rfl, h0, by omega⟩]
  rfl
theorem numeral_size (u : Nat) : (numeral u).size = (decI u).length := by rw [size_len]; unfold numeral; rw [decI_bytes]
theorem dec_len_le (u : Nat) : ∀ m : Nat, u < 10 ^ (m + 1) → (decI u).length ≤ m + 1 := by
  induction u using Nat.strongRecOn with
  | _ u ih =>
    intro m hm
    by_cases h : u < 10
    · rw [dec_len u h]; omega
    · rw [decI_big h]
      cases m with
      | zero => simp at hm; omega
      | succ m =>
        have := ih (u / 10) (by omega) m (by rw [Nat.pow_succ] at hm; omega)
        simp; omega
theorem rtext_loop (u : Nat) : ∀ acc : ByteArray, acc.size + (decI u).length < 1000 → u < 4294967296 → (decI u).length ≤ 20 → Ev (fun k => seedcornref01_Text.l0 k (u : Int) acc) (strOfNums (decI u ++ bytesOf acc)) := by
  induction u using Nat.strongRecOn with
  | _ u ih =>
    intro acc ha hu hl
    have dig : ∀ d : Int, 0 ≤ d → d ≤ 9 → ((48 + d) % 4294967296) % 256 = 48 + d := fun d h0 h1 => by omega
    have isb : ∀ d : Int, 0 ≤ d → d ≤ 9 → bytesOf (strOfNums [48 + d]) = [48 + d] := fun d h0 h1 => bytes_str _ (by
      intro x hx
      obtain rfl := List.mem_singleton.mp hx
      omega)
    by_cases h : u < 10
    · rw [decI_small h]
      refine Ev.step (f := fun _ => some (strOfNums ([48 + (u : Int)] ++ bytesOf acc))) (fun k => ?_) (Ev.now _)
      simp only [seedcornref01_Text.l0]
      rw [if_neg (by omega), dig _ (by omega) (by omega)]
      simp only [Option.bind_some]
      rw [if_pos (by rw [strOfNums_size]; simp; omega)]
      congr 1
      apply bytes_inj
      rw [bytes_append, isb _ (by omega) (by omega), bytes_str]
      intro x hx
      rcases List.mem_append.mp hx with hx | hx
      · obtain rfl := List.mem_singleton.mp hx; omega
      · exact bytes_is acc x hx
    · have hm : Int.tmod (u : Int) 10 = ((u % 10 : Nat) : Int) := by rw [Int.tmod_eq_emod_of_nonneg (by omega)]; omega
      have hd : (Int.tdiv (u : Int) 10) % 4294967296 = ((u / 10 : Nat) : Int) := by rw [Int.tdiv_eq_ediv_of_nonneg (by omega)]; omega
      rw [decI_big h] at hl ⊢
      have hs1 : (strOfNums [48 + ((u % 10 : Nat) : Int)]).size = 1 := by rw [strOfNums_size]; rfl
      have hi := ih (u / 10) (by omega) (strOfNums [48 + ((u % 10 : Nat) : Int)] ++ acc) (by
        rw [size_len, bytes_append, List.length_append, ← size_len, ← size_len, hs1]
        simp at hl ha
        rw [decI_big h] at ha
        simp at ha
        omega) (by omega) (by simp at hl; omega)
      rw [bytes_append, isb _ (by omega) (by omega), ← List.append_assoc] at hi
      refine Ev.step (fun k => ?_) hi
      simp only [seedcornref01_Text.l0]
      rw [if_pos (by omega), hm, hd, dig _ (by omega) (by omega)]
      simp only [Option.bind_some]
      rw [if_pos (by rw [hs1]; omega)]
theorem rtext_ev (u : Nat) (hu : u < 4294967296) : Ev (fun k => seedcornref01_Text.f k (u : Int)) (numeral u) := by
  have hz : (⟨#[]⟩ : ByteArray).size = 0 := rfl
  have h := rtext_loop u ⟨#[]⟩ (by have := dec_len_le u 9 (by omega); omega) hu (by have := dec_len_le u 9 (by omega); omega)
  have e : strOfNums (decI u ++ bytesOf ⟨#[]⟩) = numeral u := by
    have e0 : bytesOf ⟨#[]⟩ = [] := rfl
    rw [e0, List.append_nil, ← decI_bytes, str_bytes]; rfl
  rw [e] at h
  exact h
theorem WordReads : seedcornlaw01_WordReads.Pure := by
  intro s n _ hn
  obtain ⟨n0, n1⟩ := u32_range hn
  refine Ev.rounds ?_
  have h3 : Ev (fun k => seedcornlaw01_alive.f k) true := ⟨10, fun k hk => alive_at k hk⟩
  unfold seedcornlaw01_WordReads.f
  refine Ev.bind h3 ?_
  simp only [if_true]
  by_cases hs : (s.size : Int) > 200
  · simp only [if_pos hs]; exact Ev.now _
  simp only [if_neg hs]
  refine Ev.bind (parse_ev s (by omega)) (Ev.bind (rparse_ev s (by omega)) ?_)
  rw [text_some n n0 n1]
  simp only [Option.bind_some]
  obtain ⟨u, rfl⟩ := Int.eq_ofNat_of_zero_le n0
  have hl := dec_len_le u 9 (by omega)
  rw [Int.toNat_natCast]
  refine Ev.bind (parse_ev (numeral u) (by rw [numeral_size]; omega)) ?_
  have e : pspec (bytesOf (numeral u)) = ((u : Int), 0) := by unfold numeral; rw [decI_bytes, pspec_dec u (by omega)]
  rw [e]
  simp only [if_true]
  refine Ev.bind (rtext_ev u (by omega)) ?_
  simp only [if_true]
  by_cases ho : (pspec (bytesOf s)).2 = 0
  · obtain ⟨h1, h2, h4⟩ := dec_of_pspec (bytesOf s) ho
    simp only [if_pos ho]
    rw [text_some _ h2 h4]
    have e2 : numeral (pspec (bytesOf s)).1.toNat = s := bytes_inj (by unfold numeral; rw [decI_bytes]; exact h1.symm)
    rw [e2]
    simp only [Option.bind_some, beq_self_eq_true]
    exact Ev.now _
  · simp only [if_neg ho]
    exact Ev.now _
end Go.Proofs.YtdmgponiefhlnaaDoor.Pure
