/- The document's Dump, byte by byte, is a dump's lines. -/
import Derived.Test.YtllnaagddpfclaaDoorRefDump
import Derived.Test.YtllnaagddpfclaaDoorHexLine
namespace Go.Proofs.YtllnaagddpfclaaDoor.Hex
open Go Go.RowKit Go.Proofs.YtllnaagddpfclaaDoor Go.Proofs.YtllnaagddpfclaaDoor.Q Go.Proofs.YtllnaagddpfclaaDoor.Texts Go.Proofs.YtllnaagddpfclaaDoorW.PrintWords Go.Proofs.YtllnaagddpfclaaDoorW.PrintLast Go.Proofs.YtllnaagddpfclaaDoorW.PrintMore
theorem dsign_all : ∀ d : Fin 16, D.seedcornref02_sign.f (d.val : Int) = some (hexd (d.val : Int)) := by decide +kernel
theorem dsign_eq (d : Int) (h0 : 0 ≤ d) (h1 : d < 16) : D.seedcornref02_sign.f d = some (hexd d) := by
  have := dsign_all ⟨d.toNat, by omega⟩
  simp only [Int.toNat_of_nonneg h0] at this
  exact this
theorem deci_loop (u : Nat) : ∀ acc : List Int, u ≤ 1000000 → acc.length + u ≤ 2000000 → Ev (fun k => D.seedcornref02_decimal.l0 k (u : Int) acc) (strOfNums ((if u = 0 then [] else decI u) ++ acc)) := by
  induction u using Nat.strongRecOn with
  | _ u ih =>
    intro acc hu ha
    by_cases h0 : u = 0
    · subst h0
      exact Ev.step (f := fun _ => some (strOfNums acc)) (fun _ => rfl) (Ev.now _)
    · rw [if_neg h0]
      have hm : (wrap64 (48 + Int.tmod (u : Int) 10)) % 256 = 48 + ((u % 10 : Nat) : Int) := by
        rw [Int.tmod_eq_emod_of_nonneg (by omega)]; unfold wrap64; omega
      have hd : wrap64 (Int.tdiv (u : Int) 10) = ((u / 10 : Nat) : Int) := by
        rw [Int.tdiv_eq_ediv_of_nonneg (by omega)]; unfold wrap64; omega
      have hi := ih (u / 10) (by omega) ((48 + ((u % 10 : Nat) : Int)) :: acc) (by omega) (by rw [List.length_cons]; omega)
      refine Ev.step (f := fun k => D.seedcornref02_decimal.l0 k ((u / 10 : Nat) : Int) ((48 + ((u % 10 : Nat) : Int)) :: acc)) (fun k => ?_) ?_
      · simp only [D.seedcornref02_decimal.l0, Option.bind_some]
        rw [if_pos (by omega), hm, hd, if_pos (by simp only [List.length_cons, List.length_nil]; omega)]
        rfl
      · by_cases h : u < 10
        · rw [if_pos (by omega), List.nil_append] at hi
          rw [decI_small h]
          have : u % 10 = u := by omega
          rw [this] at hi ⊢
          exact hi
        · rw [if_neg (by omega)] at hi
          rw [decI_big h, List.append_assoc]
          exact hi
theorem decimal_ev (u : Nat) (hu : u ≤ 1000000) : Ev (fun k => D.seedcornref02_decimal.f k (u : Int)) (strOfNums (decI u)) := by
  by_cases h : u < 10
  · have e : (wrap64 (48 + (u : Int))) % 256 = 48 + (u : Int) := by unfold wrap64; omega
    rw [decI_small h]
    refine Ev.congr (fun k => ?_) (Ev.now _)
    unfold D.seedcornref02_decimal.f
    rw [if_pos (by omega), e]
  · have hl := deci_loop u [] hu (by simp; omega)
    rw [if_neg (by omega), List.append_nil] at hl
    refine Ev.congr (fun k => ?_) hl
    unfold D.seedcornref02_decimal.f
    rw [if_neg (by omega)]
def foot (a : Nat) : List Int := [32, 32, 35, 32] ++ decI a ++ [10]
def refD : List Int → Nat → List Int
  | [], _ => []
  | c :: l, i => (if i % 16 > 0 then [32] else []) ++ (two c ++ ((if i % 16 = 15 ∨ l = [] then foot (i - i % 16) else []) ++ refD l (i + 1)))
theorem refD_tail (a : Nat) (ha : a % 16 = 0) (m : Nat) : ∀ (l : List Int) (i : Nat), i + (m + 1) = a + 16 → m + 1 ≤ 15 → l ≠ [] → refD l i = tailL (l.take (m + 1)) ++ (foot a ++ refD (l.drop (m + 1)) (a + 16)) := by
  induction m with
  | zero =>
    intro l i hi _ hl
    cases l with
    | nil => exact absurd rfl hl
    | cons c l =>
      rw [refD, if_pos (by omega), if_pos (Or.inl (by omega)), show i - i % 16 = a by omega, show i + 1 = a + 16 by omega]
      simp [tailL]
  | succ m ih =>
    intro l i hi hm hl
    cases l with
    | nil => exact absurd rfl hl
    | cons c l =>
      rw [refD, if_pos (by omega)]
      by_cases hl2 : l = []
      · subst hl2
        rw [if_pos (Or.inr rfl), show i - i % 16 = a by omega]
        simp [tailL, refD]
      · rw [if_neg (by intro h; rcases h with h | h; omega; exact hl2 h), ih l (i + 1) (by omega) (by omega) hl2]
        simp [tailL]
theorem refD_dump (n : Nat) : ∀ (l : List Int) (a : Nat), a % 16 = 0 → l.length ≤ 16 * n → refD l a = dumpN n l a := by
  induction n with
  | zero =>
    intro l a _ hl
    have : l = [] := List.length_eq_zero_iff.mp (by omega)
    subst this; rfl
  | succ n ih =>
    intro l a ha hl
    cases l with
    | nil => rfl
    | cons c l =>
      rw [dumpN, if_neg (by simp), ← ih _ (a + 16) (by omega) (by rw [List.length_drop]; omega)]
      rw [refD, if_neg (by omega)]
      by_cases hl2 : l = []
      · subst hl2
        rw [if_pos (Or.inr rfl), show a - a % 16 = a by omega]
        simp [lineL, sepL, tailL, foot, refD]
      · rw [if_neg (by intro h; rcases h with h | h; omega; exact hl2 h), refD_tail a ha 14 l (a + 1) (by omega) (by omega) hl2]
        simp [lineL, sepL, foot]
theorem rdump_loop (s : ByteArray) (hs : s.size ≤ 3000) (n : Nat) : ∀ (i : Nat) (acc : List Int), i + n = s.size → acc.length ≤ 20 * i →
    Ev (fun k => D.seedcornref02_Dump.l0 k s acc (i : Int)) (strOfNums (acc ++ refD ((bytesOf s).drop i) i)) := by
  have hL := size_len s
  induction n with
  | zero =>
    intro i acc hin _
    rw [List.drop_of_length_le (by omega)]
    simp only [refD, List.append_nil]
    refine Ev.step (f := fun _ => some (strOfNums acc)) (fun k => ?_) (Ev.now _)
    simp only [D.seedcornref02_Dump.l0]
    rw [if_neg (by omega)]
  | succ n ih =>
    intro i acc hin ha
    have hw : wrap64 ((i : Int) + 1) = ((i + 1 : Nat) : Int) := by unfold wrap64; omega
    obtain ⟨b0, b1⟩ := bt_range s (i : Int)
    have w0 : wrap64 (bt s (i : Int)) = bt s (i : Int) := by unfold wrap64; omega
    have q1 : wrap64 (Int.tdiv (bt s (i : Int)) 16) = bt s (i : Int) / 16 := by rw [Int.tdiv_eq_ediv_of_nonneg b0]; unfold wrap64; omega
    have q2 : Int.tmod (bt s (i : Int)) 16 = bt s (i : Int) % 16 := Int.tmod_eq_emod_of_nonneg b0
    have hm : Int.tmod (i : Int) 16 = ((i % 16 : Nat) : Int) := by rw [Int.tmod_eq_emod_of_nonneg (by omega)]; omega
    have hs1 : wrap64 ((i : Int) - ((i % 16 : Nat) : Int)) = ((i - i % 16 : Nat) : Int) := by unfold wrap64; omega
    have hs2 : wrap64 ((s.size : Int) - 1) = ((s.size - 1 : Nat) : Int) := by unfold wrap64; omega
    have hnil : (bytesOf s).drop (i + 1) = [] ↔ i = s.size - 1 := by
      rw [List.drop_eq_nil_iff]
      omega
    rw [drop_bt s i (by omega)]
    have key : ∀ acc1 : List Int, acc1.length ≤ 20 * i + 1 → Ev (fun k => D.seedcornref02_Dump.j1 k s acc1 (i : Int)) (strOfNums (acc1 ++ (two (bt s (i : Int)) ++ ((if i % 16 = 15 ∨ (bytesOf s).drop (i + 1) = [] then foot (i - i % 16) else []) ++ refD ((bytesOf s).drop (i + 1)) (i + 1))))) := by
      intro acc1 h1
      have hf : (foot (i - i % 16)).length ≤ 15 := by
        have := dec_len_le (i - i % 16) 9 (by omega)
        simp only [foot, List.length_append, List.length_cons, List.length_nil]; omega
      have dv := decimal_ev (i - i % 16) (by omega)
      have zt : (strOfNums (decI (i - i % 16))).size ≤ 10 := by
        have := dec_len_le (i - i % 16) 9 (by omega)
        rw [str_size]; omega
      have e1 : bytesOf (⟨#[32, 32, 35, 32]⟩ : ByteArray) = [32, 32, 35, 32] := rfl
      have e2 : bytesOf (⟨#[10]⟩ : ByteArray) = [10] := rfl
      have z1 : (⟨#[32, 32, 35, 32]⟩ : ByteArray).size = 4 := rfl
      have z2 : (⟨#[10]⟩ : ByteArray).size = 1 := rfl
      have ef : bytesOf (((⟨#[32, 32, 35, 32]⟩ : ByteArray) ++ strOfNums (decI (i - i % 16))) ++ (⟨#[10]⟩ : ByteArray)) = foot (i - i % 16) := by
        rw [bytes_append, bytes_append, e1, e2, bytes_str _ (dec_bytes _)]; rfl
      have st : ∀ k, D.seedcornref02_Dump.j1 (k + 1) s acc1 (i : Int) = (if ((i % 16 : Nat) : Int) = 15 then ((D.seedcornref02_decimal.f k ((i - i % 16 : Nat) : Int)).bind fun t121 => (if 4 + t121.size ≤ 9223372036854775807 then (if ((⟨#[32, 32, 35, 32]⟩ : ByteArray) ++ t121).size + 1 ≤ 9223372036854775807 then (if (acc1 ++ two (bt s (i : Int))).length + (((⟨#[32, 32, 35, 32]⟩ : ByteArray) ++ t121) ++ (⟨#[10]⟩ : ByteArray)).size < 140737488355328 then (D.seedcornref02_Dump.l0 k s ((acc1 ++ two (bt s (i : Int))) ++ bytesOf (((⟨#[32, 32, 35, 32]⟩ : ByteArray) ++ t121) ++ (⟨#[10]⟩ : ByteArray))) ((i + 1 : Nat) : Int)) else (none)) else (none)) else (none))) else (if (i : Int) = ((s.size - 1 : Nat) : Int) then ((D.seedcornref02_decimal.f k ((i - i % 16 : Nat) : Int)).bind fun t125 => (if 4 + t125.size ≤ 9223372036854775807 then (if ((⟨#[32, 32, 35, 32]⟩ : ByteArray) ++ t125).size + 1 ≤ 9223372036854775807 then (if (acc1 ++ two (bt s (i : Int))).length + (((⟨#[32, 32, 35, 32]⟩ : ByteArray) ++ t125) ++ (⟨#[10]⟩ : ByteArray)).size < 140737488355328 then (D.seedcornref02_Dump.l0 k s ((acc1 ++ two (bt s (i : Int))) ++ bytesOf (((⟨#[32, 32, 35, 32]⟩ : ByteArray) ++ t125) ++ (⟨#[10]⟩ : ByteArray))) ((i + 1 : Nat) : Int)) else (none)) else (none)) else (none))) else (D.seedcornref02_Dump.l0 k s (acc1 ++ two (bt s (i : Int))) ((i + 1 : Nat) : Int)))) := by
        intro k
        simp only [D.seedcornref02_Dump.j1]
        rw [if_pos (by omega), if_pos (by omega), w0, q1, q2, dsign_eq _ (by omega) (by omega), dsign_eq _ (by omega) (by omega), hm, hs1, hs2, hw]
        simp only [Option.bind_some, List.length_cons, List.length_nil]
        rw [if_pos (by omega)]
        rfl
      have hl1 : (acc1 ++ two (bt s (i : Int))).length ≤ 20 * i + 3 := by simp only [two, List.length_append, List.length_cons, List.length_nil]; omega
      have deep : Ev (fun k => (D.seedcornref02_decimal.f k ((i - i % 16 : Nat) : Int)).bind fun t121 => (if 4 + t121.size ≤ 9223372036854775807 then (if ((⟨#[32, 32, 35, 32]⟩ : ByteArray) ++ t121).size + 1 ≤ 9223372036854775807 then (if (acc1 ++ two (bt s (i : Int))).length + (((⟨#[32, 32, 35, 32]⟩ : ByteArray) ++ t121) ++ (⟨#[10]⟩ : ByteArray)).size < 140737488355328 then (D.seedcornref02_Dump.l0 k s ((acc1 ++ two (bt s (i : Int))) ++ bytesOf (((⟨#[32, 32, 35, 32]⟩ : ByteArray) ++ t121) ++ (⟨#[10]⟩ : ByteArray))) ((i + 1 : Nat) : Int)) else (none)) else (none)) else (none))) (strOfNums (((acc1 ++ two (bt s (i : Int))) ++ foot (i - i % 16)) ++ refD ((bytesOf s).drop (i + 1)) (i + 1))) := by
        refine Ev.bind dv ?_
        rw [ef]
        have c1 : 4 + (strOfNums (decI (i - i % 16))).size ≤ 9223372036854775807 := by omega
        have c2 : ((⟨#[32, 32, 35, 32]⟩ : ByteArray) ++ strOfNums (decI (i - i % 16))).size + 1 ≤ 9223372036854775807 := by rw [ByteArray.size_append]; omega
        have c3 : (acc1 ++ two (bt s (i : Int))).length + (((⟨#[32, 32, 35, 32]⟩ : ByteArray) ++ strOfNums (decI (i - i % 16))) ++ (⟨#[10]⟩ : ByteArray)).size < 140737488355328 := by rw [ByteArray.size_append, ByteArray.size_append]; omega
        simp only [if_pos c1, if_pos c2, if_pos c3]
        exact ih (i + 1) _ (by omega) (by rw [List.length_append]; omega)
      refine Ev.step st ?_
      by_cases c15 : i % 16 = 15
      · rw [if_pos (Or.inl c15)]
        simp only [if_pos (show ((i % 16 : Nat) : Int) = 15 by omega)]
        simpa only [List.append_assoc] using deep
      · simp only [if_neg (show ¬ ((i % 16 : Nat) : Int) = 15 by omega)]
        by_cases cl : i = s.size - 1
        · rw [if_pos (Or.inr (hnil.mpr cl))]
          simp only [if_pos (show (i : Int) = ((s.size - 1 : Nat) : Int) by omega)]
          simpa only [List.append_assoc] using deep
        · rw [if_neg (by intro h; rcases h with h | h; exact c15 h; exact cl (hnil.mp h))]
          simp only [if_neg (show ¬ (i : Int) = ((s.size - 1 : Nat) : Int) by omega)]
          have h2 := ih (i + 1) (acc1 ++ two (bt s (i : Int))) (by omega) (by omega)
          simpa only [List.append_assoc, List.nil_append] using h2
    rw [refD]
    refine Ev.step (f := fun k => if ((i % 16 : Nat) : Int) > 0 then (if acc.length < 140737488355328 then (D.seedcornref02_Dump.j1 k s (acc ++ [32]) (i : Int)) else (none)) else (D.seedcornref02_Dump.j1 k s acc (i : Int))) (fun k => ?_) ?_
    · simp only [D.seedcornref02_Dump.l0]
      rw [if_pos (by omega), hm]
    · by_cases c0 : i % 16 > 0
      · rw [if_pos c0]
        simp only [if_pos (show ((i % 16 : Nat) : Int) > 0 by omega), if_pos (show acc.length < 140737488355328 by omega)]
        have := key (acc ++ [32]) (by rw [List.length_append, List.length_singleton]; omega)
        simpa only [List.append_assoc] using this
      · rw [if_neg c0]
        simp only [if_neg (show ¬ ((i % 16 : Nat) : Int) > 0 by omega)]
        have := key acc (by omega)
        simpa only [List.nil_append] using this
theorem rdump_ev (s : ByteArray) (hs : s.size ≤ 3000) : Ev (fun k => Ext.seedcornref02_Dump.f k s) (strOfNums (dumpN 188 (bytesOf s) 0)) := by
  have h := rdump_loop s hs s.size 0 [] (by omega) (by simp)
  rw [List.drop_zero, List.nil_append, refD_dump 188 _ 0 rfl (by rw [← size_len]; omega)] at h
  exact h
end Go.Proofs.YtllnaagddpfclaaDoor.Hex
