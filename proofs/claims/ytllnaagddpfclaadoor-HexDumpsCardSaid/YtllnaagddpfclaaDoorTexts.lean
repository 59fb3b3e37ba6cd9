/- Texts as lists of numbers; decimal numerals: read and written. Plain laws, no program in sight. -/
import Derived.Test.YtllnaagddpfclaaDoorWWords
import Derived.Test.YtllnaagddpfclaaDoorWMore
import Derived.Lib.ItoaNum
namespace Go.Proofs.YtllnaagddpfclaaDoor.Texts
open Go Go.RowKit Go.Proofs.YtllnaagddpfclaaDoorW.PrintWords Go.Proofs.YtllnaagddpfclaaDoorW.PrintLast

/-! texts as lists of numbers -/
def isBytes (l : List Int) : Prop := ∀ x ∈ l, 0 ≤ x ∧ x < 256
theorem bytes_is (s : ByteArray) : isBytes (bytesOf s) := by
  intro x hx
  unfold bytesOf at hx
  obtain ⟨b, _, rfl⟩ := List.mem_map.mp hx
  have := b.toNat_lt
  omega
theorem str_bytes (s : ByteArray) : strOfNums (bytesOf s) = s := by
  unfold strOfNums bytesOf
  rw [List.map_map]
  have h : ((fun n : Int => UInt8.ofNat n.toNat) ∘ fun b : UInt8 => (b.toNat : Int)) = id := by
    funext b
    simp
  rw [h]
  simp
theorem bytes_str (l : List Int) (h : isBytes l) : bytesOf (strOfNums l) = l := by
  unfold bytesOf
  rw [strOfNums_data, List.map_map]
  conv => rhs; rw [← List.map_id l]
  apply List.map_congr_left
  intro x hx
  obtain ⟨h0, h1⟩ := h x hx
  simp
  omega
theorem size_len (s : ByteArray) : s.size = (bytesOf s).length := (bytesOf_length s).symm
theorem bytes_extract (s : ByteArray) (i : Nat) : bytesOf (s.extract i s.size) = (bytesOf s).drop i := by
  unfold bytesOf
  rw [ByteArray.data_extract, Array.toList_extract, ← List.map_drop]
  congr 1
  rw [List.extract_eq_take_drop]
  apply List.take_of_length_le
  rw [List.length_drop, data_length]
  omega

theorem bt_list (s : ByteArray) (i : Nat) : bt s (i : Int) = (bytesOf s).getD i 0 := by
  rw [← rd_bytesOf]
  unfold rd
  simp
theorem bytes_append (s t : ByteArray) : bytesOf (s ++ t) = bytesOf s ++ bytesOf t := by
  unfold bytesOf
  simp
theorem bytes_inj {s t : ByteArray} (h : bytesOf s = bytesOf t) : s = t := by
  rw [← str_bytes s, ← str_bytes t, h]
theorem drop_bt (s : ByteArray) (i : Nat) (h : i < s.size) : (bytesOf s).drop i = bt s (i : Int) :: (bytesOf s).drop (i + 1) := by
  rw [List.drop_eq_getElem_cons (by rw [← size_len]; exact h), bt_list]
  simp [← size_len, h]
theorem toList_nil (s : ByteArray) : s.toList = [] ↔ s.size = 0 := by
  rw [ByteArray.toList_eq]
  rw [List.length_eq_zero_iff.symm, data_length]

/-! numerals -/
def decI (u : Nat) : List Int := (Lib.decDigits u).map fun (b : UInt8) => (b.toNat : Int)
theorem decI_bytes (u : Nat) : bytesOf ⟨(Lib.decDigits u).toArray⟩ = decI u := by unfold bytesOf decI; simp
theorem decI_small {u : Nat} (h : u < 10) : decI u = [48 + (u : Int)] := by
  unfold decI
  rw [Lib.decDigits, dif_pos h]
  simp
  omega
theorem decI_big {u : Nat} (h : ¬ u < 10) : decI u = decI (u / 10) ++ [48 + ((u % 10 : Nat) : Int)] := by
  unfold decI
  rw [Lib.decDigits, dif_neg h]
  simp
  omega
/-- The number that digits say, going on from v. -/
def run : List Int → Int → Option Int
  | [], v => some v
  | c :: r, v => if 48 ≤ c ∧ c ≤ 57 then run r (10 * v + (c - 48)) else none
theorem run_append (a b : List Int) (v : Int) : run (a ++ b) v = (run a v).bind fun w => run b w := by
  induction a generalizing v with
  | nil => rfl
  | cons c r ih =>
    simp only [List.cons_append, run]
    by_cases h : 48 ≤ c ∧ c ≤ 57
    · rw [if_pos h, if_pos h, ih]
    · rw [if_neg h, if_neg h]; rfl
theorem run_nonneg (l : List Int) : ∀ (v w : Int), 0 ≤ v → run l v = some w → v ≤ w := by
  induction l with
  | nil => intro v w _ h; simp only [run, Option.some.injEq] at h; omega
  | cons c r ih =>
    intro v w h0 h
    simp only [run] at h
    by_cases hc : 48 ≤ c ∧ c ≤ 57
    · rw [if_pos hc] at h
      have := ih _ _ (by omega) h
      omega
    · rw [if_neg hc] at h; cases h
theorem run_dec (u : Nat) : run (decI u) 0 = some (u : Int) := by
  induction u using Nat.strongRecOn with
  | _ u ih =>
    by_cases h : u < 10
    · rw [decI_small h]
      simp only [run]
      rw [if_pos (by omega)]
      congr 1; omega
    · rw [decI_big h, run_append, ih (u / 10) (by omega)]
      simp only [Option.bind_some, run]
      rw [if_pos (by omega)]
      congr 1; omega
theorem dec_head (u : Nat) : ∃ c r, decI u = c :: r ∧ (0 < u → c ≠ 48) ∧ (u < 10 → r = []) := by
  induction u using Nat.strongRecOn with
  | _ u ih =>
    by_cases h : u < 10
    · exact ⟨_, _, decI_small h, fun h0 => by omega, fun _ => rfl⟩
    · obtain ⟨c, r, e, h1, _⟩ := ih (u / 10) (by omega)
      refine ⟨c, r ++ [48 + ((u % 10 : Nat) : Int)], ?_, fun _ => h1 (by omega), fun h2 => absurd h2 h⟩
      rw [decI_big h, e]; rfl
theorem dec_len (u : Nat) (h : u < 10) : (decI u).length = 1 := by rw [decI_small h]; rfl
theorem dec_of_run (n : Nat) : ∀ (l : List Int) (v : Int), l.length = n → l ≠ [] → (1 < l.length → l.headD 0 ≠ 48) → run l 0 = some v → 0 ≤ v ∧ l = decI v.toNat := by
  induction n with
  | zero => intro l v hl hn; exact absurd (List.length_eq_zero_iff.mp hl) hn
  | succ n ih =>
    intro l v hl hn hh hr
    obtain ⟨a, c, rfl⟩ : ∃ a c, l = a ++ [c] := ⟨l.dropLast, l.getLast hn, (List.dropLast_concat_getLast hn).symm⟩
    rw [run_append] at hr
    obtain ⟨w, hw, hr⟩ := Option.bind_eq_some_iff.mp hr
    simp only [run] at hr
    by_cases hc : 48 ≤ c ∧ c ≤ 57
    · rw [if_pos hc] at hr
      obtain rfl := Option.some.inj hr
      cases a with
      | nil =>
        simp only [run, Option.some.injEq] at hw
        subst hw
        refine ⟨by omega, ?_⟩
        rw [decI_small (by omega)]
        simp
        omega
      | cons d r =>
        have hh' : d ≠ 48 := by simpa using hh (by simp)
        have h1 : 1 ≤ w := by
          simp only [run] at hw
          by_cases hd : 48 ≤ d ∧ d ≤ 57
          · rw [if_pos hd] at hw
            have := run_nonneg r _ _ (by omega) hw
            omega
          · rw [if_neg hd] at hw; cases hw
        obtain ⟨h2, h3⟩ := ih (d :: r) w (by simpa using hl) (by simp) (fun _ => by simpa using hh') hw
        refine ⟨by omega, ?_⟩
        rw [decI_big (by omega), h3]
        congr 2
        · congr 1; omega
        · omega
    · rw [if_neg hc] at hr; cases hr
/-- What is read of a text: a word, or the error. -/
def fin : Option Int → Int × Int
  | none => (0, 3)
  | some v => if v ≥ 4294967296 then (0, 2) else (v, 0)
def pspec (l : List Int) : Int × Int := if l = [] ∨ (1 < l.length ∧ l.headD 0 = 48) then (0, 3) else fin (run l 0)
theorem pspec_dec (u : Nat) (h : u < 4294967296) : pspec (decI u) = ((u : Int), 0) := by
  obtain ⟨c, r, e, h1, h2⟩ := dec_head u
  unfold pspec
  rw [if_neg, run_dec]
  · simp only [fin]
    rw [if_neg (by omega)]
  · rw [e]
    intro hx
    rcases hx with hx | ⟨hx, hy⟩
    · cases hx
    · by_cases h10 : u < 10
      · rw [h2 h10] at hx; simp at hx
      · exact h1 (by omega) (by simpa using hy)
theorem dec_of_pspec (l : List Int) (h : (pspec l).2 = 0) : l = decI (pspec l).1.toNat ∧ 0 ≤ (pspec l).1 ∧ (pspec l).1 < 4294967296 := by
  unfold pspec at h ⊢
  by_cases hc : l = [] ∨ (1 < l.length ∧ l.headD 0 = 48)
  · rw [if_pos hc] at h; simp at h
  · rw [if_neg hc] at h ⊢
    cases hr : run l 0 with
    | none => rw [hr] at h; simp [fin] at h
    | some v =>
      rw [hr] at h
      simp only [fin] at h ⊢
      by_cases hv : v ≥ 4294967296
      · rw [if_pos hv] at h; simp at h
      · rw [if_neg hv]
        have hn : l ≠ [] := fun h0 => hc (.inl h0)
        obtain ⟨h1, h2⟩ := dec_of_run l.length l v rfl hn (fun h3 h4 => hc (.inr ⟨h3, h4⟩)) hr
        exact ⟨h2, h1, by omega⟩
end Go.Proofs.YtllnaagddpfclaaDoor.Texts
