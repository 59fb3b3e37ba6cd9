/- The bytes of any words are the document's, and are read as them; any bytes are read as the document reads them, and written as they were: the printed statement of WordPacks. -/
import Derived.Test.YtdmgponiefhlnaaQx20
import Derived.Test.YtdmgponiefhlnaaBitsBase
namespace Go.Proofs.Ytdmgponiefhlnaa.Pure
open Go Go.RowKit Go.Proofs.Ytdmgponiefhlnaa.Q Go.Proofs.Ytdmgponiefhlnaa.Base Go.Proofs.YtdmgponiefhlnaaW.PrintWords Go.Proofs.YtdmgponiefhlnaaW.PrintLast Go.Proofs.YtdmgponiefhlnaaW.PrintMore

/-! texts as lists of numbers -/
def isBytes (l : List Int) : Prop := ∀ x ∈ l, 0 ≤ x ∧ x < 256
theorem bytes_is (s : ByteArray) : isBytes (bytesOf s) := by
  intro x hx
  unfold bytesOf at hx
  obtain ⟨b, _, rfl⟩ := List.mem_map.mp hx
  have := b.toNat_lt
  omega
theorem str_bytes (s : ByteArray) : strOfNums (bytesOf s) = s := by
  unfold strOfNums bytesOf
  rw [List.map_map]
  have h : ((fun n : Int => UInt8.ofNat n.toNat) ∘ fun b : UInt8 => (b.toNat : Int)) = id := by
    funext b
    simp
  rw [h]
  simp
theorem bytes_str (l : List Int) (h : isBytes l) : bytesOf (strOfNums l) = l := by
  unfold bytesOf
  rw [strOfNums_data, List.map_map]
  conv => rhs; rw [← List.map_id l]
  apply List.map_congr_left
  intro x hx
  obtain ⟨h0, h1⟩ := h x hx
  simp
  omega
theorem size_len (s : ByteArray) : s.size = (bytesOf s).length := (bytesOf_length s).symm
theorem bytes_extract (s : ByteArray) (i : Nat) : bytesOf (s.extract i s.size) = (bytesOf s).drop i := by
  unfold bytesOf
  rw [ByteArray.data_extract, Array.toList_extract, ← List.map_drop]
  congr 1
  rw [List.extract_eq_take_drop]
  apply List.take_of_length_le
  rw [List.length_drop, data_length]
  omega

/-! a word's bytes -/
def bytes4 (w : Int) : List Int := [w % 256, w / 256 % 256, w / 65536 % 256, w / 16777216 % 256]
def isWords (l : List Int) : Prop := ∀ x ∈ l, 0 ≤ x ∧ x < 4294967296
theorem bytes4_is (w : Int) : isBytes (bytes4 w) := by
  intro x hx
  simp only [bytes4, List.mem_cons, List.not_mem_nil, or_false] at hx
  rcases hx with rfl | rfl | rfl | rfl <;> omega
theorem flat_is (l : List Int) : isBytes (l.flatMap bytes4) := by
  intro x hx
  obtain ⟨w, _, h⟩ := List.mem_flatMap.mp hx
  exact bytes4_is w x h
theorem flat_len (l : List Int) : (l.flatMap bytes4).length = 4 * l.length := by
  induction l with
  | nil => rfl
  | cons w l ih => simp [bytes4, ih]; omega
def wordsOf : List Int → List Int
  | b0 :: b1 :: b2 :: b3 :: r => (b0 + 256 * b1 + 65536 * b2 + 16777216 * b3) :: wordsOf r
  | _ => []
theorem words_flat (l : List Int) (h : isWords l) : wordsOf (l.flatMap bytes4) = l := by
  induction l with
  | nil => rfl
  | cons w l ih =>
    obtain ⟨h0, h1⟩ := h w List.mem_cons_self
    have h2 := ih (fun x hx => h x (List.mem_cons_of_mem _ hx))
    simp only [List.flatMap_cons, bytes4, List.cons_append, List.nil_append, wordsOf]
    rw [h2]
    congr 1
    omega
theorem four (l : List Int) (h : l.length % 4 = 0) (hn : l ≠ []) : ∃ b0 b1 b2 b3 r, l = b0 :: b1 :: b2 :: b3 :: r := by
  match l with
  | [] => exact absurd rfl hn
  | [_] => simp at h
  | [_, _] => simp at h
  | [_, _, _] => simp at h
  | b0 :: b1 :: b2 :: b3 :: r => exact ⟨b0, b1, b2, b3, r, rfl⟩
theorem flat_words (n : Nat) : ∀ l : List Int, l.length = 4 * n → isBytes l → (wordsOf l).flatMap bytes4 = l ∧ isWords (wordsOf l) ∧ (wordsOf l).length = n := by
  induction n with
  | zero => intro l hl _; have : l = [] := List.length_eq_zero_iff.mp (by omega)
            subst this; exact ⟨rfl, fun x hx => absurd hx (by simp [wordsOf]), rfl⟩
  | succ n ih =>
    intro l hl hb
    obtain ⟨b0, b1, b2, b3, r, rfl⟩ := four l (by omega) (by intro h; subst h; simp at hl)
    obtain ⟨h1, h2, h3⟩ := ih r (by simp at hl; omega) (fun x hx => hb x (by simp [hx]))
    obtain ⟨p0, q0⟩ := hb b0 (by simp)
    obtain ⟨p1, q1⟩ := hb b1 (by simp)
    obtain ⟨p2, q2⟩ := hb b2 (by simp)
    obtain ⟨p3, q3⟩ := hb b3 (by simp)
    refine ⟨?_, ?_, by simp [wordsOf, h3]⟩
    · simp only [wordsOf, List.flatMap_cons, h1, bytes4, List.cons_append, List.nil_append]
      congr 1
      · omega
      · congr 1
        · omega
        · congr 1
          · omega
          · congr 1
            omega
    · intro x hx
      simp only [wordsOf, List.mem_cons] at hx
      rcases hx with rfl | hx
      · omega
      · exact h2 x hx

/-! the program's bytes -/
theorem drop_rd (l : List Int) (i : Nat) (h : i < l.length) : l.drop i = rd l (i : Int) :: l.drop (i + 1) := by
  rw [List.drop_eq_getElem_cons h]
  unfold rd
  simp [h]
theorem bytes_loop (l : List Int) (hl : l.length ≤ 1000) (d : Nat) : ∀ (i : Nat) (acc : List Int), i + d = l.length → acc.length = 4 * i →
    Ev (fun k => word_Bytes.l0 k acc l (l.length : Int) (i : Int)) (strOfNums (acc ++ (l.drop i).flatMap bytes4)) := by
  induction d with
  | zero =>
    intro i acc hi ha
    refine Ev.step (f := fun _ => some (strOfNums acc)) (fun k => ?_) ?_
    · simp only [word_Bytes.l0]
      rw [if_neg (by omega)]
    · rw [List.drop_of_length_le (by omega)]
      simp only [List.flatMap_nil, List.append_nil]
      exact Ev.now _
  | succ d ih =>
    intro i acc hi ha
    have h := ih (i + 1) (acc ++ bytes4 (rd l i)) (by omega) (by simp [bytes4]; omega)
    refine Ev.step (f := fun k => word_Bytes.l0 k (acc ++ bytes4 (rd l i)) l (l.length : Int) ((i + 1 : Nat) : Int)) (fun k => ?_) ?_
    · simp only [word_Bytes.l0]
      rw [if_pos (by omega), if_pos (by omega), if_pos (by omega)]
      simp only [Option.bind_some]
      rw [if_pos (by simp; omega), show wrap64 ((i : Int) + 1) = ((i + 1 : Nat) : Int) by unfold wrap64; omega]
      rfl
    · rw [drop_rd l i (by omega), List.flatMap_cons, ← List.append_assoc]
      exact h
theorem bytes_ev (l : List Int) (hl : l.length ≤ 1000) : Ev (fun k => word_Bytes.f k l) (strOfNums (l.flatMap bytes4)) := by
  have h := bytes_loop l hl l.length 0 [] (by omega) rfl
  simp only [List.drop_zero, List.nil_append] at h
  refine Ev.congr (fun k => ?_) h
  unfold word_Bytes.f
  have e : wrap64 (4 * (l.length : Int)) = 4 * (l.length : Int) := by unfold wrap64; omega
  rw [e, if_pos (by omega), if_pos (by omega)]
  rfl
/-! the document's bytes -/
theorem rbytes_loop (l : List Int) (hw : isWords l) (hl : l.length ≤ 1000) (d : Nat) : ∀ (i : Nat) (acc : List Int), i + d = l.length → acc.length = 4 * i →
    Ev (fun k => seedcornref01_Bytes.l0 k l acc (i : Int)) (strOfNums (acc ++ (l.drop i).flatMap bytes4)) := by
  induction d with
  | zero =>
    intro i acc hi ha
    refine Ev.step (f := fun _ => some (strOfNums acc)) (fun k => ?_) ?_
    · simp only [seedcornref01_Bytes.l0]
      rw [if_neg (by omega)]
    · rw [List.drop_of_length_le (by omega)]
      simp only [List.flatMap_nil, List.append_nil]
      exact Ev.now _
  | succ d ih =>
    intro i acc hi ha
    have h := ih (i + 1) (acc ++ bytes4 (rd l i)) (by omega) (by simp [bytes4]; omega)
    have hm : rd l (i : Int) ∈ l := by
      unfold rd
      simp only [Int.toNat_natCast]
      rw [List.getD_eq_getElem?_getD, List.getElem?_eq_getElem (by omega)]
      simp
    obtain ⟨w0, w1⟩ := hw _ hm
    generalize hwx : rd l (i : Int) = w at *
    rw [drop_rd l i (by omega), List.flatMap_cons, ← List.append_assoc, hwx]
    have one : ∀ (j : Nat) (x : Int) (a : List Int) (r : ByteArray), j < 4 → a.length < 100000 → 0 ≤ x → x < 4294967296 →
        Ev (fun k => seedcornref01_Bytes.l1 k l (a ++ [x % 256]) (i : Int) (x / 256) ((j + 1 : Nat) : Int)) r →
        Ev (fun k => seedcornref01_Bytes.l1 k l a (i : Int) x (j : Int)) r := by
      intro j x a r hj hal x0 x1 he
      refine Ev.step (fun k => ?_) he
      simp only [seedcornref01_Bytes.l1]
      rw [if_pos (by omega), if_pos (by omega), Int.tmod_eq_emod_of_nonneg x0, Int.tdiv_eq_ediv_of_nonneg x0, show x % 256 % 256 = x % 256 by omega, show x / 256 % 4294967296 = x / 256 by omega,
        show wrap64 ((j : Int) + 1) = ((j + 1 : Nat) : Int) by unfold wrap64; omega]
    refine Ev.step (f := fun k => seedcornref01_Bytes.l1 k l acc (i : Int) w ((0 : Nat) : Int)) (fun k => ?_) ?_
    · simp only [seedcornref01_Bytes.l0]
      rw [if_pos (by omega), if_pos (by omega), hwx]
      rfl
    · refine one 0 w acc _ (by omega) (by omega) w0 w1 ?_
      refine one 1 (w / 256) _ _ (by omega) (by simp; omega) (by omega) (by omega) ?_
      refine one 2 (w / 256 / 256) _ _ (by omega) (by simp; omega) (by omega) (by omega) ?_
      refine one 3 (w / 256 / 256 / 256) _ _ (by omega) (by simp; omega) (by omega) (by omega) ?_
      refine Ev.step (f := fun k => seedcornref01_Bytes.l0 k l (acc ++ bytes4 w) ((i + 1 : Nat) : Int)) (fun k => ?_) h
      simp only [seedcornref01_Bytes.l1]
      rw [if_neg (by omega), show wrap64 ((i : Int) + 1) = ((i + 1 : Nat) : Int) by unfold wrap64; omega]
      congr 1
      simp only [List.append_assoc, List.cons_append, List.nil_append, bytes4]
      rw [show w / 256 / 256 = w / 65536 by omega, show w / 65536 / 256 = w / 16777216 by omega]
theorem rbytes_ev (l : List Int) (hw : isWords l) (hl : l.length ≤ 1000) : Ev (fun k => seedcornref01_Bytes.f k l) (strOfNums (l.flatMap bytes4)) := by
  have h := rbytes_loop l hw hl l.length 0 [] (by omega) rfl
  simp only [List.drop_zero, List.nil_append] at h
  refine Ev.congr (fun k => ?_) h
  unfold seedcornref01_Bytes.f
  have e : wrap64 (4 * (l.length : Int)) = 4 * (l.length : Int) := by unfold wrap64; omega
  rw [e, if_pos (by omega), if_pos (by omega)]
  rfl
/-! the program's words -/
theorem or_comm' (k : IntKind) (x y : Int) : Go.bits .or k x y = Go.bits .or k y x := by
  unfold Go.bits
  simp only [BitVec.or_comm]
theorem or_join (i : Nat) (_ : i ≤ 32) (x y : Int) (hx0 : 0 ≤ x) (hx : x < 2 ^ i) (hx1 : x < 4294967296) (hy0 : 0 ≤ y) (hy : y % 2 ^ i = 0) (hy1 : y < 4294967296) : Go.bits .or .u32 x y = x + y := by
  rw [or_comm', bits_join .u32 32 (by decide) (fun n g0 g1 => wrap_u32_id g0 (by omega)) i y x hy0 hy (by omega) hx0 hx (by omega), Int.add_comm]
theorem word_or (b0 b1 b2 b3 : Int) (p0 : 0 ≤ b0) (q0 : b0 < 256) (p1 : 0 ≤ b1) (q1 : b1 < 256) (p2 : 0 ≤ b2) (q2 : b2 < 256) (p3 : 0 ≤ b3) (q3 : b3 < 256) :
    Go.bits .or .u32 (Go.bits .or .u32 (Go.bits .or .u32 (b0 % 4294967296) (((b1 % 4294967296) * 256) % 4294967296)) (((b2 % 4294967296) * 65536) % 4294967296)) (((b3 % 4294967296) * 16777216) % 4294967296) = b0 + 256 * b1 + 65536 * b2 + 16777216 * b3 := by
  rw [show b0 % 4294967296 = b0 by omega, show b1 % 4294967296 * 256 % 4294967296 = 256 * b1 by omega, show b2 % 4294967296 * 65536 % 4294967296 = 65536 * b2 by omega, show b3 % 4294967296 * 16777216 % 4294967296 = 16777216 * b3 by omega]
  rw [or_join 8 (by omega) b0 (256 * b1) p0 (by omega) (by omega) (by omega) (by omega) (by omega)]
  rw [or_join 16 (by omega) (b0 + 256 * b1) (65536 * b2) (by omega) (by omega) (by omega) (by omega) (by omega) (by omega)]
  rw [or_join 24 (by omega) (b0 + 256 * b1 + 65536 * b2) (16777216 * b3) (by omega) (by omega) (by omega) (by omega) (by omega) (by omega)]
theorem bt_list (s : ByteArray) (i : Nat) : bt s (i : Int) = (bytesOf s).getD i 0 := by
  rw [← rd_bytesOf]
  unfold rd
  simp
theorem words_loop (n : Nat) : ∀ (s : ByteArray) (acc : List Int), (bytesOf s).length = 4 * n → acc.length + n < 100000 →
    Ev (fun k => word_Words.l0 k s acc) (acc ++ wordsOf (bytesOf s), 0) := by
  induction n with
  | zero =>
    intro s acc hs ha
    have e : bytesOf s = [] := List.length_eq_zero_iff.mp (by omega)
    refine Ev.step (f := fun _ => some (acc, 0)) (fun k => ?_) ?_
    · simp only [word_Words.l0]
      rw [if_neg (by rw [size_len]; omega)]
    · rw [e]
      simp only [wordsOf, List.append_nil]
      exact Ev.now _
  | succ n ih =>
    intro s acc hs ha
    obtain ⟨b0, b1, b2, b3, r, hr⟩ := four (bytesOf s) (by omega) (by intro h; rw [h] at hs; simp at hs)
    have hb := bytes_is s
    rw [hr] at hb
    obtain ⟨p0, q0⟩ := hb b0 (by simp)
    obtain ⟨p1, q1⟩ := hb b1 (by simp)
    obtain ⟨p2, q2⟩ := hb b2 (by simp)
    obtain ⟨p3, q3⟩ := hb b3 (by simp)
    have hx : bytesOf (s.extract 4 s.size) = r := by rw [bytes_extract, hr]; rfl
    have hsz : s.size = 4 * (n + 1) := by rw [size_len]; exact hs
    have h := ih (s.extract 4 s.size) (acc ++ [b0 + 256 * b1 + 65536 * b2 + 16777216 * b3]) (by rw [hx]; rw [hr] at hs; simp at hs; omega) (by simp; omega)
    rw [hx] at h
    rw [hr]
    simp only [wordsOf]
    rw [show acc ++ (b0 + 256 * b1 + 65536 * b2 + 16777216 * b3) :: wordsOf r = acc ++ [b0 + 256 * b1 + 65536 * b2 + 16777216 * b3] ++ wordsOf r by simp]
    refine Ev.step (fun k => ?_) h
    have t0 : bt s 0 = b0 := by have := bt_list s 0; rw [hr] at this; simpa using this
    have t1 : bt s 1 = b1 := by have := bt_list s 1; rw [hr] at this; simpa using this
    have t2 : bt s 2 = b2 := by have := bt_list s 2; rw [hr] at this; simpa using this
    have t3 : bt s 3 = b3 := by have := bt_list s 3; rw [hr] at this; simpa using this
    simp only [word_Words.l0]
    rw [t0, t1, t2, t3, word_or b0 b1 b2 b3 p0 q0 p1 q1 p2 q2 p3 q3, if_pos (by omega), if_pos (by omega), if_pos (by omega), if_pos (by omega), if_pos (by omega), if_pos (by omega), if_pos (by omega)]
theorem words_ev (s : ByteArray) (hs : s.size ≤ 100000) : Ev (fun k => word_Words.f k s) (if s.size % 4 = 0 then (wordsOf (bytesOf s), 0) else ([], 7)) := by
  by_cases h : s.size % 4 = 0
  · have hl := words_loop (s.size / 4) s [] (by rw [← size_len]; omega) (by simp; omega)
    rw [if_pos h]
    refine Ev.congr (fun k => ?_) hl
    unfold word_Words.f
    rw [if_pos (by omega)]
  · rw [if_neg h]
    refine Ev.congr (f := fun _ => some ([], 7)) (fun k => ?_) (Ev.now _)
    unfold word_Words.f
    rw [if_neg (by omega)]
/-! the document's words -/
theorem rwords_loop (s : ByteArray) (hs : s.size ≤ 100000) (n : Nat) : ∀ (i : Nat) (acc : List Int), i + 4 * n = s.size → acc.length + n < 200000 →
    Ev (fun k => seedcornref01_Words.l0 k s acc (i : Int)) (acc ++ wordsOf ((bytesOf s).drop i), 0) := by
  induction n with
  | zero =>
    intro i acc hi ha
    refine Ev.step (f := fun _ => some (acc, 0)) (fun k => ?_) ?_
    · simp only [seedcornref01_Words.l0]
      rw [if_neg (by omega)]
    · rw [List.drop_of_length_le (by rw [← size_len]; omega)]
      simp only [wordsOf, List.append_nil]
      exact Ev.now _
  | succ n ih =>
    intro i acc hi ha
    have hlen : ((bytesOf s).drop i).length = 4 * (n + 1) := by rw [List.length_drop, ← size_len]; omega
    obtain ⟨b0, b1, b2, b3, r, hr⟩ := four ((bytesOf s).drop i) (by omega) (by intro h; rw [h] at hlen; simp at hlen)
    have hb : isBytes ((bytesOf s).drop i) := fun x hx => bytes_is s x (List.mem_of_mem_drop hx)
    rw [hr] at hb
    obtain ⟨p0, q0⟩ := hb b0 (by simp)
    obtain ⟨p1, q1⟩ := hb b1 (by simp)
    obtain ⟨p2, q2⟩ := hb b2 (by simp)
    obtain ⟨p3, q3⟩ := hb b3 (by simp)
    have at_ : ∀ j : Nat, bt s ((i : Int) + (j : Int)) = ((bytesOf s).drop i).getD j 0 := by
      intro j
      rw [show (i : Int) + (j : Int) = ((i + j : Nat) : Int) by omega, bt_list]
      simp
    have t0 : bt s ((i : Int) + 0) = b0 := by have := at_ 0; rw [hr] at this; simpa using this
    have t1 : bt s ((i : Int) + 1) = b1 := by have := at_ 1; rw [hr] at this; simpa using this
    have t2 : bt s ((i : Int) + 2) = b2 := by have := at_ 2; rw [hr] at this; simpa using this
    have t3 : bt s ((i : Int) + 3) = b3 := by have := at_ 3; rw [hr] at this; simpa using this
    have hd : (bytesOf s).drop (i + 4) = r := by rw [← List.drop_drop, hr]; rfl
    have h := ih (i + 4) (acc ++ [b0 + 256 * b1 + 65536 * b2 + 16777216 * b3]) (by omega) (by simp; omega)
    rw [hd] at h
    rw [hr]
    simp only [wordsOf]
    rw [show acc ++ (b0 + 256 * b1 + 65536 * b2 + 16777216 * b3) :: wordsOf r = acc ++ [b0 + 256 * b1 + 65536 * b2 + 16777216 * b3] ++ wordsOf r by simp]
    have one : ∀ (j : Int) (x : Int) (q : List Int × Int), 0 ≤ j → j ≤ 3 → 
        Ev (fun k => seedcornref01_Words.l1 k s acc (i : Int) ((((x * 256) % 4294967296) + ((bt s ((i : Int) + j)) % 4294967296)) % 4294967296) (j - 1)) q →
        Ev (fun k => seedcornref01_Words.l1 k s acc (i : Int) x j) q := by
      intro j x q hj hj3 he
      refine Ev.step (fun k => ?_) he
      have w1 : wrap64 ((i : Int) + j) = (i : Int) + j := by unfold wrap64; omega
      have w2 : wrap64 (j - 1) = j - 1 := by unfold wrap64; omega
      simp only [seedcornref01_Words.l1]
      rw [w1, w2, if_pos (by omega), if_pos (by omega), if_pos (by omega)]
    refine Ev.step (f := fun k => seedcornref01_Words.l1 k s acc (i : Int) 0 3) (fun k => ?_) ?_
    · simp only [seedcornref01_Words.l0]
      rw [if_pos (by omega)]
    · refine one 3 0 _ (by omega) (by omega) ?_
      refine one 2 _ _ (by omega) (by omega) ?_
      refine one 1 _ _ (by omega) (by omega) ?_
      refine one 0 _ _ (by omega) (by omega) ?_
      rw [t0, t1, t2, t3]
      refine Ev.step (fun k => ?_) h
      simp only [seedcornref01_Words.l1]
      rw [if_neg (by omega), if_pos (by omega), show wrap64 ((i : Int) + 4) = ((i + 4 : Nat) : Int) by unfold wrap64; omega]
      congr 2
      congr 1
      omega
theorem rwords_ev (s : ByteArray) (hs : s.size ≤ 100000) : Ev (fun k => seedcornref01_Words.f k s) (if s.size % 4 = 0 then (wordsOf (bytesOf s), 0) else ([], 7)) := by
  by_cases h : s.size % 4 = 0
  · have hl := rwords_loop s hs (s.size / 4) 0 [] (by omega) (by simp; omega)
    rw [if_pos h]
    refine Ev.congr (fun k => ?_) hl
    have e : wrap64 ((s.size : Int) / 4) = (s.size : Int) / 4 := by unfold wrap64; omega
    unfold seedcornref01_Words.f
    rw [if_pos (by omega), e, if_pos (by omega), if_pos (by omega)]
    rfl
  · rw [if_neg h]
    refine Ev.congr (f := fun _ => some ([], 7)) (fun k => ?_) (Ev.now _)
    unfold seedcornref01_Words.f
    rw [if_neg (by omega)]
theorem same_ev (l : List Int) (hl : l.length ≤ 100000) : Ev (fun k => seedcornref01_Same.f k l l) true := by
  have key : ∀ d i : Nat, i + d = l.length → Ev (fun k => seedcornref01_Same.l0 k l l (i : Int)) true := by
    intro d
    induction d with
    | zero =>
      intro i hi
      refine Ev.step (f := fun _ => some true) (fun k => ?_) (Ev.now _)
      simp only [seedcornref01_Same.l0]
      rw [if_neg (by omega)]
    | succ d ih =>
      intro i hi
      refine Ev.step (fun k => ?_) (ih (i + 1) (by omega))
      simp only [seedcornref01_Same.l0]
      rw [if_pos (by omega), if_pos (by omega), if_pos (by omega)]
      simp only [if_true]
      rw [show wrap64 ((i : Int) + 1) = ((i + 1 : Nat) : Int) by unfold wrap64; omega]
  refine Ev.congr (fun k => ?_) (key l.length 0 (by omega))
  unfold seedcornref01_Same.f
  simp
theorem WordPacks : seedcornlaw01_WordPacks.Pure := by
  intro l s _ _ hw0 _
  have hw : isWords l := fun x hx => u32_range (hw0 x hx)
  refine Ev.rounds ?_
  have h3 : Ev (fun k => seedcornlaw01_alive.f k) true := ⟨10, fun k hk => alive_at k hk⟩
  unfold seedcornlaw01_WordPacks.f
  refine Ev.bind h3 ?_
  simp only [if_true]
  have far : Ev (fun k => seedcornlaw01_WordPacks.j0 k l s true) true := Ev.step (f := fun _ => some true) (fun k => rfl) (Ev.now _)
  by_cases hl : (l.length : Int) > 300
  · simp only [if_pos hl]; exact far
  simp only [if_neg hl]
  by_cases hs : (s.size : Int) > 1000
  · simp only [hs, decide_true]; exact far
  simp only [hs, decide_false]
  have hl' : l.length ≤ 1000 := by omega
  have hs' : s.size ≤ 100000 := by omega
  have hsz : (strOfNums (l.flatMap bytes4)).size = 4 * l.length := by rw [strOfNums_size, flat_len]
  refine Ev.step (fun k => by simp only [seedcornlaw01_WordPacks.j0, Bool.false_eq_true, if_false]; rfl) ?_
  refine Ev.bind (bytes_ev l hl') (Ev.bind (words_ev _ (by omega)) (Ev.bind (rbytes_ev l hw hl') ?_))
  have e1 : (if (strOfNums (l.flatMap bytes4)).size % 4 = 0 then (wordsOf (bytesOf (strOfNums (l.flatMap bytes4))), (0 : Int)) else ([], 7)) = (l, 0) := by
    rw [if_pos (by omega), bytes_str _ (flat_is l), words_flat l hw]
  rw [e1]
  simp only [if_true]
  refine Ev.bind (same_ev l (by omega)) ?_
  simp only [Bool.not_true]
  refine Ev.step (fun k => by simp only [seedcornlaw01_WordPacks.j1, Bool.false_eq_true, if_false]; rfl) ?_
  refine Ev.bind (words_ev s hs') (Ev.bind (rwords_ev s hs') ?_)
  simp only [if_true]
  by_cases h4 : s.size % 4 = 0
  · simp only [if_pos h4]
    obtain ⟨f1, f2, f3⟩ := flat_words (s.size / 4) (bytesOf s) (by rw [← size_len]; omega) (bytes_is s)
    refine Ev.bind (same_ev _ (by omega)) ?_
    simp only [if_true]
    refine Ev.bind (bytes_ev _ (by omega)) ?_
    rw [f1, str_bytes]
    simp only [beq_self_eq_true]
    exact Ev.now _
  · simp only [if_neg h4]
    refine Ev.bind (same_ev [] (by simp)) ?_
    simp only [if_true, if_neg (show ¬ ((7 : Int) = 0) by omega)]
    exact Ev.now _
end Go.Proofs.Ytdmgponiefhlnaa.Pure
