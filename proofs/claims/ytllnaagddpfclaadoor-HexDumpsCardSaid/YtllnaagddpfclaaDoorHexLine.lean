/- A dump's line and a dump: what they are as lists, that the program's functions write them, and that they are loaded. -/
import Derived.Test.YtllnaagddpfclaaDoorHexDump
import Derived.Test.YtllnaagddpfclaaDoorHexTxt
namespace Go.Proofs.YtllnaagddpfclaaDoor.Hex
open Go Go.RowKit Go.Proofs.YtllnaagddpfclaaDoor Go.Proofs.YtllnaagddpfclaaDoor.Q Go.Proofs.YtllnaagddpfclaaDoor.Texts Go.Proofs.YtllnaagddpfclaaDoorW.PrintWords Go.Proofs.YtllnaagddpfclaaDoorW.PrintLast Go.Proofs.YtllnaagddpfclaaDoorW.PrintMore
theorem dec_len_le (u : Nat) : ∀ m : Nat, u < 10 ^ (m + 1) → (decI u).length ≤ m + 1 := by
  induction u using Nat.strongRecOn with
  | _ u ih =>
    intro m hm
    by_cases h : u < 10
    · rw [dec_len u h]; omega
    · rw [decI_big h]
      cases m with
      | zero => simp at hm; omega
      | succ m =>
        have := ih (u / 10) (by omega) m (by rw [Nat.pow_succ] at hm; omega)
        simp; omega
theorem dec_digit (u : Nat) : ∀ c ∈ decI u, 48 ≤ c ∧ c ≤ 57 := by
  induction u using Nat.strongRecOn with
  | _ u ih =>
    by_cases h : u < 10
    · rw [decI_small h]
      intro c hc
      obtain rfl := List.mem_singleton.mp hc
      omega
    · rw [decI_big h]
      intro c hc
      rcases List.mem_append.mp hc with hc | hc
      · exact ih (u / 10) (by omega) c hc
      · obtain rfl := List.mem_singleton.mp hc
        omega
def two (c : Int) : List Int := [hexd (c / 16), hexd (c % 16)]
def tailL : List Int → List Int
  | [] => []
  | c :: l => 32 :: (two c ++ tailL l)
def sepL : List Int → List Int
  | [] => []
  | c :: l => two c ++ tailL l
def lineL (l : List Int) (at' : Nat) : List Int := sepL l ++ ([32, 32, 35, 32] ++ decI at' ++ [10])
/-- A dump: n: enough rounds. -/
def dumpN : Nat → List Int → Nat → List Int
  | 0, _, _ => []
  | n + 1, l, at' => if l = [] then [] else lineL (l.take 16) at' ++ dumpN n (l.drop 16) (at' + 16)
theorem tailL_length (l : List Int) : (tailL l).length = 3 * l.length := by
  induction l with
  | nil => rfl
  | cons c l ih => simp only [tailL, two, List.length_cons, List.length_append, List.length_nil, ih]; omega
theorem sepL_length (l : List Int) : (sepL l).length ≤ 3 * l.length := by
  cases l with
  | nil => simp [sepL]
  | cons c l => simp only [sepL, two, List.length_cons, List.length_append, List.length_nil, tailL_length]; omega
theorem two_bytes (c : Int) (h0 : 0 ≤ c) (h1 : c < 256) : isBytes (two c) := by
  intro x hx
  simp only [two, List.mem_cons, List.not_mem_nil, or_false] at hx
  rcases hx with rfl | rfl
  · exact (good_hexd (c / 16) (by omega) (by omega)).2
  · exact (good_hexd (c % 16) (by omega) (by omega)).2
theorem isBytes_app {l m : List Int} (h : isBytes l) (h' : isBytes m) : isBytes (l ++ m) := fun x hx => (List.mem_append.mp hx).elim (h x) (h' x)
theorem tailL_bytes (l : List Int) (h : isBytes l) : isBytes (tailL l) := by
  induction l with
  | nil => intro x hx; cases hx
  | cons c l ih =>
    obtain ⟨c0, c1⟩ := h c (by simp)
    have i := isBytes_app (two_bytes c c0 c1) (ih (fun x hx => h x (by simp [hx])))
    intro x hx
    simp only [tailL] at hx
    rcases List.mem_cons.mp hx with rfl | hx
    · omega
    · exact i x hx
theorem sepL_bytes (l : List Int) (h : isBytes l) : isBytes (sepL l) := by
  cases l with
  | nil => intro x hx; cases hx
  | cons c l =>
    obtain ⟨c0, c1⟩ := h c (by simp)
    exact isBytes_app (two_bytes c c0 c1) (tailL_bytes l (fun x hx => h x (by simp [hx])))
theorem dec_bytes (u : Nat) : isBytes (decI u) := fun x hx => by have := dec_digit u x hx; omega
theorem lineL_bytes (l : List Int) (u : Nat) (h : isBytes l) : isBytes (lineL l u) :=
  isBytes_app (sepL_bytes l h) (isBytes_app (isBytes_app (by intro x hx; simp at hx; omega) (dec_bytes u)) (by intro x hx; simp at hx; omega))
theorem dumpN_bytes (n : Nat) : ∀ (l : List Int) (u : Nat), isBytes l → isBytes (dumpN n l u) := by
  induction n with
  | zero => intro l u _ x hx; cases hx
  | succ n ih =>
    intro l u h
    unfold dumpN
    split
    · intro x hx; cases hx
    · exact isBytes_app (lineL_bytes _ _ (fun x hx => h x (List.mem_of_mem_take hx))) (ih _ _ (fun x hx => h x (List.mem_of_mem_drop hx)))

/-! loaded -/
theorem two_load (c : Int) (h0 : 0 ≤ c) (h1 : c < 256) : loadS (two c) none false = [c] ∧ stS (two c) none false = (none, false) := by
  have hb : isBytes [c] := by intro x hx; obtain rfl := List.mem_singleton.mp hx; omega
  exact ⟨hexG_load hexd good_hexd [c] hb, hexG_st hexd good_hexd [c] hb⟩
theorem tail_load (l : List Int) (h : isBytes l) : loadS (tailL l) none false = l ∧ stS (tailL l) none false = (none, false) := by
  induction l with
  | nil => exact ⟨rfl, rfl⟩
  | cons c l ih =>
    obtain ⟨c0, c1⟩ := h c (by simp)
    obtain ⟨p, q⟩ := two_load c c0 c1
    obtain ⟨p', q'⟩ := ih (fun x hx => h x (by simp [hx]))
    constructor
    · show loadS (two c ++ tailL l) none false = c :: l
      rw [load_append, p, q, p']; rfl
    · show stS (two c ++ tailL l) none false = _
      rw [st_append, q, q']
theorem sep_load (l : List Int) (h : isBytes l) : loadS (sepL l) none false = l ∧ stS (sepL l) none false = (none, false) := by
  cases l with
  | nil => exact ⟨rfl, rfl⟩
  | cons c l =>
    obtain ⟨c0, c1⟩ := h c (by simp)
    obtain ⟨p, q⟩ := two_load c c0 c1
    obtain ⟨p', q'⟩ := tail_load l (fun x hx => h x (by simp [hx]))
    constructor
    · show loadS (two c ++ tailL l) none false = c :: l
      rw [load_append, p, q, p']; rfl
    · show stS (two c ++ tailL l) none false = _
      rw [st_append, q, q']
theorem note_none (l : List Int) (h : Option Int) (hl : (10 : Int) ∉ l) : loadS l h true = [] ∧ stS l h true = (h, true) := by
  induction l with
  | nil => exact ⟨rfl, rfl⟩
  | cons c l ih =>
    have h1 : c ≠ 10 := fun e => hl (by simp [e])
    have h2 : (10 : Int) ∉ l := fun e => hl (by simp [e])
    simp only [loadS, stS, if_neg h1, if_true]
    exact ih h2
theorem foot_load (u : Nat) : loadS ([32, 32, 35, 32] ++ decI u ++ [10]) none false = [] ∧ stS ([32, 32, 35, 32] ++ decI u ++ [10]) none false = (none, false) := by
  obtain ⟨p, q⟩ := note_none (decI u) none (fun hm => by have := dec_digit u 10 hm; omega)
  have p' : loadS ([32, 32, 35, 32] ++ decI u) none false = [] := p
  have q' : stS ([32, 32, 35, 32] ++ decI u) none false = (none, true) := q
  rw [load_append ([32, 32, 35, 32] ++ decI u) [10], st_append ([32, 32, 35, 32] ++ decI u) [10], p', q']
  exact ⟨rfl, rfl⟩
theorem line_load (l : List Int) (u : Nat) (h : isBytes l) : loadS (lineL l u) none false = l ∧ stS (lineL l u) none false = (none, false) := by
  obtain ⟨p, q⟩ := sep_load l h
  obtain ⟨p', q'⟩ := foot_load u
  unfold lineL
  rw [load_append, st_append, p, q, p', q', List.append_nil]
  exact ⟨rfl, rfl⟩
theorem dump_load (n : Nat) : ∀ (l : List Int) (u : Nat), isBytes l → l.length ≤ 16 * n → loadS (dumpN n l u) none false = l ∧ stS (dumpN n l u) none false = (none, false) := by
  induction n with
  | zero =>
    intro l u _ hl
    have : l = [] := List.length_eq_zero_iff.mp (by omega)
    subst this
    exact ⟨rfl, rfl⟩
  | succ n ih =>
    intro l u h hl
    unfold dumpN
    by_cases hc : l = []
    · rw [if_pos hc, hc]; exact ⟨rfl, rfl⟩
    · rw [if_neg hc]
      obtain ⟨p, q⟩ := line_load (l.take 16) u (fun x hx => h x (List.mem_of_mem_take hx))
      obtain ⟨p', q'⟩ := ih (l.drop 16) (u + 16) (fun x hx => h x (List.mem_of_mem_drop hx)) (by rw [List.length_drop]; omega)
      rw [load_append, st_append, p, q, p', q', List.take_append_drop]
      exact ⟨rfl, rfl⟩

/-! written -/
def u8 (n : Int) : UInt8 := UInt8.ofNat n.toNat
theorem join_tail (l : List Int) : Lib.joinTail [32] ((l.map fun c => strOfNums (two c)).map (·.data.toList)) = (tailL l).map u8 := by
  induction l with
  | nil => rfl
  | cons c l ih =>
    unfold Lib.joinTail at ih ⊢
    simp only [List.map_cons, List.flatten_cons, tailL, List.map_append, ih, strOfNums_data]
    rfl
theorem join_sep (l : List Int) : Lib.join ((l.map fun c => strOfNums (two c)).map (·.data.toList)) [32] = (sepL l).map u8 := by
  cases l with
  | nil => rfl
  | cons c l =>
    simp only [List.map_cons, Lib.join_cons, join_tail, sepL, List.map_append, strOfNums_data]
    rfl
theorem join_eq (l : List Int) (hl : l.length ≤ 1000) : Ext.strings_Join.f (l.map fun c => strOfNums (two c)) (⟨#[32]⟩ : ByteArray) = some (strOfNums (sepL l)) := by
  unfold Ext.strings_Join.f
  have e : (⟨#[32]⟩ : ByteArray).data.toList = [32] := rfl
  have := sepL_length l
  rw [e, join_sep, if_pos ⟨by rw [List.length_map]; omega, by rw [List.length_map]; omega⟩]
  rfl
theorem itoa_eq (u : Nat) (hu : u ≤ 1000000) : Ext.strconv_Itoa.f (u : Int) = some ⟨(Lib.decDigits u).toArray⟩ := by
  unfold Ext.strconv_Itoa.f
  rw [if_pos (by omega)]
  unfold Lib.itoa
  rw [if_neg (by omega), Int.toNat_natCast]
theorem line_loop (s : ByteArray) (at' : Nat) (hs : s.size ≤ 16) (ha : at' ≤ 1000000) (n : Nat) : ∀ i : Nat, i + n = s.size →
    Ev (fun k => A.hex_line.l0 k s (at' : Int) (((bytesOf s).take i).map fun c => strOfNums (two c)) (s.size : Int) (i : Int)) (strOfNums (lineL (bytesOf s) at')) := by
  have hL := size_len s
  induction n with
  | zero =>
    intro i hin
    rw [List.take_of_length_le (by omega)]
    have h1 := sepL_length (bytesOf s)
    have h2 := dec_len_le at' 9 (by omega)
    have z0 : (strOfNums (sepL (bytesOf s))).size ≤ 1000 := by rw [str_size]; omega
    have z1 : (⟨#[32, 32, 35, 32]⟩ : ByteArray).size = 4 := rfl
    have z2 : (⟨(Lib.decDigits at').toArray⟩ : ByteArray).size ≤ 10 := by rw [size_len, decI_bytes]; omega
    refine Ev.step (f := fun _ => some (strOfNums (lineL (bytesOf s) at'))) (fun k => ?_) (Ev.now _)
    simp only [A.hex_line.l0]
    rw [if_neg (by omega), join_eq _ (by omega)]
    simp only [Option.bind_some]
    rw [if_pos (by omega), itoa_eq at' ha]
    simp only [Option.bind_some]
    rw [if_pos (by simp only [ByteArray.size_append]; omega), if_pos (by simp only [ByteArray.size_append]; omega)]
    congr 1
    apply bytes_inj
    rw [bytes_append, bytes_append, bytes_append, decI_bytes, bytes_str _ (sepL_bytes _ (bytes_is s)), bytes_str _ (lineL_bytes _ _ (bytes_is s))]
    have e1 : bytesOf (⟨#[32, 32, 35, 32]⟩ : ByteArray) = [32, 32, 35, 32] := rfl
    have e2 : bytesOf (⟨#[10]⟩ : ByteArray) = [10] := rfl
    rw [e1, e2]
    simp only [lineL, List.append_assoc]
  | succ n ih =>
    intro i hin
    have hw : wrap64 ((i : Int) + 1) = ((i + 1 : Nat) : Int) := by unfold wrap64; omega
    obtain ⟨b0, b1⟩ := bt_range s (i : Int)
    have hi : i < (bytesOf s).length := by omega
    have hbt := bt_list s i
    have h := ih (i + 1) (by omega)
    rw [List.take_succ_eq_append_getElem hi, List.map_append, List.map_cons, List.map_nil] at h
    have e : (bytesOf s)[i] = bt s (i : Int) := by rw [hbt]; simp [hi]
    rw [e] at h
    have hl : (((bytesOf s).take i).map fun c => strOfNums (two c)).length < 8796093022208 := by rw [List.length_map, List.length_take]; omega
    refine Ev.step (fun k => ?_) h
    simp only [A.hex_line.l0]
    rw [if_pos (by omega), if_pos (by omega), if_pos (by omega), two_eq _ b0 (by omega), hw]
    simp only [Option.bind_some]
    rw [if_pos hl]
    rfl
theorem line_ev (s : ByteArray) (at' : Nat) (hs : s.size ≤ 16) (ha : at' ≤ 1000000) : Ev (fun k => A.hex_line.f k s (at' : Int)) (strOfNums (lineL (bytesOf s) at')) := by
  have h := line_loop s at' hs ha s.size 0 (by omega)
  rw [List.take_zero] at h
  refine Ev.congr (fun k => ?_) h
  unfold A.hex_line.f
  rw [if_pos (by omega)]
  rfl
theorem line_len (l : List Int) (u : Nat) (hl : l.length ≤ 16) (hu : u ≤ 1000000) : (lineL l u).length ≤ 63 := by
  have h1 := sepL_length l
  have h2 := dec_len_le u 9 (by omega)
  simp only [lineL, List.length_append, List.length_cons, List.length_nil]
  omega
theorem dump_loop (s : ByteArray) (hs : s.size ≤ 3000) (n : Nat) : ∀ (x : Nat) (acc : List Int), s.size ≤ x + 16 * n → x ≤ 4000 → acc.length ≤ 10 * x →
    Ev (fun k => Ext.hex_Dump.l0 k s acc (x : Int)) (strOfNums (acc ++ dumpN n ((bytesOf s).drop x) x)) := by
  have hL := size_len s
  induction n with
  | zero =>
    intro x acc hx _ _
    simp only [dumpN, List.append_nil]
    refine Ev.step (f := fun _ => some (strOfNums acc)) (fun k => ?_) (Ev.now _)
    simp only [Ext.hex_Dump.l0]
    rw [if_neg (by omega)]
  | succ n ih =>
    intro x acc hx hx4 ha
    by_cases hc : x < s.size
    · have hne : (bytesOf s).drop x ≠ [] := by
        intro e
        have := congrArg List.length e
        rw [List.length_drop, List.length_nil] at this
        omega
      have hb : bytesOf (s.extract x (mn ((x : Int) + 16) (s.size : Int)).toNat) = ((bytesOf s).drop x).take 16 := by
        unfold bytesOf
        rw [ByteArray.data_extract, Array.toList_extract, ← List.map_drop, ← List.map_take]
        congr 1
        rw [List.extract_eq_take_drop]
        unfold mn
        by_cases hm : (s.size : Int) < (x : Int) + 16
        · rw [if_pos hm, Int.toNat_natCast, List.take_of_length_le (by rw [List.length_drop, data_length]; omega), List.take_of_length_le (by rw [List.length_drop, data_length]; omega)]
        · rw [if_neg hm]
          congr 1
          omega
      have hz : (s.extract x (mn ((x : Int) + 16) (s.size : Int)).toNat).size ≤ 16 := by rw [size_len, hb, List.length_take]; omega
      have hlb : isBytes (lineL (((bytesOf s).drop x).take 16) x) := lineL_bytes _ _ (fun y hy => bytes_is s y (List.mem_of_mem_drop (List.mem_of_mem_take hy)))
      have hl := line_len (((bytesOf s).drop x).take 16) x (by rw [List.length_take]; omega) (by omega)
      have h := line_ev _ x hz (by omega)
      rw [hb] at h
      have h2 := ih (x + 16) (acc ++ lineL (((bytesOf s).drop x).take 16) x) (by omega) (by omega) (by rw [List.length_append]; omega)
      have e2 : dumpN (n + 1) ((bytesOf s).drop x) x = lineL (((bytesOf s).drop x).take 16) x ++ dumpN n ((bytesOf s).drop (x + 16)) (x + 16) := by
        rw [dumpN, if_neg hne, List.drop_drop]
      rw [e2, ← List.append_assoc]
      refine Ev.step (f := fun k => (A.hex_line.f k (s.extract x (mn ((x : Int) + 16) (s.size : Int)).toNat) (x : Int)).bind fun t => (if acc.length + t.size ≤ 1000000 ∧ s.size ≤ 1000000 then (Ext.hex_Dump.l0 k s (acc ++ bytesOf t) ((x : Int) + 16)) else none)) (fun k => ?_) (Ev.bind h ?_)
      · simp only [Ext.hex_Dump.l0]
        rw [if_pos (by omega), if_pos (by omega), Int.toNat_natCast]
      · simp only [bytes_str _ hlb, str_size]
        rw [show ((x : Int) + 16) = ((x + 16 : Nat) : Int) by omega]
        refine Ev.congr (fun k => if_pos ⟨by omega, by omega⟩) h2
    · rw [List.drop_of_length_le (by omega)]
      simp only [dumpN, if_true, List.append_nil]
      refine Ev.step (f := fun _ => some (strOfNums acc)) (fun k => ?_) (Ev.now _)
      simp only [Ext.hex_Dump.l0]
      rw [if_neg (by omega)]
theorem dump_ev (s : ByteArray) (hs : s.size ≤ 3000) : Ev (fun k => Ext.hex_Dump.f k s) (strOfNums (dumpN 188 (bytesOf s) 0)) := by
  have h := dump_loop s hs 188 0 [] (by omega) (by omega) (by simp)
  rw [List.drop_zero, List.nil_append] at h
  exact h
end Go.Proofs.YtllnaagddpfclaaDoor.Hex
