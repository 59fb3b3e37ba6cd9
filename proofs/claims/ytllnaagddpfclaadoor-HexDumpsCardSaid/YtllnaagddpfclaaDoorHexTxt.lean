/- Plain laws of a text's digits: written, read, and read of great ones. -/
import Derived.Test.YtllnaagddpfclaaDoorQx6
import Derived.Test.YtllnaagddpfclaaDoorGreat
import Derived.Test.YtllnaagddpfclaaDoorHexText
import Derived.Test.YtllnaagddpfclaaDoorHexBase
namespace Go.Proofs.YtllnaagddpfclaaDoor.Hex
open Go Go.RowKit Go.Proofs.YtllnaagddpfclaaDoor Go.Proofs.YtllnaagddpfclaaDoor.Q Go.Proofs.YtllnaagddpfclaaDoor.Texts Go.Proofs.YtllnaagddpfclaaDoorW.PrintWords Go.Proofs.YtllnaagddpfclaaDoorW.PrintLast Go.Proofs.YtllnaagddpfclaaDoorW.PrintMore
def hexd (d : Int) : Int := if d < 10 then 48 + d else 87 + d
def up (c : Int) : Int := if 97 ≤ c ∧ c ≤ 122 then c - 32 else c
/-- Two digits for each byte. -/
def hexG (g : Int → Int) : List Int → List Int
  | [] => []
  | c :: l => g (c / 16) :: g (c % 16) :: hexG g l
theorem hexG_length (g : Int → Int) (l : List Int) : (hexG g l).length = 2 * l.length := by
  induction l with
  | nil => rfl
  | cons c l ih => simp only [hexG, List.length_cons, ih]; omega
theorem hexG_append (g : Int → Int) (l m : List Int) : hexG g (l ++ m) = hexG g l ++ hexG g m := by
  induction l with
  | nil => rfl
  | cons c l ih => simp only [List.cons_append, hexG, ih]
theorem hexG_map (f g : Int → Int) (l : List Int) : (hexG g l).map f = hexG (fun c => f (g c)) l := by
  induction l with
  | nil => rfl
  | cons c l ih => simp only [hexG, List.map_cons, ih]
theorem two_all : ∀ c : Fin 256, A.hex_two.f (c.val : Int) = some [hexd ((c.val : Int) / 16), hexd ((c.val : Int) % 16)] := by decide +kernel
theorem two_eq (c : Int) (h0 : 0 ≤ c) (h1 : c < 256) : A.hex_two.f c = some [hexd (c / 16), hexd (c % 16)] := by
  have := two_all ⟨c.toNat, by omega⟩
  simp only [Int.toNat_of_nonneg h0] at this
  exact this
theorem rsign_all : ∀ d : Fin 16, seedcornref02_sign.f (d.val : Int) = some (hexd (d.val : Int)) := by decide +kernel
theorem rsign_eq (d : Int) (h0 : 0 ≤ d) (h1 : d < 16) : seedcornref02_sign.f d = some (hexd d) := by
  have := rsign_all ⟨d.toNat, by omega⟩
  simp only [Int.toNat_of_nonneg h0] at this
  exact this
theorem hexd_all : ∀ d : Fin 16, valD (hexd (d.val : Int)) = (d.val : Int) ∧ valD (up (hexd (d.val : Int))) = (d.val : Int) ∧ 0 ≤ hexd (d.val : Int) ∧ hexd (d.val : Int) < 256 ∧ 0 ≤ up (hexd (d.val : Int)) ∧ up (hexd (d.val : Int)) < 256 := by decide +kernel
theorem hexd_eq (d : Int) (h0 : 0 ≤ d) (h1 : d < 16) : valD (hexd d) = d ∧ valD (up (hexd d)) = d ∧ 0 ≤ hexd d ∧ hexd d < 256 ∧ 0 ≤ up (hexd d) ∧ up (hexd d) < 256 := by
  have := hexd_all ⟨d.toNat, by omega⟩
  simp only [Int.toNat_of_nonneg h0] at this
  exact this
def good (g : Int → Int) : Prop := ∀ d, 0 ≤ d → d < 16 → valD (g d) = d ∧ 0 ≤ g d ∧ g d < 256
theorem good_hexd : good hexd := fun d h0 h1 => by have := hexd_eq d h0 h1; exact ⟨this.1, this.2.2.1, this.2.2.2.1⟩
theorem good_up : good (fun c => up (hexd c)) := fun d h0 h1 => by have := hexd_eq d h0 h1; exact ⟨this.2.1, this.2.2.2.2.1, this.2.2.2.2.2⟩
theorem hexG_bytes (g : Int → Int) (hg : good g) (l : List Int) (hl : isBytes l) : isBytes (hexG g l) := by
  induction l with
  | nil => intro x hx; cases hx
  | cons c l ih =>
    obtain ⟨c0, c1⟩ := hl c (by simp)
    have i := ih (fun x hx => hl x (by simp [hx]))
    intro x hx
    simp only [hexG, List.mem_cons] at hx
    rcases hx with rfl | rfl | hx
    · exact (hg (c / 16) (by omega) (by omega)).2
    · exact (hg (c % 16) (by omega) (by omega)).2
    · exact i x hx
theorem hexG_allD (g : Int → Int) (hg : good g) (l : List Int) (hl : isBytes l) : allD (hexG g l) := by
  induction l with
  | nil => intro x hx; cases hx
  | cons c l ih =>
    obtain ⟨c0, c1⟩ := hl c (by simp)
    have i := ih (fun x hx => hl x (by simp [hx]))
    intro x hx
    simp only [hexG, List.mem_cons] at hx
    rcases hx with rfl | rfl | hx
    · have := (hg (c / 16) (by omega) (by omega)).1; omega
    · have := (hg (c % 16) (by omega) (by omega)).1; omega
    · exact i x hx
theorem hexG_pairs (g : Int → Int) (hg : good g) (l : List Int) (hl : isBytes l) : pairs (hexG g l) = l := by
  induction l with
  | nil => rfl
  | cons c l ih =>
    obtain ⟨c0, c1⟩ := hl c (by simp)
    have i := ih (fun x hx => hl x (by simp [hx]))
    have e1 := (hg (c / 16) (by omega) (by omega)).1
    have e2 := (hg (c % 16) (by omega) (by omega)).1
    simp only [hexG, pairs, i, e1, e2]
    congr 1; omega
theorem hexG_parse (g : Int → Int) (hg : good g) (l : List Int) (hl : isBytes l) : parseS (hexG g l) = (strOfNums l, 0, 0) := by
  have e : firstBad (hexG g l) 0 = none := none_bad _ _ (hexG_allD g hg l hl)
  have e2 : ¬ (hexG g l).length % 2 = 1 := by rw [hexG_length]; omega
  unfold parseS
  rw [e]
  simp only [if_neg e2, hexG_pairs g hg l hl]
theorem hexG_load (g : Int → Int) (hg : good g) (l : List Int) (hl : isBytes l) : loadS (hexG g l) none false = l :=
  (load_digits _ _ (Nat.le_refl _) (hexG_allD g hg l hl)).trans (hexG_pairs g hg l hl)
theorem hexG_st (g : Int → Int) (hg : good g) (l : List Int) (hl : isBytes l) : stS (hexG g l) none false = (none, false) := by
  induction l with
  | nil => rfl
  | cons c l ih =>
    obtain ⟨c0, c1⟩ := hl c (by simp)
    have i := ih (fun x hx => hl x (by simp [hx]))
    have e1 := (hg (c / 16) (by omega) (by omega)).1
    have e2 := (hg (c % 16) (by omega) (by omega)).1
    have n1 : valD (g (c / 16)) ≠ 255 := by omega
    have n2 : valD (g (c % 16)) ≠ 255 := by omega
    obtain ⟨p, q⟩ := digit_not _ n1
    obtain ⟨p', q'⟩ := digit_not _ n2
    simp [hexG, stS, p, q, n1, p', q', n2, i]
theorem str_size (l : List Int) : (strOfNums l).size = l.length := by unfold strOfNums; simp [ByteArray.size]
def hexL (l : List Int) : List Int := hexG hexd l
theorem text_loop (s : ByteArray) (hs : s.size ≤ 3000) (n : Nat) : ∀ (i : Nat) (acc : List Int), i + n = s.size → acc.length = 2 * i →
    Ev (fun k => Ext.hex_Text.l0 k s acc (i : Int)) (strOfNums (acc ++ hexL ((bytesOf s).drop i))) := by
  induction n with
  | zero =>
    intro i acc hin _
    rw [List.drop_of_length_le (by rw [← size_len]; omega)]
    simp only [hexL, hexG, List.append_nil]
    refine Ev.step (f := fun _ => some (strOfNums acc)) (fun k => ?_) (Ev.now _)
    simp only [Ext.hex_Text.l0]
    rw [if_neg (by omega)]
  | succ n ih =>
    intro i acc hin ha
    have hw : wrap64 ((i : Int) + 1) = ((i + 1 : Nat) : Int) := by unfold wrap64; omega
    obtain ⟨b0, b1⟩ := bt_range s (i : Int)
    rw [drop_bt s i (by omega)]
    have h := ih (i + 1) (acc ++ [hexd (bt s (i : Int) / 16), hexd (bt s (i : Int) % 16)]) (by omega) (by simp; omega)
    refine Ev.step (fun k => ?_) (by simpa only [hexL, hexG, List.append_assoc, List.cons_append, List.nil_append] using h)
    simp only [Ext.hex_Text.l0]
    rw [if_pos (by omega), if_pos (by omega), two_eq _ b0 (by omega), hw]
    simp only [Option.bind_some]
    rw [if_pos (by omega)]
theorem text_ev (s : ByteArray) (hs : s.size ≤ 3000) : Ev (fun k => Ext.hex_Text.f k s) (strOfNums (hexL (bytesOf s))) := by
  have h := text_loop s hs s.size 0 [] (by omega) rfl
  rw [List.drop_zero, List.nil_append] at h
  exact h
theorem rtext_loop (s : ByteArray) (hs : s.size ≤ 3000) (n : Nat) : ∀ (i : Nat) (acc : List Int), i + n = s.size → acc.length = 2 * i →
    Ev (fun k => seedcornref02_Text.l0 k s acc (i : Int)) (strOfNums (acc ++ hexL ((bytesOf s).drop i))) := by
  induction n with
  | zero =>
    intro i acc hin _
    rw [List.drop_of_length_le (by rw [← size_len]; omega)]
    simp only [hexL, hexG, List.append_nil]
    refine Ev.step (f := fun _ => some (strOfNums acc)) (fun k => ?_) (Ev.now _)
    simp only [seedcornref02_Text.l0]
    rw [if_neg (by omega)]
  | succ n ih =>
    intro i acc hin ha
    have hw : wrap64 ((i : Int) + 1) = ((i + 1 : Nat) : Int) := by unfold wrap64; omega
    obtain ⟨b0, b1⟩ := bt_range s (i : Int)
    rw [drop_bt s i (by omega)]
    have h := ih (i + 1) (acc ++ [hexd (bt s (i : Int) / 16), hexd (bt s (i : Int) % 16)]) (by omega) (by simp; omega)
    have w0 : wrap64 (bt s (i : Int)) = bt s (i : Int) := by unfold wrap64; omega
    have q1 : wrap64 (Int.tdiv (bt s (i : Int)) 16) = bt s (i : Int) / 16 := by rw [Int.tdiv_eq_ediv_of_nonneg b0]; unfold wrap64; omega
    have q2 : Int.tmod (bt s (i : Int)) 16 = bt s (i : Int) % 16 := Int.tmod_eq_emod_of_nonneg b0
    refine Ev.step (fun k => ?_) (by simpa only [hexL, hexG, List.append_assoc, List.cons_append, List.nil_append] using h)
    simp only [seedcornref02_Text.l0]
    rw [if_pos (by omega), if_pos (by omega), w0, q1, q2, rsign_eq _ (by omega) (by omega), rsign_eq _ (by omega) (by omega), hw]
    simp only [Option.bind_some, List.length_cons, List.length_nil]
    rw [if_pos (by omega)]
theorem rtext_ev (s : ByteArray) (hs : s.size ≤ 3000) : Ev (fun k => seedcornref02_Text.f k s) (strOfNums (hexL (bytesOf s))) := by
  have h := rtext_loop s hs s.size 0 [] (by omega) rfl
  rw [List.drop_zero, List.nil_append] at h
  exact h
theorem great_loop (L : List Int) (hb : isBytes L) (hL : L.length ≤ 1000000) (n : Nat) : ∀ i : Nat, i + n = L.length →
    Ev (fun k => Ext.great.l0 k ((L.take i).map up ++ L.drop i) (i : Int)) (strOfNums (L.map up)) := by
  induction n with
  | zero =>
    intro i hin
    rw [List.drop_of_length_le (by omega), List.take_of_length_le (by omega), List.append_nil]
    refine Ev.step (f := fun _ => some (strOfNums (L.map up))) (fun k => ?_) (Ev.now _)
    simp only [Ext.great.l0]
    rw [if_neg (by rw [List.length_map]; omega)]
  | succ n ih =>
    intro i hin
    have hw : wrap64 ((i : Int) + 1) = ((i + 1 : Nat) : Int) := by unfold wrap64; omega
    have hi : i < L.length := by omega
    have hlen : ((L.take i).map up ++ L.drop i).length = L.length := by simp; omega
    have ht : ((L.take i).map up).length = i := by simp; omega
    have hd : L.drop i = L[i] :: L.drop (i + 1) := List.drop_eq_getElem_cons hi
    obtain ⟨b0, b1⟩ := hb _ (List.getElem_mem hi)
    have hr : rd ((L.take i).map up ++ L.drop i) (i : Int) = L[i] := by
      unfold rd
      rw [Int.toNat_natCast, hd, List.getD_eq_getElem?_getD, List.getElem?_append_right (by omega), ht]
      simp only [Nat.sub_self, List.getElem?_cons_zero, Option.getD_some]
    have hn : (L.take (i + 1)).map up ++ L.drop (i + 1) = (L.take i).map up ++ (up L[i] :: L.drop (i + 1)) := by
      rw [List.take_succ_eq_append_getElem hi, List.map_append, List.map_cons, List.map_nil, List.append_assoc]
      rfl
    have h := ih (i + 1) (by omega)
    rw [hn] at h
    have hs : ∀ v, ((L.take i).map up ++ L.drop i).set i v = (L.take i).map up ++ (v :: L.drop (i + 1)) := by
      intro v
      rw [List.set_append_right _ _ (by omega), ht, hd]
      simp only [Nat.sub_self, List.set_cons_zero]
    generalize hx : (L.take i).map up ++ L.drop i = xs at hr hs hlen ⊢
    have q0 : (i : Int) < (xs.length : Int) := by rw [hlen]; omega
    refine Ev.step (f := fun k => if rd xs (i : Int) ≥ 97 then (if rd xs (i : Int) ≤ 122 then Ext.great.l0 k (xs.set i ((rd xs (i : Int) - 32) % 256)) ((i + 1 : Nat) : Int) else Ext.great.l0 k xs ((i + 1 : Nat) : Int)) else Ext.great.l0 k xs ((i + 1 : Nat) : Int)) (fun k => ?_) ?_
    · simp only [Ext.great.l0]
      rw [if_pos q0, if_pos (by omega), hw, Int.toNat_natCast]
    · rw [hr]
      have same : up L[i] = L[i] → xs = (L.take i).map up ++ (up L[i] :: L.drop (i + 1)) := by intro e; rw [e, ← hx, hd]
      by_cases c1 : L[i] ≥ 97
      · by_cases c2 : L[i] ≤ 122
        · simp only [if_pos c1, if_pos c2]
          have e : up L[i] = L[i] - 32 := by unfold up; rw [if_pos ⟨c1, c2⟩]
          rw [hs, show (L[i] - 32) % 256 = up L[i] by omega]
          exact h
        · simp only [if_pos c1, if_neg c2]
          rw [same (by unfold up; rw [if_neg (by omega)])]
          exact h
      · simp only [if_neg c1]
        rw [same (by unfold up; rw [if_neg (by omega)])]
        exact h
theorem great_ev (s : ByteArray) (hs : s.size ≤ 1000000) : Ev (fun k => Ext.great.f k s) (strOfNums ((bytesOf s).map up)) := by
  have h := great_loop (bytesOf s) (bytes_is s) (by rw [← size_len]; omega) (bytesOf s).length 0 (by omega)
  simp only [List.take_zero, List.map_nil, List.drop_zero, List.nil_append] at h
  refine Ev.congr (fun k => ?_) h
  unfold Ext.great.f
  rw [if_pos hs]
  rfl
end Go.Proofs.YtllnaagddpfclaaDoor.Hex
