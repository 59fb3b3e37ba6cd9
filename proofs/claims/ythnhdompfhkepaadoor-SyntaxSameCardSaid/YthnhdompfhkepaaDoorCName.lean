/- syntax.name, syntax.names, and what they call: may texts be names? -/
import Derived.Test.YthnhdompfhkepaaDoorC0
namespace Go.Proofs.YthnhdompfhkepaaDoor.Pure
open Go Go.RowKit Go.Proofs.YthnhdompfhkepaaDoor.Q Go.Proofs.YthnhdompfhkepaaDoorW.PrintWords Go.Proofs.YthnhdompfhkepaaDoorW.PrintLast Go.Proofs.YthnhdompfhkepaaDoorW.PrintMore
set_option linter.unusedSimpArgs false
set_option linter.unusedVariables false
set_option maxHeartbeats 8000000
set_option maxRecDepth 100000
/-- it only computes -/
def Is (b : Bool) (w : World) (e : Ending) (w' : World) : Prop := e = .returned (.bool b) ∧ w = w'
theorem Is.mk {b c : Bool} {w : World} (h : b = true ↔ c = true) : Is c w (.returned (.bool b)) w := ⟨by rw [Bool.eq_iff_iff.mpr h], rfl⟩
theorem letter_c (b : UInt8) (w : World) : Calls Tryd.prog 86 #[.int .u8 (b.toNat : Int)] w (Is (isL b) w) := by
  go_enter Tryd.func86, Tryd.ntmps86
  go_wp2
  all_goals go_ret
  all_goals (refine Is.mk ?_; simp [isL]; try omega)
theorem digit_c (b : UInt8) (w : World) : Calls Tryd.prog 104 #[.int .u8 (b.toNat : Int)] w (Is (isD b) w) := by
  go_enter Tryd.func104, Tryd.ntmps104
  go_wp2
  all_goals go_ret
  all_goals (refine Is.mk ?_; simp [isD]; try omega)
theorem inner_c (b : UInt8) (w : World) : Calls Tryd.prog 88 #[.int .u8 (b.toNat : Int)] w (Is (isN b) w) := by
  cases h1 : isL b <;> cases h2 : isD b
  all_goals have H := Aside0.mk (And.intro h1 h2)
  all_goals have L := Aside0.mk (letter_c b w)
  all_goals have D := Aside0.mk (digit_c b w)
  all_goals rw [h1] at L
  all_goals rw [h2] at D
  all_goals clear h1 h2
  all_goals go_enter Tryd.func88, Tryd.ntmps88
  all_goals go_wp2_with (first | (go_at_call 86; refine L.out.mono ?_; rintro e w' ⟨rfl, rfl⟩) | (go_at_call 104; refine D.out.mono ?_; rintro e w' ⟨rfl, rfl⟩))
  all_goals go_ret
  all_goals (refine Is.mk ?_; simp [isN, H.out.1, H.out.2]; try omega)
theorem run_c (s : ByteArray) (hs : s.size ≤ 20) (w : World) : Calls Tryd.prog 87 #[.string s, .int .i64 0, .func (.func 88) #[] #[]] w (fun e w' => (∃ r : Nat, e = .returned (.int .i64 r) ∧ Aside0 (r ≤ 20 ∧ (r = s.size ↔ ∀ c ∈ s.data.toList, isN c = true))) ∧ w = w') := by
  go_enter Tryd.func87, Tryd.ntmps87
  go_wp2
  go_loopg [7] s.size (fun n v7 wr => ∃ j : Nat, v7 = .int .i64 j ∧ Aside0 (n + j = s.size ∧ ∀ i (h : i < s.size), i < j → isN (s[i]'h) = true) ∧ wr = w)
  case atStart => exact ⟨0, rfl, ⟨by simp, by intro i h h0; omega⟩, rfl⟩
  case round =>
    obtain ⟨j, rfl, HJ, rfl⟩ := hrel
    by_cases hj : j < s.size
    · cases hc : isN (s[j]'hj)
      all_goals have HC := Aside0.mk hc
      all_goals have L := Aside0.mk (inner_c (s[j]'hj) wr)
      all_goals rw [hc] at L
      all_goals clear hc
      all_goals have ew : wrap64 (j : Int) = (j : Int) := wid (by omega)
      all_goals have q0 : ((j : Int) < (s.size : Int)) = True := eq_true (by omega)
      all_goals have e1 : wrap64 ((j : Int) + 1) = ((j + 1 : Nat) : Int) := by unfold wrap64; omega
      · go_wp2_with (go_at_call 88; go_loud (refine L.out.mono ?_); rintro e w' ⟨rfl, rfl⟩)
        go_ret
        exact ⟨⟨j, rfl, ⟨by omega, ⟨fun h => by omega, fun h => absurd (HC.out.symm.trans (h (s[j]'hj) (Array.getElem_mem_toList hj))) (by decide)⟩⟩⟩, rfl⟩
      · go_wp2_with (go_at_call 88; go_loud (refine L.out.mono ?_); rintro e w' ⟨rfl, rfl⟩)
        go_roundg (s.size - (j + 1))
        case measure => have := HJ.out; omega
        case rel => exact ⟨j + 1, (by first | exact congrArg _ e1 | rfl), ⟨by omega, fun i h hi => by
          rcases Nat.eq_or_lt_of_le (Nat.le_of_lt_succ hi) with rfl | h'
          · exact HC.out
          · exact HJ.out.2 i h h'⟩, rfl⟩
    · have ew : wrap64 (j : Int) = (j : Int) := wid (by have := HJ.out; omega)
      go_wp2
      go_ret
      refine ⟨⟨j, rfl, ⟨by have := HJ.out; omega, ⟨fun h c hc => ?_, fun _ => by have := HJ.out; omega⟩⟩⟩, rfl⟩
      obtain ⟨i, hi, rfl⟩ := List.getElem_of_mem hc
      have hi' : i < s.size := by simpa using hi
      exact HJ.out.2 i hi' (by omega)
/-- the table's words -/
theorem index_c (l : List ByteArray) (s : ByteArray) (A : Option Addr) (c : Nat) (w : World) (hR : Kd.C Kd.string w A l.length l) : Calls Tryd.prog 105 #[.slice A l.length c, .string s] w (fun e w' => (∃ r : Int, e = .returned (.int .i64 r) ∧ Aside0 (0 ≤ r ↔ s ∈ l)) ∧ Below w.heap.size w w') := by
  have HR := Aside0.mk hR
  clear hR
  go_enter Tryd.func105, Tryd.ntmps105
  go_wp2
  go_loopg [8] l.length (fun n v8 wr => ∃ j : Nat, v8 = .int .i64 j ∧ Aside0 (n + j = l.length ∧ s ∉ l.take j) ∧ Aside0 (Below w.heap.size w wr))
  case atStart => exact ⟨0, rfl, ⟨rfl, by simp⟩, ⟨brefl _⟩⟩
  case round =>
    obtain ⟨j, rfl, HJ, HB⟩ := hrel
    by_cases hj : j < l.length
    · obtain ⟨ad, pb, po, x, rfl, ea, hlt, x0, hx, p0, q0, ej⟩ := elS (Kd.C_below HR.out HB.out) hj
      by_cases he : s.toList = x.toList
      · have e2 : (s.toList == x.toList) = true := by simp [he]
        have HE := Aside0.mk (bytes_ext he)
        clear he
        go_wp2
        go_ret
        exact ⟨⟨j, rfl, ⟨iff_of_true (by omega) (HE.out ▸ mem_of hx.out)⟩⟩, HB.out⟩
      · have e2 : (s.toList == x.toList) = false := by simpa using he
        have HE := Aside0.mk (show ¬ s = x from fun e => he (by rw [e]))
        clear he
        go_wp2
        go_roundg (l.length - (j + 1))
        case measure => have := HJ.out; omega
        case rel => exact ⟨j + 1, (by first | exact congrArg _ ej | rfl), ⟨by omega, by rw [take_step hx.out, List.mem_append, List.mem_singleton]; exact fun h => h.elim HJ.out.2 HE.out⟩, HB⟩
    · go_wp2
      go_ret
      exact ⟨⟨-1, rfl, ⟨iff_of_false (by decide) (by have := HJ.out.2; rwa [take_all hj] at this)⟩⟩, HB.out⟩
theorem contains_c (l : List ByteArray) (s : ByteArray) (A : Option Addr) (c : Nat) (w : World) (hR : Kd.C Kd.string w A l.length l) : Calls Tryd.prog 89 #[.slice A l.length c, .string s] w (RetB (s ∈ l) w) := by
  obtain ⟨P, E⟩ := name_it (s ∈ l)
  refine Calls.mono (R := RetB P w) ?_ fun e w' h => h.iff E.out
  have K := Aside0.mk (index_c l s A c w hR)
  clear hR
  go_enter Tryd.func89, Tryd.ntmps89
  go_wp2_with (go_at_call 105; refine K.out.mono ?_; rintro e w' ⟨⟨r, rfl, hr⟩, hB⟩; have HB := Aside0.mk hB; clear hB)
  go_ret
  exact ⟨decide (0 ≤ r), rfl, by rw [E.out, decide_eq_true_iff, hr.out], HB.out⟩
def nameT (s : ByteArray) : Prop := s.size ≤ 20 ∧ (∃ c l, s.data.toList = c :: l ∧ isL c = true) ∧ (∀ c ∈ s.data.toList, isN c = true) ∧ s ∉ Ext.wordsL
theorem tokenName_c (s : ByteArray) (w : World) (hT : Ext.TAB w) : Calls Tryd.prog 68 #[.string s] w (RetB (nameT s) w) := by
  obtain ⟨P, E⟩ := name_it (nameT s)
  refine Calls.mono (R := RetB P w) ?_ fun e w' h => h.iff E.out
  have K := Aside0.mk (contains_c Ext.wordsL s _ 10 w (Ext.wordsL_C hT))
  have HT := Aside0.mk hT
  have R := Aside0.mk (fun h => run_c s h w)
  clear hT
  have no : ∀ {W}, w = W → ¬ nameT s → RetB P w (.returned (.bool false)) W := fun e h => by subst e; exact RetB.no (fun p => h (E.out.mp p)) (brefl _)
  have NO := Aside0.mk @no
  clear no
  by_cases h0 : s.size = 0
  · have hz : s.toList = [] := by rw [ByteArray.toList_eq]; exact List.eq_nil_of_length_eq_zero h0
    have HN := Aside0.mk (show ¬ nameT s from fun h => by
      obtain ⟨c, l, hl, _⟩ := h.2.1
      have : s.data.toList.length = 0 := h0
      rw [hl] at this
      cases this)
    clear h0
    go_enter Tryd.func68, Tryd.ntmps68
    go_wp2
    go_ret
    exact NO.out rfl HN.out
  · have hp : 0 < s.size := by omega
    have he : s.toList.isEmpty = false := by
      cases h : s.toList with
      | nil => rw [ByteArray.toList_eq] at h; have : s.data.toList.length = 0 := by rw [h]; rfl
               exact absurd this h0
      | cons => rfl
    have he2 : ¬ s.toList = [] := fun h => by rw [h] at he; cases he
    have hq : (0 < (s.size : Int)) = True := eq_true (by omega)
    clear h0
    by_cases h1 : s.size ≤ 20
    · have HR := Aside0.mk (R.out h1)
      have h1' : ((s.size : Int) ≤ 20) = True := eq_true (by omega)
      have HD : ∀ c l, s.data.toList = c :: l → c = s[0]'hp := fun c l h => by
        have h2 : s.data.toList[0]'(by rw [h]; simp) = s[0]'hp := rfl
        rw [← h2]
        simp [h]
      have HD := Aside0.mk HD
      cases hc : isL (s[0]'hp)
      · have L := Aside0.mk (letter_c (s[0]'hp) w)
        rw [hc] at L
        have HN := Aside0.mk (show ¬ nameT s from fun h => by
          obtain ⟨c, l, hl, h2⟩ := h.2.1
          rw [HD.out c l hl, hc] at h2
          cases h2)
        clear hc
        go_enter Tryd.func68, Tryd.ntmps68
        go_wp2_with (go_at_call 86; go_loud (refine L.out.mono ?_); rintro e w' ⟨rfl, rfl⟩)
        go_ret
        exact NO.out rfl HN.out
      · have L := Aside0.mk (letter_c (s[0]'hp) w)
        rw [hc] at L
        have NH : Aside0 (∃ c l, s.data.toList = c :: l ∧ isL c = true) := ⟨by
          cases hl : s.data.toList with
          | nil => have : s.data.toList.length = s.size := rfl
                   rw [hl] at this; simp at this; omega
          | cons c l => exact ⟨c, l, rfl, by rw [HD.out c l hl]; exact hc⟩⟩
        clear hc
        by_cases ha : ∀ c ∈ s.data.toList, isN c = true
        · have HA := Aside0.mk ha
          have R1 : Aside0 (Calls Tryd.prog 87 #[.string s, .int .i64 0, .func (.func 88) #[] #[]] w (fun e w' => e = .returned (.int .i64 (s.size : Int)) ∧ w = w')) := ⟨HR.out.mono fun e w' ⟨⟨r, h2, h3⟩, h4⟩ => ⟨by rw [h2, h3.out.2.mpr HA.out], h4⟩⟩
          clear ha HR
          go_enter Tryd.func68, Tryd.ntmps68
          go_wp2_with (first | (go_at_call 86; go_loud (refine L.out.mono ?_); rintro e w' ⟨rfl, rfl⟩) | (go_at_call 87; go_loud (refine R1.out.mono ?_); rintro e w' ⟨rfl, rfl⟩) | (go_at_call 89; go_loud (refine K.out.mono ?_); rintro e w' ⟨b, rfl, hb, hB⟩; have HB := Aside0.mk hB; have HE := Aside0.mk hb; clear hb hB; cases b))
          all_goals go_ret
          · first | exact RetB.no (fun p => (E.out.mp p).2.2.2 (HE.out.mp (by trivial))) HB.out | exact RetB.yes (E.out.mpr ⟨h1, NH.out, HA.out, fun hm => absurd (HE.out.mpr hm) (by decide)⟩) HB.out
          · first | exact RetB.no (fun p => (E.out.mp p).2.2.2 (HE.out.mp (by trivial))) HB.out | exact RetB.yes (E.out.mpr ⟨h1, NH.out, HA.out, fun hm => absurd (HE.out.mpr hm) (by decide)⟩) HB.out
        · have HA := Aside0.mk ha
          clear ha
          go_enter Tryd.func68, Tryd.ntmps68
          go_wp2_with (first | (go_at_call 86; go_loud (refine L.out.mono ?_); rintro e w' ⟨rfl, rfl⟩) | (go_at_call 87; go_loud (refine HR.out.mono ?_); rintro e w' ⟨⟨r, rfl, hr⟩, rfl⟩; obtain ⟨hz, hz2⟩ := neN (fun h => HA.out (hr.out.2.mp h))))
          go_ret
          exact NO.out rfl fun h => HA.out h.2.2.1
    · have h1' : ((s.size : Int) ≤ 20) = False := eq_false (by omega)
      go_enter Tryd.func68, Tryd.ntmps68
      go_wp2
      go_ret
      exact NO.out rfl fun h => h1 h.1
theorem name_c (s : ByteArray) (w : World) (hT : Ext.TAB w) : Calls Tryd.prog 40 #[.string s] w (RetB (NameOk s) w) := by
  obtain ⟨P, E⟩ := name_it (NameOk s)
  refine Calls.mono (R := RetB P w) ?_ fun e w' h => h.iff E.out
  have K := Aside0.mk (tokenName_c s w hT)
  clear hT
  by_cases hr : s ∈ reserved
  · have HN := Aside0.mk (show ¬ P from fun p => (E.out.mp p).free hr)
    clear E K
    simp only [reserved, List.mem_cons, List.not_mem_nil, or_false] at hr
    rcases hr with rfl | rfl | rfl | rfl | rfl | rfl | rfl | rfl | rfl | rfl
    all_goals (go_enter Tryd.func40, Tryd.ntmps40)
    all_goals go_wp2
    all_goals go_ret
    all_goals exact RetB.no HN.out (brefl _)
  · have f : ∀ r ∈ reserved, (s.toList == r.toList) = false := fun r h => by
      simp only [beq_eq_false_iff_ne, ne_eq]
      exact fun e => hr (bytes_ext e ▸ h)
    have f0 : (s.toList == [118, 97, 114]) = false := by have := f ⟨#[118, 97, 114]⟩ (by simp [reserved]); rwa [ByteArray.toList_eq ⟨#[118, 97, 114]⟩] at this
    have f1 : (s.toList == [97, 114, 114, 97, 121]) = false := by have := f ⟨#[97, 114, 114, 97, 121]⟩ (by simp [reserved]); rwa [ByteArray.toList_eq ⟨#[97, 114, 114, 97, 121]⟩] at this
    have f2 : (s.toList == [102, 117, 110, 99]) = false := by have := f ⟨#[102, 117, 110, 99]⟩ (by simp [reserved]); rwa [ByteArray.toList_eq ⟨#[102, 117, 110, 99]⟩] at this
    have f3 : (s.toList == [119, 111, 114, 100]) = false := by have := f ⟨#[119, 111, 114, 100]⟩ (by simp [reserved]); rwa [ByteArray.toList_eq ⟨#[119, 111, 114, 100]⟩] at this
    have f4 : (s.toList == [105, 102]) = false := by have := f ⟨#[105, 102]⟩ (by simp [reserved]); rwa [ByteArray.toList_eq ⟨#[105, 102]⟩] at this
    have f5 : (s.toList == [101, 108, 115, 101]) = false := by have := f ⟨#[101, 108, 115, 101]⟩ (by simp [reserved]); rwa [ByteArray.toList_eq ⟨#[101, 108, 115, 101]⟩] at this
    have f6 : (s.toList == [119, 104, 105, 108, 101]) = false := by have := f ⟨#[119, 104, 105, 108, 101]⟩ (by simp [reserved]); rwa [ByteArray.toList_eq ⟨#[119, 104, 105, 108, 101]⟩] at this
    have f7 : (s.toList == [114, 101, 116, 117, 114, 110]) = false := by have := f ⟨#[114, 101, 116, 117, 114, 110]⟩ (by simp [reserved]); rwa [ByteArray.toList_eq ⟨#[114, 101, 116, 117, 114, 110]⟩] at this
    have f8 : (s.toList == [112, 117, 116]) = false := by have := f ⟨#[112, 117, 116]⟩ (by simp [reserved]); rwa [ByteArray.toList_eq ⟨#[112, 117, 116]⟩] at this
    have f9 : (s.toList == [103, 101, 116]) = false := by have := f ⟨#[103, 101, 116]⟩ (by simp [reserved]); rwa [ByteArray.toList_eq ⟨#[103, 101, 116]⟩] at this
    have HR := Aside0.mk hr
    clear f hr
    go_enter Tryd.func40, Tryd.ntmps40
    go_wp2_with (go_at_call 68; refine K.out.mono ?_; rintro e w' ⟨b, rfl, hb, hB⟩; have HB := Aside0.mk hB; have HE := Aside0.mk hb; clear hB hb)
    go_ret
    exact ⟨b, rfl, by rw [HE.out, E.out]; exact ⟨fun h => ⟨h.1, h.2.1, h.2.2.1, HR.out⟩, fun h => ⟨h.1, h.2, h.3, HR.out⟩⟩, HB.out⟩
theorem noname_c (s : ByteArray) (w : World) (hT : Ext.TAB w) : Calls Tryd.prog 67 #[.string s] w (RetB (¬ NameOk s) w) := by
  obtain ⟨P, E⟩ := name_it (¬ NameOk s)
  refine Calls.mono (R := RetB P w) ?_ fun e w' h => h.iff E.out
  have K := Aside0.mk (name_c s w hT)
  clear hT
  go_enter Tryd.func67, Tryd.ntmps67
  go_wp2_with (go_at_call 40; refine K.out.mono ?_; rintro e w' ⟨b, rfl, hb, hB⟩; have HB := Aside0.mk hB; have HE := Aside0.mk hb; clear hB hb)
  go_ret
  exact ⟨!b, rfl, by rw [E.out, ← HE.out]; cases b <;> simp, HB.out⟩
theorem indexFunc_c (l : List ByteArray) (A : Option Addr) (c : Nat) (w : World) (hR : Kd.C Kd.string w A l.length l) (hT : Ext.TAB w) : Calls Tryd.prog 85 #[.slice A l.length c, .func (.func 67) #[] #[]] w (fun e w' => (∃ r : Int, e = .returned (.int .i64 r) ∧ Aside0 (r < 0 ↔ ∀ s ∈ l, NameOk s)) ∧ Below w.heap.size w w') := by
  have HR := Aside0.mk hR
  have HT := Aside0.mk hT
  clear hR hT
  go_enter Tryd.func85, Tryd.ntmps85
  go_wp2
  go_loopg [8] l.length (fun n v8 wr => ∃ j : Nat, v8 = .int .i64 j ∧ Aside0 (n + j = l.length ∧ ∀ s ∈ l.take j, NameOk s) ∧ Aside0 (Below w.heap.size w wr))
  case atStart => exact ⟨0, rfl, ⟨rfl, by simp⟩, ⟨brefl _⟩⟩
  case round =>
    obtain ⟨j, rfl, HJ, HB⟩ := hrel
    by_cases hj : j < l.length
    · obtain ⟨ad, pb, po, x, rfl, ea, hlt, x0, hx, p0, q0, ej⟩ := elS (Kd.C_below HR.out HB.out) hj
      have K := Aside0.mk (noname_c x wr (Ext.TAB.below HT.out HB.out))
      go_wp2_with (go_at_call 67; refine K.out.mono ?_; rintro e w' ⟨b, rfl, hb, hB⟩; have HB' := Aside0.mk (bstep HB.out hB); have HE := Aside0.mk hb; clear hB hb; cases b)
      · go_roundg (l.length - (j + 1))
        case measure => have := HJ.out; omega
        case rel => exact ⟨j + 1, (by first | exact congrArg _ ej | rfl), ⟨by omega, by
          rw [take_step hx.out]
          intro s hs
          rcases List.mem_append.mp hs with hs | hs
          · exact HJ.out.2 s hs
          · rw [List.mem_singleton.mp hs]; exact Classical.byContradiction fun h => absurd (HE.out.mpr h) (by decide)⟩, HB'⟩
      · go_ret
        exact ⟨⟨j, rfl, ⟨iff_of_false (by omega) fun h => HE.out.mp (by trivial) (h x (mem_of hx.out))⟩⟩, HB'.out⟩
    · go_wp2
      go_ret
      exact ⟨⟨-1, rfl, ⟨iff_of_true (by decide) (by have := HJ.out.2; rwa [take_all hj] at this)⟩⟩, HB.out⟩
theorem containsFunc_c (l : List ByteArray) (A : Option Addr) (c : Nat) (w : World) (hR : Kd.C Kd.string w A l.length l) (hT : Ext.TAB w) : Calls Tryd.prog 66 #[.slice A l.length c, .func (.func 67) #[] #[]] w (RetB (¬ ∀ s ∈ l, NameOk s) w) := by
  obtain ⟨P, E⟩ := name_it (¬ ∀ s ∈ l, NameOk s)
  refine Calls.mono (R := RetB P w) ?_ fun e w' h => h.iff E.out
  have K := Aside0.mk (indexFunc_c l A c w hR hT)
  clear hR hT
  go_enter Tryd.func66, Tryd.ntmps66
  go_wp2_with (go_at_call 85; refine K.out.mono ?_; rintro e w' ⟨⟨r, rfl, hr⟩, hB⟩; have HB := Aside0.mk hB; clear hB)
  go_ret
  exact ⟨decide (0 ≤ r), rfl, by rw [E.out, decide_eq_true_iff, ← hr.out]; omega, HB.out⟩
theorem names_c (l : List ByteArray) (A : Option Addr) (c : Nat) (w : World) (hR : Kd.C Kd.string w A l.length l) (hT : Ext.TAB w) : Calls Tryd.prog 39 #[.slice A l.length c] w (RetB (∀ s ∈ l, NameOk s) w) := by
  obtain ⟨P, E⟩ := name_it (∀ s ∈ l, NameOk s)
  refine Calls.mono (R := RetB P w) ?_ fun e w' h => h.iff E.out
  have K := Aside0.mk (containsFunc_c l A c w hR hT)
  clear hR hT
  go_enter Tryd.func39, Tryd.ntmps39
  go_wp2_with (go_at_call 66; refine K.out.mono ?_; rintro e w' ⟨b, rfl, hb, hB⟩; have HB := Aside0.mk hB; have HE := Aside0.mk hb; clear hB hb)
  go_ret
  exact ⟨!b, rfl, by rw [E.out]; have := HE.out; cases b <;> simp_all, HB.out⟩
end Go.Proofs.YthnhdompfhkepaaDoor.Pure
