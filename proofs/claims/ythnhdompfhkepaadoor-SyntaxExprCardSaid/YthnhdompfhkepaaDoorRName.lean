/- The document's names: IsName, names, and what they call. -/
import Derived.Test.YthnhdompfhkepaaDoorC0
namespace Go.Proofs.YthnhdompfhkepaaDoor.Pure
open Go Go.RowKit Go.Proofs.YthnhdompfhkepaaDoor.Q Go.Proofs.YthnhdompfhkepaaDoorW.PrintWords Go.Proofs.YthnhdompfhkepaaDoorW.PrintLast Go.Proofs.YthnhdompfhkepaaDoorW.PrintMore
set_option linter.unusedSimpArgs false
set_option linter.unusedVariables false
set_option maxHeartbeats 8000000
set_option maxRecDepth 100000
def rIs (b : Bool) (w : World) (e : Ending) (w' : World) : Prop := e = .returned (.bool b) ∧ w = w'
theorem rIs.mk {b c : Bool} {w : World} (h : b = true ↔ c = true) : rIs c w (.returned (.bool b)) w := ⟨by rw [Bool.eq_iff_iff.mpr h], rfl⟩
theorem rletter_c (b : UInt8) (w : World) : Calls Tryd.prog 91 #[.int .u8 (b.toNat : Int)] w (rIs (isL b) w) := by
  go_enter Tryd.func91, Tryd.ntmps91
  go_wp2
  all_goals go_ret
  all_goals (refine rIs.mk ?_; simp [isL]; try omega)
theorem rdigit_c (b : UInt8) (w : World) : Calls Tryd.prog 94 #[.int .u8 (b.toNat : Int)] w (rIs (isD b) w) := by
  go_enter Tryd.func94, Tryd.ntmps94
  go_wp2
  all_goals go_ret
  all_goals (refine rIs.mk ?_; simp [isD]; try omega)
/-- a list of words, made -/
def Made (l : List ByteArray) (w : World) (e : Ending) (w' : World) : Prop := ∃ A c, e = .returned (.slice A l.length c) ∧ Kd.C Kd.string w' A l.length l ∧ Below w.heap.size w w'
theorem words_made {w : World} {t : TypeId} : Made reserved w (.returned (.slice (some ⟨w.heap.size, 0, none⟩) 10 10)) (w.alloc (.cells (reserved.map Value.string).toArray t)) :=
  ⟨_, _, rfl, Ext.Table.reads ⟨_, _, blk_new _ _⟩ (by decide), balloc (brefl _) _⟩
theorem rwords_c (w : World) : Calls Tryd.prog 71 #[] w (Made reserved w) := by
  go_enter Tryd.func71, Tryd.ntmps71
  go_wp2
  go_ret
  exact words_made
theorem rWords_c (w : World) : Calls Tryd.prog 93 #[] w (Made reserved w) := by
  go_enter Tryd.func93, Tryd.ntmps93
  go_wp2
  go_ret
  exact words_made
theorem rin_c (l : List ByteArray) (s : ByteArray) (A : Option Addr) (c : Nat) (w : World) (hR : Kd.C Kd.string w A l.length l) : Calls Tryd.prog 92 #[.slice A l.length c, .string s] w (RetB (s ∈ l) w) := by
  obtain ⟨P, E⟩ := name_it (s ∈ l)
  refine Calls.mono (R := RetB P w) ?_ fun e w' h => h.iff E.out
  have HR := Aside0.mk hR
  clear hR
  go_enter Tryd.func92, Tryd.ntmps92
  go_wp2
  go_loopg [5] l.length (fun n v5 wr => ∃ j : Nat, v5 = .int .i64 j ∧ Aside0 (n + j = l.length ∧ s ∉ l.take j) ∧ Aside0 (Below w.heap.size w wr))
  case atStart => exact ⟨0, rfl, ⟨by simp, by simp⟩, ⟨brefl _⟩⟩
  case round =>
    obtain ⟨j, rfl, HJ, HB⟩ := hrel
    by_cases hj : j < l.length
    · obtain ⟨ad, pb, po, x, rfl, ea, hlt, x0, hx, p0, q0, ej⟩ := elS (Kd.C_below HR.out HB.out) hj
      by_cases he : x.toList = s.toList
      · have e2 : (x.toList == s.toList) = true := by simp [he]
        have HE := Aside0.mk (bytes_ext he)
        clear he
        go_wp2
        go_ret
        exact RetB.yes (E.out.mpr (HE.out ▸ mem_of hx.out)) HB.out
      · have e2 : (x.toList == s.toList) = false := by simpa using he
        have HE := Aside0.mk (show ¬ s = x from fun e => he (by rw [e]))
        clear he
        go_wp2
        go_roundg (l.length - (j + 1))
        case measure => have := HJ.out; omega
        case rel => exact ⟨j + 1, (by first | exact congrArg _ ej | rfl), ⟨by omega, by rw [take_step hx.out, List.mem_append, List.mem_singleton]; exact fun h => h.elim HJ.out.2 HE.out⟩, HB⟩
    · go_wp2
      go_ret
      exact RetB.no (fun p => HJ.out.2 (by rw [take_all hj]; exact E.out.mp p)) HB.out
theorem head_of {s : ByteArray} (hp : 0 < s.size) : ∃ l, s.data.toList = s[0]'hp :: l := by
  cases hl : s.data.toList with
  | nil => have : s.data.toList.length = s.size := rfl
           rw [hl] at this; simp at this; omega
  | cons c l =>
    have h2 : s.data.toList[0]'(by rw [hl]; simp) = s[0]'hp := rfl
    rw [← h2]
    exact ⟨l, by simp [hl]⟩
theorem rName_c (s : ByteArray) (w : World) : Calls Tryd.prog 72 #[.string s] w (RetB (NameOk s) w) := by
  obtain ⟨P, E⟩ := name_it (NameOk s)
  refine Calls.mono (R := RetB P w) ?_ fun e w' h => h.iff E.out
  have no : ∀ W, ¬ NameOk s → Below w.heap.size w W → RetB P w (.returned (.bool false)) W := fun W h hB => RetB.no (fun p => h (E.out.mp p)) hB
  have NO := Aside0.mk no
  clear no
  by_cases h0 : s.size = 0
  · have e0 : ((s.size : Int) == 0) = true := by simp [h0]
    have HN := Aside0.mk (show ¬ NameOk s from fun h => by
      obtain ⟨c, l, hl, _⟩ := h.head
      have : s.data.toList.length = 0 := h0
      rw [hl] at this
      cases this)
    clear h0
    go_enter Tryd.func72, Tryd.ntmps72
    go_wp2
    go_ret
    exact NO.out _ HN.out (brefl _)
  · have hp : 0 < s.size := by omega
    have e0 : ((s.size : Int) == 0) = false := beqI (by omega)
    have hq : (0 < (s.size : Int)) = True := eq_true (by omega)
    by_cases h1 : s.size ≤ 20
    · have h1' : (20 < (s.size : Int)) = False := eq_false (by omega)
      have h1'' : (20 < s.size) = False := eq_false (by omega)
      have HD := Aside0.mk (head_of hp)
      cases hc : isL (s[0]'hp)
      · have L := Aside0.mk (rletter_c (s[0]'hp) w)
        rw [hc] at L
        have HN := Aside0.mk (show ¬ NameOk s from fun h => by
          obtain ⟨c, l, hl, h2⟩ := h.head
          obtain ⟨l', hl'⟩ := HD.out
          rw [hl'] at hl
          rw [← (List.cons.inj hl).1, hc] at h2
          cases h2)
        clear hc
        go_enter Tryd.func72, Tryd.ntmps72
        go_wp2_with (go_at_call 91; go_loud (refine L.out.mono ?_); rintro e w' ⟨rfl, rfl⟩)
        go_ret
        exact NO.out _ HN.out (brefl _)
      · have L := Aside0.mk (rletter_c (s[0]'hp) w)
        rw [hc] at L
        have HC : Aside0 (∃ c l, s.data.toList = c :: l ∧ isL c = true) := ⟨by obtain ⟨l, hl⟩ := HD.out; exact ⟨_, l, hl, hc⟩⟩
        have I := Aside0.mk (fun w' A c (h : Kd.C Kd.string w' A reserved.length reserved) => rin_c reserved s A c w' h)
        clear hc
        go_enter Tryd.func72, Tryd.ntmps72
        go_wp2_with (first | (go_at_call 91; go_loud (refine L.out.mono ?_); rintro e w' ⟨rfl, rfl⟩) | (go_at_call 93; go_loud (refine (rWords_c w).mono ?_); rintro e w1 ⟨A, c, rfl, hR, hB⟩; have HR := Aside0.mk hR; have HB1 := Aside0.mk hB; clear hR hB) | (go_at_call 92; go_loud (refine (I.out _ A c HR.out).mono ?_); rintro e w2 ⟨b, rfl, hb, hB⟩; have HB2 := Aside0.mk (bstep HB1.out hB); have HE := Aside0.mk hb; clear hb hB; cases b))
        · go_loopg [3] s.size (fun n v3 wr => ∃ j : Nat, v3 = .int .i64 j ∧ Aside0 (n + j = s.size ∧ ∀ i (h : i < s.size), i < j → isN (s[i]'h) = true) ∧ Aside0 (Below w.heap.size w wr))
          case atStart => exact ⟨0, rfl, ⟨by simp, by intro i h h0; omega⟩, HB2⟩
          case round =>
            obtain ⟨j, rfl, HJ, HB⟩ := hrel
            by_cases hj : j < s.size
            · have p0 : (0 ≤ (j : Int)) = True := eq_true (by omega)
              have q0 : ((j : Int) < (s.size : Int)) = True := eq_true (by omega)
              have e1 : wrap64 ((j : Int) + 1) = ((j + 1 : Nat) : Int) := by unfold wrap64; omega
              have L := Aside0.mk (rletter_c (s[j]'hj) wr)
              have D := Aside0.mk (rdigit_c (s[j]'hj) wr)
              by_cases hn : isN (s[j]'hj) = true
              · have HN := Aside0.mk hn
                cases hc : isL (s[j]'hj) <;> cases hd : isD (s[j]'hj)
                all_goals rw [hc] at L
                all_goals rw [hd] at D
                all_goals have h95 : Aside0 (isL (s[j]'hj) = false → isD (s[j]'hj) = false → (((s[j]'hj).toNat : Int) != 95) = false) := ⟨fun h1 h2 => by simp [isN, h1, h2] at hn; simp; omega⟩
                all_goals (try have f95 := h95.out hc hd)
                all_goals clear hc hd hn
                all_goals go_wp2_with (first | (go_at_call 91; go_loud (refine L.out.mono ?_); rintro e w' ⟨rfl, rfl⟩) | (go_at_call 94; go_loud (refine D.out.mono ?_); rintro e w' ⟨rfl, rfl⟩))
                all_goals go_roundg (s.size - (j + 1))
                all_goals first
                  | (have := HJ.out; omega)
                  | exact ⟨j + 1, (by first | exact congrArg _ e1 | rfl), ⟨by omega, fun i h hi => by
                      rcases Nat.eq_or_lt_of_le (Nat.le_of_lt_succ hi) with rfl | h'
                      · exact HN.out
                      · exact HJ.out.2 i h h'⟩, HB⟩
              · have HN := Aside0.mk hn
                have hc : isL (s[j]'hj) = false := by cases h : isL (s[j]'hj) <;> simp [isN, h] at hn ⊢
                have hd : isD (s[j]'hj) = false := by cases h : isD (s[j]'hj) <;> simp [isN, h] at hn ⊢
                have f95 : (((s[j]'hj).toNat : Int) != 95) = true := by simp [isN, hc, hd] at hn; simp; omega
                rw [hc] at L
                rw [hd] at D
                clear hc hd hn
                go_wp2_with (first | (go_at_call 91; go_loud (refine L.out.mono ?_); rintro e w' ⟨rfl, rfl⟩) | (go_at_call 94; go_loud (refine D.out.mono ?_); rintro e w' ⟨rfl, rfl⟩))
                go_ret
                exact NO.out _ (fun h => HN.out (h.all _ (Array.getElem_mem_toList hj))) HB.out
            · go_wp2
              go_ret
              refine RetB.yes (E.out.mpr ⟨h1, HC.out, fun c hc => ?_, fun h => absurd (HE.out.mpr h) (by decide)⟩) HB.out
              obtain ⟨i, hi, rfl⟩ := List.getElem_of_mem hc
              have hi' : i < s.size := by simpa using hi
              exact HJ.out.2 i hi' (by omega)
        · go_ret
          exact NO.out _ (fun h => h.free (HE.out.mp (by trivial))) HB2.out
    · have h1' : (20 < (s.size : Int)) = True := eq_true (by omega)
      have h1'' : (20 < s.size) = True := eq_true (by omega)
      have HN := Aside0.mk (show ¬ NameOk s from fun h => h1 h.size)
      go_enter Tryd.func72, Tryd.ntmps72
      go_wp2
      go_ret
      exact NO.out _ HN.out (brefl _)
theorem isName_c (s : ByteArray) (w : World) : Calls Tryd.prog 43 #[.string s] w (RetB (NameOk s) w) := by
  obtain ⟨P, E⟩ := name_it (NameOk s)
  refine Calls.mono (R := RetB P w) ?_ fun e w' h => h.iff E.out
  have K := Aside0.mk (fun w' => rName_c s w')
  go_enter Tryd.func43, Tryd.ntmps43
  go_wp2_with (go_at_call 71; go_loud (refine (rwords_c w).mono ?_); rintro e w1 ⟨A, c, rfl, hR, hB⟩; have HR := Aside0.mk hR; have HB1 := Aside0.mk hB; clear hR hB)
  go_loopg [4] reserved.length (fun n v4 wr => ∃ j : Nat, v4 = .int .i64 j ∧ Aside0 (n + j = reserved.length) ∧ Aside0 (Below w.heap.size w wr ∧ Below w1.heap.size w1 wr))
  case atStart => exact ⟨0, rfl, ⟨by simp⟩, ⟨HB1.out, brefl _⟩⟩
  case round =>
    obtain ⟨j, rfl, HJ, HB⟩ := hrel
    by_cases hj : j < reserved.length
    · obtain ⟨ad, pb, po, x, rfl, ea, hlt, x0, hx, p0, q0, ej⟩ := elS (Kd.C_below HR.out HB.out.2) hj
      by_cases he : s.toList = x.toList
      · have e2 : (s.toList == x.toList) = true := by simp [he]
        have HE := Aside0.mk (bytes_ext he)
        clear he
        go_wp2
        go_ret
        exact RetB.no (fun p => (E.out.mp p).free (HE.out ▸ mem_of hx.out)) HB.out.1
      · have e2 : (s.toList == x.toList) = false := by simpa using he
        clear he
        go_wp2
        go_roundg (reserved.length - (j + 1))
        case measure => have := HJ.out; omega
        case rel => exact ⟨j + 1, (by first | exact congrArg _ ej | rfl), ⟨by omega⟩, HB⟩
    · go_wp2_with (go_at_call 72; go_loud (refine (K.out _).mono ?_); rintro e w2 ⟨b, rfl, hb, hB⟩; have HB2 := Aside0.mk (bstep HB.out.1 hB); have HE := Aside0.mk hb; clear hb hB)
      go_ret
      exact ⟨b, rfl, by rw [HE.out, E.out], HB2.out⟩
theorem rnames_c (l : List ByteArray) (A : Option Addr) (c : Nat) (w : World) (hR : Kd.C Kd.string w A l.length l) : Calls Tryd.prog 42 #[.slice A l.length c] w (RetB (∀ s ∈ l, NameOk s) w) := by
  obtain ⟨P, E⟩ := name_it (∀ s ∈ l, NameOk s)
  refine Calls.mono (R := RetB P w) ?_ fun e w' h => h.iff E.out
  have HR := Aside0.mk hR
  clear hR
  go_enter Tryd.func42, Tryd.ntmps42
  go_wp2
  go_loopg [3] l.length (fun n v3 wr => ∃ j : Nat, v3 = .int .i64 j ∧ Aside0 (n + j = l.length ∧ ∀ s ∈ l.take j, NameOk s) ∧ Aside0 (Below w.heap.size w wr))
  case atStart => exact ⟨0, rfl, ⟨by simp, by simp⟩, ⟨brefl _⟩⟩
  case round =>
    obtain ⟨j, rfl, HJ, HB⟩ := hrel
    by_cases hj : j < l.length
    · obtain ⟨ad, pb, po, x, rfl, ea, hlt, x0, hx, p0, q0, ej⟩ := elS (Kd.C_below HR.out HB.out) hj
      go_wp2_with (go_at_call 43; go_loud (refine (isName_c x wr).mono ?_); rintro e w' ⟨b, rfl, hb, hB⟩; have HB' := Aside0.mk (bstep HB.out hB); have HE := Aside0.mk hb; clear hB hb; cases b)
      · go_ret
        exact RetB.no (fun p => absurd (HE.out.mpr (E.out.mp p x (mem_of hx.out))) (by decide)) HB'.out
      · go_roundg (l.length - (j + 1))
        case measure => have := HJ.out; omega
        case rel => exact ⟨j + 1, (by first | exact congrArg _ ej | rfl), ⟨by omega, all_more hx.out HJ.out.2 (HE.out.mp (by trivial))⟩, HB'⟩
    · go_wp2
      go_ret
      exact RetB.yes (E.out.mpr (all_end hj HJ.out.2)) HB.out
end Go.Proofs.YthnhdompfhkepaaDoor.Pure
