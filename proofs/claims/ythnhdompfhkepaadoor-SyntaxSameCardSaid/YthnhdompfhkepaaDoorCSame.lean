/- syntax.Same and what it calls: whether two trees are equal. -/
import Derived.Test.YthnhdompfhkepaaDoorC0
namespace Go.Proofs.YthnhdompfhkepaaDoor.Pure
open Go Go.RowKit Go.Proofs.YthnhdompfhkepaaDoor.Q Go.Proofs.YthnhdompfhkepaaDoorW.PrintWords Go.Proofs.YthnhdompfhkepaaDoorW.PrintLast Go.Proofs.YthnhdompfhkepaaDoorW.PrintMore
set_option linter.unusedSimpArgs false
set_option linter.unusedVariables false
set_option maxHeartbeats 8000000
set_option maxRecDepth 100000
/-- alike in the first j places; and then? -/
theorem eq_more {α : Type} {l m : List α} {j : Nat} {x y : α} (hx : l[j]? = some x) (hy : m[j]? = some y) (h : l.take j = m.take j) (e : x = y) : l.take (j + 1) = m.take (j + 1) := by
  rw [take_step hx, take_step hy, h, e]
theorem ne_at {α : Type} {l m : List α} {j : Nat} {x y : α} (hx : l[j]? = some x) (hy : m[j]? = some y) (e : ¬ x = y) : ¬ l = m := by
  rintro rfl
  rw [hx] at hy
  exact e (Option.some.inj hy)
abbrev EqE (x : S36) : Prop := ∀ (y : S36) A c B d w, InE w x A c → InE w y B d → Calls Tryd.prog 84 #[vE x A c, vE y B d] w (RetB (x = y) w)
theorem eqE_l (l : List S36) (ih : ∀ x ∈ l, EqE x) (m : List S36) (A : Option Addr) (c : Nat) (B : Option Addr) (d : Nat) (w : World) (h1 : l.length ≤ c) (h2 : Kd.C k36 w A l.length l) (h3 : m.length ≤ d) (h4 : Kd.C k36 w B m.length m) :
    Calls Tryd.prog 83 #[.slice A l.length c, .slice B m.length d, .func (.func 84) #[] #[]] w (RetB (l = m) w) := by
  have IH := Aside0.mk ih
  have H2 := Aside0.mk h2
  have H4 := Aside0.mk h4
  clear ih h2 h4
  by_cases hl : l.length = m.length
  · have HL := Aside0.mk hl
    have e0 : ((l.length : Int) != (m.length : Int)) = false := by simp [hl]
    have e1 : (l.length != m.length) = false := by simp [hl]
    clear hl
    go_enter Tryd.func83, Tryd.ntmps83
    go_wp2
    go_loopg [17] l.length (fun n v17 wr => ∃ j : Nat, v17 = .int .i64 j ∧ Aside0 (n + j = l.length ∧ l.take j = m.take j) ∧ Aside0 (Below w.heap.size w wr))
    case atStart => exact ⟨0, rfl, ⟨rfl, by simp⟩, ⟨brefl _⟩⟩
    case round =>
      obtain ⟨j, rfl, HJ, HB⟩ := hrel
      by_cases hj : j < l.length
      · obtain ⟨ad, pb, po, A4, c4, x, rfl, ea, hlt, x0, x1, x2, x3, x4, hx, p0, q0, ej⟩ := el36 (Kd.C_below H2.out HB.out) hj
        obtain ⟨bd, pb', po', B4, d4, y, rfl, eb, hlt', y0, y1, y2, y3, y4, hy, _, q0', _⟩ := el36 (Kd.C_below H4.out HB.out) (j := j) (by have := HL.out; omega)
        go_wp2_with (go_at_call 84; (with_reducible refine (IH.out x (mem_of hx.out.1) y A4 c4 B4 d4 _ (hx.out.2.up (balloc (balloc (brefl _) _) _)) (hy.out.2.up (balloc (balloc (brefl _) _) _))).mono ?_); rintro e w' ⟨b, rfl, hb, hB⟩; have HB' := Aside0.mk (bstep (balloc (balloc HB.out _) _) hB); have HE := Aside0.mk hb; clear hB hb; cases b)
        · go_ret
          exact ⟨false, rfl, iff_of_false (by decide) (ne_at hx.out.1 hy.out.1 fun e => absurd (HE.out.mpr e) (by decide)), HB'.out⟩
        · go_roundg (l.length - (j + 1))
          case measure => have := HJ.out; omega
          case rel => exact ⟨j + 1, (by first | exact congrArg _ ej | rfl), ⟨by omega, eq_more hx.out.1 hy.out.1 HJ.out.2 (HE.out.mp (by trivial))⟩, HB'⟩
      · go_wp2
        go_ret
        have h := HJ.out.2
        rw [take_all hj, take_all (by have := HL.out; omega)] at h
        exact ⟨true, rfl, iff_of_true rfl h, HB.out⟩
  · have e0 : ((l.length : Int) != (m.length : Int)) = true := by simp; omega
    have e1 : (l.length != m.length) = true := by simpa using hl
    have HN := Aside0.mk (show ¬ l = m from fun e => hl (by rw [e]))
    clear hl
    go_enter Tryd.func83, Tryd.ntmps83
    go_wp2
    go_ret
    exact ⟨false, rfl, iff_of_false (by decide) HN.out, brefl _⟩
theorem s36_iff (a b : S36) : a = b ↔ a.f0 = b.f0 ∧ a.f1 = b.f1 ∧ a.f2 = b.f2 ∧ a.f3 = b.f3 ∧ a.f4 = b.f4 := by cases a; cases b; simp
theorem eqE (x : S36) (hx : OkE x) : EqE x := by
  induction hx with
  | mk x _ _ _ _ ih =>
    intro y A c B d w h1 h2
    have IH := Aside0.mk ih
    have H1 := Aside0.mk h1
    have H2 := Aside0.mk h2
    obtain ⟨P, E⟩ := name_it (x = y)
    refine Calls.mono (R := RetB P w) ?_ fun e w' h => h.iff E.out
    replace E := Aside0.mk (E.out.trans (s36_iff x y))
    clear ih h1 h2
    obtain ⟨a0, a1, a2, a3, l⟩ := x
    obtain ⟨b0, b1, b2, b3, m⟩ := y
    go_enter Tryd.func84, Tryd.ntmps84
    replace H1 : Aside0 (l.length ≤ c ∧ Kd.C k36 w A l.length l) := H1
    replace H2 : Aside0 (m.length ≤ d ∧ Kd.C k36 w B m.length m) := H2
    go_wp2_with (go_at_call 83; go_loud (refine (eqE_l l IH.out m A c B d _ H1.out.1 (Kd.C_below H1.out.2 (balloc (balloc (brefl _) _) _)) H2.out.1 (Kd.C_below H2.out.2 (balloc (balloc (brefl _) _) _))).mono ?_); rintro e w' ⟨b, rfl, hb, hB⟩; have HB' := Aside0.mk (bstep (balloc (balloc (brefl w) _) _) hB); have HE := Aside0.mk hb; clear hB hb)
    all_goals go_ret
    · exact ⟨_, rfl, by have h1 := HE.out; have h2 := E.out; clear HE E; simp_all [bytes_iff], HB'.out⟩
    all_goals exact RetB.no (fun p => by have := E.out.mp p; simp_all) (balloc (balloc (brefl _) _) _)
abbrev EqS (x : S43) : Prop := ∀ (y : S43) A2 c2 A3 c3 A4 c4 B2 d2 B3 d3 B4 d4 w, InS w x A2 c2 A3 c3 A4 c4 → InS w y B2 d2 B3 d3 B4 d4 → Calls Tryd.prog 65 #[vS x A2 c2 A3 c3 A4 c4, vS y B2 d2 B3 d3 B4 d4] w (RetB (x = y) w)
theorem eqS_l (l : List S43) (ih : ∀ x ∈ l, EqS x) (m : List S43) (A : Option Addr) (c : Nat) (B : Option Addr) (d : Nat) (w : World) (h1 : l.length ≤ c) (h2 : Kd.C k43 w A l.length l) (h3 : m.length ≤ d) (h4 : Kd.C k43 w B m.length m) :
    Calls Tryd.prog 64 #[.slice A l.length c, .slice B m.length d, .func (.func 65) #[] #[]] w (RetB (l = m) w) := by
  have IH := Aside0.mk ih
  have H2 := Aside0.mk h2
  have H4 := Aside0.mk h4
  clear ih h2 h4
  by_cases hl : l.length = m.length
  · have HL := Aside0.mk hl
    have e0 : ((l.length : Int) != (m.length : Int)) = false := by simp [hl]
    have e1 : (l.length != m.length) = false := by simp [hl]
    clear hl
    go_enter Tryd.func64, Tryd.ntmps64
    go_wp2
    go_loopg [17] l.length (fun n v17 wr => ∃ j : Nat, v17 = .int .i64 j ∧ Aside0 (n + j = l.length ∧ l.take j = m.take j) ∧ Aside0 (Below w.heap.size w wr))
    case atStart => exact ⟨0, rfl, ⟨rfl, by simp⟩, ⟨brefl _⟩⟩
    case round =>
      obtain ⟨j, rfl, HJ, HB⟩ := hrel
      by_cases hj : j < l.length
      · obtain ⟨ad, pb, po, A2, c2, A3, c3, A4, c4, x, rfl, ea, hlt, x0, x1, x2, x3, x4, hx, p0, q0, ej⟩ := el43 (Kd.C_below H2.out HB.out) hj
        obtain ⟨bd, pb', po', B2, d2, B3, d3, B4, d4, y, rfl, eb, hlt', y0, y1, y2, y3, y4, hy, _, q0', _⟩ := el43 (Kd.C_below H4.out HB.out) (j := j) (by have := HL.out; omega)
        go_wp2_with (go_at_call 65; (with_reducible refine (IH.out x (mem_of hx.out.1) y A2 c2 A3 c3 A4 c4 B2 d2 B3 d3 B4 d4 _ (hx.out.2.up (balloc (balloc (brefl _) _) _)) (hy.out.2.up (balloc (balloc (brefl _) _) _))).mono ?_); rintro e w' ⟨b, rfl, hb, hB⟩; have HB' := Aside0.mk (bstep (balloc (balloc HB.out _) _) hB); have HE := Aside0.mk hb; clear hB hb; cases b)
        · go_ret
          exact ⟨false, rfl, iff_of_false (by decide) (ne_at hx.out.1 hy.out.1 fun e => absurd (HE.out.mpr e) (by decide)), HB'.out⟩
        · go_roundg (l.length - (j + 1))
          case measure => have := HJ.out; omega
          case rel => exact ⟨j + 1, (by first | exact congrArg _ ej | rfl), ⟨by omega, eq_more hx.out.1 hy.out.1 HJ.out.2 (HE.out.mp (by trivial))⟩, HB'⟩
      · go_wp2
        go_ret
        have h := HJ.out.2
        rw [take_all hj, take_all (by have := HL.out; omega)] at h
        exact ⟨true, rfl, iff_of_true rfl h, HB.out⟩
  · have e0 : ((l.length : Int) != (m.length : Int)) = true := by simp; omega
    have e1 : (l.length != m.length) = true := by simpa using hl
    have HN := Aside0.mk (show ¬ l = m from fun e => hl (by rw [e]))
    clear hl
    go_enter Tryd.func64, Tryd.ntmps64
    go_wp2
    go_ret
    exact ⟨false, rfl, iff_of_false (by decide) HN.out, brefl _⟩
theorem s43_iff (a b : S43) : a = b ↔ a.f0 = b.f0 ∧ a.f1 = b.f1 ∧ a.f2 = b.f2 ∧ a.f3 = b.f3 ∧ a.f4 = b.f4 := by cases a; cases b; simp
theorem eqS (x : S43) (hx : OkS x) : EqS x := by
  induction hx with
  | mk x _ hE _ _ _ _ ih3 ih4 =>
    intro y A2 c2 A3 c3 A4 c4 B2 d2 B3 d3 B4 d4 w h1 h2
    have IH3 := Aside0.mk ih3
    have IH4 := Aside0.mk ih4
    have IHE := Aside0.mk (fun e (h : e ∈ x.f2) => eqE e (hE e h))
    obtain ⟨P, E⟩ := name_it (x = y)
    refine Calls.mono (R := RetB P w) ?_ fun e w' h => h.iff E.out
    replace E := Aside0.mk (E.out.trans (s43_iff x y))
    obtain ⟨a0, a1, l2, l3, l4⟩ := x
    obtain ⟨b0, b1, m2, m3, m4⟩ := y
    have K2 : Aside0 (∀ w', Below w.heap.size w w' → Calls Tryd.prog 83 #[.slice A2 l2.length c2, .slice B2 m2.length d2, .func (.func 84) #[] #[]] w' (RetB (l2 = m2) w')) := ⟨fun w' h => eqE_l l2 IHE.out m2 _ _ _ _ _ h1.1.1 (Kd.C_below h1.1.2 h) h2.1.1 (Kd.C_below h2.1.2 h)⟩
    have K3 : Aside0 (∀ w', Below w.heap.size w w' → Calls Tryd.prog 64 #[.slice A3 l3.length c3, .slice B3 m3.length d3, .func (.func 65) #[] #[]] w' (RetB (l3 = m3) w')) := ⟨fun w' h => eqS_l l3 IH3.out m3 _ _ _ _ _ h1.2.1.1 (Kd.C_below h1.2.1.2 h) h2.2.1.1 (Kd.C_below h2.2.1.2 h)⟩
    have K4 : Aside0 (∀ w', Below w.heap.size w w' → Calls Tryd.prog 64 #[.slice A4 l4.length c4, .slice B4 m4.length d4, .func (.func 65) #[] #[]] w' (RetB (l4 = m4) w')) := ⟨fun w' h => eqS_l l4 IH4.out m4 _ _ _ _ _ h1.2.2.1 (Kd.C_below h1.2.2.2 h) h2.2.2.1 (Kd.C_below h2.2.2.2 h)⟩
    clear ih3 ih4 hE IH3 IH4 IHE h1 h2
    go_enter Tryd.func65, Tryd.ntmps65
    go_wp2_with (first | (go_at_call 83; (with_reducible refine (K2.out _ (balloc (balloc (brefl _) _) _)).mono ?_); rintro e w' ⟨b, rfl, hb, hB⟩; have HB2 := Aside0.mk (bstep (balloc (balloc (brefl w) _) _) hB); have HE2 := Aside0.mk hb; have q3 := box1_up hB 3 _ rfl; have q4 := box1_up hB 4 _ rfl; have r3 := box2_up hB 3 _ rfl; have r4 := box2_up hB 4 _ rfl; clear hB hb; cases b) | (go_at_call 64; (with_reducible refine (K3.out _ HB2.out).mono ?_); rintro e w' ⟨b, rfl, hb, hB⟩; have HB3 := Aside0.mk (bstep HB2.out hB); have HE3 := Aside0.mk hb; have s4 := cell_up hB q4; have u4 := cell_up hB r4; clear hB hb; cases b) | (go_at_call 64; (with_reducible refine (K4.out _ HB3.out).mono ?_); rintro e w' ⟨b, rfl, hb, hB⟩; have HB4 := Aside0.mk (bstep HB3.out hB); have HE4 := Aside0.mk hb; clear hB hb))
    all_goals go_ret
    all_goals refine ⟨_, rfl, ?_, by first | exact HB4.out | exact HB3.out | exact HB2.out | exact balloc (balloc (brefl _) _) _⟩
    all_goals (have e := E.out; (try have e2 := HE2.out); (try have e3 := HE3.out); (try have e4 := HE4.out); (try simp at e2); (try simp at e3); clear E K2 K3 K4; (try clear q3 q4 r3 r4); (try clear s4 u4); rw [e]; simp [← bytes_iff, *])
theorem s45_iff (a b : S45) : a = b ↔ a.f0 = b.f0 ∧ a.f3 = b.f3 ∧ a.f1 = b.f1 ∧ a.f2 = b.f2 ∧ a.f4 = b.f4 := by
  cases a; cases b; simp only [S45.mk.injEq]
  constructor
  · rintro ⟨h1, h2, h3, h4, h5⟩; exact ⟨h1, h4, h2, h3, h5⟩
  · rintro ⟨h1, h4, h2, h3, h5⟩; exact ⟨h1, h2, h3, h4, h5⟩
/-- two lists of texts -/
theorem eqT_l (l m : List ByteArray) (A : Option Addr) (c : Nat) (B : Option Addr) (d : Nat) (w : World) (h1 : l.length ≤ c) (h2 : Kd.C Kd.string w A l.length l) (h3 : m.length ≤ d) (h4 : Kd.C Kd.string w B m.length m) :
    Calls Tryd.prog 33 #[.slice A l.length c, .slice B m.length d] w (RetB (l = m) w) := by
  have H2 := Aside0.mk h2
  have H4 := Aside0.mk h4
  clear h2 h4
  by_cases hl : l.length = m.length
  · have HL := Aside0.mk hl
    have e0 : ((l.length : Int) != (m.length : Int)) = false := by simp [hl]
    have e1 : (l.length != m.length) = false := by simp [hl]
    clear hl
    go_enter Tryd.func33, Tryd.ntmps33
    go_wp2
    go_loopg [13] l.length (fun n v13 wr => ∃ j : Nat, v13 = .int .i64 j ∧ Aside0 (n + j = l.length ∧ l.take j = m.take j) ∧ Aside0 (Below w.heap.size w wr))
    case atStart => exact ⟨0, rfl, ⟨rfl, by simp⟩, ⟨brefl _⟩⟩
    case round =>
      obtain ⟨j, rfl, HJ, HB⟩ := hrel
      by_cases hj : j < l.length
      · obtain ⟨ad, pb, po, x, rfl, ea, hlt, x0, hx, p0, q0, ej⟩ := elS (Kd.C_below H2.out HB.out) hj
        obtain ⟨bd, pb', po', y, rfl, eb, hlt', y0, hy, _, q0', _⟩ := elS (Kd.C_below H4.out HB.out) (j := j) (by have := HL.out; omega)
        by_cases he : x.toList = y.toList
        · have HE := Aside0.mk (bytes_ext he)
          have e2 : (x.toList == y.toList) = true := by simp [he]
          clear he
          go_wp2
          go_quiet (fail)
          go_wp2
          go_roundg (l.length - (j + 1))
          case measure => have := HJ.out; omega
          case rel => exact ⟨j + 1, (by first | exact congrArg _ ej | rfl), ⟨by omega, eq_more hx.out hy.out HJ.out.2 HE.out⟩, ⟨pw_below_drewN HB.out _⟩⟩
        · have HE := Aside0.mk (show ¬ x = y from fun e => he (by rw [e]))
          have e2 : (x.toList == y.toList) = false := by simpa using he
          clear he
          go_wp2
          go_quiet (fail)
          go_wp2
          go_ret
          exact RetB.no (ne_at hx.out hy.out HE.out) (pw_below_drewN HB.out _)
      · go_wp2
        go_ret
        have h := HJ.out.2
        rw [take_all hj, take_all (by have := HL.out; omega)] at h
        exact RetB.yes h HB.out
  · have e0 : ((l.length : Int) != (m.length : Int)) = true := by simp; omega
    have e1 : (l.length != m.length) = true := by simpa using hl
    have HN := Aside0.mk (show ¬ l = m from fun e => hl (by rw [e]))
    clear hl
    go_enter Tryd.func33, Tryd.ntmps33
    go_wp2
    go_ret
    exact ⟨false, rfl, iff_of_false (by decide) HN.out, brefl _⟩
/-- two lists of arrays -/
theorem eqA_l (l m : List S59) (A : Option Addr) (c : Nat) (B : Option Addr) (d : Nat) (w : World) (h1 : l.length ≤ c) (h2 : Kd.C k59 w A l.length l) (h3 : m.length ≤ d) (h4 : Kd.C k59 w B m.length m) :
    Calls Tryd.prog 34 #[.slice A l.length c, .slice B m.length d] w (RetB (l = m) w) := by
  have H2 := Aside0.mk h2
  have H4 := Aside0.mk h4
  clear h2 h4
  by_cases hl : l.length = m.length
  · have HL := Aside0.mk hl
    have e0 : ((l.length : Int) != (m.length : Int)) = false := by simp [hl]
    have e1 : (l.length != m.length) = false := by simp [hl]
    clear hl
    go_enter Tryd.func34, Tryd.ntmps34
    go_wp2
    go_loopg [13] l.length (fun n v13 wr => ∃ j : Nat, v13 = .int .i64 j ∧ Aside0 (n + j = l.length ∧ l.take j = m.take j) ∧ Aside0 (Below w.heap.size w wr))
    case atStart => exact ⟨0, rfl, ⟨rfl, by simp⟩, ⟨brefl _⟩⟩
    case round =>
      obtain ⟨j, rfl, HJ, HB⟩ := hrel
      by_cases hj : j < l.length
      · obtain ⟨ad, pb, po, x, rfl, ea, hlt, x0, x1, hx, p0, q0, ej⟩ := el59 (Kd.C_below H2.out HB.out) hj
        obtain ⟨bd, pb', po', y, rfl, eb, hlt', y0, y1, hy, _, q0', _⟩ := el59 (Kd.C_below H4.out HB.out) (j := j) (by have := HL.out; omega)
        by_cases he : x.f0.toList = y.f0.toList ∧ x.f1 = y.f1
        · have HE := Aside0.mk (show x = y by cases x; cases y; simp only at he; rw [bytes_ext he.1, he.2])
          obtain ⟨e1', e2'⟩ := he
          have e2 : (x.f0.toList == y.f0.toList) = true := by simp [e1']
          have e3 : (x.f1 == y.f1) = true := by simp [e2']
          clear e1' e2'
          go_wp2
          go_quiet (fail)
          go_wp2
          go_roundg (l.length - (j + 1))
          case measure => have := HJ.out; omega
          case rel => exact ⟨j + 1, (by first | exact congrArg _ ej | rfl), ⟨by omega, eq_more hx.out hy.out HJ.out.2 HE.out⟩, ⟨pw_below_drewN HB.out _⟩⟩
        · have HE := Aside0.mk (show ¬ x = y from fun e => he (by rw [e]; exact ⟨rfl, rfl⟩))
          by_cases h0 : x.f0.toList = y.f0.toList
          · have e2 : (x.f0.toList == y.f0.toList) = true := by simp [h0]
            have e3 : (x.f1 == y.f1) = false := beqI fun h => he ⟨h0, h⟩
            clear he h0
            go_wp2
            go_quiet (fail)
            go_wp2
            go_ret
            exact RetB.no (ne_at hx.out hy.out HE.out) (pw_below_drewN HB.out _)
          · have e2 : (x.f0.toList == y.f0.toList) = false := by simpa using h0
            clear he h0
            go_wp2
            go_quiet (fail)
            go_wp2
            go_ret
            exact RetB.no (ne_at hx.out hy.out HE.out) (pw_below_drewN HB.out _)
      · go_wp2
        go_ret
        have h := HJ.out.2
        rw [take_all hj, take_all (by have := HL.out; omega)] at h
        exact RetB.yes h HB.out
  · have e0 : ((l.length : Int) != (m.length : Int)) = true := by simp; omega
    have e1 : (l.length != m.length) = true := by simpa using hl
    have HN := Aside0.mk (show ¬ l = m from fun e => hl (by rw [e]))
    clear hl
    go_enter Tryd.func34, Tryd.ntmps34
    go_wp2
    go_ret
    exact ⟨false, rfl, iff_of_false (by decide) HN.out, brefl _⟩
theorem eqF (x y : S45) (hx : OkF x) (A2 : Option Addr) (c2 : Nat) (A3 : Option Addr) (c3 : Nat) (A4 : Option Addr) (c4 : Nat) (B2 : Option Addr) (d2 : Nat) (B3 : Option Addr) (d3 : Nat) (B4 : Option Addr) (d4 : Nat) (w : World) (h1 : InF w x A2 c2 A3 c3 A4 c4) (h2 : InF w y B2 d2 B3 d3 B4 d4) :
    Calls Tryd.prog 36 #[vF x A2 c2 A3 c3 A4 c4, vF y B2 d2 B3 d3 B4 d4] w (RetB (x = y) w) := by
  have IH4 := Aside0.mk (fun e (h : e ∈ x.f4) => eqS e (hx.stmts e h))
  obtain ⟨P, E⟩ := name_it (x = y)
  refine Calls.mono (R := RetB P w) ?_ fun e w' h => h.iff E.out
  replace E := Aside0.mk (E.out.trans (s45_iff x y))
  obtain ⟨a0, l2, l3, a3, l4⟩ := x
  obtain ⟨b0, m2, m3, b3, m4⟩ := y
  have K2 : Aside0 (∀ w', Below w.heap.size w w' → Calls Tryd.prog 33 #[.slice A2 l2.length c2, .slice B2 m2.length d2] w' (RetB (l2 = m2) w')) := ⟨fun w' h => eqT_l l2 m2 _ _ _ _ _ h1.1.1 (Kd.C_below h1.1.2 h) h2.1.1 (Kd.C_below h2.1.2 h)⟩
  have K3 : Aside0 (∀ w', Below w.heap.size w w' → Calls Tryd.prog 33 #[.slice A3 l3.length c3, .slice B3 m3.length d3] w' (RetB (l3 = m3) w')) := ⟨fun w' h => eqT_l l3 m3 _ _ _ _ _ h1.2.1.1 (Kd.C_below h1.2.1.2 h) h2.2.1.1 (Kd.C_below h2.2.1.2 h)⟩
  have K4 : Aside0 (∀ w', Below w.heap.size w w' → Calls Tryd.prog 64 #[.slice A4 l4.length c4, .slice B4 m4.length d4, .func (.func 65) #[] #[]] w' (RetB (l4 = m4) w')) := ⟨fun w' h => eqS_l l4 IH4.out m4 _ _ _ _ _ h1.2.2.1 (Kd.C_below h1.2.2.2 h) h2.2.2.1 (Kd.C_below h2.2.2.2 h)⟩
  clear IH4 h1 h2 hx
  go_enter Tryd.func36, Tryd.ntmps36
  go_wp2_with (first | (go_at_call 33; (with_reducible refine (K2.out _ (balloc (balloc (brefl _) _) _)).mono ?_); rintro e w' ⟨b, rfl, hb, hB⟩; have HB2 := Aside0.mk (bstep (balloc (balloc (brefl w) _) _) hB); have HE2 := Aside0.mk hb; have q3 := box1_up hB 2 _ rfl; have q4 := box1_up hB 4 _ rfl; have r3 := box2_up hB 2 _ rfl; have r4 := box2_up hB 4 _ rfl; clear hB hb; cases b) | (go_at_call 33; (with_reducible refine (K3.out _ HB2.out).mono ?_); rintro e w' ⟨b, rfl, hb, hB⟩; have HB3 := Aside0.mk (bstep HB2.out hB); have HE3 := Aside0.mk hb; have s4 := cell_up hB q4; have u4 := cell_up hB r4; clear hB hb; cases b) | (go_at_call 64; (with_reducible refine (K4.out _ HB3.out).mono ?_); rintro e w' ⟨b, rfl, hb, hB⟩; have HB4 := Aside0.mk (bstep HB3.out hB); have HE4 := Aside0.mk hb; clear hB hb))
  all_goals go_ret
  all_goals refine ⟨_, rfl, ?_, by first | exact HB4.out | exact HB3.out | exact HB2.out | exact balloc (balloc (brefl _) _) _⟩
  all_goals (have e := E.out; (try have e2 := HE2.out); (try have e3 := HE3.out); (try have e4 := HE4.out); (try simp at e2); (try simp at e3); clear E K2 K3 K4; (try clear q3 q4 r3 r4); (try clear s4 u4); rw [e]; simp [← bytes_iff, *])
theorem eqF_l (l : List S45) (ih : ∀ x ∈ l, OkF x) (m : List S45) (A : Option Addr) (c : Nat) (B : Option Addr) (d : Nat) (w : World) (h1 : l.length ≤ c) (h2 : Kd.C k45 w A l.length l) (h3 : m.length ≤ d) (h4 : Kd.C k45 w B m.length m) :
    Calls Tryd.prog 35 #[.slice A l.length c, .slice B m.length d, .func (.func 36) #[] #[]] w (RetB (l = m) w) := by
  have IH := Aside0.mk ih
  have H2 := Aside0.mk h2
  have H4 := Aside0.mk h4
  clear ih h2 h4
  by_cases hl : l.length = m.length
  · have HL := Aside0.mk hl
    have e0 : ((l.length : Int) != (m.length : Int)) = false := by simp [hl]
    have e1 : (l.length != m.length) = false := by simp [hl]
    clear hl
    go_enter Tryd.func35, Tryd.ntmps35
    go_wp2
    go_loopg [17] l.length (fun n v17 wr => ∃ j : Nat, v17 = .int .i64 j ∧ Aside0 (n + j = l.length ∧ l.take j = m.take j) ∧ Aside0 (Below w.heap.size w wr))
    case atStart => exact ⟨0, rfl, ⟨rfl, by simp⟩, ⟨brefl _⟩⟩
    case round =>
      obtain ⟨j, rfl, HJ, HB⟩ := hrel
      by_cases hj : j < l.length
      · obtain ⟨ad, pb, po, A2, c2, A3, c3, A4, c4, x, rfl, ea, hlt, x0, x1, x2, x3, x4, hx, p0, q0, ej⟩ := el45 (Kd.C_below H2.out HB.out) hj
        obtain ⟨bd, pb', po', B2, d2, B3, d3, B4, d4, y, rfl, eb, hlt', y0, y1, y2, y3, y4, hy, _, q0', _⟩ := el45 (Kd.C_below H4.out HB.out) (j := j) (by have := HL.out; omega)
        go_wp2_with (go_at_call 36; (with_reducible refine (eqF x y (IH.out x (mem_of hx.out.1)) A2 c2 A3 c3 A4 c4 B2 d2 B3 d3 B4 d4 _ (hx.out.2.up (balloc (balloc (brefl _) _) _)) (hy.out.2.up (balloc (balloc (brefl _) _) _))).mono ?_); rintro e w' ⟨b, rfl, hb, hB⟩; have HB' := Aside0.mk (bstep (balloc (balloc HB.out _) _) hB); have HE := Aside0.mk hb; clear hB hb; cases b)
        · go_ret
          exact ⟨false, rfl, iff_of_false (by decide) (ne_at hx.out.1 hy.out.1 fun e => absurd (HE.out.mpr e) (by decide)), HB'.out⟩
        · go_roundg (l.length - (j + 1))
          case measure => have := HJ.out; omega
          case rel => exact ⟨j + 1, (by first | exact congrArg _ ej | rfl), ⟨by omega, eq_more hx.out.1 hy.out.1 HJ.out.2 (HE.out.mp (by trivial))⟩, HB'⟩
      · go_wp2
        go_ret
        have h := HJ.out.2
        rw [take_all hj, take_all (by have := HL.out; omega)] at h
        exact ⟨true, rfl, iff_of_true rfl h, HB.out⟩
  · have e0 : ((l.length : Int) != (m.length : Int)) = true := by simp; omega
    have e1 : (l.length != m.length) = true := by simpa using hl
    have HN := Aside0.mk (show ¬ l = m from fun e => hl (by rw [e]))
    clear hl
    go_enter Tryd.func35, Tryd.ntmps35
    go_wp2
    go_ret
    exact ⟨false, rfl, iff_of_false (by decide) HN.out, brefl _⟩
theorem same_c {v : List ByteArray} {a : List S59} {f : List S45} (hp : OkP v a f) (v' : List ByteArray) (a' : List S59) (f' : List S45) (A2 : Option Addr) (c2 : Nat) (A3 : Option Addr) (c3 : Nat) (A4 : Option Addr) (c4 : Nat) (B2 : Option Addr) (d2 : Nat) (B3 : Option Addr) (d3 : Nat) (B4 : Option Addr) (d4 : Nat) (w : World) (h1 : InP w v a f A2 c2 A3 c3 A4 c4) (h2 : InP w v' a' f' B2 d2 B3 d3 B4 d4) :
    Calls Tryd.prog 13 #[vP v a f A2 c2 A3 c3 A4 c4, vP v' a' f' B2 d2 B3 d3 B4 d4] w (RetB (v = v' ∧ a = a' ∧ f = f') w) := by
  obtain ⟨P, E⟩ := name_it (v = v' ∧ a = a' ∧ f = f')
  refine Calls.mono (R := RetB P w) ?_ fun e w' h => h.iff E.out
  have K2 : Aside0 (∀ w', Below w.heap.size w w' → Calls Tryd.prog 33 #[.slice A2 v.length c2, .slice B2 v'.length d2] w' (RetB (v = v') w')) := ⟨fun w' h => eqT_l v v' _ _ _ _ _ h1.1.1 (Kd.C_below h1.1.2 h) h2.1.1 (Kd.C_below h2.1.2 h)⟩
  have K3 : Aside0 (∀ w', Below w.heap.size w w' → Calls Tryd.prog 34 #[.slice A3 a.length c3, .slice B3 a'.length d3] w' (RetB (a = a') w')) := ⟨fun w' h => eqA_l a a' _ _ _ _ _ h1.2.1.1 (Kd.C_below h1.2.1.2 h) h2.2.1.1 (Kd.C_below h2.2.1.2 h)⟩
  have K4 : Aside0 (∀ w', Below w.heap.size w w' → Calls Tryd.prog 35 #[.slice A4 f.length c4, .slice B4 f'.length d4, .func (.func 36) #[] #[]] w' (RetB (f = f') w')) := ⟨fun w' h => eqF_l f hp.each f' _ _ _ _ _ h1.2.2.1 (Kd.C_below h1.2.2.2 h) h2.2.2.1 (Kd.C_below h2.2.2.2 h)⟩
  clear h1 h2 hp
  go_enter Tryd.func13, Tryd.ntmps13
  go_wp2_with (first | (go_at_call 33; (with_reducible refine (K2.out _ (balloc (balloc (brefl _) _) _)).mono ?_); rintro e w' ⟨b, rfl, hb, hB⟩; have HB2 := Aside0.mk (bstep (balloc (balloc (brefl w) _) _) hB); have HE2 := Aside0.mk hb; have q3 := box1_up hB 1 _ rfl; have q4 := box1_up hB 2 _ rfl; have r3 := box2_up hB 1 _ rfl; have r4 := box2_up hB 2 _ rfl; clear hB hb; cases b) | (go_at_call 34; (with_reducible refine (K3.out _ HB2.out).mono ?_); rintro e w' ⟨b, rfl, hb, hB⟩; have HB3 := Aside0.mk (bstep HB2.out hB); have HE3 := Aside0.mk hb; have s4 := cell_up hB q4; have u4 := cell_up hB r4; clear hB hb; cases b) | (go_at_call 35; (with_reducible refine (K4.out _ HB3.out).mono ?_); rintro e w' ⟨b, rfl, hb, hB⟩; have HB4 := Aside0.mk (bstep HB3.out hB); have HE4 := Aside0.mk hb; clear hB hb))
  all_goals go_ret
  all_goals refine ⟨_, rfl, ?_, by first | exact HB4.out | exact HB3.out | exact HB2.out | exact balloc (balloc (brefl _) _) _⟩
  all_goals (have e := E.out; (try have e2 := HE2.out); (try have e3 := HE3.out); (try have e4 := HE4.out); (try simp at e2); (try simp at e3); clear E K2 K3 K4; (try clear q3 q4 r3 r4); (try clear s4 u4); rw [e]; simp [*])
end Go.Proofs.YthnhdompfhkepaaDoor.Pure
