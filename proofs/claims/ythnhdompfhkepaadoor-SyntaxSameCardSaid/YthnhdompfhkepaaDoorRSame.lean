/- The document's Same: texts, SameExprs, SameStmts, Same. -/
import Derived.Test.YthnhdompfhkepaaDoorCSame
namespace Go.Proofs.YthnhdompfhkepaaDoor.Pure
open Go Go.RowKit Go.Proofs.YthnhdompfhkepaaDoor.Q Go.Proofs.YthnhdompfhkepaaDoorW.PrintWords Go.Proofs.YthnhdompfhkepaaDoorW.PrintLast Go.Proofs.YthnhdompfhkepaaDoorW.PrintMore
set_option linter.unusedSimpArgs false
set_option linter.unusedVariables false
set_option maxHeartbeats 8000000
set_option maxRecDepth 100000
/-- it only reads, and draws -/
def Q (p : Prop) (w : World) (e : Ending) (w' : World) : Prop := (∃ b : Bool, e = .returned (.bool b) ∧ (b = true ↔ p)) ∧ ∃ n, w' = w.drewN n
theorem Q.no {p : Prop} {w w' : World} (h : ¬ p) (hw : ∃ n, w' = w.drewN n) : Q p w (.returned (.bool false)) w' := ⟨⟨false, rfl, iff_of_false (by decide) h⟩, hw⟩
theorem Q.yes {p : Prop} {w w' : World} (h : p) (hw : ∃ n, w' = w.drewN n) : Q p w (.returned (.bool true)) w' := ⟨⟨true, rfl, iff_of_true rfl h⟩, hw⟩
theorem Q.fix {p : Prop} {b : Bool} (h : b = true ↔ p) {w w' : World} {e : Ending} (k : Q p w e w') : e = .returned (.bool b) ∧ ∃ n, w' = w.drewN n := by
  obtain ⟨⟨c, e1, e2⟩, e3⟩ := k
  have : c = b := by rw [Bool.eq_iff_iff, e2, h]
  exact ⟨by rw [e1, this], e3⟩
theorem Q.ret {p : Prop} {w w' : World} {e : Ending} (k : Q p w e w') : RetB p w e w' := by
  obtain ⟨⟨c, e1, e2⟩, n, rfl⟩ := k
  exact ⟨c, e1, e2, pw_below_drewN (brefl _) n⟩
theorem drew_more {w wr : World} (h : ∃ n, wr = w.drewN n) (m : Nat) : ∃ n, wr.drewN m = w.drewN n := by
  obtain ⟨n, rfl⟩ := h
  exact ⟨n + m, by rw [World.drewN_drewN]⟩
theorem drew_below {w wr : World} (h : ∃ n, wr = w.drewN n) : Below w.heap.size w wr := by
  obtain ⟨n, rfl⟩ := h
  exact pw_below_drewN (brefl _) n
theorem drew0 (w : World) : ∃ n, w = w.drewN n := ⟨0, rfl⟩
theorem bool_is (p : Prop) : ∃ b : Bool, b = true ↔ p := by
  by_cases h : p
  · exact ⟨true, by simp [h]⟩
  · exact ⟨false, by simp [h]⟩
theorem reqT_l (l m : List ByteArray) (A : Option Addr) (c : Nat) (B : Option Addr) (d : Nat) (w : World) (h2 : Kd.C Kd.string w A l.length l) (h4 : Kd.C Kd.string w B m.length m) :
    Calls Tryd.prog 45 #[.slice A l.length c, .slice B m.length d] w (Q (l = m) w) := by
  have H2 := Aside0.mk h2
  have H4 := Aside0.mk h4
  clear h2 h4
  by_cases hl : l.length = m.length
  · have HL := Aside0.mk hl
    have e0 : ((l.length : Int) != (m.length : Int)) = false := by simp [hl]
    have e1 : (l.length != m.length) = false := by simp [hl]
    clear hl
    go_enter Tryd.func45, Tryd.ntmps45
    go_wp2
    go_loopg [5] l.length (fun n v5 wr => ∃ j : Nat, v5 = .int .i64 j ∧ Aside0 (n + j = l.length ∧ l.take j = m.take j) ∧ Aside0 (∃ n, wr = w.drewN n))
    case atStart => exact ⟨0, rfl, ⟨by simp, by simp⟩, ⟨drew0 _⟩⟩
    case round =>
      obtain ⟨j, rfl, HJ, HW⟩ := hrel
      by_cases hj : j < l.length
      · obtain ⟨ad, pb, po, x, rfl, ea, hlt, x0, hx, p0, q0, ej⟩ := elS (Kd.C_below H2.out (drew_below HW.out)) hj
        obtain ⟨bd, pb', po', y, rfl, eb, hlt', y0, hy, _, q0', _⟩ := elS (Kd.C_below H4.out (drew_below HW.out)) (j := j) (by have := HL.out; omega)
        by_cases he : x.toList = y.toList
        · have HE := Aside0.mk (bytes_ext he)
          have e2 : (x.toList == y.toList) = true := by simp [he]
          clear he
          go_wp2
          go_quiet (fail)
          go_wp2
          go_roundg (l.length - (j + 1))
          case measure => have := HJ.out; omega
          case rel => exact ⟨j + 1, (by first | exact congrArg _ ej | rfl), ⟨by omega, eq_more hx.out hy.out HJ.out.2 HE.out⟩, ⟨drew_more HW.out _⟩⟩
        · have HE := Aside0.mk (show ¬ x = y from fun e => he (by rw [e]))
          have e2 : (x.toList == y.toList) = false := by simpa using he
          clear he
          go_wp2
          go_quiet (fail)
          go_wp2
          go_ret
          exact Q.no (ne_at hx.out hy.out HE.out) (drew_more HW.out _)
      · go_wp2
        go_ret
        have h := HJ.out.2
        rw [take_all hj, take_all (by have := HL.out; omega)] at h
        exact Q.yes h HW.out
  · have e0 : ((l.length : Int) != (m.length : Int)) = true := by simp; omega
    have e1 : (l.length != m.length) = true := by simpa using hl
    have HN := Aside0.mk (show ¬ l = m from fun e => hl (by rw [e]))
    clear hl
    go_enter Tryd.func45, Tryd.ntmps45
    go_wp2
    go_ret
    exact Q.no HN.out (drew0 _)
/-- which of some tests is the first to say that they differ -/
theorem firstE (x y : S36) : (x.f0 != y.f0) = true ∨ ((x.f0 != y.f0) = false ∧ (x.f1 != y.f1) = true) ∨ ((x.f0 != y.f0) = false ∧ (x.f1 != y.f1) = false ∧ (x.f2 != y.f2) = true) ∨ ((x.f0 != y.f0) = false ∧ (x.f1 != y.f1) = false ∧ (x.f2 != y.f2) = false ∧ (x.f3.toList == y.f3.toList) = false) ∨ ((x.f0 != y.f0) = false ∧ (x.f1 != y.f1) = false ∧ (x.f2 != y.f2) = false ∧ (x.f3.toList == y.f3.toList) = true) := by
  cases (x.f0 != y.f0) <;> cases (x.f1 != y.f1) <;> cases (x.f2 != y.f2) <;> cases (x.f3.toList == y.f3.toList) <;> simp
theorem ne_of {a b : Int} (h : (a != b) = true) : ¬ a = b := by simpa using h
abbrev ReE (l : List S36) : Prop := ∀ (m : List S36) A c B d w, Kd.C k36 w A l.length l → Kd.C k36 w B m.length m → Calls Tryd.prog 74 #[.slice A l.length c, .slice B m.length d] w (Q (l = m) w)
theorem reqE_l (l : List S36) (ih : ∀ y ∈ l, ReE y.f4) : ReE l := by
  intro m A c B d w h2 h4
  have IH := Aside0.mk ih
  have H2 := Aside0.mk h2
  have H4 := Aside0.mk h4
  clear ih h2 h4
  by_cases hl : l.length = m.length
  · have HL := Aside0.mk hl
    have e0 : ((l.length : Int) != (m.length : Int)) = false := by simp [hl]
    have e1 : (l.length != m.length) = false := by simp [hl]
    clear hl
    go_enter Tryd.func74, Tryd.ntmps74
    go_wp2
    go_loopg [5] l.length (fun n v5 wr => ∃ j : Nat, v5 = .int .i64 j ∧ Aside0 (n + j = l.length ∧ l.take j = m.take j) ∧ Aside0 (∃ n, wr = w.drewN n))
    case atStart => exact ⟨0, rfl, ⟨by simp, by simp⟩, ⟨drew0 _⟩⟩
    case round =>
      obtain ⟨j, rfl, HJ, HW⟩ := hrel
      by_cases hj : j < l.length
      · obtain ⟨ad, pb, po, A4, c4, x, rfl, ea, hlt, x0, x1, x2, x3, x4, hx, p0, q0, ej⟩ := el36 (Kd.C_below H2.out (drew_below HW.out)) hj
        obtain ⟨bd, pb', po', B4, d4, y, rfl, eb, hlt', y0, y1, y2, y3, y4, hy, _, q0', _⟩ := el36 (Kd.C_below H4.out (drew_below HW.out)) (j := j) (by have := HL.out; omega)
        have Z := Aside0.mk (s36_iff x y)
        rcases firstE x y with t0 | ⟨t0, t1⟩ | ⟨t0, t1, t2⟩ | ⟨t0, t1, t2, t3⟩ | ⟨t0, t1, t2, t3⟩
        · have HN := Aside0.mk (show ¬ x = y from fun e => ne_of t0 (Z.out.mp e).1)
          go_wp2
          go_quiet (fail)
          go_wp2
          go_ret
          exact Q.no (ne_at hx.out.1 hy.out.1 HN.out) (drew_more HW.out _)
        · have HN := Aside0.mk (show ¬ x = y from fun e => ne_of t1 (Z.out.mp e).2.1)
          go_wp2
          go_quiet (fail)
          go_wp2
          go_ret
          exact Q.no (ne_at hx.out.1 hy.out.1 HN.out) (drew_more HW.out _)
        · have HN := Aside0.mk (show ¬ x = y from fun e => ne_of t2 (Z.out.mp e).2.2.1)
          go_wp2
          go_quiet (fail)
          go_wp2
          go_ret
          exact Q.no (ne_at hx.out.1 hy.out.1 HN.out) (drew_more HW.out _)
        · have HN := Aside0.mk (show ¬ x = y from fun e => by rw [(Z.out.mp e).2.2.2.1] at t3; simp at t3)
          go_wp2
          go_quiet (fail)
          go_wp2
          go_ret
          exact Q.no (ne_at hx.out.1 hy.out.1 HN.out) (drew_more HW.out _)
        · obtain ⟨b0, hb0⟩ := bool_is (x.f4 = y.f4)
          have R := Aside0.mk (fun w' (h : Below _ _ w') => (IH.out x (mem_of hx.out.1) y.f4 A4 c4 B4 d4 w' (Kd.C_below hx.out.2.2 h) (Kd.C_below hy.out.2.2 h)).mono fun e w'' k => k.fix hb0)
          have E := Aside0.mk (show x = y ↔ b0 = true by rw [Z.out, hb0]; have a0 := t0; have a1 := t1; have a2 := t2; have a3 := t3; simp at a0 a1 a2 a3; simp [a0, a1, a2, bytes_ext a3])
          clear hb0
          go_wp2
          go_quiet ((go_at_call 74; exact Calls.quiet_of (R.out _ (pw_below_drewN (brefl _) _))))
          cases b0
          · go_wp2
            go_ret
            exact Q.no (ne_at hx.out.1 hy.out.1 fun e => absurd (E.out.mp e) (by decide)) (drew_more HW.out _)
          · go_wp2
            go_roundg (l.length - (j + 1))
            case measure => have := HJ.out; omega
            case rel => exact ⟨j + 1, (by first | exact congrArg _ ej | rfl), ⟨by omega, eq_more hx.out.1 hy.out.1 HJ.out.2 (E.out.mpr (by trivial))⟩, ⟨drew_more HW.out _⟩⟩
      · go_wp2
        go_ret
        have h := HJ.out.2
        rw [take_all hj, take_all (by have := HL.out; omega)] at h
        exact Q.yes h HW.out
  · have e0 : ((l.length : Int) != (m.length : Int)) = true := by simp; omega
    have e1 : (l.length != m.length) = true := by simpa using hl
    have HN := Aside0.mk (show ¬ l = m from fun e => hl (by rw [e]))
    clear hl
    go_enter Tryd.func74, Tryd.ntmps74
    go_wp2
    go_ret
    exact Q.no HN.out (drew0 _)
theorem reqE (x : S36) (hx : OkE x) : ReE x.f4 := by
  induction hx with
  | mk x _ _ _ _ ih => exact reqE_l x.f4 ih
theorem reE_c (l : List S36) (h : ∀ e ∈ l, OkE e) : ReE l := reqE_l l fun y hy => reqE y (h y hy)
end Go.Proofs.YthnhdompfhkepaaDoor.Pure
