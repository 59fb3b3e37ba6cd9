/- The document's SameStmts. -/
import Derived.Test.YthnhdompfhkepaaDoorRSame
namespace Go.Proofs.YthnhdompfhkepaaDoor.Pure
open Go Go.RowKit Go.Proofs.YthnhdompfhkepaaDoor.Q Go.Proofs.YthnhdompfhkepaaDoorW.PrintWords Go.Proofs.YthnhdompfhkepaaDoorW.PrintLast Go.Proofs.YthnhdompfhkepaaDoorW.PrintMore
set_option linter.unusedSimpArgs false
set_option linter.unusedVariables false
set_option maxHeartbeats 8000000
set_option maxRecDepth 100000
theorem neS0 (x y : S43) (t0 : (x.f0 != y.f0) = true) : ¬ x = y := fun e => ne_of t0 ((s43_iff x y).mp e).1
theorem neS1 (x y : S43) (t1 : (x.f1.toList == y.f1.toList) = false) : ¬ x = y := fun e => by rw [((s43_iff x y).mp e).2.1] at t1; simp at t1
theorem eqS2 (x y : S43) (t0 : (x.f0 != y.f0) = false) (t1 : (x.f1.toList == y.f1.toList) = true) : x = y ↔ x.f2 = y.f2 ∧ x.f3 = y.f3 ∧ x.f4 = y.f4 := by
  simp at t0 t1
  rw [s43_iff]
  simp [t0, bytes_ext t1]
theorem firstS (x y : S43) : (x.f0 != y.f0) = true ∨ ((x.f0 != y.f0) = false ∧ (x.f1.toList == y.f1.toList) = false) ∨ ((x.f0 != y.f0) = false ∧ (x.f1.toList == y.f1.toList) = true) := by
  cases (x.f0 != y.f0) <;> cases (x.f1.toList == y.f1.toList) <;> simp
abbrev ReS (l : List S43) : Prop := ∀ (m : List S43) A c B d w, Kd.C k43 w A l.length l → Kd.C k43 w B m.length m → Calls Tryd.prog 46 #[.slice A l.length c, .slice B m.length d] w (Q (l = m) w)
theorem reqS_l (l : List S43) (hE : ∀ y ∈ l, ReE y.f2) (ih3 : ∀ y ∈ l, ReS y.f3) (ih4 : ∀ y ∈ l, ReS y.f4) : ReS l := by
  intro m A c B d w h2 h4
  have IHE := Aside0.mk hE
  have IH3 := Aside0.mk ih3
  have IH4 := Aside0.mk ih4
  have H2 := Aside0.mk h2
  have H4 := Aside0.mk h4
  clear hE ih3 ih4 h2 h4
  by_cases hl : l.length = m.length
  · have HL := Aside0.mk hl
    have e0 : ((l.length : Int) != (m.length : Int)) = false := by simp [hl]
    have e1 : (l.length != m.length) = false := by simp [hl]
    clear hl
    go_enter Tryd.func46, Tryd.ntmps46
    go_wp2
    go_loopg [5] l.length (fun n v5 wr => ∃ j : Nat, v5 = .int .i64 j ∧ Aside0 (n + j = l.length ∧ l.take j = m.take j) ∧ Aside0 (∃ n, wr = w.drewN n))
    case atStart => exact ⟨0, rfl, ⟨by simp, by simp⟩, ⟨drew0 _⟩⟩
    case round =>
      obtain ⟨j, rfl, HJ, HW⟩ := hrel
      by_cases hj : j < l.length
      · obtain ⟨ad, pb, po, A2, c2, A3, c3, A4, c4, x, rfl, ea, hlt, x0, x1, x2, x3, x4, hx, p0, q0, ej⟩ := el43 (Kd.C_below H2.out (drew_below HW.out)) hj
        obtain ⟨bd, pb', po', B2, d2, B3, d3, B4, d4, y, rfl, eb, hlt', y0, y1, y2, y3, y4, hy, _, q0', _⟩ := el43 (Kd.C_below H4.out (drew_below HW.out)) (j := j) (by have := HL.out; omega)
        rcases firstS x y with t0 | ⟨t0, t1⟩ | ⟨t0, t1⟩
        · have HN := Aside0.mk (neS0 x y t0)
          go_wp2
          (try dsimp only [List.append])
          go_quiet (fail)
          go_wp2
          go_ret
          exact Q.no (ne_at hx.out.1 hy.out.1 HN.out) (drew_more HW.out _)
        · have HN := Aside0.mk (neS1 x y t1)
          go_wp2
          (try dsimp only [List.append])
          go_quiet (fail)
          go_wp2
          go_ret
          exact Q.no (ne_at hx.out.1 hy.out.1 HN.out) (drew_more HW.out _)
        · obtain ⟨b2, hb2⟩ := bool_is (x.f2 = y.f2)
          obtain ⟨b3, hb3⟩ := bool_is (x.f3 = y.f3)
          obtain ⟨b4, hb4⟩ := bool_is (x.f4 = y.f4)
          have R2 := Aside0.mk (fun w' (h : Below _ _ w') => (IHE.out x (mem_of hx.out.1) y.f2 A2 c2 B2 d2 w' (Kd.C_below hx.out.2.1.2 h) (Kd.C_below hy.out.2.1.2 h)).mono fun e w'' k => k.fix hb2)
          have R3 := Aside0.mk (fun w' (h : Below _ _ w') => (IH3.out x (mem_of hx.out.1) y.f3 A3 c3 B3 d3 w' (Kd.C_below hx.out.2.2.1.2 h) (Kd.C_below hy.out.2.2.1.2 h)).mono fun e w'' k => k.fix hb3)
          have R4 := Aside0.mk (fun w' (h : Below _ _ w') => (IH4.out x (mem_of hx.out.1) y.f4 A4 c4 B4 d4 w' (Kd.C_below hx.out.2.2.2.2 h) (Kd.C_below hy.out.2.2.2.2 h)).mono fun e w'' k => k.fix hb4)
          have E := Aside0.mk (show x = y ↔ b2 = true ∧ b3 = true ∧ b4 = true by rw [hb2, hb3, hb4]; exact eqS2 x y t0 t1)
          clear hb2 hb3 hb4
          cases b2
          · go_wp2
            (try dsimp only [List.append])
            go_quiet ((go_at_call 74; with_reducible exact Calls.quiet_of (R2.out _ (pw_below_drewN (brefl _) _))))
            go_wp2
            go_ret
            exact Q.no (ne_at hx.out.1 hy.out.1 fun e => absurd (E.out.mp e).1 (by decide)) (drew_more HW.out _)
          · cases b3
            · go_wp2
              (try dsimp only [List.append])
              go_quiet (first | (go_at_call 74; with_reducible exact Calls.quiet_of (R2.out _ (pw_below_drewN (brefl _) _))) | (go_at_call 46; with_reducible exact Calls.quiet_of (R3.out _ (pw_below_drewN (brefl _) _))))
              go_wp2
              go_ret
              exact Q.no (ne_at hx.out.1 hy.out.1 fun e => absurd (E.out.mp e).2.1 (by decide)) (drew_more HW.out _)
            · go_wp2
              (try dsimp only [List.append])
              go_quiet (first | (go_at_call 74; with_reducible exact Calls.quiet_of (R2.out _ (pw_below_drewN (brefl _) _))) | (go_at_call 46; with_reducible exact Calls.quiet_of (R3.out _ (pw_below_drewN (brefl _) _))) | (go_at_call 46; with_reducible exact Calls.quiet_of (R4.out _ (pw_below_drewN (brefl _) _))))
              cases b4
              · go_wp2
                go_ret
                exact Q.no (ne_at hx.out.1 hy.out.1 fun e => absurd (E.out.mp e).2.2 (by decide)) (drew_more HW.out _)
              · go_wp2
                go_roundg (l.length - (j + 1))
                case measure => have := HJ.out; omega
                case rel => exact ⟨j + 1, (by first | exact congrArg _ ej | rfl), ⟨by omega, eq_more hx.out.1 hy.out.1 HJ.out.2 (E.out.mpr ⟨by trivial, by trivial, by trivial⟩)⟩, ⟨drew_more HW.out _⟩⟩
      · go_wp2
        go_ret
        have h := HJ.out.2
        rw [take_all hj, take_all (by have := HL.out; omega)] at h
        exact Q.yes h HW.out
  · have e0 : ((l.length : Int) != (m.length : Int)) = true := by simp; omega
    have e1 : (l.length != m.length) = true := by simpa using hl
    have HN := Aside0.mk (show ¬ l = m from fun e => hl (by rw [e]))
    clear hl
    go_enter Tryd.func46, Tryd.ntmps46
    go_wp2
    go_ret
    exact Q.no HN.out (drew0 _)
theorem kidsE {s : S43} (h : OkS s) : ∀ e ∈ s.f2, OkE e := by cases h; assumption
theorem reqS (x : S43) (h : OkS x) : ReS x.f3 ∧ ReS x.f4 := by
  induction h with
  | mk x _ hE _ hT _ hF ihT ihF =>
    exact ⟨reqS_l x.f3 (fun s hs => reE_c s.f2 (kidsE (hT s hs))) (fun s hs => (ihT s hs).1) (fun s hs => (ihT s hs).2), reqS_l x.f4 (fun s hs => reE_c s.f2 (kidsE (hF s hs))) (fun s hs => (ihF s hs).1) (fun s hs => (ihF s hs).2)⟩
theorem reS_c (l : List S43) (h : ∀ s ∈ l, OkS s) : ReS l := reqS_l l (fun s hs => reE_c s.f2 (kidsE (h s hs))) (fun s hs => (reqS s (h s hs)).1) (fun s hs => (reqS s (h s hs)).2)
end Go.Proofs.YthnhdompfhkepaaDoor.Pure
