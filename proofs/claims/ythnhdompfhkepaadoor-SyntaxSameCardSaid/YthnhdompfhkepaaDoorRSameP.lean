/- The document's Same. -/
import Derived.Test.YthnhdompfhkepaaDoorRSameS
namespace Go.Proofs.YthnhdompfhkepaaDoor.Pure
open Go Go.RowKit Go.Proofs.YthnhdompfhkepaaDoor.Q Go.Proofs.YthnhdompfhkepaaDoorW.PrintWords Go.Proofs.YthnhdompfhkepaaDoorW.PrintLast Go.Proofs.YthnhdompfhkepaaDoorW.PrintMore
set_option linter.unusedSimpArgs false
set_option linter.unusedVariables false
set_option maxHeartbeats 8000000
set_option maxRecDepth 100000
theorem rsame_c {v : List ByteArray} {a : List S59} {f : List S45} (hp : OkP v a f) (v' : List ByteArray) (a' : List S59) (f' : List S45) (A2 : Option Addr) (c2 : Nat) (A3 : Option Addr) (c3 : Nat) (A4 : Option Addr) (c4 : Nat) (B2 : Option Addr) (d2 : Nat) (B3 : Option Addr) (d3 : Nat) (B4 : Option Addr) (d4 : Nat) (w : World) (h1 : InP w v a f A2 c2 A3 c3 A4 c4) (h2 : InP w v' a' f' B2 d2 B3 d3 B4 d4) :
    Calls Tryd.prog 18 #[vP v a f A2 c2 A3 c3 A4 c4, vP v' a' f' B2 d2 B3 d3 B4 d4] w (RetB (v = v' ∧ a = a' ∧ f = f') w) := by
  obtain ⟨P, E⟩ := name_it (v = v' ∧ a = a' ∧ f = f')
  refine Calls.mono (R := RetB P w) ?_ fun e w' h => h.iff E.out
  have K2 : Aside0 (∀ w', Below w.heap.size w w' → Calls Tryd.prog 45 #[.slice A2 v.length c2, .slice B2 v'.length d2] w' (RetB (v = v') w')) := ⟨fun w' h => (reqT_l v v' _ _ _ _ _ (Kd.C_below h1.1.2 h) (Kd.C_below h2.1.2 h)).mono fun e w'' k => k.ret⟩
  have HA := Aside0.mk (fun w' (h : Below w.heap.size w w') => And.intro (Kd.C_below h1.2.1.2 h) (Kd.C_below h2.2.1.2 h))
  have HF := Aside0.mk (fun w' (h : Below w.heap.size w w') => And.intro (Kd.C_below h1.2.2.2 h) (Kd.C_below h2.2.2.2 h))
  have OKF := Aside0.mk hp.each
  clear h1 h2 hp
  by_cases ha : a.length = a'.length
  · have e0 : ((a.length : Int) != (a'.length : Int)) = false := by simp [ha]
    have e1 : (a.length != a'.length) = false := by simp [ha]
    by_cases hf : f.length = f'.length
    · have g0 : ((f.length : Int) != (f'.length : Int)) = false := by simp [hf]
      have g1 : (f.length != f'.length) = false := by simp [hf]
      have LA := Aside0.mk ha
      have LF := Aside0.mk hf
      clear ha hf
      go_enter Tryd.func18, Tryd.ntmps18
      go_wp2_with (go_at_call 45; (with_reducible refine (K2.out _ (balloc (balloc (brefl _) _) _)).mono ?_); rintro e w3 ⟨b, rfl, hb, hB⟩; have HB2 := Aside0.mk (bstep (balloc (balloc (brefl w) _) _) hB); have HE2 := Aside0.mk hb; have q1 := box1_up hB 1 _ rfl; have q2 := box1_up hB 2 _ rfl; have r1 := box2_up hB 1 _ rfl; have r2 := box2_up hB 2 _ rfl; clear hB hb; cases b)
      · go_ret
        exact RetB.no (fun p => absurd (HE2.out.mpr (E.out.mp p).1) (by decide)) HB2.out
      · go_loopg [5] a.length (fun n v5 wr => ∃ j : Nat, v5 = .int .i64 j ∧ Aside0 (n + j = a.length ∧ a.take j = a'.take j) ∧ Aside0 (Below w3.heap.size w3 wr))
        case atStart => exact ⟨0, rfl, ⟨rfl, by simp⟩, ⟨brefl _⟩⟩
        case round =>
          obtain ⟨j, rfl, HJ, HB⟩ := hrel
          rename World => w4
          have s1 := cell_up HB.out q1
          have s2 := cell_up HB.out q2
          have u1 := cell_up HB.out r1
          have u2 := cell_up HB.out r2
          have HW := Aside0.mk (bstep HB2.out HB.out)
          clear q1 q2 r1 r2
          by_cases hj : j < a.length
          · obtain ⟨ad, pb, po, x, rfl, ea, hlt, x0, x1, hx, p0, q0, ej⟩ := el59 (HA.out _ HW.out).1 hj
            obtain ⟨bd, pb', po', y, rfl, eb, hlt', y0, y1, hy, _, q0', _⟩ := el59 (HA.out _ HW.out).2 (j := j) (by have := LA.out; omega)
            by_cases he : x.f0.toList = y.f0.toList ∧ x.f1 = y.f1
            · have HE := Aside0.mk (show x = y by cases x; cases y; simp only at he; rw [bytes_ext he.1, he.2])
              obtain ⟨e1', e2'⟩ := he
              have e2 : (x.f0.toList == y.f0.toList) = true := by simp [e1']
              have e3 : (x.f1 == y.f1) = true := by simp [e2']
              clear e1' e2'
              go_wp2
              go_quiet (fail)
              go_wp2
              go_roundg (a.length - (j + 1))
              case measure => have := HJ.out; omega
              case rel => exact ⟨j + 1, (by first | exact congrArg _ ej | rfl), ⟨by omega, eq_more hx.out hy.out HJ.out.2 HE.out⟩, ⟨pw_below_drewN HB.out _⟩⟩
            · have HE := Aside0.mk (show ¬ x = y from fun e => he (by rw [e]; exact ⟨rfl, rfl⟩))
              by_cases h0 : x.f0.toList = y.f0.toList
              · have e2 : (x.f0.toList == y.f0.toList) = true := by simp [h0]
                have e3 : (x.f1 == y.f1) = false := beqI fun h => he ⟨h0, h⟩
                clear he h0
                go_wp2
                go_quiet (fail)
                go_wp2
                go_ret
                exact RetB.no (fun p => ne_at hx.out hy.out HE.out (E.out.mp p).2.1) (pw_below_drewN HW.out _)
              · have e2 : (x.f0.toList == y.f0.toList) = false := by simpa using h0
                clear he h0
                go_wp2
                go_quiet (fail)
                go_wp2
                go_ret
                exact RetB.no (fun p => ne_at hx.out hy.out HE.out (E.out.mp p).2.1) (pw_below_drewN HW.out _)
          · go_wp2
            have EA := Aside0.mk (show a = a' by have h := HJ.out.2; rw [take_all hj, take_all (by have := LA.out; omega)] at h; exact h)
            go_loopg [6] f.length (fun n v6 wr => ∃ i : Nat, v6 = .int .i64 i ∧ Aside0 (n + i = f.length ∧ f.take i = f'.take i) ∧ Aside0 (Below w4.heap.size w4 wr))
            case atStart => exact ⟨0, rfl, ⟨by simp, by simp⟩, ⟨brefl _⟩⟩
            case round =>
              obtain ⟨i, rfl, HI, HC⟩ := hrel
              rename World => w5
              have z1 := cell_up HC.out s1
              have z2 := cell_up HC.out s2
              have y1 := cell_up HC.out u1
              have y2 := cell_up HC.out u2
              have HX := Aside0.mk (bstep HW.out HC.out)
              have lt1 : w.heap.size < w5.heap.size := World.block_lt_of_cell? w5 _ z2
              have lt2 : w.heap.size + 1 < w5.heap.size := World.block_lt_of_cell? w5 _ y2
              clear s1 s2 u1 u2
              by_cases hi : i < f.length
              · obtain ⟨ad, pb, po, C1, k1, C2, k2, C4, k4, x, rfl, ea, hlt, x0, x1, x2, x3, x4, hx, p0, q0, ej⟩ := el45 (HF.out _ HX.out).1 hi
                obtain ⟨bd, pb', po', D1, m1, D2, m2, D4, m4, y, rfl, eb, hlt', t0, t1, t2, t3, t4, hy, _, q0', _⟩ := el45 (HF.out _ HX.out).2 (j := i) (by have := LF.out; omega)
                have EX := Aside0.mk (s45_iff x y)
                by_cases h0 : x.f0.toList = y.f0.toList
                · have e2 : (x.f0.toList == y.f0.toList) = true := by simp [h0]
                  by_cases h3 : x.f3 = y.f3
                  · have e3 : (x.f3 == y.f3) = true := by simp [h3]
                    have e4 : (x.f3 != y.f3) = false := by simp [h3]
                    have H0 := Aside0.mk h0
                    have H3 := Aside0.mk h3
                    clear h0 h3
                    have F1 := Aside0.mk (fun w' (h : Below w5.heap.size w5 w') => (reqT_l x.f1 y.f1 C1 k1 D1 m1 w' (Kd.C_below hx.out.2.1.2 h) (Kd.C_below hy.out.2.1.2 h)).mono fun e w'' k => k.ret)
                    have F2 := Aside0.mk (fun w' (h : Below w5.heap.size w5 w') => (reqT_l x.f2 y.f2 C2 k2 D2 m2 w' (Kd.C_below hx.out.2.2.1.2 h) (Kd.C_below hy.out.2.2.1.2 h)).mono fun e w'' k => k.ret)
                    have F4 := Aside0.mk (fun w' (h : Below w5.heap.size w5 w') => (reS_c x.f4 (OKF.out x (mem_of hx.out.1)).stmts y.f4 C4 k4 D4 m4 w' (Kd.C_below hx.out.2.2.2.2 h) (Kd.C_below hy.out.2.2.2.2 h)).mono fun e w'' k => k.ret)
                    go_wp2_with (first | (go_at_call 45; (with_reducible refine (F1.out _ (balloc (balloc (brefl _) _) _)).mono ?_); rintro e w6 ⟨b, rfl, hb, hB⟩; have HB6 := Aside0.mk (bstep (balloc (balloc (brefl w5) _) _) hB); have HE6 := Aside0.mk hb; have a2 := box1_up hB 2 _ rfl; have a4 := box1_up hB 4 _ rfl; have b2 := box2_up hB 2 _ rfl; have b4 := box2_up hB 4 _ rfl; clear hB hb; cases b) | (go_at_call 45; (with_reducible refine (F2.out _ HB6.out).mono ?_); rintro e w7 ⟨b, rfl, hb, hB⟩; have HB7 := Aside0.mk (bstep HB6.out hB); have HE7 := Aside0.mk hb; have a5 := cell_up hB a4; have b5 := cell_up hB b4; clear hB hb; cases b) | (go_at_call 46; (with_reducible refine (F4.out _ HB7.out).mono ?_); rintro e w8 ⟨b, rfl, hb, hB⟩; have HB8 := Aside0.mk (bstep HB7.out hB); have HE8 := Aside0.mk hb; clear hB hb; cases b) | fail)
                    · go_ret
                      exact RetB.no (fun p => ne_at hx.out.1 hy.out.1 (fun e => absurd (HE6.out.mpr (by rw [e])) (by decide)) (E.out.mp p).2.2) (bstep HX.out HB6.out)
                    · go_ret
                      exact RetB.no (fun p => ne_at hx.out.1 hy.out.1 (fun e => absurd (HE7.out.mpr (by rw [e])) (by decide)) (E.out.mp p).2.2) (bstep HX.out HB7.out)
                    · go_ret
                      exact RetB.no (fun p => ne_at hx.out.1 hy.out.1 (fun e => absurd (HE8.out.mpr (by rw [e])) (by decide)) (E.out.mp p).2.2) (bstep HX.out HB8.out)
                    · go_roundg (f.length - (i + 1))
                      case measure => have := HI.out; omega
                      case rel => exact ⟨i + 1, (by first | exact congrArg _ ej | rfl), ⟨by omega, eq_more hx.out.1 hy.out.1 HI.out.2 (EX.out.mpr (by first | exact ⟨bytes_ext H0.out, H3.out, HE6.out.mp (by trivial), HE7.out.mp (by trivial), HE8.out.mp (by trivial)⟩ | fail))⟩, ⟨bstep HC.out HB8.out⟩⟩
                  · have e3 : (x.f3 == y.f3) = false := by simpa using h3
                    have e4 : (x.f3 != y.f3) = true := by simpa using h3
                    have HN := Aside0.mk (show ¬ x = y from fun e => h3 (by rw [e]))
                    clear h0 h3
                    go_wp2
                    go_ret
                    exact RetB.no (fun p => ne_at hx.out.1 hy.out.1 HN.out (E.out.mp p).2.2) (bstep HX.out (balloc (balloc (brefl _) _) _))
                · have e2 : (x.f0.toList == y.f0.toList) = false := by simpa using h0
                  have HN := Aside0.mk (show ¬ x = y from fun e => h0 (by rw [e]))
                  clear h0
                  go_wp2
                  go_ret
                  exact RetB.no (fun p => ne_at hx.out.1 hy.out.1 HN.out (E.out.mp p).2.2) (bstep HX.out (balloc (balloc (brefl _) _) _))
              · go_wp2
                go_ret
                have h := HI.out.2
                rw [take_all hi, take_all (by have := LF.out; omega)] at h
                exact RetB.yes (E.out.mpr ⟨HE2.out.mp (by trivial), EA.out, h⟩) HX.out
    · have g0 : ((f.length : Int) != (f'.length : Int)) = true := by simp; omega
      have g1 : (f.length != f'.length) = true := by simpa using hf
      have HN := Aside0.mk (show ¬ f = f' from fun e => hf (by rw [e]))
      clear ha hf
      go_enter Tryd.func18, Tryd.ntmps18
      go_wp2_with (go_at_call 45; (with_reducible refine (K2.out _ (balloc (balloc (brefl _) _) _)).mono ?_); rintro e w3 ⟨b, rfl, hb, hB⟩; have HB2 := Aside0.mk (bstep (balloc (balloc (brefl w) _) _) hB); have q1 := box1_up hB 1 _ rfl; have q2 := box1_up hB 2 _ rfl; have r1 := box2_up hB 1 _ rfl; have r2 := box2_up hB 2 _ rfl; clear hB hb; cases b)
      all_goals (go_ret; exact RetB.no (fun p => HN.out (E.out.mp p).2.2) HB2.out)
  · have e0 : ((a.length : Int) != (a'.length : Int)) = true := by simp; omega
    have e1 : (a.length != a'.length) = true := by simpa using ha
    have HN := Aside0.mk (show ¬ a = a' from fun e => ha (by rw [e]))
    clear ha
    go_enter Tryd.func18, Tryd.ntmps18
    go_wp2_with (go_at_call 45; (with_reducible refine (K2.out _ (balloc (balloc (brefl _) _) _)).mono ?_); rintro e w3 ⟨b, rfl, hb, hB⟩; have HB2 := Aside0.mk (bstep (balloc (balloc (brefl w) _) _) hB); have q1 := box1_up hB 1 _ rfl; have q2 := box1_up hB 2 _ rfl; have r1 := box2_up hB 1 _ rfl; have r2 := box2_up hB 2 _ rfl; clear hB hb; cases b)
    all_goals (go_ret; exact RetB.no (fun p => HN.out (E.out.mp p).2.1) HB2.out)
end Go.Proofs.YthnhdompfhkepaaDoor.Pure
