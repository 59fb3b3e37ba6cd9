/- The document's Right. -/
import Derived.Test.YthnhdompfhkepaaDoorRRight
namespace Go.Proofs.YthnhdompfhkepaaDoor.Pure
open Go Go.RowKit Go.Proofs.YthnhdompfhkepaaDoor.Q Go.Proofs.YthnhdompfhkepaaDoorW.PrintWords Go.Proofs.YthnhdompfhkepaaDoorW.PrintLast Go.Proofs.YthnhdompfhkepaaDoorW.PrintMore
set_option linter.unusedSimpArgs false
set_option linter.unusedVariables false
set_option maxHeartbeats 8000000
set_option maxRecDepth 100000
theorem rstmts_c (l : List S43) (h : ∀ s ∈ l, OkS s) (lv : Int) (A : Option Addr) (c : Nat) (w : World) (h0 : 0 ≤ lv) (h25 : lv ≤ 25) (hR : Kd.C k43 w A l.length l) : Calls Tryd.prog 44 #[.slice A l.length c, .int .i64 lv] w (RetB (GSs l lv) w) := rstmts_l l (fun y hy => rstmt_c y (h y hy)) lv A c w h0 h25 hR
theorem rright_c {v : List ByteArray} {a : List S59} {f : List S45} (hp : OkP v a f) (A0 : Option Addr) (c0 : Nat) (A1 : Option Addr) (c1 : Nat) (A2 : Option Addr) (c2 : Nat) (w : World) (hI : InP w v a f A0 c0 A1 c1 A2 c2) :
    Calls Tryd.prog 17 #[vP v a f A0 c0 A1 c1 A2 c2] w (RetB (GP v a f) w) := by
  obtain ⟨P, E⟩ := name_it (GP v a f)
  refine Calls.mono (R := RetB P w) ?_ fun e w' h => h.iff E.out
  have HP := Aside0.mk hp
  have HI := Aside0.mk hI
  have K := Aside0.mk (fun w' (h : Below w.heap.size w w') => rnames_c v A0 c0 w' (Kd.C_below hI.1.2 h))
  have no : ∀ W, ¬ GP v a f → Below w.heap.size w W → RetB P w (.returned (.bool false)) W := fun W h hB => RetB.no (fun p => h (E.out.mp p)) hB
  have NO := Aside0.mk no
  clear hp hI no
  by_cases hn : 1 ≤ f.length ∧ f.length ≤ 64
  · have HN := Aside0.mk hn
    have n1 : ((f.length : Int) < 1) = False := eq_false (by omega)
    have n2 : (64 < (f.length : Int)) = False := eq_false (by omega)
    have n3 : (64 < f.length) = False := eq_false (by omega)
    have n4 : (f.length = 0) = False := eq_false (by omega)
    clear hn
    go_enter Tryd.func17, Tryd.ntmps17
    go_wp2_with (go_at_call 42; go_loud (refine (K.out _ (balloc (brefl _) _)).mono ?_); rintro e w1 ⟨b, rfl, hb, hB⟩; have HB0 := Aside0.mk hB; have HV := Aside0.mk hb; have q1 := box_up hB 1 _ rfl; have q2 := box_up hB 2 _ rfl; clear hb hB; cases b)
    · go_ret
      exact NO.out _ (fun p => absurd (HV.out.mpr p.vars) (by decide)) (bstep (balloc (brefl _) _) HB0.out)
    · go_loopg [3] a.length (fun n v3 wr => ∃ j : Nat, v3 = .int .i64 j ∧ Aside0 (n + j = a.length ∧ ∀ y ∈ a.take j, NameOk y.f0 ∧ 1 ≤ y.f1 ∧ y.f1 ≤ 4096) ∧ Aside0 (Below (w.alloc (bP v a f A0 c0 A1 c1 A2 c2)).heap.size (w.alloc (bP v a f A0 c0 A1 c1 A2 c2)) wr))
      case atStart => exact ⟨0, rfl, ⟨by simp, by simp⟩, HB0⟩
      case round =>
        clear q1 q2
        obtain ⟨j, rfl, HJ, HB⟩ := hrel
        have HW := Aside0.mk (bstep (balloc (brefl w) _) HB.out)
        have q1 := box_up HB.out 1 _ rfl
        by_cases hj : j < a.length
        · obtain ⟨ad, pb, po, y, rfl, ea, hlt, x0, x1, hy, p0, q0, ej⟩ := el59 (Kd.C_below HI.out.2.1.2 HW.out) hj
          by_cases hy1 : 1 ≤ y.f1 ∧ y.f1 ≤ 4096
          · have m1 : (y.f1 < 1) = False := eq_false (by omega)
            have m2 : (4096 < y.f1) = False := eq_false (by omega)
            have HY := Aside0.mk hy1
            clear hy1
            go_wp2_with (go_at_call 43; go_loud (refine (isName_c y.f0 _).mono ?_); rintro e w1 ⟨b, rfl, hb, hB⟩; have HB' := Aside0.mk (bstep HB.out hB); have HE := Aside0.mk hb; replace q1 := cell_up hB q1; replace x1 := cell_up hB x1; clear hb hB; cases b)
            · go_ret
              exact NO.out _ (fun p => absurd (HE.out.mpr (p.arrs y (mem_of hy.out)).1) (by decide)) (bstep (balloc (brefl _) _) HB'.out)
            · go_roundg (a.length - (j + 1))
              case measure => have := HJ.out; omega
              case rel => exact ⟨j + 1, (by first | exact congrArg _ ej | rfl), ⟨by omega, all_more hy.out HJ.out.2 ⟨HE.out.mp (by trivial), HY.out⟩⟩, HB'⟩
          · have HY := Aside0.mk hy1
            clear hy1
            go_wp2_with (go_at_call 43; go_loud (refine (isName_c y.f0 _).mono ?_); rintro e w1 ⟨b, rfl, hb, hB⟩; have HB' := Aside0.mk (bstep HB.out hB); have HE := Aside0.mk hb; replace q1 := cell_up hB q1; replace x1 := cell_up hB x1; clear hb hB; cases b)
            all_goals first | (go_ret; exact NO.out _ (fun p => HY.out (p.arrs y (mem_of hy.out)).2) (bstep (balloc (brefl _) _) HB'.out)) | (exfalso; have := HY.out; omega)
        · have HA := Aside0.mk (all_end hj HJ.out.2)
          go_wp2
          clear q1
          go_loopg [4] f.length (fun n v4 wr => ∃ j : Nat, v4 = .int .i64 j ∧ Aside0 (n + j = f.length ∧ ∀ y ∈ f.take j, GF y) ∧ Aside0 (Below (w.alloc (bP v a f A0 c0 A1 c1 A2 c2)).heap.size (w.alloc (bP v a f A0 c0 A1 c1 A2 c2)) wr))
          case atStart => exact ⟨0, rfl, ⟨by simp, by simp⟩, HB⟩
          case round =>
            clear HJ HB HW hj
            obtain ⟨j, rfl, HJ, HB0⟩ := hrel
            rename World => w0
            have HB := Aside0.mk (bstep (balloc (brefl w) _) HB0.out)
            have z2 := box_up HB0.out 2 _ rfl
            by_cases hj : j < f.length
            · obtain ⟨ad, pb, po, B1, d1, B2, d2, B4, d4, y, rfl, ea, hlt, x0, x1, x2, x3, x4, hy, p0, q0, ej⟩ := el45 (Kd.C_below HI.out.2.2.2 HB.out) hj
              have HF := Aside0.mk (HP.out.each y (mem_of hy.out.1))
              have no : ∀ W, ¬ GF y → Below w0.heap.size w0 W → RetB P w (.returned (.bool false)) W := fun W h hB => NO.out W (fun p => h (p.funcs y (mem_of hy.out.1))) (bstep HB.out hB)
              have NF := Aside0.mk no
              have K2 := Aside0.mk (fun w' (h : Below w0.heap.size w0 w') => rnames_c y.f1 B1 d1 w' (Kd.C_below hy.out.2.1.2 h))
              have K3 := Aside0.mk (fun w' (h : Below w0.heap.size w0 w') => rnames_c y.f2 B2 d2 w' (Kd.C_below hy.out.2.2.1.2 h))
              have K4 := Aside0.mk (fun w' (h : Below w0.heap.size w0 w') => rstmts_c y.f4 HF.out.stmts 1 B4 d4 w' (by decide) (by decide) (Kd.C_below hy.out.2.2.2.2 h))
              clear no
              by_cases h6 : y.f1.length ≤ 6
              · have H6 := Aside0.mk h6
                have o1 : (6 < (y.f1.length : Int)) = False := eq_false (by omega)
                have o2 : (6 < y.f1.length) = False := eq_false (by omega)
                clear h6
                go_wp2_with (first | (go_at_call 43; go_loud (refine (isName_c y.f0 _).mono ?_); rintro e w1 ⟨b, rfl, hb, hB⟩; have HB1 := Aside0.mk (bstep (balloc (brefl w0) _) hB); have HZ := Aside0.mk (bstep (balloc HB0.out _) hB); have HE1 := Aside0.mk hb; have q1 := box_up hB 1 _ rfl; have q2 := box_up hB 2 _ rfl; have q4 := box_up hB 4 _ rfl; clear hB hb; cases b) | (go_at_call 42; (with_reducible refine (K2.out _ HB1.out).mono ?_); rintro e w2 ⟨b, rfl, hb, hB⟩; have HB2 := Aside0.mk (bstep HB1.out hB); have HZ2 := Aside0.mk (bstep HZ.out hB); have HE2 := Aside0.mk hb; have r2 := cell_up hB q2; have r4 := cell_up hB q4; clear hB hb; cases b) | (go_at_call 42; (with_reducible refine (K3.out _ HB2.out).mono ?_); rintro e w3 ⟨b, rfl, hb, hB⟩; have HB3 := Aside0.mk (bstep HB2.out hB); have HZ3 := Aside0.mk (bstep HZ2.out hB); have HE3 := Aside0.mk hb; have s4 := cell_up hB r4; clear hB hb; cases b) | (go_at_call 44; (with_reducible refine (K4.out _ HB3.out).mono ?_); rintro e w4 ⟨b, rfl, hb, hB⟩; have HB4 := Aside0.mk (bstep HB3.out hB); have HZ4 := Aside0.mk (bstep HZ3.out hB); have HE4 := Aside0.mk hb; clear hB hb; cases b))
                · go_ret
                  exact NF.out _ (fun p => absurd (HE1.out.mpr p.name) (by decide)) HB1.out
                · go_ret
                  exact NF.out _ (fun p => absurd (HE2.out.mpr p.params) (by decide)) HB2.out
                · go_ret
                  exact NF.out _ (fun p => absurd (HE3.out.mpr p.locals) (by decide)) HB3.out
                · go_ret
                  exact NF.out _ (fun p => absurd (HE4.out.mpr p.body) (by decide)) HB4.out
                · go_roundg (f.length - (j + 1))
                  case measure => have := HJ.out; omega
                  case rel => exact ⟨j + 1, (by first | exact congrArg _ ej | rfl), ⟨by omega, all_more hy.out.1 HJ.out.2 ⟨HE1.out.mp (by trivial), H6.out, HE2.out.mp (by trivial), HE3.out.mp (by trivial), HE4.out.mp (by trivial)⟩⟩, HZ4⟩
              · have o1 : (6 < (y.f1.length : Int)) = True := eq_true (by omega)
                have o2 : (6 < y.f1.length) = True := eq_true (by omega)
                have H6 := Aside0.mk (show ¬ GF y from fun p => h6 p.nparams)
                clear h6
                go_wp2_with (first | (go_at_call 43; go_loud (refine (isName_c y.f0 _).mono ?_); rintro e w1 ⟨b, rfl, hb, hB⟩; have HB1 := Aside0.mk (bstep (balloc (brefl w0) _) hB); have q1 := box_up hB 1 _ rfl; clear hB hb; cases b))
                all_goals go_ret
                all_goals exact NF.out _ H6.out HB1.out
            · go_wp2
              go_ret
              exact RetB.yes (E.out.mpr ⟨HV.out.mp (by trivial), HA.out, HN.out.1, HN.out.2, all_end hj HJ.out.2⟩) HB.out
  · go_enter Tryd.func17, Tryd.ntmps17
    go_wp2_with (go_at_call 42; go_loud (refine (K.out _ (balloc (brefl _) _)).mono ?_); rintro e w1 ⟨b, rfl, hb, hB⟩; have HB0 := Aside0.mk (bstep (balloc (brefl w) _) hB); have q2 := box_up hB 2 _ rfl; clear hb hB; cases b)
    all_goals go_ret
    all_goals exact NO.out _ (fun p => hn ⟨p.some, p.few⟩) HB0.out
end Go.Proofs.YthnhdompfhkepaaDoor.Pure
