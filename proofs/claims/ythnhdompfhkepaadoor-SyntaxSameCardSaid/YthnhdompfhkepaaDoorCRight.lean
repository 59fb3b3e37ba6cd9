/- syntax.expr, stmts, Right: trees that may be, of a level. -/
import Derived.Test.YthnhdompfhkepaaDoorCForm
namespace Go.Proofs.YthnhdompfhkepaaDoor.Pure
open Go Go.RowKit Go.Proofs.YthnhdompfhkepaaDoor.Q Go.Proofs.YthnhdompfhkepaaDoorW.PrintWords Go.Proofs.YthnhdompfhkepaaDoorW.PrintLast Go.Proofs.YthnhdompfhkepaaDoorW.PrintMore
set_option linter.unusedSimpArgs false
set_option linter.unusedVariables false
set_option maxHeartbeats 8000000
set_option maxRecDepth 100000
theorem expr_c (x : S36) (hx : OkE x) : ∀ (lv : Int) (A : Option Addr) (c : Nat) (w : World), 0 ≤ lv → lv ≤ 25 → InE w x A c → Ext.TAB w → Calls Tryd.prog 70 #[vE x A c, .int .i64 lv] w (RetB (GE x lv) w) := by
  induction hx with
  | mk x _ _ hl _ ih =>
    intro lv A c w h0 h25 hI hT
    obtain ⟨P, E⟩ := name_it (GE x lv)
    refine Calls.mono (R := RetB P w) ?_ fun e w' h => h.iff E.out
    replace E := Aside0.mk (E.out.trans (GE_eq x lv))
    obtain ⟨f0, f1, f2, f3, l⟩ := x
    have IH := Aside0.mk ih
    have HR : Aside0 (Kd.C k36 w A l.length l) := ⟨hI.2⟩
    have HT := Aside0.mk hT
    clear ih hI hT hl
    by_cases h24 : lv ≤ 24
    · have K := Aside0.mk (fun w' (h : Below w.heap.size w w') => exprForm_c f0 f1 f2 f3 l.length A c w' (Ext.TAB.below HT.out h))
      go_enter Tryd.func70, Tryd.ntmps70
      go_wp2_with (go_at_call 90; go_loud (refine (K.out _ (balloc (brefl _) _)).mono ?_); rintro e w1 ⟨b, rfl, hb, hB⟩; have HB0 := Aside0.mk (bstep (balloc (brefl w) _) hB); have HE := Aside0.mk hb; have q4 := box_up hB 4 _ rfl; clear hB hb; cases b)
      · go_ret
        exact RetB.no (fun p => absurd (HE.out.mpr (E.out.mp p).2.1) (by decide)) HB0.out
      · go_loopg [17] l.length (fun n v17 wr => ∃ j : Nat, v17 = .int .i64 j ∧ Aside0 (n + j = l.length ∧ ∀ y ∈ l.take j, GE y (lv + 1)) ∧ Aside0 (Below w.heap.size w wr))
        case atStart => exact ⟨0, rfl, ⟨rfl, by simp⟩, HB0⟩
        case round =>
          clear q4
          obtain ⟨j, rfl, HJ, HB⟩ := hrel
          by_cases hj : j < l.length
          · obtain ⟨ad, pb, po, A4, c4, y, rfl, ea, hlt, x0, x1, x2, x3, x4, hy, p0, q0, ej⟩ := el36 (Kd.C_below HR.out HB.out) hj
            go_wp2_with (go_at_call 70; go_loud (refine (IH.out y (mem_of hy.out.1) (lv + 1) A4 c4 _ (by omega) (by omega) (hy.out.2.up (balloc (brefl _) _)) (Ext.TAB.below HT.out (balloc HB.out _))).mono ?_); rintro e w' ⟨b, rfl, hb, hB⟩; have HB' := Aside0.mk (bstep (balloc HB.out _) hB); have HE' := Aside0.mk hb; clear hB hb; cases b)
            · go_ret
              exact RetB.no (fun p => absurd (HE'.out.mpr ((GEs_iff _ _).mp (E.out.mp p).2.2 y (mem_of hy.out.1))) (by decide)) HB'.out
            · go_roundg (l.length - (j + 1))
              case measure => have := HJ.out; omega
              case rel => exact ⟨j + 1, (by first | exact congrArg _ ej | rfl), ⟨by omega, all_more hy.out.1 HJ.out.2 (HE'.out.mp (by trivial))⟩, HB'⟩
          · go_wp2
            go_ret
            exact RetB.yes (E.out.mpr ⟨by omega, HE.out.mp (by trivial), (GEs_iff _ _).mpr (all_end hj HJ.out.2)⟩) HB.out
    · go_enter Tryd.func70, Tryd.ntmps70
      go_wp2
      go_ret
      exact RetB.no (fun p => by have := (E.out.mp p).1; omega) (balloc (brefl _) _)
abbrev StC (l : List S43) : Prop := ∀ (lv : Int) (A : Option Addr) (c : Nat) (w : World), 0 ≤ lv → lv ≤ 25 → l.length ≤ c → Kd.C k43 w A l.length l → Ext.TAB w → Calls Tryd.prog 41 #[.slice A l.length c, .int .i64 lv] w (RetB (GSs l lv) w)
theorem stmts_l (l : List S43) (hE : ∀ s ∈ l, ∀ e ∈ s.f2, OkE e) (ih3 : ∀ s ∈ l, StC s.f3) (ih4 : ∀ s ∈ l, StC s.f4) : StC l := by
  intro lv A c w h0 h25 hcap hR hT
  obtain ⟨P, E⟩ := name_it (GSs l lv)
  refine Calls.mono (R := RetB P w) ?_ fun e w' h => h.iff E.out
  replace E := Aside0.mk (E.out.trans (GSs_iff l lv))
  have HE := Aside0.mk hE
  have IH3 := Aside0.mk ih3
  have IH4 := Aside0.mk ih4
  have HR := Aside0.mk hR
  have HT := Aside0.mk hT
  clear hE ih3 ih4 hR hT
  go_enter Tryd.func41, Tryd.ntmps41
  go_wp2
  go_loopg [11] l.length (fun n v11 wr => ∃ j : Nat, v11 = .int .i64 j ∧ Aside0 (n + j = l.length ∧ ∀ y ∈ l.take j, GS y lv) ∧ Aside0 (Below w.heap.size w wr))
  case atStart => exact ⟨0, rfl, ⟨rfl, by simp⟩, ⟨brefl _⟩⟩
  case round =>
    obtain ⟨j, rfl, HJ, HB⟩ := hrel
    rename World => w0
    by_cases hj : j < l.length
    · obtain ⟨ad, pb, po, A2, c2, A3, c3, A4, c4, y, rfl, ea, hlt, x0, x1, x2, x3, x4, hy, p0, q0, ej⟩ := el43 (Kd.C_below HR.out HB.out) hj
      have no : ∀ W, ¬ GS y lv → Below w0.heap.size w0 W → RetB P w (.returned (.bool false)) W := fun W h hB => RetB.no (fun p => h (E.out.mp p y (mem_of hy.out.1))) (bstep HB.out hB)
      have NO := Aside0.mk no
      have G := Aside0.mk (GS_eq y lv)
      have K := Aside0.mk (fun w' (h : Below w0.heap.size w0 w') => stmtForm_c y.f0 y.f1 y.f2.length y.f3.length y.f4.length A2 c2 A3 c3 A4 c4 w' (Ext.TAB.below HT.out (bstep HB.out h)))
      clear no
      by_cases h24 : lv ≤ 24
      · have K3 := Aside0.mk (fun w' (h : Below w0.heap.size w0 w') => IH3.out y (mem_of hy.out.1) (lv + 1) A3 c3 w' (by omega) (by omega) hy.out.2.2.1.1 (Kd.C_below hy.out.2.2.1.2 h) (Ext.TAB.below HT.out (bstep HB.out h)))
        have K4 := Aside0.mk (fun w' (h : Below w0.heap.size w0 w') => IH4.out y (mem_of hy.out.1) (lv + 1) A4 c4 w' (by omega) (by omega) hy.out.2.2.2.1 (Kd.C_below hy.out.2.2.2.2 h) (Ext.TAB.below HT.out (bstep HB.out h)))
        go_wp2_with (first | (go_at_call 69; go_loud (refine (K.out _ (balloc (brefl _) _)).mono ?_); rintro e w1 ⟨b, rfl, hb, hB⟩; have HB1 := Aside0.mk (bstep (balloc (brefl w0) _) hB); have HE1 := Aside0.mk hb; have q2 := box_up hB 2 _ rfl; have q3 := box_up hB 3 _ rfl; have q4 := box_up hB 4 _ rfl; clear hB hb; cases b) | (go_at_call 41; (with_reducible refine (K3.out _ HB1.out).mono ?_); rintro e w2 ⟨b, rfl, hb, hB⟩; have HB2 := Aside0.mk (bstep HB1.out hB); have HE2 := Aside0.mk hb; have r2 := cell_up hB q2; have r4 := cell_up hB q4; clear hB hb; cases b) | (go_at_call 41; (with_reducible refine (K4.out _ HB2.out).mono ?_); rintro e w3 ⟨b, rfl, hb, hB⟩; have HB3 := Aside0.mk (bstep HB2.out hB); have HE3 := Aside0.mk hb; have s2 := cell_up hB r2; clear hB hb; cases b))
        · go_ret
          exact NO.out _ (fun p => absurd (HE1.out.mpr (G.out.mp p).2.1) (by decide)) HB1.out
        · go_ret
          exact NO.out _ (fun p => absurd (HE2.out.mpr (G.out.mp p).2.2.2.1) (by decide)) HB2.out
        · go_ret
          exact NO.out _ (fun p => absurd (HE3.out.mpr (G.out.mp p).2.2.2.2) (by decide)) HB3.out
        · go_loopg [41] y.f2.length (fun n v41 wi => ∃ i : Nat, v41 = .int .i64 i ∧ Aside0 (n + i = y.f2.length ∧ ∀ e ∈ y.f2.take i, GE e (lv + 1)) ∧ Aside0 (Below w0.heap.size w0 wi))
          case atStart => exact ⟨0, rfl, ⟨by simp, by simp⟩, HB3⟩
          case round =>
            clear q2 q3 q4 r2 r4 s2 x0 x1 x2 x3 x4 p0 q0 ea hlt
            obtain ⟨i, rfl, HI, HC⟩ := hrel
            by_cases hi : i < y.f2.length
            · obtain ⟨ad2, pb2, po2, B4, d4, z, e2, ea, hlt, x0, x1, x2, x3, x4, hz, p0, q0, ei⟩ := el36 (Kd.C_below hy.out.2.1.2 HC.out) hi
              cases e2
              go_wp2_with (go_at_call 70; go_loud (refine (expr_c z (HE.out y (mem_of hy.out.1) z (mem_of hz.out.1)) (lv + 1) B4 d4 _ (by omega) (by omega) (hz.out.2.up (balloc (brefl _) _)) (Ext.TAB.below HT.out (bstep HB.out (balloc HC.out _)))).mono ?_); rintro e w' ⟨b, rfl, hb, hB⟩; have HC' := Aside0.mk (bstep (balloc HC.out _) hB); have HE' := Aside0.mk hb; clear hB hb; cases b)
              · go_ret
                exact NO.out _ (fun p => absurd (HE'.out.mpr ((GEs_iff _ _).mp (G.out.mp p).2.2.1 z (mem_of hz.out.1))) (by decide)) HC'.out
              · go_roundg (y.f2.length - (i + 1))
                case measure => have := HI.out; omega
                case rel => exact ⟨i + 1, (by first | exact congrArg _ ei | rfl), ⟨by omega, all_more hz.out.1 HI.out.2 (HE'.out.mp (by trivial))⟩, HC'⟩
            · go_wp2
              go_roundg (l.length - (j + 1))
              case measure => have := HJ.out; omega
              case rel => exact ⟨j + 1, (by first | exact congrArg _ ej | rfl), ⟨by omega, all_more hy.out.1 HJ.out.2 (G.out.mpr ⟨by omega, HE1.out.mp (by trivial), (GEs_iff _ _).mpr (all_end hi HI.out.2), HE2.out.mp (by trivial), HE3.out.mp (by trivial)⟩)⟩, ⟨bstep HB.out HC.out⟩⟩
      · go_wp2
        go_ret
        exact NO.out _ (fun p => by have := (G.out.mp p).1; omega) (balloc (brefl _) _)
    · go_wp2
      go_ret
      exact RetB.yes (E.out.mpr (all_end hj HJ.out.2)) HB.out
theorem st_in (x : S43) (h : OkS x) : StC x.f3 ∧ StC x.f4 := by
  induction h with
  | mk x _ hE _ hT _ hF ihT ihF =>
    have pe : ∀ {s : S43}, OkS s → ∀ e ∈ s.f2, OkE e := fun h => by cases h; assumption
    exact ⟨stmts_l x.f3 (fun s hs => pe (hT s hs)) (fun s hs => (ihT s hs).1) (fun s hs => (ihT s hs).2), stmts_l x.f4 (fun s hs => pe (hF s hs)) (fun s hs => (ihF s hs).1) (fun s hs => (ihF s hs).2)⟩
theorem stmts_c (l : List S43) (h : ∀ s ∈ l, OkS s) : StC l := stmts_l l (fun s hs => by have := h s hs; cases this; assumption) (fun s hs => (st_in s (h s hs)).1) (fun s hs => (st_in s (h s hs)).2)
theorem right_c {v : List ByteArray} {a : List S59} {f : List S45} (hp : OkP v a f) (A0 : Option Addr) (c0 : Nat) (A1 : Option Addr) (c1 : Nat) (A2 : Option Addr) (c2 : Nat) (w : World) (hI : InP w v a f A0 c0 A1 c1 A2 c2) (hT : Ext.TAB w) :
    Calls Tryd.prog 16 #[vP v a f A0 c0 A1 c1 A2 c2] w (RetB (GP v a f) w) := by
  obtain ⟨P, E⟩ := name_it (GP v a f)
  refine Calls.mono (R := RetB P w) ?_ fun e w' h => h.iff E.out
  have HP := Aside0.mk hp
  have HI := Aside0.mk hI
  have HT := Aside0.mk hT
  have K := Aside0.mk (fun w' (h : Below w.heap.size w w') => names_c v A0 c0 w' (Kd.C_below hI.1.2 h) (Ext.TAB.below hT h))
  have no : ∀ W, ¬ GP v a f → Below w.heap.size w W → RetB P w (.returned (.bool false)) W := fun W h hB => RetB.no (fun p => h (E.out.mp p)) hB
  have NO := Aside0.mk no
  clear hp hI hT no
  by_cases hn : 1 ≤ f.length ∧ f.length ≤ 64
  · have HN := Aside0.mk hn
    have n1 : ((f.length : Int) < 1) = False := eq_false (by omega)
    have n2 : (64 < (f.length : Int)) = False := eq_false (by omega)
    have n3 : (64 < f.length) = False := eq_false (by omega)
    have n4 : (f.length = 0) = False := eq_false (by omega)
    clear hn
    go_enter Tryd.func16, Tryd.ntmps16
    go_wp2_with (go_at_call 39; go_loud (refine (K.out _ (balloc (brefl _) _)).mono ?_); rintro e w1 ⟨b, rfl, hb, hB⟩; have HB0 := Aside0.mk hB; have HV := Aside0.mk hb; have q1 := box_up hB 1 _ rfl; have q2 := box_up hB 2 _ rfl; clear hb hB; cases b)
    · go_ret
      exact NO.out _ (fun p => absurd (HV.out.mpr p.vars) (by decide)) (bstep (balloc (brefl _) _) HB0.out)
    · go_loopg [26] a.length (fun n v26 wr => ∃ j : Nat, v26 = .int .i64 j ∧ Aside0 (n + j = a.length ∧ ∀ y ∈ a.take j, NameOk y.f0 ∧ 1 ≤ y.f1 ∧ y.f1 ≤ 4096) ∧ Aside0 (Below (w.alloc (bP v a f A0 c0 A1 c1 A2 c2)).heap.size (w.alloc (bP v a f A0 c0 A1 c1 A2 c2)) wr))
      case atStart => exact ⟨0, rfl, ⟨rfl, by simp⟩, HB0⟩
      case round =>
        clear q1 q2
        obtain ⟨j, rfl, HJ, HB⟩ := hrel
        have HW := Aside0.mk (bstep (balloc (brefl w) _) HB.out)
        by_cases hj : j < a.length
        · obtain ⟨ad, pb, po, y, rfl, ea, hlt, x0, x1, hy, p0, q0, ej⟩ := el59 (Kd.C_below HI.out.2.1.2 HW.out) hj
          have K := Aside0.mk (fun w' (h : Below w.heap.size w w') => name_c y.f0 w' (Ext.TAB.below HT.out h))
          by_cases hy1 : 1 ≤ y.f1 ∧ y.f1 ≤ 4096
          · have m1 : (y.f1 < 1) = False := eq_false (by omega)
            have m2 : (4096 < y.f1) = False := eq_false (by omega)
            have HY := Aside0.mk hy1
            clear hy1
            go_wp2_with (go_at_call 40; go_loud (refine (K.out _ (balloc HW.out _)).mono ?_); rintro e w1 ⟨b, rfl, hb, hB⟩; have HB' := Aside0.mk (bstep (balloc HB.out _) hB); have HE := Aside0.mk hb; have q1 := box_up hB 1 _ rfl; clear hb hB; cases b)
            · go_ret
              exact NO.out _ (fun p => absurd (HE.out.mpr (p.arrs y (mem_of hy.out)).1) (by decide)) (bstep (balloc (brefl _) _) HB'.out)
            · go_roundg (a.length - (j + 1))
              case measure => have := HJ.out; omega
              case rel => exact ⟨j + 1, (by first | exact congrArg _ ej | rfl), ⟨by omega, all_more hy.out HJ.out.2 ⟨HE.out.mp (by trivial), HY.out⟩⟩, HB'⟩
          · have HY := Aside0.mk hy1
            clear hy1
            go_wp2_with (go_at_call 40; go_loud (refine (K.out _ (balloc HW.out _)).mono ?_); rintro e w1 ⟨b, rfl, hb, hB⟩; have HB' := Aside0.mk (bstep (balloc HB.out _) hB); have HE := Aside0.mk hb; have q1 := box_up hB 1 _ rfl; clear hb hB; cases b)
            all_goals first | (go_ret; exact NO.out _ (fun p => HY.out (p.arrs y (mem_of hy.out)).2) (bstep (balloc (brefl _) _) HB'.out)) | (exfalso; have := HY.out; omega)
        · have q2 := box_up HB.out 2 _ rfl
          have HA := Aside0.mk (all_end hj HJ.out.2)
          go_wp2
          clear q2
          go_loopg [48] f.length (fun n v48 wr => ∃ j : Nat, v48 = .int .i64 j ∧ Aside0 (n + j = f.length ∧ ∀ y ∈ f.take j, GF y) ∧ Aside0 (Below w.heap.size w wr))
          case atStart => exact ⟨0, rfl, ⟨by simp, by simp⟩, HW⟩
          case round =>
            clear HJ HB HW hj
            obtain ⟨j, rfl, HJ, HB⟩ := hrel
            rename World => w0
            by_cases hj : j < f.length
            · obtain ⟨ad, pb, po, B1, d1, B2, d2, B4, d4, y, rfl, ea, hlt, x0, x1, x2, x3, x4, hy, p0, q0, ej⟩ := el45 (Kd.C_below HI.out.2.2.2 HB.out) hj
              have HF := Aside0.mk (HP.out.each y (mem_of hy.out.1))
              have no : ∀ W, ¬ GF y → Below w0.heap.size w0 W → RetB P w (.returned (.bool false)) W := fun W h hB => NO.out W (fun p => h (p.funcs y (mem_of hy.out.1))) (bstep HB.out hB)
              have NF := Aside0.mk no
              have K1 := Aside0.mk (fun w' (h : Below w0.heap.size w0 w') => name_c y.f0 w' (Ext.TAB.below HT.out (bstep HB.out h)))
              have K2 := Aside0.mk (fun w' (h : Below w0.heap.size w0 w') => names_c y.f1 B1 d1 w' (Kd.C_below hy.out.2.1.2 h) (Ext.TAB.below HT.out (bstep HB.out h)))
              have K3 := Aside0.mk (fun w' (h : Below w0.heap.size w0 w') => names_c y.f2 B2 d2 w' (Kd.C_below hy.out.2.2.1.2 h) (Ext.TAB.below HT.out (bstep HB.out h)))
              have K4 := Aside0.mk (fun w' (h : Below w0.heap.size w0 w') => stmts_c y.f4 HF.out.stmts 1 B4 d4 w' (by decide) (by decide) hy.out.2.2.2.1 (Kd.C_below hy.out.2.2.2.2 h) (Ext.TAB.below HT.out (bstep HB.out h)))
              clear no
              by_cases h6 : y.f1.length ≤ 6
              · have H6 := Aside0.mk h6
                have o1 : (6 < (y.f1.length : Int)) = False := eq_false (by omega)
                have o2 : (6 < y.f1.length) = False := eq_false (by omega)
                clear h6
                go_wp2_with (first | (go_at_call 40; (with_reducible refine (K1.out _ (balloc (brefl _) _)).mono ?_); rintro e w1 ⟨b, rfl, hb, hB⟩; have HB1 := Aside0.mk (bstep (balloc (brefl w0) _) hB); have HE1 := Aside0.mk hb; have q1 := box_up hB 1 _ rfl; have q2 := box_up hB 2 _ rfl; have q4 := box_up hB 4 _ rfl; clear hB hb; cases b) | (go_at_call 39; (with_reducible refine (K2.out _ HB1.out).mono ?_); rintro e w2 ⟨b, rfl, hb, hB⟩; have HB2 := Aside0.mk (bstep HB1.out hB); have HE2 := Aside0.mk hb; have r1 := cell_up hB q1; have r2 := cell_up hB q2; have r4 := cell_up hB q4; clear hB hb; cases b) | (go_at_call 39; (with_reducible refine (K3.out _ HB2.out).mono ?_); rintro e w3 ⟨b, rfl, hb, hB⟩; have HB3 := Aside0.mk (bstep HB2.out hB); have HE3 := Aside0.mk hb; have s1 := cell_up hB r1; have s4 := cell_up hB r4; clear hB hb; cases b) | (go_at_call 41; (with_reducible refine (K4.out _ HB3.out).mono ?_); rintro e w4 ⟨b, rfl, hb, hB⟩; have HB4 := Aside0.mk (bstep HB3.out hB); have HE4 := Aside0.mk hb; clear hB hb; cases b))
                · go_ret
                  exact NF.out _ (fun p => absurd (HE1.out.mpr p.name) (by decide)) HB1.out
                · go_ret
                  exact NF.out _ (fun p => absurd (HE2.out.mpr p.params) (by decide)) HB2.out
                · go_ret
                  exact NF.out _ (fun p => absurd (HE3.out.mpr p.locals) (by decide)) HB3.out
                · go_ret
                  exact NF.out _ (fun p => absurd (HE4.out.mpr p.body) (by decide)) HB4.out
                · go_roundg (f.length - (j + 1))
                  case measure => have := HJ.out; omega
                  case rel => exact ⟨j + 1, (by first | exact congrArg _ ej | rfl), ⟨by omega, all_more hy.out.1 HJ.out.2 ⟨HE1.out.mp (by trivial), H6.out, HE2.out.mp (by trivial), HE3.out.mp (by trivial), HE4.out.mp (by trivial)⟩⟩, ⟨bstep HB.out HB4.out⟩⟩
              · have o1 : (6 < (y.f1.length : Int)) = True := eq_true (by omega)
                have o2 : (6 < y.f1.length) = True := eq_true (by omega)
                have H6 := Aside0.mk (show ¬ GF y from fun p => h6 p.nparams)
                clear h6
                go_wp2_with (first | (go_at_call 40; (with_reducible refine (K1.out _ (balloc (brefl _) _)).mono ?_); rintro e w1 ⟨b, rfl, hb, hB⟩; have HB1 := Aside0.mk (bstep (balloc (brefl w0) _) hB); have q1 := box_up hB 1 _ rfl; have q2 := box_up hB 2 _ rfl; have q4 := box_up hB 4 _ rfl; clear hB hb; cases b) | (go_at_call 39; (with_reducible refine (K2.out _ HB1.out).mono ?_); rintro e w2 ⟨b, rfl, hb, hB⟩; have HB2 := Aside0.mk (bstep HB1.out hB); have r1 := cell_up hB q1; have r2 := cell_up hB q2; have r4 := cell_up hB q4; clear hB hb; cases b) | (go_at_call 39; (with_reducible refine (K3.out _ HB2.out).mono ?_); rintro e w3 ⟨b, rfl, hb, hB⟩; have HB3 := Aside0.mk (bstep HB2.out hB); have s1 := cell_up hB r1; clear hB hb; cases b))
                all_goals go_ret
                all_goals exact NF.out _ H6.out (by first | exact HB3.out | exact HB2.out | exact HB1.out)
            · go_wp2
              go_ret
              exact RetB.yes (E.out.mpr ⟨HV.out.mp (by trivial), HA.out, HN.out.1, HN.out.2, all_end hj HJ.out.2⟩) HB.out
  · go_enter Tryd.func16, Tryd.ntmps16
    go_wp2_with (go_at_call 39; go_loud (refine (K.out _ (balloc (brefl _) _)).mono ?_); rintro e w1 ⟨b, rfl, hb, hB⟩; have HB0 := Aside0.mk (bstep (balloc (brefl w) _) hB); have q2 := box_up hB 2 _ rfl; clear hb hB; cases b)
    all_goals go_ret
    all_goals exact NO.out _ (fun p => hn ⟨p.some, p.few⟩) HB0.out
end Go.Proofs.YthnhdompfhkepaaDoor.Pure
