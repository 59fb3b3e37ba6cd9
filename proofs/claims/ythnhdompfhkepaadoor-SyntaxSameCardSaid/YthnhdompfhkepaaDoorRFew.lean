/- The document's LeftExprs, LeftStmts, short, Few: how many parts are left. -/
import Derived.Test.YthnhdompfhkepaaDoorC0
namespace Go.Proofs.YthnhdompfhkepaaDoor.Pure
open Go Go.RowKit Go.Proofs.YthnhdompfhkepaaDoor.Q Go.Proofs.YthnhdompfhkepaaDoorW.PrintWords Go.Proofs.YthnhdompfhkepaaDoorW.PrintLast Go.Proofs.YthnhdompfhkepaaDoorW.PrintMore
set_option linter.unusedSimpArgs false
set_option linter.unusedVariables false
set_option maxHeartbeats 8000000
set_option maxRecDepth 100000
def LeftR (left : Int) (n : Nat) (r : Int) : Prop := r ≤ left ∧ (-1 ≤ r ∨ r = left) ∧ (0 ≤ r → r + n ≤ left)
def LeftP (left : Int) (n : Nat) (w : World) (e : Ending) (w' : World) : Prop := (∃ r : Int, e = .returned (.int .i64 r) ∧ Aside0 (LeftR left n r)) ∧ Below w.heap.size w w'
theorem cE_kids (x : S36) : cE x = 1 + cEs x.f4 := by cases x; rfl
theorem cS_parts (x : S43) : cS x = 1 + cEs x.f2 + cSs x.f3 + cSs x.f4 := by cases x; rfl
theorem leftR_b {q r left : Int} {n : Nat} (h0 : 0 ≤ q) (h1 : q ≤ left) (h2 : left ≤ 1000000) (h : LeftR (q - 1) n r) : Aside0 (-1000000 ≤ r ∧ r ≤ 1000000) := ⟨by unfold LeftR at h; omega⟩
theorem leftR_b2 {q r : Int} {n : Nat} (h0 : -1000000 ≤ q ∧ q ≤ 1000000) (h : LeftR q n r) : Aside0 (-1000000 ≤ r ∧ r ≤ 1000000) := ⟨by unfold LeftR at h; omega⟩
abbrev LeE (l : List S36) : Prop := ∀ (left deep : Int) (A : Option Addr) (c : Nat) (w : World), -1000000 ≤ left → left ≤ 1000000 → 0 ≤ deep → deep ≤ 1000 → Kd.C k36 w A l.length l → Calls Tryd.prog 22 #[.slice A l.length c, .int .i64 left, .int .i64 deep] w (LeftP left (cEs l) w)
theorem leftE_l (l : List S36) (ih : ∀ y ∈ l, LeE y.f4) : LeE l := by
  intro left deep A c w b0 b1 d0 d1 hR
  have HR := Aside0.mk hR
  have IH := Aside0.mk ih
  clear hR ih
  go_enter Tryd.func22, Tryd.ntmps22
  go_wp2
  go_loopg [1, 7] l.length (fun n v1 v7 wr => ∃ (j : Nat) (q : Int), v7 = .int .i64 j ∧ v1 = .int .i64 q ∧ Aside0 (n + j = l.length ∧ LeftR left (cEs (l.take j)) q) ∧ Aside0 (Below w.heap.size w wr))
  case atStart => exact ⟨0, left, rfl, rfl, ⟨by simp, by omega, by omega, by simp [cEs]⟩, ⟨brefl _⟩⟩
  case round =>
    obtain ⟨j, q, rfl, rfl, HJ, HB⟩ := hrel
    by_cases hj : j < l.length
    · by_cases hq : 0 ≤ q
      · obtain ⟨ad, pb, po, A4, c4, x, rfl, ea, hlt, x0, x1, x2, x3, x4, hx, p0, q0, ej⟩ := el36 (Kd.C_below HR.out HB.out) hj
        have HQ := Aside0.mk hq
        have g0 : (0 ≤ q) = True := eq_true hq
        have hs : wrap64 (q - 1) = q - 1 := wid (by have := HJ.out.2.1; omega)
        clear hq
        by_cases hd : deep ≤ 0
        · have g1 : (deep ≤ 0) = True := eq_true hd
          clear hd
          go_wp2
          go_ret
          exact ⟨⟨-1, rfl, ⟨by have := HJ.out.2.1; have := HQ.out; omega, by omega, by omega⟩⟩, HB.out⟩
        · have g1 : (deep ≤ 0) = False := eq_false hd
          have HD := Aside0.mk hd
          have hs2 : wrap64 (deep - 1) = deep - 1 := wid (by omega)
          clear hd
          by_cases hn : 60 < x.f3.size
          · have g2 : (60 < (x.f3.size : Int)) = True := eq_true (by omega)
            have g3 : (60 < x.f3.size) = True := eq_true hn
            clear hn
            go_wp2
            go_ret
            exact ⟨⟨-1, rfl, ⟨by have := HJ.out.2.1; have := HQ.out; omega, by omega, by omega⟩⟩, HB.out⟩
          · have g2 : (60 < (x.f3.size : Int)) = False := eq_false (by omega)
            have g3 : (60 < x.f3.size) = False := eq_false hn
            clear hn
            go_wp2_with (go_at_call 22; go_loud (refine (IH.out x (mem_of hx.out.1) (q - 1) (deep - 1) A4 c4 _ (by have := HQ.out; omega) (by have := HJ.out.2.1; omega) (by have := HD.out; omega) (by omega) hx.out.2.2).mono ?_); rintro e w' ⟨⟨r, rfl, hr⟩, hB⟩; have HB' := Aside0.mk (bstep HB.out hB); clear hB)
            go_roundg (l.length - (j + 1))
            case measure => have := HJ.out.1; omega
            case rel =>
              exact ⟨j + 1, r, (by first | exact congrArg _ ej | rfl), rfl, ⟨by omega, by
                have h1 := hr.out
                have h2 := HJ.out.2
                have h3 := cEs_step hx.out.1
                have h4 := cE_kids x
                have h5 := HQ.out
                unfold LeftR at *
                omega⟩, HB'⟩
      · have g0 : (0 ≤ q) = False := eq_false hq
        have HQ := Aside0.mk hq
        clear hq
        go_wp2
        go_ret
        exact ⟨⟨q, rfl, ⟨by have := HJ.out.2; have := HQ.out; unfold LeftR at *; omega⟩⟩, HB.out⟩
    · go_wp2
      go_ret
      exact ⟨⟨q, rfl, ⟨by have := HJ.out.2; rwa [take_all hj] at this⟩⟩, HB.out⟩
theorem leftE (x : S36) (hx : OkE x) : LeE x.f4 := by
  induction hx with
  | mk x _ _ _ _ ih => exact leftE_l x.f4 ih
abbrev LeS (l : List S43) : Prop := ∀ (left deep : Int) (A : Option Addr) (c : Nat) (w : World), -1000000 ≤ left → left ≤ 1000000 → 0 ≤ deep → deep ≤ 1000 → Kd.C k43 w A l.length l → Calls Tryd.prog 38 #[.slice A l.length c, .int .i64 left, .int .i64 deep] w (LeftP left (cSs l) w)
theorem leftS_l (l : List S43) (ihE : ∀ y ∈ l, LeE y.f2) (ih3 : ∀ y ∈ l, LeS y.f3) (ih4 : ∀ y ∈ l, LeS y.f4) : LeS l := by
  intro left deep A c w b0 b1 d0 d1 hR
  have HR := Aside0.mk hR
  have IHE := Aside0.mk ihE
  have IH3 := Aside0.mk ih3
  have IH4 := Aside0.mk ih4
  clear hR ihE ih3 ih4
  go_enter Tryd.func38, Tryd.ntmps38
  go_wp2
  go_loopg [1, 7] l.length (fun n v1 v7 wr => ∃ (j : Nat) (q : Int), v7 = .int .i64 j ∧ v1 = .int .i64 q ∧ Aside0 (n + j = l.length ∧ LeftR left (cSs (l.take j)) q) ∧ Aside0 (Below w.heap.size w wr))
  case atStart => exact ⟨0, left, rfl, rfl, ⟨by simp, by omega, by omega, by simp [cSs]⟩, ⟨brefl _⟩⟩
  case round =>
    obtain ⟨j, q, rfl, rfl, HJ, HB⟩ := hrel
    by_cases hj : j < l.length
    · by_cases hq : 0 ≤ q
      · obtain ⟨ad, pb, po, A2, c2, A3, c3, A4, c4, x, rfl, ea, hlt, x0, x1, x2, x3, x4, hx, p0, q0, ej⟩ := el43 (Kd.C_below HR.out HB.out) hj
        have HQ := Aside0.mk hq
        have g0 : (0 ≤ q) = True := eq_true hq
        have hs : wrap64 (q - 1) = q - 1 := wid (by have := HJ.out.2.1; omega)
        clear hq
        by_cases hd : deep ≤ 0
        · have g1 : (deep ≤ 0) = True := eq_true hd
          clear hd
          go_wp2
          go_ret
          exact ⟨⟨-1, rfl, ⟨by have := HJ.out.2.1; have := HQ.out; omega, by omega, by omega⟩⟩, HB.out⟩
        · have g1 : (deep ≤ 0) = False := eq_false hd
          have HD := Aside0.mk hd
          have hs2 : wrap64 (deep - 1) = deep - 1 := wid (by omega)
          clear hd
          by_cases hn : 60 < x.f1.size
          · have g2 : (60 < (x.f1.size : Int)) = True := eq_true (by omega)
            have g3 : (60 < x.f1.size) = True := eq_true hn
            clear hn
            go_wp2
            go_ret
            exact ⟨⟨-1, rfl, ⟨by have := HJ.out.2.1; have := HQ.out; omega, by omega, by omega⟩⟩, HB.out⟩
          · have g2 : (60 < (x.f1.size : Int)) = False := eq_false (by omega)
            have g3 : (60 < x.f1.size) = False := eq_false hn
            have hm := mem_of hx.out.1
            have hI := hx.out.2
            have XE : Aside0 (∀ q', -1000000 ≤ q' → q' ≤ 1000000 → ∀ w', Below _ _ w' → Calls Tryd.prog 22 #[.slice A2 x.f2.length c2, .int .i64 q', .int .i64 (deep - 1)] w' (LeftP q' (cEs x.f2) w')) := ⟨fun q' g g' w' hb => IHE.out x hm q' (deep - 1) A2 c2 w' g g' (by have := HD.out; omega) (by omega) (Kd.C_below hI.1.2 hb)⟩
            have X3 : Aside0 (∀ q', -1000000 ≤ q' → q' ≤ 1000000 → ∀ w', Below _ _ w' → Calls Tryd.prog 38 #[.slice A3 x.f3.length c3, .int .i64 q', .int .i64 (deep - 1)] w' (LeftP q' (cSs x.f3) w')) := ⟨fun q' g g' w' hb => IH3.out x hm q' (deep - 1) A3 c3 w' g g' (by have := HD.out; omega) (by omega) (Kd.C_below hI.2.1.2 hb)⟩
            have X4 : Aside0 (∀ q', -1000000 ≤ q' → q' ≤ 1000000 → ∀ w', Below _ _ w' → Calls Tryd.prog 38 #[.slice A4 x.f4.length c4, .int .i64 q', .int .i64 (deep - 1)] w' (LeftP q' (cSs x.f4) w')) := ⟨fun q' g g' w' hb => IH4.out x hm q' (deep - 1) A4 c4 w' g g' (by have := HD.out; omega) (by omega) (Kd.C_below hI.2.2.2 hb)⟩
            clear hn hm hI
            go_wp2_with (first | (go_at_call 22; go_loud (refine (XE.out (q - 1) (by have := HQ.out; omega) (by have := HJ.out.2.1; omega) _ (brefl _)).mono ?_); rintro e w1 ⟨⟨r1, rfl, h1⟩, hB⟩; have HB1 := Aside0.mk hB; have H1 := Aside0.mk h1.out; have B1 : Aside0 (-1000000 ≤ r1 ∧ r1 ≤ 1000000) := (leftR_b HQ.out HJ.out.2.1 b1 h1.out); replace x3 := cell_up hB x3; replace x4 := cell_up hB x4; clear hB h1) | (go_at_call 38; (with_reducible refine (X3.out r1 B1.out.1 B1.out.2 _ HB1.out).mono ?_); rintro e w2 ⟨⟨r2, rfl, h2⟩, hB⟩; have HB2 := Aside0.mk (bstep HB1.out hB); have H2 := Aside0.mk h2.out; have B2 : Aside0 (-1000000 ≤ r2 ∧ r2 ≤ 1000000) := (leftR_b2 B1.out h2.out); replace x4 := cell_up hB x4; clear hB h2) | (go_at_call 38; (with_reducible refine (X4.out r2 B2.out.1 B2.out.2 _ HB2.out).mono ?_); rintro e w3 ⟨⟨r3, rfl, h3⟩, hB⟩; have HB3 := Aside0.mk (bstep HB2.out hB); have H3 := Aside0.mk h3.out; clear hB h3))
            go_roundg (l.length - (j + 1))
            case measure => have := HJ.out.1; omega
            case rel =>
              exact ⟨j + 1, r3, (by first | exact congrArg _ ej | rfl), rfl, ⟨by omega, by
                have h1 := H1.out
                have h2 := H2.out
                have h3 := H3.out
                have h4 := HJ.out.2
                have h5 := cSs_step hx.out.1
                have h6 := cS_parts x
                have h7 := HQ.out
                unfold LeftR at *
                omega⟩, ⟨bstep HB.out HB3.out⟩⟩
      · have g0 : (0 ≤ q) = False := eq_false hq
        have HQ := Aside0.mk hq
        clear hq
        go_wp2
        go_ret
        exact ⟨⟨q, rfl, ⟨by have := HJ.out.2; have := HQ.out; unfold LeftR at *; omega⟩⟩, HB.out⟩
    · go_wp2
      go_ret
      exact ⟨⟨q, rfl, ⟨by have := HJ.out.2; rwa [take_all hj] at this⟩⟩, HB.out⟩
theorem OkS_E {s : S43} (h : OkS s) : ∀ e ∈ s.f2, OkE e := by cases h; assumption
theorem leE (l : List S36) (h : ∀ e ∈ l, OkE e) : LeE l := leftE_l l fun y hy => leftE y (h y hy)
theorem leftS (x : S43) (h : OkS x) : LeS x.f3 ∧ LeS x.f4 := by
  induction h with
  | mk x _ hE _ hT _ hF ihT ihF =>
    exact ⟨leftS_l x.f3 (fun s hs => leE s.f2 (OkS_E (hT s hs))) (fun s hs => (ihT s hs).1) (fun s hs => (ihT s hs).2), leftS_l x.f4 (fun s hs => leE s.f2 (OkS_E (hF s hs))) (fun s hs => (ihF s hs).1) (fun s hs => (ihF s hs).2)⟩
theorem leS (l : List S43) (h : ∀ s ∈ l, OkS s) : LeS l := leftS_l l (fun s hs => leE s.f2 (OkS_E (h s hs))) (fun s hs => (leftS s (h s hs)).1) (fun s hs => (leftS s (h s hs)).2)
theorem short_c (l : List ByteArray) (A : Option Addr) (c : Nat) (w : World) (hR : Kd.C Kd.string w A l.length l) : Calls Tryd.prog 37 #[.slice A l.length c] w (RetB ((∀ s ∈ l, s.size ≤ 60) ∧ l.length ≤ 200) w) := by
  obtain ⟨P, E⟩ := name_it ((∀ s ∈ l, s.size ≤ 60) ∧ l.length ≤ 200)
  refine Calls.mono (R := RetB P w) ?_ fun e w' h => h.iff E.out
  have HR := Aside0.mk hR
  clear hR
  go_enter Tryd.func37, Tryd.ntmps37
  go_wp2
  go_loopg [3] l.length (fun n v3 wr => ∃ j : Nat, v3 = .int .i64 j ∧ Aside0 (n + j = l.length ∧ ∀ s ∈ l.take j, s.size ≤ 60) ∧ Aside0 (Below w.heap.size w wr))
  case atStart => exact ⟨0, rfl, ⟨by simp, by simp⟩, ⟨brefl _⟩⟩
  case round =>
    obtain ⟨j, rfl, HJ, HB⟩ := hrel
    by_cases hj : j < l.length
    · obtain ⟨ad, pb, po, x, rfl, ea, hlt, x0, hx, p0, q0, ej⟩ := elS (Kd.C_below HR.out HB.out) hj
      by_cases hn : 60 < x.size
      · have g2 : (60 < (x.size : Int)) = True := eq_true (by omega)
        have g3 : (60 < x.size) = True := eq_true hn
        have HN := Aside0.mk hn
        clear hn
        go_wp2
        go_ret
        exact RetB.no (fun p => by have := (E.out.mp p).1 x (mem_of hx.out); have := HN.out; omega) HB.out
      · have g2 : (60 < (x.size : Int)) = False := eq_false (by omega)
        have g3 : (60 < x.size) = False := eq_false hn
        have HN := Aside0.mk (show x.size ≤ 60 by omega)
        clear hn
        go_wp2
        go_roundg (l.length - (j + 1))
        case measure => have := HJ.out; omega
        case rel => exact ⟨j + 1, (by first | exact congrArg _ ej | rfl), ⟨by omega, all_more hx.out HJ.out.2 HN.out⟩, HB⟩
    · go_wp2
      go_ret
      have h := all_end hj HJ.out.2
      refine ⟨_, rfl, ?_, HB.out⟩
      rw [E.out, decide_eq_true_iff]
      exact ⟨fun h2 => ⟨h, by omega⟩, fun h2 => by have := h2.2; omega⟩
theorem few_c {v : List ByteArray} {a : List S59} {f : List S45} (hp : OkP v a f) (most : Int) (m0 : 0 ≤ most) (m1 : most ≤ 1000) (A0 : Option Addr) (c0 : Nat) (A1 : Option Addr) (c1 : Nat) (A2 : Option Addr) (c2 : Nat) (w : World) (hI : InP w v a f A0 c0 A1 c1 A2 c2) :
    Calls Tryd.prog 15 #[vP v a f A0 c0 A1 c1 A2 c2, .int .i64 most] w (RetT ((parts v a f : Int) ≤ most) w) := by
  obtain ⟨P, E⟩ := name_it ((parts v a f : Int) ≤ most)
  refine Calls.mono (R := RetT P w) ?_ fun e w' ⟨b, h1, h2, h3⟩ => ⟨b, h1, fun h => E.out.mp (h2 h), h3⟩
  have HP := Aside0.mk hp
  have HI := Aside0.mk hI
  have K := Aside0.mk (fun w' (h : Below w.heap.size w w') => short_c v A0 c0 w' (Kd.C_below hI.1.2 h))
  clear hp hI
  by_cases hn : a.length ≤ 200 ∧ f.length ≤ 70
  · have HN := Aside0.mk hn
    have n1 : (200 < (a.length : Int)) = False := eq_false (by omega)
    have n2 : (200 < a.length) = False := eq_false (by omega)
    have n3 : (70 < (f.length : Int)) = False := eq_false (by omega)
    have n4 : (70 < f.length) = False := eq_false (by omega)
    by_cases hv : v.length ≤ 200
    · have HV := Aside0.mk hv
      have e1 : wrap64 (most - (v.length : Int)) = most - v.length := wid (by omega)
      have e2 : wrap64 (most - (v.length : Int) - (a.length : Int)) = most - v.length - a.length := wid (by omega)
      have e3 : wrap64 (most - (v.length : Int) - (a.length : Int) - (f.length : Int)) = most - v.length - a.length - f.length := wid (by omega)
      clear hn hv
      go_enter Tryd.func15, Tryd.ntmps15
      go_wp2_with (go_at_call 37; go_loud (refine (K.out _ (balloc (brefl _) _)).mono ?_); rintro e w1 ⟨b, rfl, hb, hB⟩; have HB0 := Aside0.mk hB; have q0 := box_up hB 0 _ rfl; have q1 := box_up hB 1 _ rfl; have q2 := box_up hB 2 _ rfl; clear hb hB; cases b)
      · go_ret
        exact RetT.no (bstep (balloc (brefl _) _) HB0.out)
      · clear q0 q1 q2
        go_loopg [6] a.length (fun n v6 wr => ∃ j : Nat, v6 = .int .i64 j ∧ Aside0 (n + j = a.length) ∧ Aside0 (Below (w.alloc (bP v a f A0 c0 A1 c1 A2 c2)).heap.size (w.alloc (bP v a f A0 c0 A1 c1 A2 c2)) wr))
        case atStart => exact ⟨0, rfl, ⟨by simp⟩, HB0⟩
        case round =>
          obtain ⟨j, rfl, HJ, HB⟩ := hrel
          have HW := Aside0.mk (bstep (balloc (brefl w) _) HB.out)
          have q1 := box_up HB.out 1 _ rfl
          by_cases hj : j < a.length
          · obtain ⟨ad, pb, po, y, rfl, ea, hlt, x0, x1, hy, p0, z0, ej⟩ := el59 (Kd.C_below HI.out.2.1.2 HW.out) hj
            by_cases hy1 : 60 < y.f0.size
            · have g1 : (60 < (y.f0.size : Int)) = True := eq_true (by omega)
              have g2 : (60 < y.f0.size) = True := eq_true hy1
              clear hy1
              go_wp2
              go_ret
              exact RetT.no HW.out
            · have g1 : (60 < (y.f0.size : Int)) = False := eq_false (by omega)
              have g2 : (60 < y.f0.size) = False := eq_false hy1
              clear hy1
              go_wp2
              go_roundg (a.length - (j + 1))
              case measure => have := HJ.out; omega
              case rel => exact ⟨j + 1, (by first | exact congrArg _ ej | rfl), ⟨by omega⟩, HB⟩
          · go_wp2
            have L0 := Aside0.mk e3
            clear e1 e2 e3 q1
            go_loopg [5, 7] f.length (fun n v5 v7 wr => ∃ (j : Nat) (q : Int), v7 = .int .i64 j ∧ v5 = .int .i64 q ∧ Aside0 (n + j = f.length ∧ -1000 - 500 * (j : Int) ≤ q ∧ q ≤ most - v.length - a.length - f.length ∧ (0 ≤ q → q + (inF (f.take j) : Int) ≤ most - v.length - a.length - f.length)) ∧ Aside0 (Below (w.alloc (bP v a f A0 c0 A1 c1 A2 c2)).heap.size (w.alloc (bP v a f A0 c0 A1 c1 A2 c2)) wr))
            case atStart => exact ⟨0, _, rfl, congrArg _ L0.out, ⟨by simp, by have := HN.out; have := HV.out; omega, by omega, by simp [inF]⟩, HB⟩
            case round =>
              clear HJ HB HW hj
              obtain ⟨j, q, rfl, rfl, HJ, HB0⟩ := hrel
              rename World => w0
              have HB := Aside0.mk (bstep (balloc (brefl w) _) HB0.out)
              have z2 := box_up HB0.out 2 _ rfl
              by_cases hj : j < f.length
              · obtain ⟨ad, pb, po, B1, d1, B2, d2, B4, d4, y, rfl, ea, hlt, x0, x1, x2, x3, x4, hy, p0, q0, ej⟩ := el45 (Kd.C_below HI.out.2.2.2 HB.out) hj
                have HF := Aside0.mk (HP.out.each y (mem_of hy.out.1))
                have K2 := Aside0.mk (fun w' (h : Below w0.heap.size w0 w') => short_c y.f1 B1 d1 w' (Kd.C_below hy.out.2.1.2 h))
                have K3 := Aside0.mk (fun w' (h : Below w0.heap.size w0 w') => short_c y.f2 B2 d2 w' (Kd.C_below hy.out.2.2.1.2 h))
                by_cases hs : y.f1.length ≤ 200 ∧ y.f2.length ≤ 200
                · have HS := Aside0.mk hs
                  have hjj : j < 70 := by have := HN.out; omega
                  have s1 : wrap64 (q - (y.f1.length : Int)) = q - y.f1.length := wid (by have := HJ.out; omega)
                  have s2 : wrap64 (q - (y.f1.length : Int) - (y.f2.length : Int)) = q - y.f1.length - y.f2.length := wid (by have := HJ.out; omega)
                  have HB' := Aside0.mk (And.intro (show -1000000 ≤ q - (y.f1.length : Int) - y.f2.length by have := HJ.out; omega) (show q - (y.f1.length : Int) - y.f2.length ≤ 1000000 by have := HJ.out; omega))
                  have K4 := Aside0.mk (fun w' (h : Below w0.heap.size w0 w') => leS y.f4 HF.out.stmts (q - y.f1.length - y.f2.length) 60 B4 d4 w' HB'.out.1 HB'.out.2 (by decide) (by decide) (Kd.C_below hy.out.2.2.2.2 h))
                  clear hs hjj
                  by_cases hy1 : 60 < y.f0.size
                  · have g1 : (60 < (y.f0.size : Int)) = True := eq_true (by omega)
                    have g2 : (60 < y.f0.size) = True := eq_true hy1
                    clear hy1
                    go_wp2_with (first | (go_at_call 37; (with_reducible refine (K2.out _ (balloc (brefl _) _)).mono ?_); rintro e w2 ⟨b, rfl, hb, hB⟩; have HB2 := Aside0.mk (bstep (balloc (brefl w0) _) hB); have r0 := box_up hB 0 _ rfl; have r2 := box_up hB 2 _ rfl; clear hB hb; cases b) | (go_at_call 37; (with_reducible refine (K3.out _ HB2.out).mono ?_); rintro e w3 ⟨b, rfl, hb, hB⟩; have HB3 := Aside0.mk (bstep HB2.out hB); have u0 := cell_up hB r0; clear hB hb; cases b))
                    all_goals go_ret
                    all_goals exact RetT.no (bstep HB.out (by first | exact HB3.out | exact HB2.out))
                  · have g1 : (60 < (y.f0.size : Int)) = False := eq_false (by omega)
                    have g2 : (60 < y.f0.size) = False := eq_false hy1
                    clear hy1
                    go_wp2_with (first | (go_at_call 37; (with_reducible refine (K2.out _ (balloc (brefl _) _)).mono ?_); rintro e w2 ⟨b, rfl, hb, hB⟩; have HB2 := Aside0.mk (bstep (balloc (brefl w0) _) hB); have HZ2 := Aside0.mk (bstep (balloc HB0.out _) hB); have r0 := box_up hB 0 _ rfl; have r1 := box_up hB 1 _ rfl; have r2 := box_up hB 2 _ rfl; have r4 := box_up hB 4 _ rfl; clear hB hb; cases b) | (go_at_call 37; (with_reducible refine (K3.out _ HB2.out).mono ?_); rintro e w3 ⟨b, rfl, hb, hB⟩; have HB3 := Aside0.mk (bstep HB2.out hB); have HZ3 := Aside0.mk (bstep HZ2.out hB); have u0 := cell_up hB r0; have u1 := cell_up hB r1; have u2 := cell_up hB r2; have u4 := cell_up hB r4; clear hB hb; cases b) | (go_at_call 38; (with_reducible refine (K4.out _ HB3.out).mono ?_); rintro e w4 ⟨⟨r, rfl, hr⟩, hB⟩; have HZ4 := Aside0.mk (bstep HZ3.out hB); clear hB))
                    · go_ret
                      exact RetT.no (bstep HB.out HB2.out)
                    · go_ret
                      exact RetT.no (bstep HB.out HB3.out)
                    · go_roundg (f.length - (j + 1))
                      case measure => have := HJ.out; omega
                      case rel =>
                        exact ⟨j + 1, r, (by first | exact congrArg _ ej | rfl), rfl, ⟨by omega, by have h1 := hr.out; have h2 := HJ.out; have h3 := HS.out; unfold LeftR at h1; omega, by have h1 := hr.out; have h2 := HJ.out; unfold LeftR at h1; omega, by
                          have h1 := hr.out
                          have h2 := HJ.out
                          have h3 := (inF_step hy.out.1).1
                          unfold cF at h3
                          unfold LeftR at h1
                          omega⟩, HZ4⟩
                · have HS := Aside0.mk hs
                  clear hs
                  go_wp2_with (first | (go_at_call 37; (with_reducible refine (K2.out _ (balloc (brefl _) _)).mono ?_); rintro e w2 ⟨b, rfl, hb, hB⟩; have HB2 := Aside0.mk (bstep (balloc (brefl w0) _) hB); have HE2 := Aside0.mk hb; have r2 := box_up hB 2 _ rfl; clear hB hb; cases b) | (go_at_call 37; (with_reducible refine (K3.out _ HB2.out).mono ?_); rintro e w3 ⟨b, rfl, hb, hB⟩; have HB3 := Aside0.mk (bstep HB2.out hB); have HE3 := Aside0.mk hb; clear hB hb; cases b))
                  all_goals first | (exfalso; exact HS.out ⟨(HE2.out.mp (by trivial)).2, (HE3.out.mp (by trivial)).2⟩) | (go_ret; exact RetT.no (bstep HB.out (by first | exact HB3.out | exact HB2.out)))
              · go_wp2
                go_ret
                refine ⟨_, rfl, fun h => E.out.mpr ?_, HB.out⟩
                have h1 := HJ.out
                rw [take_all hj] at h1
                have h2 := of_decide_eq_true h
                unfold parts
                omega
    · go_enter Tryd.func15, Tryd.ntmps15
      go_wp2_with (go_at_call 37; go_loud (refine (K.out _ (balloc (brefl _) _)).mono ?_); rintro e w1 ⟨b, rfl, hb, hB⟩; have HB0 := Aside0.mk hB; have HE0 := Aside0.mk hb; have q0 := box_up hB 0 _ rfl; have q1 := box_up hB 1 _ rfl; have q2 := box_up hB 2 _ rfl; clear hb hB; cases b)
      · go_ret
        exact RetT.no (bstep (balloc (brefl _) _) HB0.out)
      · exact absurd (HE0.out.mp (by trivial)).2 hv
  · go_enter Tryd.func15, Tryd.ntmps15
    go_wp2_with (go_at_call 37; go_loud (refine (K.out _ (balloc (brefl _) _)).mono ?_); rintro e w1 ⟨b, rfl, hb, hB⟩; have HB0 := Aside0.mk (bstep (balloc (brefl w) _) hB); have q1 := box_up hB 1 _ rfl; have q2 := box_up hB 2 _ rfl; clear hb hB; cases b)
    all_goals first | (exfalso; omega) | (go_ret; exact RetT.no HB0.out)
end Go.Proofs.YthnhdompfhkepaaDoor.Pure
