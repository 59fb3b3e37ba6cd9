/- syntax.exprSize, stmtsSize, Size: how many parts. -/
import Derived.Test.YthnhdompfhkepaaDoorC0
namespace Go.Proofs.YthnhdompfhkepaaDoor.Pure
open Go Go.RowKit Go.Proofs.YthnhdompfhkepaaDoor.Q Go.Proofs.YthnhdompfhkepaaDoorW.PrintWords Go.Proofs.YthnhdompfhkepaaDoorW.PrintLast Go.Proofs.YthnhdompfhkepaaDoorW.PrintMore
set_option linter.unusedSimpArgs false
set_option linter.unusedVariables false
set_option maxHeartbeats 8000000
set_option maxRecDepth 100000
theorem exprSize_c (x : S36) (hx : OkE x) : cE x ≤ 1000000000 → ∀ A c w, InE w x A c → Calls Tryd.prog 75 #[vE x A c] w (RetI (cE x) w) := by
  induction hx with
  | mk x _ _ hl _ ih =>
    intro hc A c w hI
    obtain ⟨f0, f1, f2, f3, l⟩ := x
    simp only [cE] at hc ih hl hI ⊢
    have IH := Aside0.mk ih
    have HI := Aside0.mk hI
    clear ih hl hI
    go_enter Tryd.func75, Tryd.ntmps75
    go_wp2
    go_loopg [3, 9] l.length (fun n v3 v9 wr => ∃ j : Nat, v9 = .int .i64 j ∧ v3 = .int .i64 ((1 + cEs (l.take j) : Nat) : Int) ∧ Aside0 (n + j = l.length) ∧ Aside0 (Below w.heap.size w wr))
    case atStart => exact ⟨0, rfl, rfl, ⟨rfl⟩, ⟨balloc (brefl _) _⟩⟩
    case round =>
      obtain ⟨j, rfl, rfl, HJ, HB⟩ := hrel
      by_cases hj : j < l.length
      · obtain ⟨ad, pb, po, A4, c4, y, rfl, ea, hlt, x0, x1, x2, x3, x4, hy, p0, q0, ej⟩ := el36 (l := l) (HI.out.up HB.out).2 hj
        have HS := Aside0.mk (cEs_step hy.out.1)
        go_wp2_with (go_at_call 75; go_loud (refine (IH.out y (mem_of hy.out.1) (by have := HS.out; omega) A4 c4 _ (hy.out.2.up (balloc (brefl _) _))).mono ?_); rintro e w' ⟨rfl, hB⟩; have HB' := Aside0.mk (bstep (balloc HB.out _) hB); clear hB)
        go_roundg (gk - 1)
        case measure => have := HJ.out; omega
        case rel => exact ⟨j + 1, congrArg _ ej, congrArg _ (by have := HS.out; unfold wrap64; omega), ⟨by have := HJ.out; omega⟩, HB'⟩
      · go_wp2
        go_ret
        exact ⟨by rw [take_all hj]; rfl, HB.out⟩
abbrev Sz (l : List S43) : Prop := cSs l ≤ 1000000000 → ∀ A c w, l.length ≤ c → Kd.C k43 w A l.length l → Calls Tryd.prog 47 #[.slice A l.length c] w (RetI (cSs l) w)
theorem cS_eq (x : S43) : cS x = 1 + cEs x.f2 + cSs x.f3 + cSs x.f4 := by cases x; rfl
theorem stmtsSize_l (l : List S43) (hE : ∀ s ∈ l, ∀ e ∈ s.f2, OkE e) (ih3 : ∀ s ∈ l, Sz s.f3) (ih4 : ∀ s ∈ l, Sz s.f4) : Sz l := by
  intro hc A c w hcap hR
  have HE := Aside0.mk hE
  have IH3 := Aside0.mk ih3
  have IH4 := Aside0.mk ih4
  have HR := Aside0.mk hR
  have HM := Aside0.mk (Kd.C_max hR)
  clear hE ih3 ih4 hR
  go_enter Tryd.func47, Tryd.ntmps47
  go_wp2
  go_loopg [3, 12] l.length (fun n v3 v12 wr => ∃ j : Nat, v12 = .int .i64 j ∧ v3 = .int .i64 ((l.length + cSs (l.take j) : Nat) - (j : Int)) ∧ Aside0 (n + j = l.length) ∧ Aside0 (Below w.heap.size w wr))
  case atStart => exact ⟨0, rfl, congrArg _ (by simp [cSs]), ⟨rfl⟩, ⟨brefl _⟩⟩
  case round =>
    obtain ⟨j, rfl, rfl, HJ, HB⟩ := hrel
    rename World => w0
    by_cases hj : j < l.length
    · obtain ⟨ad, pb, po, A2, c2, A3, c3, A4, c4, y, rfl, ea, hlt, x0, x1, x2, x3, x4, hy, p0, q0, ej⟩ := el43 (Kd.C_below HR.out HB.out) hj
      have HS := Aside0.mk (And.intro (cSs_step hy.out.1) (And.intro (cS_eq y) (And.intro hj (cSs_len l))))
      go_wp2
      go_loopg [3, 19] y.f2.length (fun n v3 v19 wi => ∃ i : Nat, v19 = .int .i64 i ∧ v3 = .int .i64 ((l.length + cSs (l.take j) + cEs (y.f2.take i) : Nat) - (j : Int)) ∧ Aside0 (n + i = y.f2.length) ∧ Aside0 (Below (w0.alloc (bS y A2 c2 A3 c3 A4 c4)).heap.size (w0.alloc (bS y A2 c2 A3 c3 A4 c4)) wi))
      case atStart => exact ⟨0, rfl, congrArg _ (by simp [cEs]), ⟨by simp⟩, ⟨brefl _⟩⟩
      case round =>
        clear x0 x1 x2 x3 x4 p0 q0 ea hlt
        obtain ⟨i, rfl, rfl, HI, HC⟩ := hrel
        by_cases hi : i < y.f2.length
        · obtain ⟨ad2, pb2, po2, B4, d4, z, e2, ea, hlt, x0, x1, x2, x3, x4, hz, p0, q0, ei⟩ := el36 (Kd.C_below hy.out.2.1.2 (bstep (balloc (brefl _) _) HC.out)) hi
          cases e2
          have HT := Aside0.mk (cEs_step hz.out.1)
          go_wp2_with (go_at_call 75; go_loud (refine (exprSize_c z (HE.out _ (mem_of hy.out.1) z (mem_of hz.out.1)) (by have := HS.out; have := HT.out; omega) B4 d4 _ (hz.out.2.up (balloc (brefl _) _))).mono ?_); rintro e w' ⟨rfl, hB⟩; have HC' := Aside0.mk (bstep (balloc HC.out _) hB); clear hB)
          go_roundg (gk - 1)
          case measure => have := HI.out; omega
          case rel => exact ⟨i + 1, congrArg _ ei, congrArg _ (by have := HS.out; have := HT.out; have := HM.out; unfold wrap64; omega), ⟨by have := HI.out; omega⟩, HC'⟩
        · have y3 := box_up HC.out 3 (.slice A3 y.f3.length c3) rfl
          have y4 := box_up HC.out 4 (.slice A4 y.f4.length c4) rfl
          go_wp2
          have HD := Aside0.mk (bdrew HC.out)
          have C3 := Aside0.mk (fun (w' : World) (h : w'.cell? ⟨w0.heap.size, 3, none⟩ = some (.slice A3 y.f3.length c3) ∧ w'.cell? ⟨w0.heap.size, 4, none⟩ = some (.slice A4 y.f4.length c4) ∧ Aside0 (Below (w0.alloc (bS y A2 c2 A3 c3 A4 c4)).heap.size (w0.alloc (bS y A2 c2 A3 c3 A4 c4)) w')) => (IH3.out y (mem_of hy.out.1) (by have := HS.out; omega) A3 c3 w' hy.out.2.2.1.1 (Kd.C_below hy.out.2.2.1.2 (bstep (balloc (brefl _) _) h.2.2.out))))
          have C4 := Aside0.mk (fun (w' : World) (h : w'.cell? ⟨w0.heap.size, 3, none⟩ = some (.slice A3 y.f3.length c3) ∧ w'.cell? ⟨w0.heap.size, 4, none⟩ = some (.slice A4 y.f4.length c4) ∧ Aside0 (Below (w0.alloc (bS y A2 c2 A3 c3 A4 c4)).heap.size (w0.alloc (bS y A2 c2 A3 c3 A4 c4)) w')) => (IH4.out y (mem_of hy.out.1) (by have := HS.out; omega) A4 c4 w' hy.out.2.2.2.1 (Kd.C_below hy.out.2.2.2.2 (bstep (balloc (brefl _) _) h.2.2.out))))
          (go_region_held3 (fun w' => w'.cell? ⟨w0.heap.size, 3, none⟩ = some (.slice A3 y.f3.length c3) ∧ w'.cell? ⟨w0.heap.size, 4, none⟩ = some (.slice A4 y.f4.length c4) ∧ Aside0 (Below (w0.alloc (bS y A2 c2 A3 c3 A4 c4)).heap.size (w0.alloc (bS y A2 c2 A3 c3 A4 c4)) w')) (first | exact ⟨y3, y4, HD⟩ | exact two_up (by assumption) (by assumption))
            (first | (go_at_call 47; (with_reducible refine (C3.out _ (by assumption)).mono ?_); rintro e w' ⟨rfl, hB⟩; have HK3 := Aside0.mk hB; clear hB) | (go_at_call 47; (with_reducible refine (C4.out _ (by assumption)).mono ?_); rintro e w' ⟨rfl, hB⟩; have HK4 := Aside0.mk hB; clear hB)))
          go_wp2
          go_roundg (l.length - (j + 1))
          case measure => have := HJ.out; have := HS.out; omega
          case rel => exact ⟨j + 1, congrArg _ ej, congrArg _ (by have := HS.out; rw [take_all hi]; simp only [i64_w]; unfold wrap64; omega), ⟨by have := HJ.out; omega⟩, ⟨bstep (balloc HB.out _) (bstep (bstep HD.out HK3.out) HK4.out)⟩⟩
    · go_wp2
      go_ret
      exact ⟨by rw [take_all hj]; have : j = l.length := by have := HJ.out; omega
                subst this; exact congrArg (fun v => Ending.returned (.int .i64 v)) (by omega), HB.out⟩
theorem OkS.parts {x : S43} (h : OkS x) : (∀ e ∈ x.f2, OkE e) ∧ (∀ s ∈ x.f3, OkS s) ∧ ∀ s ∈ x.f4, OkS s := by cases h; exact ⟨by assumption, by assumption, by assumption⟩
theorem sz_in (x : S43) (h : OkS x) : Sz x.f3 ∧ Sz x.f4 := by
  induction h with
  | mk x _ hE _ hT _ hF ihT ihF =>
    exact ⟨stmtsSize_l x.f3 (fun s hs => (hT s hs).parts.1) (fun s hs => (ihT s hs).1) (fun s hs => (ihT s hs).2), stmtsSize_l x.f4 (fun s hs => (hF s hs).parts.1) (fun s hs => (ihF s hs).1) (fun s hs => (ihF s hs).2)⟩
theorem sz (l : List S43) (h : ∀ s ∈ l, OkS s) : Sz l := stmtsSize_l l (fun s hs => (h s hs).parts.1) (fun s hs => (sz_in s (h s hs)).1) (fun s hs => (sz_in s (h s hs)).2)
theorem size_c {v : List ByteArray} {a : List S59} {f : List S45} (hp : OkP v a f) (hc : parts v a f ≤ 1000000000) (A0 : Option Addr) (c0 : Nat) (A1 : Option Addr) (c1 : Nat) (A2 : Option Addr) (c2 : Nat) (w : World) (hI : InP w v a f A0 c0 A1 c1 A2 c2) :
    Calls Tryd.prog 19 #[vP v a f A0 c0 A1 c1 A2 c2] w (RetI (parts v a f) w) := by
  have HP := Aside0.mk (And.intro hp hc)
  have HI := Aside0.mk hI
  have HM := Aside0.mk (And.intro (Kd.C_max hI.1.2) (And.intro (Kd.C_max hI.2.1.2) (Kd.C_max hI.2.2.2)))
  unfold parts at hc
  clear hp hI
  go_enter Tryd.func19, Tryd.ntmps19
  go_wp2
  go_loopg [3, 20] f.length (fun n v3 v20 wr => ∃ j : Nat, v20 = .int .i64 j ∧ v3 = .int .i64 ((v.length + a.length + f.length + inF (f.take j) : Nat) : Int) ∧ Aside0 (n + j = f.length) ∧ Aside0 (Below w.heap.size w wr))
  case atStart => exact ⟨0, rfl, congrArg _ (by simp [inF]), ⟨rfl⟩, ⟨balloc (brefl _) _⟩⟩
  case round =>
    obtain ⟨j, rfl, rfl, HJ, HB⟩ := hrel
    rename World => w0
    by_cases hj : j < f.length
    · obtain ⟨ad, pb, po, A2, c2, A3, c3, A4, c4, y, rfl, ea, hlt, x0, x1, x2, x3, x4, hy, p0, q0, ej⟩ := el45 (HI.out.up HB.out).2.2.2 hj
      have HS := Aside0.mk (inF_step hy.out.1)
      go_wp2
      have HD := Aside0.mk (bdrew (brefl (w0.alloc (bF y A2 c2 A3 c3 A4 c4))))
      have C4 := Aside0.mk (fun (w' : World) (h : Aside0 (Below (w0.alloc (bF y A2 c2 A3 c3 A4 c4)).heap.size (w0.alloc (bF y A2 c2 A3 c3 A4 c4)) w')) => (sz y.f4 (HP.out.1.each y (mem_of hy.out.1)).stmts (by have := HS.out; have := HP.out.2; unfold cF at *; omega) A4 c4 w' hy.out.2.2.2.1 (Kd.C_below hy.out.2.2.2.2 (bstep (balloc (brefl _) _) h.out))))
      go_region_held3 (fun w' => w'.cell? ⟨w0.heap.size, 1, none⟩ = some (.slice A2 y.f1.length c2) ∧ w'.cell? ⟨w0.heap.size, 2, none⟩ = some (.slice A3 y.f2.length c3) ∧ w'.cell? ⟨w0.heap.size, 4, none⟩ = some (.slice A4 y.f4.length c4) ∧ Aside0 (Below (w0.alloc (bF y A2 c2 A3 c3 A4 c4)).heap.size (w0.alloc (bF y A2 c2 A3 c3 A4 c4)) w'))
        (first | exact ⟨box_up HD.out 1 _ rfl, box_up HD.out 2 _ rfl, box_up HD.out 4 _ rfl, HD⟩ | exact ⟨box_up (bstep HD.out HK.out) 1 _ rfl, box_up (bstep HD.out HK.out) 2 _ rfl, box_up (bstep HD.out HK.out) 4 _ rfl, ⟨bstep HD.out HK.out⟩⟩)
        (first | (go_at_call 47; (with_reducible refine (C4.out _ HD).mono ?_); rintro e w' ⟨rfl, hB⟩; have HK := Aside0.mk hB; clear hB))
      go_wp2
      go_roundg (f.length - (j + 1))
      case measure => have := HJ.out; omega
      case rel => exact ⟨j + 1, (by first | exact congrArg _ ej | rfl), congrArg _ (by have h1 := HS.out; unfold cF at h1; simp only [i64_w]; rw [wid (x := (y.f1.length : Int) + y.f2.length) (by omega), wid (x := (y.f1.length : Int) + y.f2.length + cSs y.f4) (by omega), wid (x := _ + ((y.f1.length : Int) + y.f2.length + cSs y.f4)) (by omega)]; omega), ⟨by have := HJ.out; omega⟩, ⟨bstep (balloc HB.out _) (bstep HD.out HK.out)⟩⟩
    · go_wp2
      go_ret
      exact ⟨by rw [take_all hj]; rfl, HB.out⟩
end Go.Proofs.YthnhdompfhkepaaDoor.Pure
