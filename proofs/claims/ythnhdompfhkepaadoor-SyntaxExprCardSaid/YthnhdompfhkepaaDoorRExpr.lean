/- seedcornref14.Expr, list: an expression's text. -/
import Derived.Test.YthnhdompfhkepaaDoorRText
import Derived.Test.YthnhdompfhkepaaDoorCBridge
namespace Go.Proofs.YthnhdompfhkepaaDoor.Pure
open Go Go.RowKit Go.Proofs.YthnhdompfhkepaaDoor.Q Go.Proofs.YthnhdompfhkepaaDoorW.PrintWords Go.Proofs.YthnhdompfhkepaaDoorW.PrintLast Go.Proofs.YthnhdompfhkepaaDoorW.PrintMore
set_option linter.unusedSimpArgs false
set_option linter.unusedVariables false
set_option maxHeartbeats 8000000
set_option maxRecDepth 100000
theorem joinT_take {m : List (List UInt8)} {j : Nat} {x : List UInt8} (h : m[j]? = some x) (h0 : 0 < j) : joinT (m.take (j + 1)) = joinT (m.take j) ++ [44, 32] ++ x := by
  cases m with
  | nil => simp at h
  | cons a r =>
    obtain ⟨k, rfl⟩ : ∃ k, j = k + 1 := ⟨j - 1, by omega⟩
    unfold joinT
    rw [List.take_succ_cons, List.take_succ_cons, Lib.join_cons, Lib.join_cons, Lib.joinTail_take_succ _ _ _ _ (by simpa using h)]
    simp [List.append_assoc]
theorem joinT_take_le {m : List (List UInt8)} (j : Nat) : (joinT (m.take j)).length ≤ (joinT m).length := by
  cases m with
  | nil => simp
  | cons a r =>
    cases j with
    | zero => simp [joinT, Lib.join_nil]
    | succ k =>
      unfold joinT
      rw [List.take_succ_cons, Lib.join_cons, Lib.join_cons, List.length_append, List.length_append]
      have := Lib.joinTail_take_le [44, 32] r k
      omega
theorem mem_join {m : List (List UInt8)} {x : List UInt8} (h : x ∈ m) : x.length ≤ (joinT m).length := by
  obtain ⟨j, hj⟩ := List.getElem?_of_mem h
  have h1 := joinT_take_le (m := m) (j + 1)
  cases j with
  | zero =>
    cases m with
    | nil => simp at hj
    | cons a r =>
      obtain rfl : a = x := by simpa using hj
      simpa [joinT, Lib.join_one] using h1
  | succ k =>
    rw [joinT_take hj (by omega)] at h1
    simp only [List.length_append] at h1
    omega
def TxC (x : S36) : Prop := ∀ A c w, InE w x A c → Calls Tryd.prog 25 #[vE x A c] w (RetS (T (exT x)) w)
theorem list_l (l : List S36) (hm : (joinT (l.map exT)).length ≤ 1000000) (ih : ∀ y ∈ l, TxC y) (A : Option Addr) (c : Nat) (w : World) (hR : Kd.C k36 w A l.length l) : Calls Tryd.prog 55 #[.slice A l.length c] w (RetS (T (joinT (l.map exT))) w) := by
  have HR := Aside0.mk hR
  have IH := Aside0.mk ih
  have HM := Aside0.mk hm
  clear hR ih hm
  go_enter Tryd.func55, Tryd.ntmps55
  go_wp2
  go_loopg [3, 4] l.length (fun n v3 v4 wr => ∃ (j : Nat) (s : ByteArray), v3 = .string s ∧ v4 = .int .i64 j ∧ Aside0 (n + j = l.length ∧ s = T (joinT ((l.map exT).take j))) ∧ Aside0 (Below w.heap.size w wr))
  case atStart => exact ⟨0, ⟨#[]⟩, rfl, rfl, ⟨by simp, by simp [joinT, Lib.join_nil, T]⟩, ⟨brefl _⟩⟩
  case round =>
    obtain ⟨j, s, rfl, rfl, HJ, HB⟩ := hrel
    by_cases hj : j < l.length
    · obtain ⟨ad, pb, po, A4, c4, x, rfl, ea, hlt, x0, x1, x2, x3, x4, hx, p0, q0, ej⟩ := el36 (Kd.C_below HR.out HB.out) hj
      have hmj : (l.map exT)[j]? = some (exT x) := by simp [hx.out.1]
      have hs : s.size ≤ 1000000 := by have h1 := joinT_take_le (m := l.map exT) j; have h2 := HM.out; rw [HJ.out.2, T_size]; omega
      have ht : (T (exT x)).size ≤ 1000000 := by have h1 := mem_join (List.mem_of_getElem? hmj); have h2 := HM.out; rw [T_size]; omega
      have K := Aside0.mk (fun w' (h : Below w.heap.size w w') => IH.out x (mem_of hx.out.1) A4 c4 w')
      have HX := Aside0.mk hmj
      generalize exT x = xt at *
      have X := Aside0.mk (show exT x = exT x from rfl)
      clear hmj
      have b1 : (9223372036854775807 < s.size + 2) = False := eq_false (by omega)
      have b2 : (9223372036854775807 < s.size + (T xt).size) = False := eq_false (by omega)
      have b3 : (9223372036854775807 < s.size + 2 + (T xt).size) = False := eq_false (by omega)
      have b4 : (9223372036854775807 < (s ++ (⟨#[44, 32]⟩ : ByteArray)).size + (T xt).size) = False := eq_false (by rw [ByteArray.size_append]; show ¬ 9223372036854775807 < s.size + 2 + _; omega)
      by_cases h0 : 0 < j
      · have t0 : (0 < (j : Int)) = True := eq_true (by omega)
        go_wp2_with (go_at_call 25; go_loud (refine (K.out _ HB.out hx.out.2).mono ?_); rintro e w' ⟨rfl, hB⟩; have HB' := Aside0.mk (bstep HB.out hB); clear hB)
        go_roundg (l.length - (j + 1))
        case measure => have := HJ.out; omega
        case rel => exact ⟨j + 1, _, rfl, (by first | exact congrArg _ ej | rfl), ⟨by omega, by rw [HJ.out.2, show (⟨#[44, 32]⟩ : ByteArray) = T [44, 32] from rfl, T_app, T_app, joinT_take HX.out h0]⟩, HB'⟩
      · have t0 : (0 < (j : Int)) = False := eq_false (by omega)
        go_wp2_with (go_at_call 25; go_loud (refine (K.out _ HB.out hx.out.2).mono ?_); rintro e w' ⟨rfl, hB⟩; have HB' := Aside0.mk (bstep HB.out hB); clear hB)
        go_roundg (l.length - (j + 1))
        case measure => have := HJ.out; omega
        case rel => exact ⟨j + 1, _, rfl, (by first | exact congrArg _ ej | rfl), ⟨by omega, by
          obtain rfl : j = 0 := by omega
          have h1 := HX.out
          rw [HJ.out.2, T_app]
          congr 1
          cases hl : l.map exT with
          | nil => rw [hl] at h1; simp at h1
          | cons a r =>
            rw [hl] at h1
            obtain rfl : a = xt := by simpa using h1
            simp [joinT, Lib.join_one, Lib.join_nil]⟩, HB'⟩
    · go_wp2
      go_ret
      refine ⟨?_, HB.out⟩
      rw [HJ.out.2, List.take_of_length_le (by simp; omega)]
      rfl
theorem up7 {B w w1 : World} {p0 p1 p2 p3 p4 p5 p6 : Addr} {u0 u1 u2 u3 u4 u5 u6 : Value} (h : w.cell? p0 = some u0 ∧ w.cell? p1 = some u1 ∧ w.cell? p2 = some u2 ∧ w.cell? p3 = some u3 ∧ w.cell? p4 = some u4 ∧ w.cell? p5 = some u5 ∧ w.cell? p6 = some u6 ∧ Aside0 (Below B.heap.size B w)) (k : Aside0 (Below w.heap.size w w1)) : w1.cell? p0 = some u0 ∧ w1.cell? p1 = some u1 ∧ w1.cell? p2 = some u2 ∧ w1.cell? p3 = some u3 ∧ w1.cell? p4 = some u4 ∧ w1.cell? p5 = some u5 ∧ w1.cell? p6 = some u6 ∧ Aside0 (Below B.heap.size B w1) := ⟨cell_up k.out h.1, cell_up k.out h.2.1, cell_up k.out h.2.2.1, cell_up k.out h.2.2.2.1, cell_up k.out h.2.2.2.2.1, cell_up k.out h.2.2.2.2.2.1, cell_up k.out h.2.2.2.2.2.2.1, ⟨bstep h.2.2.2.2.2.2.2.out k.out⟩⟩
theorem up11 {B w w1 : World} {p0 p1 p2 p3 p4 p5 p6 p7 p8 p9 p10 : Addr} {u0 u1 u2 u3 u4 u5 u6 u7 u8 u9 u10 : Value} (h : w.cell? p0 = some u0 ∧ w.cell? p1 = some u1 ∧ w.cell? p2 = some u2 ∧ w.cell? p3 = some u3 ∧ w.cell? p4 = some u4 ∧ w.cell? p5 = some u5 ∧ w.cell? p6 = some u6 ∧ w.cell? p7 = some u7 ∧ w.cell? p8 = some u8 ∧ w.cell? p9 = some u9 ∧ w.cell? p10 = some u10 ∧ Aside0 (Below B.heap.size B w)) (k : Aside0 (Below w.heap.size w w1)) : w1.cell? p0 = some u0 ∧ w1.cell? p1 = some u1 ∧ w1.cell? p2 = some u2 ∧ w1.cell? p3 = some u3 ∧ w1.cell? p4 = some u4 ∧ w1.cell? p5 = some u5 ∧ w1.cell? p6 = some u6 ∧ w1.cell? p7 = some u7 ∧ w1.cell? p8 = some u8 ∧ w1.cell? p9 = some u9 ∧ w1.cell? p10 = some u10 ∧ Aside0 (Below B.heap.size B w1) := ⟨cell_up k.out h.1, cell_up k.out h.2.1, cell_up k.out h.2.2.1, cell_up k.out h.2.2.2.1, cell_up k.out h.2.2.2.2.1, cell_up k.out h.2.2.2.2.2.1, cell_up k.out h.2.2.2.2.2.2.1, cell_up k.out h.2.2.2.2.2.2.2.1, cell_up k.out h.2.2.2.2.2.2.2.2.1, cell_up k.out h.2.2.2.2.2.2.2.2.2.1, cell_up k.out h.2.2.2.2.2.2.2.2.2.2.1, ⟨bstep h.2.2.2.2.2.2.2.2.2.2.2.out k.out⟩⟩
theorem up12 {B w w1 : World} {p0 p1 p2 p3 p4 p5 p6 p7 p8 p9 p10 p11 : Addr} {u0 u1 u2 u3 u4 u5 u6 u7 u8 u9 u10 u11 : Value} (h : w.cell? p0 = some u0 ∧ w.cell? p1 = some u1 ∧ w.cell? p2 = some u2 ∧ w.cell? p3 = some u3 ∧ w.cell? p4 = some u4 ∧ w.cell? p5 = some u5 ∧ w.cell? p6 = some u6 ∧ w.cell? p7 = some u7 ∧ w.cell? p8 = some u8 ∧ w.cell? p9 = some u9 ∧ w.cell? p10 = some u10 ∧ w.cell? p11 = some u11 ∧ Aside0 (Below B.heap.size B w)) (k : Aside0 (Below w.heap.size w w1)) : w1.cell? p0 = some u0 ∧ w1.cell? p1 = some u1 ∧ w1.cell? p2 = some u2 ∧ w1.cell? p3 = some u3 ∧ w1.cell? p4 = some u4 ∧ w1.cell? p5 = some u5 ∧ w1.cell? p6 = some u6 ∧ w1.cell? p7 = some u7 ∧ w1.cell? p8 = some u8 ∧ w1.cell? p9 = some u9 ∧ w1.cell? p10 = some u10 ∧ w1.cell? p11 = some u11 ∧ Aside0 (Below B.heap.size B w1) := ⟨cell_up k.out h.1, cell_up k.out h.2.1, cell_up k.out h.2.2.1, cell_up k.out h.2.2.2.1, cell_up k.out h.2.2.2.2.1, cell_up k.out h.2.2.2.2.2.1, cell_up k.out h.2.2.2.2.2.2.1, cell_up k.out h.2.2.2.2.2.2.2.1, cell_up k.out h.2.2.2.2.2.2.2.2.1, cell_up k.out h.2.2.2.2.2.2.2.2.2.1, cell_up k.out h.2.2.2.2.2.2.2.2.2.2.1, cell_up k.out h.2.2.2.2.2.2.2.2.2.2.2.1, ⟨bstep h.2.2.2.2.2.2.2.2.2.2.2.2.out k.out⟩⟩
theorem up2 {B w w1 : World} {p0 p1 : Addr} {u0 u1 : Value} (h : w.cell? p0 = some u0 ∧ w.cell? p1 = some u1 ∧ Aside0 (Below B.heap.size B w)) (k : Aside0 (Below w.heap.size w w1)) : w1.cell? p0 = some u0 ∧ w1.cell? p1 = some u1 ∧ Aside0 (Below B.heap.size B w1) := ⟨cell_up k.out h.1, cell_up k.out h.2.1, ⟨bstep h.2.2.out k.out⟩⟩
theorem kid1 {w : World} {A : Option Addr} {a : S36} (h : Kd.C k36 w A 1 [a]) : ∃ pb po A4 c4, A = some ⟨pb, po, none⟩ ∧ pb < w.heap.size ∧ w.cell? ⟨pb, po, none⟩ = some (.int .i64 a.f0) ∧ w.cell? ⟨pb, po + 1, none⟩ = some (.int .i64 a.f1) ∧ w.cell? ⟨pb, po + 2, none⟩ = some (.int .u32 a.f2) ∧ w.cell? ⟨pb, po + 3, none⟩ = some (.string a.f3) ∧ w.cell? ⟨pb, po + 4, none⟩ = some (.slice A4 a.f4.length c4) ∧ InE w a A4 c4 := by
  obtain ⟨ad, pb, po, A4, c4, x, rfl, ea, hlt, x0, x1, x2, x3, x4, hx, _⟩ := el36 (l := [a]) h (j := 0) (by simp)
  have e : ad = ⟨pb, po, none⟩ := by simpa [Addr.add] using ea
  obtain rfl : a = x := by simpa using hx.out.1
  exact ⟨pb, po, A4, c4, by rw [e], of_eq_true hlt, x0, x1, x2, x3, x4, hx.out.2⟩
theorem kid2 {w : World} {A : Option Addr} {a b : S36} (h : Kd.C k36 w A 2 [a, b]) : ∃ pb po A4 c4 A5 c5, A = some ⟨pb, po, none⟩ ∧ pb < w.heap.size ∧ (w.cell? ⟨pb, po, none⟩ = some (.int .i64 a.f0) ∧ w.cell? ⟨pb, po + 1, none⟩ = some (.int .i64 a.f1) ∧ w.cell? ⟨pb, po + 2, none⟩ = some (.int .u32 a.f2) ∧ w.cell? ⟨pb, po + 3, none⟩ = some (.string a.f3) ∧ w.cell? ⟨pb, po + 4, none⟩ = some (.slice A4 a.f4.length c4) ∧ InE w a A4 c4) ∧
    w.cell? ⟨pb, po + 5, none⟩ = some (.int .i64 b.f0) ∧ w.cell? ⟨pb, po + 5 + 1, none⟩ = some (.int .i64 b.f1) ∧ w.cell? ⟨pb, po + 5 + 2, none⟩ = some (.int .u32 b.f2) ∧ w.cell? ⟨pb, po + 5 + 3, none⟩ = some (.string b.f3) ∧ w.cell? ⟨pb, po + 5 + 4, none⟩ = some (.slice A5 b.f4.length c5) ∧ InE w b A5 c5 := by
  obtain ⟨ad, pb, po, A4, c4, x, rfl, ea, hlt, x0, x1, x2, x3, x4, hx, _⟩ := el36 (l := [a, b]) h (j := 0) (by simp)
  have e : ad = ⟨pb, po, none⟩ := by simpa [Addr.add] using ea
  subst e
  obtain ⟨ad, pc, pd, A5, c5, y, e2, eb, _, y0, y1, y2, y3, y4, hy, _⟩ := el36 (l := [a, b]) h (j := 1) (by simp)
  obtain rfl := Option.some.inj e2
  have e3 : pc = pb ∧ pd = po + 5 := by simp [Addr.add] at eb; omega
  obtain ⟨rfl, rfl⟩ := e3
  obtain rfl : a = x := by simpa using hx.out.1
  obtain rfl : b = y := by simpa using hy.out.1
  exact ⟨pc, po, A4, c4, A5, c5, rfl, of_eq_true hlt, ⟨x0, x1, x2, x3, x4, hx.out.2⟩, y0, y1, y2, y3, y4, hy.out.2⟩
theorem texpr_c (x : S36) (h : RE x) : (exT x).length ≤ 1000000 → TxC x := by
  induction h with
  | num n h0 h1 =>
    intro _ A c w hI
    clear hI
    obtain ⟨k, rfl⟩ := Int.eq_ofNat_of_zero_le h0
    have K := Aside0.mk (fun w' => text_c k (by omega) w')
    rw [exT_num]
    go_enter Tryd.func25, Tryd.ntmps25
    go_wp2_with (go_at_call 50; go_loud (refine (K.out _).mono ?_); rintro e w1 ⟨rfl, hB⟩; have HB := Aside0.mk (bstep (balloc (brefl w) _) hB); clear hB)
    go_ret
    exact ⟨rfl, HB.out⟩
  | var s hs =>
    intro _ A c w hI
    clear hI
    rw [exT_var]
    go_enter Tryd.func25, Tryd.ntmps25
    go_wp2
    go_ret
    exact ⟨by rw [T_B]; rfl, balloc (brefl w) _⟩
  | get =>
    intro _ A c w hI
    clear hI
    rw [exT_get]
    go_enter Tryd.func25, Tryd.ntmps25
    go_wp2
    go_ret
    exact ⟨rfl, balloc (brefl w) _⟩
  | not a ha ih =>
    intro hl A c w hI
    rw [exT_not] at hl ⊢
    simp only [List.length_append, List.length_singleton] at hl
    obtain ⟨pb, po, A4, c4, rfl, hlt, x0, x1, x2, x3, x4, hx⟩ := kid1 hI.2
    have K := Aside0.mk (fun w' (h : Below w.heap.size w w') => ih (by omega) A4 c4 w' (hx.up h))
    have b1 : (9223372036854775807 < 1 + (T (exT a)).size) = False := eq_false (by rw [T_size]; omega)
    have e : (⟨#[33]⟩ : ByteArray) ++ T (exT a) = T ([33] ++ exT a) := T_app [33] _
    clear hI hx ih
    generalize T (exT a) = t at *
    generalize T ([33] ++ exT a) = u at *
    go_enter Tryd.func25, Tryd.ntmps25
    go_wp2_with (go_at_call 25; go_loud (refine (K.out _ (balloc (brefl _) _)).mono ?_); rintro e w1 ⟨rfl, hB⟩; have HB := Aside0.mk (bstep (balloc (brefl w) _) hB); clear hB)
    go_ret
    exact ⟨rfl, HB.out⟩
  | index s a hs ha ih =>
    intro hl A c w hI
    rw [exT_index] at hl ⊢
    simp only [List.length_append, List.length_singleton] at hl
    obtain ⟨pb, po, A4, c4, rfl, hlt, x0, x1, x2, x3, x4, hx⟩ := kid1 hI.2
    have K := Aside0.mk (fun w' (h : Below w.heap.size w w') => ih (by omega) A4 c4 w' (hx.up h))
    have hs1 := hs.size
    have ht : (T (exT a)).size ≤ 1000000 := by rw [T_size]; omega
    have e : s ++ (⟨#[91]⟩ : ByteArray) ++ T (exT a) ++ (⟨#[93]⟩ : ByteArray) = T (B s ++ [91] ++ exT a ++ [93]) := by rw [← T_app, ← T_app, ← T_app, T_B]; rfl
    clear hI hx ih hl hs
    generalize T (exT a) = t at *
    generalize T (B s ++ [91] ++ exT a ++ [93]) = u at *
    have b1 : (9223372036854775807 < s.size + 1) = False := eq_false (by omega)
    have b2 : (9223372036854775807 < s.size + 1 + t.size) = False := eq_false (by omega)
    have g2 : (9223372036854775807 < (s ++ (⟨#[91]⟩ : ByteArray)).size + t.size) = False := eq_false (by simp only [ByteArray.size_append]; first | omega | (simp only [show ∀ x, (⟨x⟩ : ByteArray).size = x.size from fun _ => rfl]; simp; omega))
    have b3 : (9223372036854775807 < s.size + 1 + t.size + 1) = False := eq_false (by omega)
    have g3 : (9223372036854775807 < (s ++ (⟨#[91]⟩ : ByteArray) ++ t).size + 1) = False := eq_false (by simp only [ByteArray.size_append]; first | omega | (simp only [show ∀ x, (⟨x⟩ : ByteArray).size = x.size from fun _ => rfl]; simp; omega))
    go_enter Tryd.func25, Tryd.ntmps25
    go_wp2
    have HW := Aside0.mk (bdrew (balloc (brefl w) (.cells #[.int .i64 3, .int .i64 0, .int .u32 0, .string s, .slice (some ⟨pb, po, none⟩) 1 c] 36)))
    have z0 := box_up (bdrew (brefl (w.alloc (.cells #[.int .i64 3, .int .i64 0, .int .u32 0, .string s, .slice (some ⟨pb, po, none⟩) 1 c] 36)))) 3 _ rfl
    have z1 := box_up (bdrew (brefl (w.alloc (.cells #[.int .i64 3, .int .i64 0, .int .u32 0, .string s, .slice (some ⟨pb, po, none⟩) 1 c] 36)))) 4 _ rfl
    have z2 := cell_up (bdrew (balloc (brefl w) (.cells #[.int .i64 3, .int .i64 0, .int .u32 0, .string s, .slice (some ⟨pb, po, none⟩) 1 c] 36))) x0
    have z3 := cell_up (bdrew (balloc (brefl w) (.cells #[.int .i64 3, .int .i64 0, .int .u32 0, .string s, .slice (some ⟨pb, po, none⟩) 1 c] 36))) x1
    have z4 := cell_up (bdrew (balloc (brefl w) (.cells #[.int .i64 3, .int .i64 0, .int .u32 0, .string s, .slice (some ⟨pb, po, none⟩) 1 c] 36))) x2
    have z5 := cell_up (bdrew (balloc (brefl w) (.cells #[.int .i64 3, .int .i64 0, .int .u32 0, .string s, .slice (some ⟨pb, po, none⟩) 1 c] 36))) x3
    have z6 := cell_up (bdrew (balloc (brefl w) (.cells #[.int .i64 3, .int .i64 0, .int .u32 0, .string s, .slice (some ⟨pb, po, none⟩) 1 c] 36))) x4
    go_region_held3 (fun w' => w'.cell? ⟨w.heap.size, 3, none⟩ = some (.string s) ∧ w'.cell? ⟨w.heap.size, 4, none⟩ = some (.slice (some ⟨pb, po, none⟩) 1 c) ∧ w'.cell? ⟨pb, po, none⟩ = some (.int .i64 a.f0) ∧ w'.cell? ⟨pb, po + 1, none⟩ = some (.int .i64 a.f1) ∧ w'.cell? ⟨pb, po + 2, none⟩ = some (.int .u32 a.f2) ∧ w'.cell? ⟨pb, po + 3, none⟩ = some (.string a.f3) ∧ w'.cell? ⟨pb, po + 4, none⟩ = some (.slice A4 a.f4.length c4) ∧ Aside0 (Below w.heap.size w w')) (first | exact ⟨z0, z1, z2, z3, z4, z5, z6, HW⟩ | exact up7 (by assumption) (by assumption))
      (first | (go_at_call 25; (with_reducible refine (K.out _ HW.out).mono ?_); rintro e w1 ⟨rfl, hB⟩; have HK := Aside0.mk hB; have HW1 := Aside0.mk (bstep HW.out hB); clear hB) | fail)
    go_wp2
    go_ret
    exact ⟨by first | rfl | exact congrArg _ (congrArg _ e), HW1.out⟩
  | and a b ha hb ih ih2 =>
    intro hl A c w hI
    rw [exT_and] at hl ⊢
    simp only [List.length_append, List.length_singleton, List.length_cons, List.length_nil] at hl
    obtain ⟨pb, po, A4, c4, A5, c5, rfl, hlt, ⟨x0, x1, x2, x3, x4, hx⟩, y0, y1, y2, y3, y4, hy⟩ := kid2 hI.2
    have K := Aside0.mk (fun w' (h : Below w.heap.size w w') => ih (by omega) A4 c4 w' (hx.up h))
    have K2 := Aside0.mk (fun w' (h : Below w.heap.size w w') => ih2 (by omega) A5 c5 w' (hy.up h))
    have ht : (T (exT a)).size ≤ 1000000 := by rw [T_size]; omega
    have ht2 : (T (exT b)).size ≤ 1000000 := by rw [T_size]; omega
    have e : (⟨#[40]⟩ : ByteArray) ++ T (exT a) ++ (⟨#[32, 38, 38, 32]⟩ : ByteArray) ++ T (exT b) ++ (⟨#[41]⟩ : ByteArray) = T ([40] ++ exT a ++ [32] ++ [38, 38] ++ [32] ++ exT b ++ [41]) := by rw [show (⟨#[32, 38, 38, 32]⟩ : ByteArray) = T [32, 38, 38, 32] from rfl, show (⟨#[40]⟩ : ByteArray) = T [40] from rfl, show (⟨#[41]⟩ : ByteArray) = T [41] from rfl, T_app, T_app, T_app, T_app]; simp [List.append_assoc]
    clear hI hx hy ih ih2 hl
    generalize T ([40] ++ exT a ++ [32] ++ [38, 38] ++ [32] ++ exT b ++ [41]) = u at *
    generalize T (exT a) = t at *
    generalize T (exT b) = t2 at *
    have b1 : (9223372036854775807 < 1 + t.size) = False := eq_false (by omega)
    have b2 : (9223372036854775807 < 1 + t.size + 4) = False := eq_false (by omega)
    have g2 : (9223372036854775807 < ((⟨#[40]⟩ : ByteArray) ++ t).size + 4) = False := eq_false (by simp only [ByteArray.size_append]; first | omega | (simp only [show ∀ x, (⟨x⟩ : ByteArray).size = x.size from fun _ => rfl]; simp; omega))
    have b3 : (9223372036854775807 < 1 + t.size + 4 + t2.size) = False := eq_false (by omega)
    have g3 : (9223372036854775807 < ((⟨#[40]⟩ : ByteArray) ++ t ++ (⟨#[32, 38, 38, 32]⟩ : ByteArray)).size + t2.size) = False := eq_false (by simp only [ByteArray.size_append]; first | omega | (simp only [show ∀ x, (⟨x⟩ : ByteArray).size = x.size from fun _ => rfl]; simp; omega))
    have b4 : (9223372036854775807 < 1 + t.size + 4 + t2.size + 1) = False := eq_false (by omega)
    have g4 : (9223372036854775807 < ((⟨#[40]⟩ : ByteArray) ++ t ++ (⟨#[32, 38, 38, 32]⟩ : ByteArray) ++ t2).size + 1) = False := eq_false (by simp only [ByteArray.size_append]; first | omega | (simp only [show ∀ x, (⟨x⟩ : ByteArray).size = x.size from fun _ => rfl]; simp; omega))
    go_enter Tryd.func25, Tryd.ntmps25
    go_wp2
    have HW := Aside0.mk (bdrew (balloc (brefl w) (.cells #[.int .i64 8, .int .i64 0, .int .u32 0, .string noName, .slice (some ⟨pb, po, none⟩) 2 c] 36)))
    have z0 := box_up (bdrew (brefl (w.alloc (.cells #[.int .i64 8, .int .i64 0, .int .u32 0, .string noName, .slice (some ⟨pb, po, none⟩) 2 c] 36)))) 4 _ rfl
    have z1 := cell_up (bdrew (balloc (brefl w) (.cells #[.int .i64 8, .int .i64 0, .int .u32 0, .string noName, .slice (some ⟨pb, po, none⟩) 2 c] 36))) x0
    have z2 := cell_up (bdrew (balloc (brefl w) (.cells #[.int .i64 8, .int .i64 0, .int .u32 0, .string noName, .slice (some ⟨pb, po, none⟩) 2 c] 36))) x1
    have z3 := cell_up (bdrew (balloc (brefl w) (.cells #[.int .i64 8, .int .i64 0, .int .u32 0, .string noName, .slice (some ⟨pb, po, none⟩) 2 c] 36))) x2
    have z4 := cell_up (bdrew (balloc (brefl w) (.cells #[.int .i64 8, .int .i64 0, .int .u32 0, .string noName, .slice (some ⟨pb, po, none⟩) 2 c] 36))) x3
    have z5 := cell_up (bdrew (balloc (brefl w) (.cells #[.int .i64 8, .int .i64 0, .int .u32 0, .string noName, .slice (some ⟨pb, po, none⟩) 2 c] 36))) x4
    have z6 := cell_up (bdrew (balloc (brefl w) (.cells #[.int .i64 8, .int .i64 0, .int .u32 0, .string noName, .slice (some ⟨pb, po, none⟩) 2 c] 36))) y0
    have z7 := cell_up (bdrew (balloc (brefl w) (.cells #[.int .i64 8, .int .i64 0, .int .u32 0, .string noName, .slice (some ⟨pb, po, none⟩) 2 c] 36))) y1
    have z8 := cell_up (bdrew (balloc (brefl w) (.cells #[.int .i64 8, .int .i64 0, .int .u32 0, .string noName, .slice (some ⟨pb, po, none⟩) 2 c] 36))) y2
    have z9 := cell_up (bdrew (balloc (brefl w) (.cells #[.int .i64 8, .int .i64 0, .int .u32 0, .string noName, .slice (some ⟨pb, po, none⟩) 2 c] 36))) y3
    have z10 := cell_up (bdrew (balloc (brefl w) (.cells #[.int .i64 8, .int .i64 0, .int .u32 0, .string noName, .slice (some ⟨pb, po, none⟩) 2 c] 36))) y4
    go_region_held3 (fun w' => w'.cell? ⟨w.heap.size, 4, none⟩ = some (.slice (some ⟨pb, po, none⟩) 2 c) ∧ w'.cell? ⟨pb, po, none⟩ = some (.int .i64 a.f0) ∧ w'.cell? ⟨pb, po + 1, none⟩ = some (.int .i64 a.f1) ∧ w'.cell? ⟨pb, po + 2, none⟩ = some (.int .u32 a.f2) ∧ w'.cell? ⟨pb, po + 3, none⟩ = some (.string a.f3) ∧ w'.cell? ⟨pb, po + 4, none⟩ = some (.slice A4 a.f4.length c4) ∧ w'.cell? ⟨pb, po + 5, none⟩ = some (.int .i64 b.f0) ∧ w'.cell? ⟨pb, po + 5 + 1, none⟩ = some (.int .i64 b.f1) ∧ w'.cell? ⟨pb, po + 5 + 2, none⟩ = some (.int .u32 b.f2) ∧ w'.cell? ⟨pb, po + 5 + 3, none⟩ = some (.string b.f3) ∧ w'.cell? ⟨pb, po + 5 + 4, none⟩ = some (.slice A5 b.f4.length c5) ∧ Aside0 (Below w.heap.size w w')) (first | exact ⟨z0, z1, z2, z3, z4, z5, z6, z7, z8, z9, z10, HW⟩ | exact up11 (by assumption) (by assumption))
      (first | (go_at_call 25; (with_reducible refine (K.out _ HW.out).mono ?_); rintro e w1 ⟨rfl, hB⟩; have HK := Aside0.mk hB; have HW1 := Aside0.mk (bstep HW.out hB); clear hB) | (go_at_call 25; (with_reducible refine (K2.out _ HW1.out).mono ?_); rintro e w2 ⟨rfl, hB⟩; have HK2 := Aside0.mk hB; have HW2 := Aside0.mk (bstep HW1.out hB); clear hB) | fail)
    go_wp2
    go_ret
    exact ⟨by first | rfl | exact congrArg _ (congrArg _ e), HW2.out⟩
  | or a b ha hb ih ih2 =>
    intro hl A c w hI
    rw [exT_or] at hl ⊢
    simp only [List.length_append, List.length_singleton, List.length_cons, List.length_nil] at hl
    obtain ⟨pb, po, A4, c4, A5, c5, rfl, hlt, ⟨x0, x1, x2, x3, x4, hx⟩, y0, y1, y2, y3, y4, hy⟩ := kid2 hI.2
    have K := Aside0.mk (fun w' (h : Below w.heap.size w w') => ih (by omega) A4 c4 w' (hx.up h))
    have K2 := Aside0.mk (fun w' (h : Below w.heap.size w w') => ih2 (by omega) A5 c5 w' (hy.up h))
    have ht : (T (exT a)).size ≤ 1000000 := by rw [T_size]; omega
    have ht2 : (T (exT b)).size ≤ 1000000 := by rw [T_size]; omega
    have e : (⟨#[40]⟩ : ByteArray) ++ T (exT a) ++ (⟨#[32, 124, 124, 32]⟩ : ByteArray) ++ T (exT b) ++ (⟨#[41]⟩ : ByteArray) = T ([40] ++ exT a ++ [32] ++ [124, 124] ++ [32] ++ exT b ++ [41]) := by rw [show (⟨#[32, 124, 124, 32]⟩ : ByteArray) = T [32, 124, 124, 32] from rfl, show (⟨#[40]⟩ : ByteArray) = T [40] from rfl, show (⟨#[41]⟩ : ByteArray) = T [41] from rfl, T_app, T_app, T_app, T_app]; simp [List.append_assoc]
    clear hI hx hy ih ih2 hl
    generalize T ([40] ++ exT a ++ [32] ++ [124, 124] ++ [32] ++ exT b ++ [41]) = u at *
    generalize T (exT a) = t at *
    generalize T (exT b) = t2 at *
    have b1 : (9223372036854775807 < 1 + t.size) = False := eq_false (by omega)
    have b2 : (9223372036854775807 < 1 + t.size + 4) = False := eq_false (by omega)
    have g2 : (9223372036854775807 < ((⟨#[40]⟩ : ByteArray) ++ t).size + 4) = False := eq_false (by simp only [ByteArray.size_append]; first | omega | (simp only [show ∀ x, (⟨x⟩ : ByteArray).size = x.size from fun _ => rfl]; simp; omega))
    have b3 : (9223372036854775807 < 1 + t.size + 4 + t2.size) = False := eq_false (by omega)
    have g3 : (9223372036854775807 < ((⟨#[40]⟩ : ByteArray) ++ t ++ (⟨#[32, 124, 124, 32]⟩ : ByteArray)).size + t2.size) = False := eq_false (by simp only [ByteArray.size_append]; first | omega | (simp only [show ∀ x, (⟨x⟩ : ByteArray).size = x.size from fun _ => rfl]; simp; omega))
    have b4 : (9223372036854775807 < 1 + t.size + 4 + t2.size + 1) = False := eq_false (by omega)
    have g4 : (9223372036854775807 < ((⟨#[40]⟩ : ByteArray) ++ t ++ (⟨#[32, 124, 124, 32]⟩ : ByteArray) ++ t2).size + 1) = False := eq_false (by simp only [ByteArray.size_append]; first | omega | (simp only [show ∀ x, (⟨x⟩ : ByteArray).size = x.size from fun _ => rfl]; simp; omega))
    go_enter Tryd.func25, Tryd.ntmps25
    go_wp2
    have HW := Aside0.mk (bdrew (balloc (brefl w) (.cells #[.int .i64 9, .int .i64 0, .int .u32 0, .string noName, .slice (some ⟨pb, po, none⟩) 2 c] 36)))
    have z0 := box_up (bdrew (brefl (w.alloc (.cells #[.int .i64 9, .int .i64 0, .int .u32 0, .string noName, .slice (some ⟨pb, po, none⟩) 2 c] 36)))) 4 _ rfl
    have z1 := cell_up (bdrew (balloc (brefl w) (.cells #[.int .i64 9, .int .i64 0, .int .u32 0, .string noName, .slice (some ⟨pb, po, none⟩) 2 c] 36))) x0
    have z2 := cell_up (bdrew (balloc (brefl w) (.cells #[.int .i64 9, .int .i64 0, .int .u32 0, .string noName, .slice (some ⟨pb, po, none⟩) 2 c] 36))) x1
    have z3 := cell_up (bdrew (balloc (brefl w) (.cells #[.int .i64 9, .int .i64 0, .int .u32 0, .string noName, .slice (some ⟨pb, po, none⟩) 2 c] 36))) x2
    have z4 := cell_up (bdrew (balloc (brefl w) (.cells #[.int .i64 9, .int .i64 0, .int .u32 0, .string noName, .slice (some ⟨pb, po, none⟩) 2 c] 36))) x3
    have z5 := cell_up (bdrew (balloc (brefl w) (.cells #[.int .i64 9, .int .i64 0, .int .u32 0, .string noName, .slice (some ⟨pb, po, none⟩) 2 c] 36))) x4
    have z6 := cell_up (bdrew (balloc (brefl w) (.cells #[.int .i64 9, .int .i64 0, .int .u32 0, .string noName, .slice (some ⟨pb, po, none⟩) 2 c] 36))) y0
    have z7 := cell_up (bdrew (balloc (brefl w) (.cells #[.int .i64 9, .int .i64 0, .int .u32 0, .string noName, .slice (some ⟨pb, po, none⟩) 2 c] 36))) y1
    have z8 := cell_up (bdrew (balloc (brefl w) (.cells #[.int .i64 9, .int .i64 0, .int .u32 0, .string noName, .slice (some ⟨pb, po, none⟩) 2 c] 36))) y2
    have z9 := cell_up (bdrew (balloc (brefl w) (.cells #[.int .i64 9, .int .i64 0, .int .u32 0, .string noName, .slice (some ⟨pb, po, none⟩) 2 c] 36))) y3
    have z10 := cell_up (bdrew (balloc (brefl w) (.cells #[.int .i64 9, .int .i64 0, .int .u32 0, .string noName, .slice (some ⟨pb, po, none⟩) 2 c] 36))) y4
    go_region_held3 (fun w' => w'.cell? ⟨w.heap.size, 4, none⟩ = some (.slice (some ⟨pb, po, none⟩) 2 c) ∧ w'.cell? ⟨pb, po, none⟩ = some (.int .i64 a.f0) ∧ w'.cell? ⟨pb, po + 1, none⟩ = some (.int .i64 a.f1) ∧ w'.cell? ⟨pb, po + 2, none⟩ = some (.int .u32 a.f2) ∧ w'.cell? ⟨pb, po + 3, none⟩ = some (.string a.f3) ∧ w'.cell? ⟨pb, po + 4, none⟩ = some (.slice A4 a.f4.length c4) ∧ w'.cell? ⟨pb, po + 5, none⟩ = some (.int .i64 b.f0) ∧ w'.cell? ⟨pb, po + 5 + 1, none⟩ = some (.int .i64 b.f1) ∧ w'.cell? ⟨pb, po + 5 + 2, none⟩ = some (.int .u32 b.f2) ∧ w'.cell? ⟨pb, po + 5 + 3, none⟩ = some (.string b.f3) ∧ w'.cell? ⟨pb, po + 5 + 4, none⟩ = some (.slice A5 b.f4.length c5) ∧ Aside0 (Below w.heap.size w w')) (first | exact ⟨z0, z1, z2, z3, z4, z5, z6, z7, z8, z9, z10, HW⟩ | exact up11 (by assumption) (by assumption))
      (first | (go_at_call 25; (with_reducible refine (K.out _ HW.out).mono ?_); rintro e w1 ⟨rfl, hB⟩; have HK := Aside0.mk hB; have HW1 := Aside0.mk (bstep HW.out hB); clear hB) | (go_at_call 25; (with_reducible refine (K2.out _ HW1.out).mono ?_); rintro e w2 ⟨rfl, hB⟩; have HK2 := Aside0.mk hB; have HW2 := Aside0.mk (bstep HW1.out hB); clear hB) | fail)
    go_wp2
    go_ret
    exact ⟨by first | rfl | exact congrArg _ (congrArg _ e), HW2.out⟩
  | op o a b h4 h15 ha hb ih ih2 =>
    intro hl A c w hI
    rw [exT_op] at hl ⊢
    simp only [List.length_append, List.length_singleton, List.length_cons, List.length_nil] at hl
    obtain ⟨pb, po, A4, c4, A5, c5, rfl, hlt, ⟨x0, x1, x2, x3, x4, hx⟩, y0, y1, y2, y3, y4, hy⟩ := kid2 hI.2
    have K := Aside0.mk (fun w' (h : Below w.heap.size w w') => ih (by omega) A4 c4 w' (hx.up h))
    have K2 := Aside0.mk (fun w' (h : Below w.heap.size w w') => ih2 (by omega) A5 c5 w' (hy.up h))
    have ht : (T (exT a)).size ≤ 1000000 := by rw [T_size]; omega
    have ht2 : (T (exT b)).size ≤ 1000000 := by rw [T_size]; omega
    have G := Aside0.mk (fun w' => sign_c o h4 h15 w')
    have hsg : (T (signT o)).size ≤ 1000000 := by rw [T_size]; omega
    have e : (⟨#[40]⟩ : ByteArray) ++ T (exT a) ++ (⟨#[32]⟩ : ByteArray) ++ T (signT o) ++ (⟨#[32]⟩ : ByteArray) ++ T (exT b) ++ (⟨#[41]⟩ : ByteArray) = T ([40] ++ exT a ++ [32] ++ signT o ++ [32] ++ exT b ++ [41]) := by rw [← T_app, ← T_app, ← T_app, ← T_app, ← T_app, ← T_app]; rfl
    clear hI hx hy ih ih2 hl
    generalize T ([40] ++ exT a ++ [32] ++ signT o ++ [32] ++ exT b ++ [41]) = u at *
    generalize T (exT a) = t at *
    generalize T (exT b) = t2 at *
    generalize T (signT o) = sg at *
    have b1 : (9223372036854775807 < 1 + t.size) = False := eq_false (by omega)
    have b2 : (9223372036854775807 < 1 + t.size + 1) = False := eq_false (by omega)
    have g2 : (9223372036854775807 < ((⟨#[40]⟩ : ByteArray) ++ t).size + 1) = False := eq_false (by simp only [ByteArray.size_append]; first | omega | (simp only [show ∀ x, (⟨x⟩ : ByteArray).size = x.size from fun _ => rfl]; simp; omega))
    have b3 : (9223372036854775807 < 1 + t.size + 1 + sg.size) = False := eq_false (by omega)
    have g3 : (9223372036854775807 < ((⟨#[40]⟩ : ByteArray) ++ t ++ (⟨#[32]⟩ : ByteArray)).size + sg.size) = False := eq_false (by simp only [ByteArray.size_append]; first | omega | (simp only [show ∀ x, (⟨x⟩ : ByteArray).size = x.size from fun _ => rfl]; simp; omega))
    have b4 : (9223372036854775807 < 1 + t.size + 1 + sg.size + 1) = False := eq_false (by omega)
    have g4 : (9223372036854775807 < ((⟨#[40]⟩ : ByteArray) ++ t ++ (⟨#[32]⟩ : ByteArray) ++ sg).size + 1) = False := eq_false (by simp only [ByteArray.size_append]; first | omega | (simp only [show ∀ x, (⟨x⟩ : ByteArray).size = x.size from fun _ => rfl]; simp; omega))
    have b5 : (9223372036854775807 < 1 + t.size + 1 + sg.size + 1 + t2.size) = False := eq_false (by omega)
    have g5 : (9223372036854775807 < ((⟨#[40]⟩ : ByteArray) ++ t ++ (⟨#[32]⟩ : ByteArray) ++ sg ++ (⟨#[32]⟩ : ByteArray)).size + t2.size) = False := eq_false (by simp only [ByteArray.size_append]; first | omega | (simp only [show ∀ x, (⟨x⟩ : ByteArray).size = x.size from fun _ => rfl]; simp; omega))
    have b6 : (9223372036854775807 < 1 + t.size + 1 + sg.size + 1 + t2.size + 1) = False := eq_false (by omega)
    have g6 : (9223372036854775807 < ((⟨#[40]⟩ : ByteArray) ++ t ++ (⟨#[32]⟩ : ByteArray) ++ sg ++ (⟨#[32]⟩ : ByteArray) ++ t2).size + 1) = False := eq_false (by simp only [ByteArray.size_append]; first | omega | (simp only [show ∀ x, (⟨x⟩ : ByteArray).size = x.size from fun _ => rfl]; simp; omega))
    go_enter Tryd.func25, Tryd.ntmps25
    go_wp2
    have HW := Aside0.mk (bdrew (balloc (brefl w) (.cells #[.int .i64 6, .int .i64 o, .int .u32 0, .string noName, .slice (some ⟨pb, po, none⟩) 2 c] 36)))
    have z0 := box_up (bdrew (brefl (w.alloc (.cells #[.int .i64 6, .int .i64 o, .int .u32 0, .string noName, .slice (some ⟨pb, po, none⟩) 2 c] 36)))) 1 _ rfl
    have z1 := box_up (bdrew (brefl (w.alloc (.cells #[.int .i64 6, .int .i64 o, .int .u32 0, .string noName, .slice (some ⟨pb, po, none⟩) 2 c] 36)))) 4 _ rfl
    have z2 := cell_up (bdrew (balloc (brefl w) (.cells #[.int .i64 6, .int .i64 o, .int .u32 0, .string noName, .slice (some ⟨pb, po, none⟩) 2 c] 36))) x0
    have z3 := cell_up (bdrew (balloc (brefl w) (.cells #[.int .i64 6, .int .i64 o, .int .u32 0, .string noName, .slice (some ⟨pb, po, none⟩) 2 c] 36))) x1
    have z4 := cell_up (bdrew (balloc (brefl w) (.cells #[.int .i64 6, .int .i64 o, .int .u32 0, .string noName, .slice (some ⟨pb, po, none⟩) 2 c] 36))) x2
    have z5 := cell_up (bdrew (balloc (brefl w) (.cells #[.int .i64 6, .int .i64 o, .int .u32 0, .string noName, .slice (some ⟨pb, po, none⟩) 2 c] 36))) x3
    have z6 := cell_up (bdrew (balloc (brefl w) (.cells #[.int .i64 6, .int .i64 o, .int .u32 0, .string noName, .slice (some ⟨pb, po, none⟩) 2 c] 36))) x4
    have z7 := cell_up (bdrew (balloc (brefl w) (.cells #[.int .i64 6, .int .i64 o, .int .u32 0, .string noName, .slice (some ⟨pb, po, none⟩) 2 c] 36))) y0
    have z8 := cell_up (bdrew (balloc (brefl w) (.cells #[.int .i64 6, .int .i64 o, .int .u32 0, .string noName, .slice (some ⟨pb, po, none⟩) 2 c] 36))) y1
    have z9 := cell_up (bdrew (balloc (brefl w) (.cells #[.int .i64 6, .int .i64 o, .int .u32 0, .string noName, .slice (some ⟨pb, po, none⟩) 2 c] 36))) y2
    have z10 := cell_up (bdrew (balloc (brefl w) (.cells #[.int .i64 6, .int .i64 o, .int .u32 0, .string noName, .slice (some ⟨pb, po, none⟩) 2 c] 36))) y3
    have z11 := cell_up (bdrew (balloc (brefl w) (.cells #[.int .i64 6, .int .i64 o, .int .u32 0, .string noName, .slice (some ⟨pb, po, none⟩) 2 c] 36))) y4
    go_region_held3 (fun w' => w'.cell? ⟨w.heap.size, 1, none⟩ = some (.int .i64 o) ∧ w'.cell? ⟨w.heap.size, 4, none⟩ = some (.slice (some ⟨pb, po, none⟩) 2 c) ∧ w'.cell? ⟨pb, po, none⟩ = some (.int .i64 a.f0) ∧ w'.cell? ⟨pb, po + 1, none⟩ = some (.int .i64 a.f1) ∧ w'.cell? ⟨pb, po + 2, none⟩ = some (.int .u32 a.f2) ∧ w'.cell? ⟨pb, po + 3, none⟩ = some (.string a.f3) ∧ w'.cell? ⟨pb, po + 4, none⟩ = some (.slice A4 a.f4.length c4) ∧ w'.cell? ⟨pb, po + 5, none⟩ = some (.int .i64 b.f0) ∧ w'.cell? ⟨pb, po + 5 + 1, none⟩ = some (.int .i64 b.f1) ∧ w'.cell? ⟨pb, po + 5 + 2, none⟩ = some (.int .u32 b.f2) ∧ w'.cell? ⟨pb, po + 5 + 3, none⟩ = some (.string b.f3) ∧ w'.cell? ⟨pb, po + 5 + 4, none⟩ = some (.slice A5 b.f4.length c5) ∧ Aside0 (Below w.heap.size w w')) (first | exact ⟨z0, z1, z2, z3, z4, z5, z6, z7, z8, z9, z10, z11, HW⟩ | exact up12 (by assumption) (by assumption))
      (first | (go_at_call 25; (with_reducible refine (K.out _ HW.out).mono ?_); rintro e w1 ⟨rfl, hB⟩; have HK := Aside0.mk hB; have HW1 := Aside0.mk (bstep HW.out hB); clear hB) | (go_at_call 56; (with_reducible refine (G.out _).mono ?_); rintro e w3 ⟨rfl, hB⟩; have HK2 := Aside0.mk hB; have HW2 := Aside0.mk (bstep HW1.out hB); clear hB) | (go_at_call 25; (with_reducible refine (K2.out _ HW2.out).mono ?_); rintro e w2 ⟨rfl, hB⟩; have HK3 := Aside0.mk hB; have HW3 := Aside0.mk (bstep HW2.out hB); clear hB) | fail)
    go_wp2
    go_ret
    exact ⟨by first | rfl | exact congrArg _ (congrArg _ e), HW3.out⟩
  | call s l hs h6 hall ih =>
    intro hl A c w hI
    rw [exT_call] at hl ⊢
    simp only [List.length_append, List.length_singleton] at hl
    have hj : (joinT (l.map exT)).length ≤ 1000000 := by omega
    have K := Aside0.mk (fun w' (h : Below w.heap.size w w') => list_l l hj (fun y hy => ih y hy (by have := mem_join (m := l.map exT) (List.mem_map_of_mem hy); omega)) A c w' (Kd.C_below hI.2 h))
    have hs1 := hs.size
    have ht : (T (joinT (l.map exT))).size ≤ 1000000 := by rw [T_size]; omega
    have e : s ++ (⟨#[40]⟩ : ByteArray) ++ T (joinT (l.map exT)) ++ (⟨#[41]⟩ : ByteArray) = T (B s ++ [40] ++ joinT (l.map exT) ++ [41]) := by rw [← T_app, ← T_app, ← T_app, T_B]; rfl
    clear hI ih hl hs hj
    generalize T (B s ++ [40] ++ joinT (l.map exT) ++ [41]) = u at *
    generalize T (joinT (l.map exT)) = t at *
    have b1 : (9223372036854775807 < s.size + 1) = False := eq_false (by omega)
    have b2 : (9223372036854775807 < s.size + 1 + t.size) = False := eq_false (by omega)
    have g2 : (9223372036854775807 < (s ++ (⟨#[40]⟩ : ByteArray)).size + t.size) = False := eq_false (by simp only [ByteArray.size_append]; first | omega | (simp only [show ∀ x, (⟨x⟩ : ByteArray).size = x.size from fun _ => rfl]; simp; omega))
    have b3 : (9223372036854775807 < s.size + 1 + t.size + 1) = False := eq_false (by omega)
    have g3 : (9223372036854775807 < (s ++ (⟨#[40]⟩ : ByteArray) ++ t).size + 1) = False := eq_false (by simp only [ByteArray.size_append]; first | omega | (simp only [show ∀ x, (⟨x⟩ : ByteArray).size = x.size from fun _ => rfl]; simp; omega))
    go_enter Tryd.func25, Tryd.ntmps25
    go_wp2
    have HW := Aside0.mk (bdrew (balloc (brefl w) (.cells #[.int .i64 4, .int .i64 0, .int .u32 0, .string s, .slice A l.length c] 36)))
    have z0 := box_up (bdrew (brefl (w.alloc (.cells #[.int .i64 4, .int .i64 0, .int .u32 0, .string s, .slice A l.length c] 36)))) 3 _ rfl
    have z1 := box_up (bdrew (brefl (w.alloc (.cells #[.int .i64 4, .int .i64 0, .int .u32 0, .string s, .slice A l.length c] 36)))) 4 _ rfl
    go_region_held3 (fun w' => w'.cell? ⟨w.heap.size, 3, none⟩ = some (.string s) ∧ w'.cell? ⟨w.heap.size, 4, none⟩ = some (.slice A l.length c) ∧ Aside0 (Below w.heap.size w w')) (first | exact ⟨z0, z1, HW⟩ | exact up2 (by assumption) (by assumption))
      (first | (go_at_call 55; (with_reducible refine (K.out _ HW.out).mono ?_); rintro e w1 ⟨rfl, hB⟩; have HK := Aside0.mk hB; have HW1 := Aside0.mk (bstep HW.out hB); clear hB) | fail)
    go_wp2
    go_ret
    exact ⟨by first | rfl | exact congrArg _ (congrArg _ e), HW1.out⟩
end Go.Proofs.YthnhdompfhkepaaDoor.Pure
