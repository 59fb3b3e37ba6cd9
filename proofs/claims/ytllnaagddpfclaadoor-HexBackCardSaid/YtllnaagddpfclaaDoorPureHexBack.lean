/- HexBack, with no Go text in sight. -/
import Derived.Test.YtllnaagddpfclaaDoorQx14
import Derived.Test.YtllnaagddpfclaaDoorHexLine
namespace Go.Proofs.YtllnaagddpfclaaDoor.Pure
open Go Go.RowKit Go.Proofs.YtllnaagddpfclaaDoor Go.Proofs.YtllnaagddpfclaaDoor.Q Go.Proofs.YtllnaagddpfclaaDoor.Texts Go.Proofs.YtllnaagddpfclaaDoor.Hex Go.Proofs.YtllnaagddpfclaaDoorW.PrintWords Go.Proofs.YtllnaagddpfclaaDoorW.PrintLast Go.Proofs.YtllnaagddpfclaaDoorW.PrintMore
theorem j0_true (a b : ByteArray) : Ev (fun k => seedcornlaw02_HexBack.j0 k a b true) true := Ev.step (f := fun _ => some true) (fun _ => rfl) (Ev.now _)
theorem dump_len (n : Nat) : ∀ (l : List Int) (u : Nat), u + 16 * n ≤ 1000000 → (dumpN n l u).length ≤ 63 * n := by
  induction n with
  | zero => intro l u _; simp [dumpN]
  | succ n ih =>
    intro l u hu
    unfold dumpN
    split
    · simp
    · have h1 := line_len (l.take 16) u (by rw [List.length_take]; omega) (by omega)
      have h2 := ih (l.drop 16) (u + 16) (by omega)
      rw [List.length_append]
      omega
theorem back_j0 (a b : ByteArray) (ha : a.size ≤ 3000) (hb : b.size ≤ 3000) : Ev (fun k => seedcornlaw02_HexBack.j0 k a b false) true := by
  have a1 := bytes_is a
  have b1 := bytes_is b
  have ta : bytesOf (strOfNums (hexL (bytesOf a))) = hexL (bytesOf a) := bytes_str _ (hexG_bytes _ good_hexd _ a1)
  have tb : bytesOf (strOfNums (hexL (bytesOf b))) = hexL (bytesOf b) := bytes_str _ (hexG_bytes _ good_hexd _ b1)
  have da : bytesOf (strOfNums (dumpN 188 (bytesOf a) 0)) = dumpN 188 (bytesOf a) 0 := bytes_str _ (dumpN_bytes _ _ _ a1)
  obtain ⟨d1, d2⟩ := dump_load 188 (bytesOf a) 0 a1 (by rw [← size_len]; omega)
  have la : loadS (hexL (bytesOf a)) none false = bytesOf a := hexG_load _ good_hexd _ a1
  have lb : loadS (hexL (bytesOf b)) none false = bytesOf b := hexG_load _ good_hexd _ b1
  have sb : stS (hexL (bytesOf b)) none false = (none, false) := hexG_st _ good_hexd _ b1
  have la1 : (hexL (bytesOf a)).length ≤ 6000 := by unfold hexL; rw [hexG_length, ← size_len]; omega
  have lb1 : (hexL (bytesOf b)).length ≤ 6000 := by unfold hexL; rw [hexG_length, ← size_len]; omega
  have ld1 := dump_len 188 (bytesOf a) 0 (by omega)
  generalize hA : strOfNums (hexL (bytesOf a)) = A at ta
  generalize hB : strOfNums (hexL (bytesOf b)) = B at tb
  generalize hD : strOfNums (dumpN 188 (bytesOf a) 0) = D at da
  have zA : A.size ≤ 6000 := by rw [size_len, ta]; exact la1
  have zB : B.size ≤ 6000 := by rw [size_len, tb]; exact lb1
  have zD : D.size ≤ 63 * 188 := by rw [size_len, da]; exact ld1
  have vA : Ev (fun k => Ext.hex_Text.f k a) A := hA ▸ text_ev a ha
  have vB : Ev (fun k => Ext.hex_Text.f k b) B := hB ▸ text_ev b hb
  have vD : Ev (fun k => Ext.hex_Dump.f k a) D := hD ▸ dump_ev a ha
  have e1 : strOfNums (loadS (bytesOf A) none false) = a := by rw [ta, la, str_bytes]
  have e2 : strOfNums (loadS (bytesOf D) none false) = a := by rw [da, d1, str_bytes]
  have e3 : strOfNums (loadS (bytesOf (D ++ B)) none false) = a ++ b := by rw [bytes_append, da, tb, load_append, d1, d2, lb, ← bytes_append, str_bytes]
  have e4 : strOfNums (loadS (bytesOf (B ++ D)) none false) = b ++ a := by rw [bytes_append, da, tb, load_append, lb, sb, d1, ← bytes_append, str_bytes]
  have l1 := load_ev A (by omega)
  have l2 := load_ev D (by omega)
  have l3 := load_ev (D ++ B) (by rw [ByteArray.size_append]; omega)
  have l4 := load_ev (B ++ D) (by rw [ByteArray.size_append]; omega)
  rw [e1] at l1
  rw [e2] at l2
  rw [e3] at l3
  rw [e4] at l4
  refine Ev.step (fun k => by simp only [seedcornlaw02_HexBack.j0, Bool.false_eq_true, if_false]; rfl) (Ev.bind vA ?_)
  refine Ev.bind l1 ?_
  simp only [if_true]
  refine Ev.bind vD (Ev.bind l2 ?_)
  simp only [if_true]
  refine Ev.bind vD (Ev.bind vB ?_)
  simp only [if_pos (show D.size + B.size ≤ 9223372036854775807 by omega)]
  refine Ev.bind l3 ?_
  simp only [if_true, if_pos (show a.size + b.size ≤ 9223372036854775807 by omega)]
  refine Ev.bind vB (Ev.bind vD ?_)
  simp only [if_pos (show B.size + D.size ≤ 9223372036854775807 by omega)]
  refine Ev.bind l4 ?_
  simp only [beq_self_eq_true, if_pos (show b.size + a.size ≤ 9223372036854775807 by omega)]
  exact Ev.now _
theorem HexBack : seedcornlaw02_HexBack.Pure := by
  intro a b _ _
  apply Ev.rounds
  unfold seedcornlaw02_HexBack.f
  refine Ev.bind awake_ev ?_
  simp only [if_true]
  by_cases ha : (a.size : Int) > 3000
  · simp only [if_pos ha]; exact j0_true a b
  simp only [if_neg ha]
  by_cases hb : (b.size : Int) > 3000
  · rw [decide_eq_true hb]; exact j0_true a b
  rw [decide_eq_false hb]
  exact back_j0 a b (by omega) (by omega)
end Go.Proofs.YtllnaagddpfclaaDoor.Pure
