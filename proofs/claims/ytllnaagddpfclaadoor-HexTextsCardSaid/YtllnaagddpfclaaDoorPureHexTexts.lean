/- HexTexts, with no Go text in sight. -/
import Derived.Test.YtllnaagddpfclaaDoorQx7
import Derived.Test.YtllnaagddpfclaaDoorHexTxt
import Derived.Test.YtllnaagddpfclaaDoorHexParse
namespace Go.Proofs.YtllnaagddpfclaaDoor.Pure
open Go Go.RowKit Go.Proofs.YtllnaagddpfclaaDoor Go.Proofs.YtllnaagddpfclaaDoor.Q Go.Proofs.YtllnaagddpfclaaDoor.Texts Go.Proofs.YtllnaagddpfclaaDoor.Hex Go.Proofs.YtllnaagddpfclaaDoorW.PrintWords Go.Proofs.YtllnaagddpfclaaDoorW.PrintLast Go.Proofs.YtllnaagddpfclaaDoorW.PrintMore
theorem HexTexts : seedcornlaw02_HexTexts.Pure := by
  intro s _
  apply Ev.rounds
  unfold seedcornlaw02_HexTexts.f
  refine Ev.bind awake_ev ?_
  simp only [if_true]
  by_cases hs : (s.size : Int) > 3000
  · simp only [if_pos hs]; exact Ev.now _
  simp only [if_neg hs]
  have hb := bytes_is s
  have hL := size_len s
  have h1 : bytesOf (strOfNums (hexL (bytesOf s))) = hexL (bytesOf s) := bytes_str _ (hexG_bytes _ good_hexd _ hb)
  have z1 : (strOfNums (hexL (bytesOf s))).size ≤ 1000000 := by rw [str_size]; unfold hexL; rw [hexG_length]; omega
  have h2 : bytesOf (strOfNums ((hexL (bytesOf s)).map up)) = hexG (fun c => up (hexd c)) (bytesOf s) := by
    unfold hexL; rw [hexG_map]
    exact bytes_str _ (hexG_bytes _ good_up _ hb)
  have z2 : (strOfNums ((hexL (bytesOf s)).map up)).size ≤ 1000000 := by rw [str_size, List.length_map]; unfold hexL; rw [hexG_length]; omega
  have p1 := parse_ev (strOfNums (hexL (bytesOf s))) z1
  rw [h1, show parseS (hexL (bytesOf s)) = (s, 0, 0) from (hexG_parse _ good_hexd _ hb).trans (by rw [str_bytes])] at p1
  have g1 := great_ev (strOfNums (hexL (bytesOf s))) z1
  rw [h1] at g1
  have p2 := parse_ev (strOfNums ((hexL (bytesOf s)).map up)) z2
  rw [h2, show parseS (hexG (fun c => up (hexd c)) (bytesOf s)) = (s, 0, 0) from (hexG_parse _ good_up _ hb).trans (by rw [str_bytes])] at p2
  refine Ev.bind (text_ev s (by omega)) (Ev.bind p1 (Ev.bind g1 (Ev.bind p2 (Ev.bind (rtext_ev s (by omega)) ?_))))
  simp only [beq_self_eq_true, if_true]
  exact Ev.now _
end Go.Proofs.YtllnaagddpfclaaDoor.Pure
