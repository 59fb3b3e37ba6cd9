/- seedcornref01.Text: a number's digits; seedcornref14.Sign. -/
import Derived.Test.YthnhdompfhkepaaDoorP12
namespace Go.Proofs.YthnhdompfhkepaaDoor.Pure
open Go Go.RowKit Go.Proofs.YthnhdompfhkepaaDoor.Q Go.Proofs.YthnhdompfhkepaaDoorW.PrintWords Go.Proofs.YthnhdompfhkepaaDoorW.PrintLast Go.Proofs.YthnhdompfhkepaaDoorW.PrintMore
set_option linter.unusedSimpArgs false
set_option linter.unusedVariables false
set_option maxHeartbeats 8000000
set_option maxRecDepth 100000
theorem conv1 (w : World) (x : Int) (h0 : 0 ≤ x) (h1 : x < 256) : (convert 51 9 (.slice (some ⟨w.heap.size, 0, none⟩) 1 1)).run Tryd.prog (w.alloc (.cells #[.int .u8 x] 5)) = .ok (.string ⟨#[UInt8.ofNat x.toNat]⟩) (w.alloc (.cells #[.int .u8 x] 5)) := by
  have e : ((UInt8.ofNat x.toNat).toNat : Int) = x := by rw [UInt8.toNat_ofNat']; omega
  have := run_convert_bytes_back (P := Tryd.prog) (w.alloc (.cells #[.int .u8 x] 5)) 51 9 5 ⟨w.heap.size, 0, none⟩ 1 [UInt8.ofNat x.toNat] (by kernel_rfl) (by kernel_rfl) (by kernel_rfl) (fun j hj => by
    have : j = 0 := by simpa using hj
    subst this
    rw [show (⟨w.heap.size, 0, none⟩ : Addr).add 0 = ⟨w.heap.size, 0, none⟩ from rfl, World.cell?_alloc_at _ _ _ _ rfl]
    simp only [List.getElem_singleton, e]; rfl)
  exact this
theorem dlen {k n : Nat} {s : ByteArray} (h : T (Lib.decDigits k ++ B s) = T (Lib.decDigits n)) : s.size ≤ Lib.nDigits n := by
  have := congrArg (fun t => (B t).length) h
  simp only [B_T, List.length_append, Lib.decDigits_length] at this
  have e : (B s).length = s.size := by simp [B]
  omega
theorem catT {a : Nat} {s : ByteArray} : (⟨#[48 + UInt8.ofNat a]⟩ : ByteArray) ++ s = T ([UInt8.ofNat (48 + a)] ++ B s) := by
  apply bytes_ext
  rw [ByteArray.toList_eq, ByteArray.toList_eq]
  simp [T, B, ByteArray.data_append]
theorem text_c (n : Nat) (hn : n < 4294967296) (w : World) : Calls Tryd.prog 50 #[.int .u32 n] w (RetS (T (Lib.decDigits n)) w) := by
  go_enter Tryd.func50, Tryd.ntmps50
  go_wp2
  go_loopg [0, 3] n (fun m v0 v3 wr => ∃ (k : Nat) (s : ByteArray), v0 = .int .u32 k ∧ v3 = .string s ∧ Aside0 (k = m ∧ k < 4294967296 ∧ T (Lib.decDigits k ++ B s) = T (Lib.decDigits n)) ∧ Aside0 (Below w.heap.size w wr))
  case atStart => exact ⟨n, ⟨#[]⟩, rfl, rfl, ⟨rfl, hn, by simp [B]⟩, ⟨brefl _⟩⟩
  case round =>
    obtain ⟨k, s, rfl, rfl, HJ, HB⟩ := hrel
    rename World => w0
    have hb := HJ.out.2.1
    have hl := dlen HJ.out.2.2
    have hn20 := Lib.nDigits_le20 n (by omega)
    have t3 : (9223372036854775807 < 1 + s.size) = False := eq_false (by omega)
    have t4 : (9223372036854775807 < s.size + 1) = False := eq_false (by omega)
    clear hn20
    by_cases hk : k ≤ 9
    · have t1 : (9 < (k : Int)) = False := eq_false (by omega)
      have cv := conv1 w0 (48 + (k : Int)) (by omega) (by omega)
      go_wp2
      go_ret
      refine ⟨?_, balloc HB.out _⟩
      rw [← HJ.out.2.2, Lib.decDigits_one (by omega)]
      show Ending.returned (.string _) = _
      rw [catT]
    · have t1 : (9 < (k : Int)) = True := eq_true (by omega)
      have cv := conv1 w0 (48 + (k : Int) % 10) (by omega) (by omega)
      go_wp2
      go_roundg (k / 10)
      case measure => have := HJ.out.1; omega
      case rel =>
        refine ⟨k / 10, ⟨#[48 + UInt8.ofNat (k % 10)]⟩ ++ s, by simp, rfl, ⟨rfl, by omega, ?_⟩, ⟨balloc HB.out _⟩⟩
        rw [← HJ.out.2.2, dec_rec (u := k) (by omega), catT, B_T, List.append_assoc]
theorem sign_c (o : Int) (h4 : 4 ≤ o) (h15 : o ≤ 15) (w : World) : Calls Tryd.prog 56 #[.int .i64 o] w (RetS (T (signT o)) w) := by
  have h : o = 4 ∨ o = 5 ∨ o = 6 ∨ o = 7 ∨ o = 8 ∨ o = 9 ∨ o = 10 ∨ o = 11 ∨ o = 12 ∨ o = 13 ∨ o = 14 ∨ o = 15 := by omega
  clear h4 h15
  rcases h with rfl | rfl | rfl | rfl | rfl | rfl | rfl | rfl | rfl | rfl | rfl | rfl
  all_goals (go_enter Tryd.func56, Tryd.ntmps56; go_wp2; go_ret; exact ⟨by simp [signT, Ext.signsL, T, B], balloc (brefl _) _⟩)
end Go.Proofs.YthnhdompfhkepaaDoor.Pure
