/- A word turned any number of places is the document's, and turns add up, and go back: the printed statement of WordTurns. -/
import Derived.Test.YtdmgponiefhlnaaQx11
import Derived.Test.YtdmgponiefhlnaaBitsBase
namespace Go.Proofs.Ytdmgponiefhlnaa.Pure
open Go Go.RowKit Go.Proofs.Ytdmgponiefhlnaa.Q Go.Proofs.Ytdmgponiefhlnaa.Base Go.Proofs.YtdmgponiefhlnaaW.PrintWords Go.Proofs.YtdmgponiefhlnaaW.PrintLast Go.Proofs.YtdmgponiefhlnaaW.PrintMore

/-- One place on. -/
def rot1 (x : Int) : Int := (2 * x) % 4294967296 + x / 2147483648
def rotN : Nat → Int → Int
  | 0, a => a
  | n + 1, a => rot1 (rotN n a)
theorem rot1_range {x : Int} (h0 : 0 ≤ x) (h1 : x < 4294967296) : 0 ≤ rot1 x ∧ rot1 x < 4294967296 := by unfold rot1; omega
theorem rotN_range {x : Int} (h0 : 0 ≤ x) (h1 : x < 4294967296) (n : Nat) : 0 ≤ rotN n x ∧ rotN n x < 4294967296 := by
  induction n with
  | zero => exact ⟨h0, h1⟩
  | succ n ih => exact rot1_range ih.1 ih.2
theorem rotN_add (m n : Nat) (a : Int) : rotN (m + n) a = rotN m (rotN n a) := by
  induction m with
  | zero => simp [rotN]
  | succ m ih => rw [show m + 1 + n = (m + n) + 1 by omega]; simp only [rotN]; rw [ih]
theorem rw_0 (a : Int) (h0 : 0 ≤ a) (h1 : a < 4294967296) : ∃ q r : Int, a = q * 4294967296 + r ∧ 0 ≤ r ∧ r < 4294967296 ∧ 0 ≤ q ∧ q < 1 ∧ rotN 0 a = r * 1 + q := ⟨0, a, by omega, h0, h1, by omega, by omega, by show a = _; omega⟩
theorem rot1_lo {y : Int} (h0 : 0 ≤ y) (h1 : y < 2147483648) : rot1 y = 2 * y := by unfold rot1; omega
theorem rot1_hi {y : Int} (h0 : 2147483648 ≤ y) (h1 : y < 4294967296) : rot1 y = 2 * y - 4294967296 + 1 := by unfold rot1; omega
theorem rw_1 (a : Int) (h0 : 0 ≤ a) (h1 : a < 4294967296) : ∃ q r : Int, a = q * 2147483648 + r ∧ 0 ≤ r ∧ r < 2147483648 ∧ 0 ≤ q ∧ q < 2 ∧ rotN 1 a = r * 2 + q := by
  obtain ⟨q, r, e, r0, r1, q0, q1, h⟩ := rw_0 a h0 h1
  have hs : rotN 1 a = rot1 (rotN 0 a) := rfl
  rw [h] at hs
  by_cases hc : r < 2147483648
  · rw [rot1_lo (by omega) (by omega)] at hs
    exact ⟨2 * q, r, by omega, by omega, by omega, by omega, by omega, by omega⟩
  · rw [rot1_hi (by omega) (by omega)] at hs
    exact ⟨2 * q + 1, r - 2147483648, by omega, by omega, by omega, by omega, by omega, by omega⟩
theorem rw_2 (a : Int) (h0 : 0 ≤ a) (h1 : a < 4294967296) : ∃ q r : Int, a = q * 1073741824 + r ∧ 0 ≤ r ∧ r < 1073741824 ∧ 0 ≤ q ∧ q < 4 ∧ rotN 2 a = r * 4 + q := by
  obtain ⟨q, r, e, r0, r1, q0, q1, h⟩ := rw_1 a h0 h1
  have hs : rotN 2 a = rot1 (rotN 1 a) := rfl
  rw [h] at hs
  by_cases hc : r < 1073741824
  · rw [rot1_lo (by omega) (by omega)] at hs
    exact ⟨2 * q, r, by omega, by omega, by omega, by omega, by omega, by omega⟩
  · rw [rot1_hi (by omega) (by omega)] at hs
    exact ⟨2 * q + 1, r - 1073741824, by omega, by omega, by omega, by omega, by omega, by omega⟩
theorem rw_3 (a : Int) (h0 : 0 ≤ a) (h1 : a < 4294967296) : ∃ q r : Int, a = q * 536870912 + r ∧ 0 ≤ r ∧ r < 536870912 ∧ 0 ≤ q ∧ q < 8 ∧ rotN 3 a = r * 8 + q := by
  obtain ⟨q, r, e, r0, r1, q0, q1, h⟩ := rw_2 a h0 h1
  have hs : rotN 3 a = rot1 (rotN 2 a) := rfl
  rw [h] at hs
  by_cases hc : r < 536870912
  · rw [rot1_lo (by omega) (by omega)] at hs
    exact ⟨2 * q, r, by omega, by omega, by omega, by omega, by omega, by omega⟩
  · rw [rot1_hi (by omega) (by omega)] at hs
    exact ⟨2 * q + 1, r - 536870912, by omega, by omega, by omega, by omega, by omega, by omega⟩
theorem rw_4 (a : Int) (h0 : 0 ≤ a) (h1 : a < 4294967296) : ∃ q r : Int, a = q * 268435456 + r ∧ 0 ≤ r ∧ r < 268435456 ∧ 0 ≤ q ∧ q < 16 ∧ rotN 4 a = r * 16 + q := by
  obtain ⟨q, r, e, r0, r1, q0, q1, h⟩ := rw_3 a h0 h1
  have hs : rotN 4 a = rot1 (rotN 3 a) := rfl
  rw [h] at hs
  by_cases hc : r < 268435456
  · rw [rot1_lo (by omega) (by omega)] at hs
    exact ⟨2 * q, r, by omega, by omega, by omega, by omega, by omega, by omega⟩
  · rw [rot1_hi (by omega) (by omega)] at hs
    exact ⟨2 * q + 1, r - 268435456, by omega, by omega, by omega, by omega, by omega, by omega⟩
theorem rw_5 (a : Int) (h0 : 0 ≤ a) (h1 : a < 4294967296) : ∃ q r : Int, a = q * 134217728 + r ∧ 0 ≤ r ∧ r < 134217728 ∧ 0 ≤ q ∧ q < 32 ∧ rotN 5 a = r * 32 + q := by
  obtain ⟨q, r, e, r0, r1, q0, q1, h⟩ := rw_4 a h0 h1
  have hs : rotN 5 a = rot1 (rotN 4 a) := rfl
  rw [h] at hs
  by_cases hc : r < 134217728
  · rw [rot1_lo (by omega) (by omega)] at hs
    exact ⟨2 * q, r, by omega, by omega, by omega, by omega, by omega, by omega⟩
  · rw [rot1_hi (by omega) (by omega)] at hs
    exact ⟨2 * q + 1, r - 134217728, by omega, by omega, by omega, by omega, by omega, by omega⟩
theorem rw_6 (a : Int) (h0 : 0 ≤ a) (h1 : a < 4294967296) : ∃ q r : Int, a = q * 67108864 + r ∧ 0 ≤ r ∧ r < 67108864 ∧ 0 ≤ q ∧ q < 64 ∧ rotN 6 a = r * 64 + q := by
  obtain ⟨q, r, e, r0, r1, q0, q1, h⟩ := rw_5 a h0 h1
  have hs : rotN 6 a = rot1 (rotN 5 a) := rfl
  rw [h] at hs
  by_cases hc : r < 67108864
  · rw [rot1_lo (by omega) (by omega)] at hs
    exact ⟨2 * q, r, by omega, by omega, by omega, by omega, by omega, by omega⟩
  · rw [rot1_hi (by omega) (by omega)] at hs
    exact ⟨2 * q + 1, r - 67108864, by omega, by omega, by omega, by omega, by omega, by omega⟩
theorem rw_7 (a : Int) (h0 : 0 ≤ a) (h1 : a < 4294967296) : ∃ q r : Int, a = q * 33554432 + r ∧ 0 ≤ r ∧ r < 33554432 ∧ 0 ≤ q ∧ q < 128 ∧ rotN 7 a = r * 128 + q := by
  obtain ⟨q, r, e, r0, r1, q0, q1, h⟩ := rw_6 a h0 h1
  have hs : rotN 7 a = rot1 (rotN 6 a) := rfl
  rw [h] at hs
  by_cases hc : r < 33554432
  · rw [rot1_lo (by omega) (by omega)] at hs
    exact ⟨2 * q, r, by omega, by omega, by omega, by omega, by omega, by omega⟩
  · rw [rot1_hi (by omega) (by omega)] at hs
    exact ⟨2 * q + 1, r - 33554432, by omega, by omega, by omega, by omega, by omega, by omega⟩
theorem rw_8 (a : Int) (h0 : 0 ≤ a) (h1 : a < 4294967296) : ∃ q r : Int, a = q * 16777216 + r ∧ 0 ≤ r ∧ r < 16777216 ∧ 0 ≤ q ∧ q < 256 ∧ rotN 8 a = r * 256 + q := by
  obtain ⟨q, r, e, r0, r1, q0, q1, h⟩ := rw_7 a h0 h1
  have hs : rotN 8 a = rot1 (rotN 7 a) := rfl
  rw [h] at hs
  by_cases hc : r < 16777216
  · rw [rot1_lo (by omega) (by omega)] at hs
    exact ⟨2 * q, r, by omega, by omega, by omega, by omega, by omega, by omega⟩
  · rw [rot1_hi (by omega) (by omega)] at hs
    exact ⟨2 * q + 1, r - 16777216, by omega, by omega, by omega, by omega, by omega, by omega⟩
theorem rw_9 (a : Int) (h0 : 0 ≤ a) (h1 : a < 4294967296) : ∃ q r : Int, a = q * 8388608 + r ∧ 0 ≤ r ∧ r < 8388608 ∧ 0 ≤ q ∧ q < 512 ∧ rotN 9 a = r * 512 + q := by
  obtain ⟨q, r, e, r0, r1, q0, q1, h⟩ := rw_8 a h0 h1
  have hs : rotN 9 a = rot1 (rotN 8 a) := rfl
  rw [h] at hs
  by_cases hc : r < 8388608
  · rw [rot1_lo (by omega) (by omega)] at hs
    exact ⟨2 * q, r, by omega, by omega, by omega, by omega, by omega, by omega⟩
  · rw [rot1_hi (by omega) (by omega)] at hs
    exact ⟨2 * q + 1, r - 8388608, by omega, by omega, by omega, by omega, by omega, by omega⟩
theorem rw_10 (a : Int) (h0 : 0 ≤ a) (h1 : a < 4294967296) : ∃ q r : Int, a = q * 4194304 + r ∧ 0 ≤ r ∧ r < 4194304 ∧ 0 ≤ q ∧ q < 1024 ∧ rotN 10 a = r * 1024 + q := by
  obtain ⟨q, r, e, r0, r1, q0, q1, h⟩ := rw_9 a h0 h1
  have hs : rotN 10 a = rot1 (rotN 9 a) := rfl
  rw [h] at hs
  by_cases hc : r < 4194304
  · rw [rot1_lo (by omega) (by omega)] at hs
    exact ⟨2 * q, r, by omega, by omega, by omega, by omega, by omega, by omega⟩
  · rw [rot1_hi (by omega) (by omega)] at hs
    exact ⟨2 * q + 1, r - 4194304, by omega, by omega, by omega, by omega, by omega, by omega⟩
theorem rw_11 (a : Int) (h0 : 0 ≤ a) (h1 : a < 4294967296) : ∃ q r : Int, a = q * 2097152 + r ∧ 0 ≤ r ∧ r < 2097152 ∧ 0 ≤ q ∧ q < 2048 ∧ rotN 11 a = r * 2048 + q := by
  obtain ⟨q, r, e, r0, r1, q0, q1, h⟩ := rw_10 a h0 h1
  have hs : rotN 11 a = rot1 (rotN 10 a) := rfl
  rw [h] at hs
  by_cases hc : r < 2097152
  · rw [rot1_lo (by omega) (by omega)] at hs
    exact ⟨2 * q, r, by omega, by omega, by omega, by omega, by omega, by omega⟩
  · rw [rot1_hi (by omega) (by omega)] at hs
    exact ⟨2 * q + 1, r - 2097152, by omega, by omega, by omega, by omega, by omega, by omega⟩
theorem rw_12 (a : Int) (h0 : 0 ≤ a) (h1 : a < 4294967296) : ∃ q r : Int, a = q * 1048576 + r ∧ 0 ≤ r ∧ r < 1048576 ∧ 0 ≤ q ∧ q < 4096 ∧ rotN 12 a = r * 4096 + q := by
  obtain ⟨q, r, e, r0, r1, q0, q1, h⟩ := rw_11 a h0 h1
  have hs : rotN 12 a = rot1 (rotN 11 a) := rfl
  rw [h] at hs
  by_cases hc : r < 1048576
  · rw [rot1_lo (by omega) (by omega)] at hs
    exact ⟨2 * q, r, by omega, by omega, by omega, by omega, by omega, by omega⟩
  · rw [rot1_hi (by omega) (by omega)] at hs
    exact ⟨2 * q + 1, r - 1048576, by omega, by omega, by omega, by omega, by omega, by omega⟩
theorem rw_13 (a : Int) (h0 : 0 ≤ a) (h1 : a < 4294967296) : ∃ q r : Int, a = q * 524288 + r ∧ 0 ≤ r ∧ r < 524288 ∧ 0 ≤ q ∧ q < 8192 ∧ rotN 13 a = r * 8192 + q := by
  obtain ⟨q, r, e, r0, r1, q0, q1, h⟩ := rw_12 a h0 h1
  have hs : rotN 13 a = rot1 (rotN 12 a) := rfl
  rw [h] at hs
  by_cases hc : r < 524288
  · rw [rot1_lo (by omega) (by omega)] at hs
    exact ⟨2 * q, r, by omega, by omega, by omega, by omega, by omega, by omega⟩
  · rw [rot1_hi (by omega) (by omega)] at hs
    exact ⟨2 * q + 1, r - 524288, by omega, by omega, by omega, by omega, by omega, by omega⟩
theorem rw_14 (a : Int) (h0 : 0 ≤ a) (h1 : a < 4294967296) : ∃ q r : Int, a = q * 262144 + r ∧ 0 ≤ r ∧ r < 262144 ∧ 0 ≤ q ∧ q < 16384 ∧ rotN 14 a = r * 16384 + q := by
  obtain ⟨q, r, e, r0, r1, q0, q1, h⟩ := rw_13 a h0 h1
  have hs : rotN 14 a = rot1 (rotN 13 a) := rfl
  rw [h] at hs
  by_cases hc : r < 262144
  · rw [rot1_lo (by omega) (by omega)] at hs
    exact ⟨2 * q, r, by omega, by omega, by omega, by omega, by omega, by omega⟩
  · rw [rot1_hi (by omega) (by omega)] at hs
    exact ⟨2 * q + 1, r - 262144, by omega, by omega, by omega, by omega, by omega, by omega⟩
theorem rw_15 (a : Int) (h0 : 0 ≤ a) (h1 : a < 4294967296) : ∃ q r : Int, a = q * 131072 + r ∧ 0 ≤ r ∧ r < 131072 ∧ 0 ≤ q ∧ q < 32768 ∧ rotN 15 a = r * 32768 + q := by
  obtain ⟨q, r, e, r0, r1, q0, q1, h⟩ := rw_14 a h0 h1
  have hs : rotN 15 a = rot1 (rotN 14 a) := rfl
  rw [h] at hs
  by_cases hc : r < 131072
  · rw [rot1_lo (by omega) (by omega)] at hs
    exact ⟨2 * q, r, by omega, by omega, by omega, by omega, by omega, by omega⟩
  · rw [rot1_hi (by omega) (by omega)] at hs
    exact ⟨2 * q + 1, r - 131072, by omega, by omega, by omega, by omega, by omega, by omega⟩
theorem rw_16 (a : Int) (h0 : 0 ≤ a) (h1 : a < 4294967296) : ∃ q r : Int, a = q * 65536 + r ∧ 0 ≤ r ∧ r < 65536 ∧ 0 ≤ q ∧ q < 65536 ∧ rotN 16 a = r * 65536 + q := by
  obtain ⟨q, r, e, r0, r1, q0, q1, h⟩ := rw_15 a h0 h1
  have hs : rotN 16 a = rot1 (rotN 15 a) := rfl
  rw [h] at hs
  by_cases hc : r < 65536
  · rw [rot1_lo (by omega) (by omega)] at hs
    exact ⟨2 * q, r, by omega, by omega, by omega, by omega, by omega, by omega⟩
  · rw [rot1_hi (by omega) (by omega)] at hs
    exact ⟨2 * q + 1, r - 65536, by omega, by omega, by omega, by omega, by omega, by omega⟩
theorem rw_17 (a : Int) (h0 : 0 ≤ a) (h1 : a < 4294967296) : ∃ q r : Int, a = q * 32768 + r ∧ 0 ≤ r ∧ r < 32768 ∧ 0 ≤ q ∧ q < 131072 ∧ rotN 17 a = r * 131072 + q := by
  obtain ⟨q, r, e, r0, r1, q0, q1, h⟩ := rw_16 a h0 h1
  have hs : rotN 17 a = rot1 (rotN 16 a) := rfl
  rw [h] at hs
  by_cases hc : r < 32768
  · rw [rot1_lo (by omega) (by omega)] at hs
    exact ⟨2 * q, r, by omega, by omega, by omega, by omega, by omega, by omega⟩
  · rw [rot1_hi (by omega) (by omega)] at hs
    exact ⟨2 * q + 1, r - 32768, by omega, by omega, by omega, by omega, by omega, by omega⟩
theorem rw_18 (a : Int) (h0 : 0 ≤ a) (h1 : a < 4294967296) : ∃ q r : Int, a = q * 16384 + r ∧ 0 ≤ r ∧ r < 16384 ∧ 0 ≤ q ∧ q < 262144 ∧ rotN 18 a = r * 262144 + q := by
  obtain ⟨q, r, e, r0, r1, q0, q1, h⟩ := rw_17 a h0 h1
  have hs : rotN 18 a = rot1 (rotN 17 a) := rfl
  rw [h] at hs
  by_cases hc : r < 16384
  · rw [rot1_lo (by omega) (by omega)] at hs
    exact ⟨2 * q, r, by omega, by omega, by omega, by omega, by omega, by omega⟩
  · rw [rot1_hi (by omega) (by omega)] at hs
    exact ⟨2 * q + 1, r - 16384, by omega, by omega, by omega, by omega, by omega, by omega⟩
theorem rw_19 (a : Int) (h0 : 0 ≤ a) (h1 : a < 4294967296) : ∃ q r : Int, a = q * 8192 + r ∧ 0 ≤ r ∧ r < 8192 ∧ 0 ≤ q ∧ q < 524288 ∧ rotN 19 a = r * 524288 + q := by
  obtain ⟨q, r, e, r0, r1, q0, q1, h⟩ := rw_18 a h0 h1
  have hs : rotN 19 a = rot1 (rotN 18 a) := rfl
  rw [h] at hs
  by_cases hc : r < 8192
  · rw [rot1_lo (by omega) (by omega)] at hs
    exact ⟨2 * q, r, by omega, by omega, by omega, by omega, by omega, by omega⟩
  · rw [rot1_hi (by omega) (by omega)] at hs
    exact ⟨2 * q + 1, r - 8192, by omega, by omega, by omega, by omega, by omega, by omega⟩
theorem rw_20 (a : Int) (h0 : 0 ≤ a) (h1 : a < 4294967296) : ∃ q r : Int, a = q * 4096 + r ∧ 0 ≤ r ∧ r < 4096 ∧ 0 ≤ q ∧ q < 1048576 ∧ rotN 20 a = r * 1048576 + q := by
  obtain ⟨q, r, e, r0, r1, q0, q1, h⟩ := rw_19 a h0 h1
  have hs : rotN 20 a = rot1 (rotN 19 a) := rfl
  rw [h] at hs
  by_cases hc : r < 4096
  · rw [rot1_lo (by omega) (by omega)] at hs
    exact ⟨2 * q, r, by omega, by omega, by omega, by omega, by omega, by omega⟩
  · rw [rot1_hi (by omega) (by omega)] at hs
    exact ⟨2 * q + 1, r - 4096, by omega, by omega, by omega, by omega, by omega, by omega⟩
theorem rw_21 (a : Int) (h0 : 0 ≤ a) (h1 : a < 4294967296) : ∃ q r : Int, a = q * 2048 + r ∧ 0 ≤ r ∧ r < 2048 ∧ 0 ≤ q ∧ q < 2097152 ∧ rotN 21 a = r * 2097152 + q := by
  obtain ⟨q, r, e, r0, r1, q0, q1, h⟩ := rw_20 a h0 h1
  have hs : rotN 21 a = rot1 (rotN 20 a) := rfl
  rw [h] at hs
  by_cases hc : r < 2048
  · rw [rot1_lo (by omega) (by omega)] at hs
    exact ⟨2 * q, r, by omega, by omega, by omega, by omega, by omega, by omega⟩
  · rw [rot1_hi (by omega) (by omega)] at hs
    exact ⟨2 * q + 1, r - 2048, by omega, by omega, by omega, by omega, by omega, by omega⟩
theorem rw_22 (a : Int) (h0 : 0 ≤ a) (h1 : a < 4294967296) : ∃ q r : Int, a = q * 1024 + r ∧ 0 ≤ r ∧ r < 1024 ∧ 0 ≤ q ∧ q < 4194304 ∧ rotN 22 a = r * 4194304 + q := by
  obtain ⟨q, r, e, r0, r1, q0, q1, h⟩ := rw_21 a h0 h1
  have hs : rotN 22 a = rot1 (rotN 21 a) := rfl
  rw [h] at hs
  by_cases hc : r < 1024
  · rw [rot1_lo (by omega) (by omega)] at hs
    exact ⟨2 * q, r, by omega, by omega, by omega, by omega, by omega, by omega⟩
  · rw [rot1_hi (by omega) (by omega)] at hs
    exact ⟨2 * q + 1, r - 1024, by omega, by omega, by omega, by omega, by omega, by omega⟩
theorem rw_23 (a : Int) (h0 : 0 ≤ a) (h1 : a < 4294967296) : ∃ q r : Int, a = q * 512 + r ∧ 0 ≤ r ∧ r < 512 ∧ 0 ≤ q ∧ q < 8388608 ∧ rotN 23 a = r * 8388608 + q := by
  obtain ⟨q, r, e, r0, r1, q0, q1, h⟩ := rw_22 a h0 h1
  have hs : rotN 23 a = rot1 (rotN 22 a) := rfl
  rw [h] at hs
  by_cases hc : r < 512
  · rw [rot1_lo (by omega) (by omega)] at hs
    exact ⟨2 * q, r, by omega, by omega, by omega, by omega, by omega, by omega⟩
  · rw [rot1_hi (by omega) (by omega)] at hs
    exact ⟨2 * q + 1, r - 512, by omega, by omega, by omega, by omega, by omega, by omega⟩
theorem rw_24 (a : Int) (h0 : 0 ≤ a) (h1 : a < 4294967296) : ∃ q r : Int, a = q * 256 + r ∧ 0 ≤ r ∧ r < 256 ∧ 0 ≤ q ∧ q < 16777216 ∧ rotN 24 a = r * 16777216 + q := by
  obtain ⟨q, r, e, r0, r1, q0, q1, h⟩ := rw_23 a h0 h1
  have hs : rotN 24 a = rot1 (rotN 23 a) := rfl
  rw [h] at hs
  by_cases hc : r < 256
  · rw [rot1_lo (by omega) (by omega)] at hs
    exact ⟨2 * q, r, by omega, by omega, by omega, by omega, by omega, by omega⟩
  · rw [rot1_hi (by omega) (by omega)] at hs
    exact ⟨2 * q + 1, r - 256, by omega, by omega, by omega, by omega, by omega, by omega⟩
theorem rw_25 (a : Int) (h0 : 0 ≤ a) (h1 : a < 4294967296) : ∃ q r : Int, a = q * 128 + r ∧ 0 ≤ r ∧ r < 128 ∧ 0 ≤ q ∧ q < 33554432 ∧ rotN 25 a = r * 33554432 + q := by
  obtain ⟨q, r, e, r0, r1, q0, q1, h⟩ := rw_24 a h0 h1
  have hs : rotN 25 a = rot1 (rotN 24 a) := rfl
  rw [h] at hs
  by_cases hc : r < 128
  · rw [rot1_lo (by omega) (by omega)] at hs
    exact ⟨2 * q, r, by omega, by omega, by omega, by omega, by omega, by omega⟩
  · rw [rot1_hi (by omega) (by omega)] at hs
    exact ⟨2 * q + 1, r - 128, by omega, by omega, by omega, by omega, by omega, by omega⟩
theorem rw_26 (a : Int) (h0 : 0 ≤ a) (h1 : a < 4294967296) : ∃ q r : Int, a = q * 64 + r ∧ 0 ≤ r ∧ r < 64 ∧ 0 ≤ q ∧ q < 67108864 ∧ rotN 26 a = r * 67108864 + q := by
  obtain ⟨q, r, e, r0, r1, q0, q1, h⟩ := rw_25 a h0 h1
  have hs : rotN 26 a = rot1 (rotN 25 a) := rfl
  rw [h] at hs
  by_cases hc : r < 64
  · rw [rot1_lo (by omega) (by omega)] at hs
    exact ⟨2 * q, r, by omega, by omega, by omega, by omega, by omega, by omega⟩
  · rw [rot1_hi (by omega) (by omega)] at hs
    exact ⟨2 * q + 1, r - 64, by omega, by omega, by omega, by omega, by omega, by omega⟩
theorem rw_27 (a : Int) (h0 : 0 ≤ a) (h1 : a < 4294967296) : ∃ q r : Int, a = q * 32 + r ∧ 0 ≤ r ∧ r < 32 ∧ 0 ≤ q ∧ q < 134217728 ∧ rotN 27 a = r * 134217728 + q := by
  obtain ⟨q, r, e, r0, r1, q0, q1, h⟩ := rw_26 a h0 h1
  have hs : rotN 27 a = rot1 (rotN 26 a) := rfl
  rw [h] at hs
  by_cases hc : r < 32
  · rw [rot1_lo (by omega) (by omega)] at hs
    exact ⟨2 * q, r, by omega, by omega, by omega, by omega, by omega, by omega⟩
  · rw [rot1_hi (by omega) (by omega)] at hs
    exact ⟨2 * q + 1, r - 32, by omega, by omega, by omega, by omega, by omega, by omega⟩
theorem rw_28 (a : Int) (h0 : 0 ≤ a) (h1 : a < 4294967296) : ∃ q r : Int, a = q * 16 + r ∧ 0 ≤ r ∧ r < 16 ∧ 0 ≤ q ∧ q < 268435456 ∧ rotN 28 a = r * 268435456 + q := by
  obtain ⟨q, r, e, r0, r1, q0, q1, h⟩ := rw_27 a h0 h1
  have hs : rotN 28 a = rot1 (rotN 27 a) := rfl
  rw [h] at hs
  by_cases hc : r < 16
  · rw [rot1_lo (by omega) (by omega)] at hs
    exact ⟨2 * q, r, by omega, by omega, by omega, by omega, by omega, by omega⟩
  · rw [rot1_hi (by omega) (by omega)] at hs
    exact ⟨2 * q + 1, r - 16, by omega, by omega, by omega, by omega, by omega, by omega⟩
theorem rw_29 (a : Int) (h0 : 0 ≤ a) (h1 : a < 4294967296) : ∃ q r : Int, a = q * 8 + r ∧ 0 ≤ r ∧ r < 8 ∧ 0 ≤ q ∧ q < 536870912 ∧ rotN 29 a = r * 536870912 + q := by
  obtain ⟨q, r, e, r0, r1, q0, q1, h⟩ := rw_28 a h0 h1
  have hs : rotN 29 a = rot1 (rotN 28 a) := rfl
  rw [h] at hs
  by_cases hc : r < 8
  · rw [rot1_lo (by omega) (by omega)] at hs
    exact ⟨2 * q, r, by omega, by omega, by omega, by omega, by omega, by omega⟩
  · rw [rot1_hi (by omega) (by omega)] at hs
    exact ⟨2 * q + 1, r - 8, by omega, by omega, by omega, by omega, by omega, by omega⟩
theorem rw_30 (a : Int) (h0 : 0 ≤ a) (h1 : a < 4294967296) : ∃ q r : Int, a = q * 4 + r ∧ 0 ≤ r ∧ r < 4 ∧ 0 ≤ q ∧ q < 1073741824 ∧ rotN 30 a = r * 1073741824 + q := by
  obtain ⟨q, r, e, r0, r1, q0, q1, h⟩ := rw_29 a h0 h1
  have hs : rotN 30 a = rot1 (rotN 29 a) := rfl
  rw [h] at hs
  by_cases hc : r < 4
  · rw [rot1_lo (by omega) (by omega)] at hs
    exact ⟨2 * q, r, by omega, by omega, by omega, by omega, by omega, by omega⟩
  · rw [rot1_hi (by omega) (by omega)] at hs
    exact ⟨2 * q + 1, r - 4, by omega, by omega, by omega, by omega, by omega, by omega⟩
theorem rw_31 (a : Int) (h0 : 0 ≤ a) (h1 : a < 4294967296) : ∃ q r : Int, a = q * 2 + r ∧ 0 ≤ r ∧ r < 2 ∧ 0 ≤ q ∧ q < 2147483648 ∧ rotN 31 a = r * 2147483648 + q := by
  obtain ⟨q, r, e, r0, r1, q0, q1, h⟩ := rw_30 a h0 h1
  have hs : rotN 31 a = rot1 (rotN 30 a) := rfl
  rw [h] at hs
  by_cases hc : r < 2
  · rw [rot1_lo (by omega) (by omega)] at hs
    exact ⟨2 * q, r, by omega, by omega, by omega, by omega, by omega, by omega⟩
  · rw [rot1_hi (by omega) (by omega)] at hs
    exact ⟨2 * q + 1, r - 2, by omega, by omega, by omega, by omega, by omega, by omega⟩
theorem rw_32 (a : Int) (h0 : 0 ≤ a) (h1 : a < 4294967296) : ∃ q r : Int, a = q * 1 + r ∧ 0 ≤ r ∧ r < 1 ∧ 0 ≤ q ∧ q < 4294967296 ∧ rotN 32 a = r * 4294967296 + q := by
  obtain ⟨q, r, e, r0, r1, q0, q1, h⟩ := rw_31 a h0 h1
  have hs : rotN 32 a = rot1 (rotN 31 a) := rfl
  rw [h] at hs
  by_cases hc : r < 1
  · rw [rot1_lo (by omega) (by omega)] at hs
    exact ⟨2 * q, r, by omega, by omega, by omega, by omega, by omega, by omega⟩
  · rw [rot1_hi (by omega) (by omega)] at hs
    exact ⟨2 * q + 1, r - 1, by omega, by omega, by omega, by omega, by omega, by omega⟩
theorem rot_0 (a : Int) (h0 : 0 ≤ a) (h1 : a < 4294967296) : rotN 0 a = (a * 1) % 4294967296 + a / 4294967296 := by
  obtain ⟨q, r, e, r0, r1, q0, q1, h⟩ := rw_0 a h0 h1
  have e1 : a / 4294967296 = q := by omega
  rw [h, show a * 1 = r * 1 + q * 4294967296 by omega, Int.add_mul_emod_self_right, Int.emod_eq_of_lt (by omega) (by omega), e1]
theorem rot_1 (a : Int) (h0 : 0 ≤ a) (h1 : a < 4294967296) : rotN 1 a = (a * 2) % 4294967296 + a / 2147483648 := by
  obtain ⟨q, r, e, r0, r1, q0, q1, h⟩ := rw_1 a h0 h1
  have e1 : a / 2147483648 = q := by omega
  rw [h, show a * 2 = r * 2 + q * 4294967296 by omega, Int.add_mul_emod_self_right, Int.emod_eq_of_lt (by omega) (by omega), e1]
theorem rot_2 (a : Int) (h0 : 0 ≤ a) (h1 : a < 4294967296) : rotN 2 a = (a * 4) % 4294967296 + a / 1073741824 := by
  obtain ⟨q, r, e, r0, r1, q0, q1, h⟩ := rw_2 a h0 h1
  have e1 : a / 1073741824 = q := by omega
  rw [h, show a * 4 = r * 4 + q * 4294967296 by omega, Int.add_mul_emod_self_right, Int.emod_eq_of_lt (by omega) (by omega), e1]
theorem rot_3 (a : Int) (h0 : 0 ≤ a) (h1 : a < 4294967296) : rotN 3 a = (a * 8) % 4294967296 + a / 536870912 := by
  obtain ⟨q, r, e, r0, r1, q0, q1, h⟩ := rw_3 a h0 h1
  have e1 : a / 536870912 = q := by omega
  rw [h, show a * 8 = r * 8 + q * 4294967296 by omega, Int.add_mul_emod_self_right, Int.emod_eq_of_lt (by omega) (by omega), e1]
theorem rot_4 (a : Int) (h0 : 0 ≤ a) (h1 : a < 4294967296) : rotN 4 a = (a * 16) % 4294967296 + a / 268435456 := by
  obtain ⟨q, r, e, r0, r1, q0, q1, h⟩ := rw_4 a h0 h1
  have e1 : a / 268435456 = q := by omega
  rw [h, show a * 16 = r * 16 + q * 4294967296 by omega, Int.add_mul_emod_self_right, Int.emod_eq_of_lt (by omega) (by omega), e1]
theorem rot_5 (a : Int) (h0 : 0 ≤ a) (h1 : a < 4294967296) : rotN 5 a = (a * 32) % 4294967296 + a / 134217728 := by
  obtain ⟨q, r, e, r0, r1, q0, q1, h⟩ := rw_5 a h0 h1
  have e1 : a / 134217728 = q := by omega
  rw [h, show a * 32 = r * 32 + q * 4294967296 by omega, Int.add_mul_emod_self_right, Int.emod_eq_of_lt (by omega) (by omega), e1]
theorem rot_6 (a : Int) (h0 : 0 ≤ a) (h1 : a < 4294967296) : rotN 6 a = (a * 64) % 4294967296 + a / 67108864 := by
  obtain ⟨q, r, e, r0, r1, q0, q1, h⟩ := rw_6 a h0 h1
  have e1 : a / 67108864 = q := by omega
  rw [h, show a * 64 = r * 64 + q * 4294967296 by omega, Int.add_mul_emod_self_right, Int.emod_eq_of_lt (by omega) (by omega), e1]
theorem rot_7 (a : Int) (h0 : 0 ≤ a) (h1 : a < 4294967296) : rotN 7 a = (a * 128) % 4294967296 + a / 33554432 := by
  obtain ⟨q, r, e, r0, r1, q0, q1, h⟩ := rw_7 a h0 h1
  have e1 : a / 33554432 = q := by omega
  rw [h, show a * 128 = r * 128 + q * 4294967296 by omega, Int.add_mul_emod_self_right, Int.emod_eq_of_lt (by omega) (by omega), e1]
theorem rot_8 (a : Int) (h0 : 0 ≤ a) (h1 : a < 4294967296) : rotN 8 a = (a * 256) % 4294967296 + a / 16777216 := by
  obtain ⟨q, r, e, r0, r1, q0, q1, h⟩ := rw_8 a h0 h1
  have e1 : a / 16777216 = q := by omega
  rw [h, show a * 256 = r * 256 + q * 4294967296 by omega, Int.add_mul_emod_self_right, Int.emod_eq_of_lt (by omega) (by omega), e1]
theorem rot_9 (a : Int) (h0 : 0 ≤ a) (h1 : a < 4294967296) : rotN 9 a = (a * 512) % 4294967296 + a / 8388608 := by
  obtain ⟨q, r, e, r0, r1, q0, q1, h⟩ := rw_9 a h0 h1
  have e1 : a / 8388608 = q := by omega
  rw [h, show a * 512 = r * 512 + q * 4294967296 by omega, Int.add_mul_emod_self_right, Int.emod_eq_of_lt (by omega) (by omega), e1]
theorem rot_10 (a : Int) (h0 : 0 ≤ a) (h1 : a < 4294967296) : rotN 10 a = (a * 1024) % 4294967296 + a / 4194304 := by
  obtain ⟨q, r, e, r0, r1, q0, q1, h⟩ := rw_10 a h0 h1
  have e1 : a / 4194304 = q := by omega
  rw [h, show a * 1024 = r * 1024 + q * 4294967296 by omega, Int.add_mul_emod_self_right, Int.emod_eq_of_lt (by omega) (by omega), e1]
theorem rot_11 (a : Int) (h0 : 0 ≤ a) (h1 : a < 4294967296) : rotN 11 a = (a * 2048) % 4294967296 + a / 2097152 := by
  obtain ⟨q, r, e, r0, r1, q0, q1, h⟩ := rw_11 a h0 h1
  have e1 : a / 2097152 = q := by omega
  rw [h, show a * 2048 = r * 2048 + q * 4294967296 by omega, Int.add_mul_emod_self_right, Int.emod_eq_of_lt (by omega) (by omega), e1]
theorem rot_12 (a : Int) (h0 : 0 ≤ a) (h1 : a < 4294967296) : rotN 12 a = (a * 4096) % 4294967296 + a / 1048576 := by
  obtain ⟨q, r, e, r0, r1, q0, q1, h⟩ := rw_12 a h0 h1
  have e1 : a / 1048576 = q := by omega
  rw [h, show a * 4096 = r * 4096 + q * 4294967296 by omega, Int.add_mul_emod_self_right, Int.emod_eq_of_lt (by omega) (by omega), e1]
theorem rot_13 (a : Int) (h0 : 0 ≤ a) (h1 : a < 4294967296) : rotN 13 a = (a * 8192) % 4294967296 + a / 524288 := by
  obtain ⟨q, r, e, r0, r1, q0, q1, h⟩ := rw_13 a h0 h1
  have e1 : a / 524288 = q := by omega
  rw [h, show a * 8192 = r * 8192 + q * 4294967296 by omega, Int.add_mul_emod_self_right, Int.emod_eq_of_lt (by omega) (by omega), e1]
theorem rot_14 (a : Int) (h0 : 0 ≤ a) (h1 : a < 4294967296) : rotN 14 a = (a * 16384) % 4294967296 + a / 262144 := by
  obtain ⟨q, r, e, r0, r1, q0, q1, h⟩ := rw_14 a h0 h1
  have e1 : a / 262144 = q := by omega
  rw [h, show a * 16384 = r * 16384 + q * 4294967296 by omega, Int.add_mul_emod_self_right, Int.emod_eq_of_lt (by omega) (by omega), e1]
theorem rot_15 (a : Int) (h0 : 0 ≤ a) (h1 : a < 4294967296) : rotN 15 a = (a * 32768) % 4294967296 + a / 131072 := by
  obtain ⟨q, r, e, r0, r1, q0, q1, h⟩ := rw_15 a h0 h1
  have e1 : a / 131072 = q := by omega
  rw [h, show a * 32768 = r * 32768 + q * 4294967296 by omega, Int.add_mul_emod_self_right, Int.emod_eq_of_lt (by omega) (by omega), e1]
theorem rot_16 (a : Int) (h0 : 0 ≤ a) (h1 : a < 4294967296) : rotN 16 a = (a * 65536) % 4294967296 + a / 65536 := by
  obtain ⟨q, r, e, r0, r1, q0, q1, h⟩ := rw_16 a h0 h1
  have e1 : a / 65536 = q := by omega
  rw [h, show a * 65536 = r * 65536 + q * 4294967296 by omega, Int.add_mul_emod_self_right, Int.emod_eq_of_lt (by omega) (by omega), e1]
theorem rot_17 (a : Int) (h0 : 0 ≤ a) (h1 : a < 4294967296) : rotN 17 a = (a * 131072) % 4294967296 + a / 32768 := by
  obtain ⟨q, r, e, r0, r1, q0, q1, h⟩ := rw_17 a h0 h1
  have e1 : a / 32768 = q := by omega
  rw [h, show a * 131072 = r * 131072 + q * 4294967296 by omega, Int.add_mul_emod_self_right, Int.emod_eq_of_lt (by omega) (by omega), e1]
theorem rot_18 (a : Int) (h0 : 0 ≤ a) (h1 : a < 4294967296) : rotN 18 a = (a * 262144) % 4294967296 + a / 16384 := by
  obtain ⟨q, r, e, r0, r1, q0, q1, h⟩ := rw_18 a h0 h1
  have e1 : a / 16384 = q := by omega
  rw [h, show a * 262144 = r * 262144 + q * 4294967296 by omega, Int.add_mul_emod_self_right, Int.emod_eq_of_lt (by omega) (by omega), e1]
theorem rot_19 (a : Int) (h0 : 0 ≤ a) (h1 : a < 4294967296) : rotN 19 a = (a * 524288) % 4294967296 + a / 8192 := by
  obtain ⟨q, r, e, r0, r1, q0, q1, h⟩ := rw_19 a h0 h1
  have e1 : a / 8192 = q := by omega
  rw [h, show a * 524288 = r * 524288 + q * 4294967296 by omega, Int.add_mul_emod_self_right, Int.emod_eq_of_lt (by omega) (by omega), e1]
theorem rot_20 (a : Int) (h0 : 0 ≤ a) (h1 : a < 4294967296) : rotN 20 a = (a * 1048576) % 4294967296 + a / 4096 := by
  obtain ⟨q, r, e, r0, r1, q0, q1, h⟩ := rw_20 a h0 h1
  have e1 : a / 4096 = q := by omega
  rw [h, show a * 1048576 = r * 1048576 + q * 4294967296 by omega, Int.add_mul_emod_self_right, Int.emod_eq_of_lt (by omega) (by omega), e1]
theorem rot_21 (a : Int) (h0 : 0 ≤ a) (h1 : a < 4294967296) : rotN 21 a = (a * 2097152) % 4294967296 + a / 2048 := by
  obtain ⟨q, r, e, r0, r1, q0, q1, h⟩ := rw_21 a h0 h1
  have e1 : a / 2048 = q := by omega
  rw [h, show a * 2097152 = r * 2097152 + q * 4294967296 by omega, Int.add_mul_emod_self_right, Int.emod_eq_of_lt (by omega) (by omega), e1]
theorem rot_22 (a : Int) (h0 : 0 ≤ a) (h1 : a < 4294967296) : rotN 22 a = (a * 4194304) % 4294967296 + a / 1024 := by
  obtain ⟨q, r, e, r0, r1, q0, q1, h⟩ := rw_22 a h0 h1
  have e1 : a / 1024 = q := by omega
  rw [h, show a * 4194304 = r * 4194304 + q * 4294967296 by omega, Int.add_mul_emod_self_right, Int.emod_eq_of_lt (by omega) (by omega), e1]
theorem rot_23 (a : Int) (h0 : 0 ≤ a) (h1 : a < 4294967296) : rotN 23 a = (a * 8388608) % 4294967296 + a / 512 := by
  obtain ⟨q, r, e, r0, r1, q0, q1, h⟩ := rw_23 a h0 h1
  have e1 : a / 512 = q := by omega
  rw [h, show a * 8388608 = r * 8388608 + q * 4294967296 by omega, Int.add_mul_emod_self_right, Int.emod_eq_of_lt (by omega) (by omega), e1]
theorem rot_24 (a : Int) (h0 : 0 ≤ a) (h1 : a < 4294967296) : rotN 24 a = (a * 16777216) % 4294967296 + a / 256 := by
  obtain ⟨q, r, e, r0, r1, q0, q1, h⟩ := rw_24 a h0 h1
  have e1 : a / 256 = q := by omega
  rw [h, show a * 16777216 = r * 16777216 + q * 4294967296 by omega, Int.add_mul_emod_self_right, Int.emod_eq_of_lt (by omega) (by omega), e1]
theorem rot_25 (a : Int) (h0 : 0 ≤ a) (h1 : a < 4294967296) : rotN 25 a = (a * 33554432) % 4294967296 + a / 128 := by
  obtain ⟨q, r, e, r0, r1, q0, q1, h⟩ := rw_25 a h0 h1
  have e1 : a / 128 = q := by omega
  rw [h, show a * 33554432 = r * 33554432 + q * 4294967296 by omega, Int.add_mul_emod_self_right, Int.emod_eq_of_lt (by omega) (by omega), e1]
theorem rot_26 (a : Int) (h0 : 0 ≤ a) (h1 : a < 4294967296) : rotN 26 a = (a * 67108864) % 4294967296 + a / 64 := by
  obtain ⟨q, r, e, r0, r1, q0, q1, h⟩ := rw_26 a h0 h1
  have e1 : a / 64 = q := by omega
  rw [h, show a * 67108864 = r * 67108864 + q * 4294967296 by omega, Int.add_mul_emod_self_right, Int.emod_eq_of_lt (by omega) (by omega), e1]
theorem rot_27 (a : Int) (h0 : 0 ≤ a) (h1 : a < 4294967296) : rotN 27 a = (a * 134217728) % 4294967296 + a / 32 := by
  obtain ⟨q, r, e, r0, r1, q0, q1, h⟩ := rw_27 a h0 h1
  have e1 : a / 32 = q := by omega
  rw [h, show a * 134217728 = r * 134217728 + q * 4294967296 by omega, Int.add_mul_emod_self_right, Int.emod_eq_of_lt (by omega) (by omega), e1]
theorem rot_28 (a : Int) (h0 : 0 ≤ a) (h1 : a < 4294967296) : rotN 28 a = (a * 268435456) % 4294967296 + a / 16 := by
  obtain ⟨q, r, e, r0, r1, q0, q1, h⟩ := rw_28 a h0 h1
  have e1 : a / 16 = q := by omega
  rw [h, show a * 268435456 = r * 268435456 + q * 4294967296 by omega, Int.add_mul_emod_self_right, Int.emod_eq_of_lt (by omega) (by omega), e1]
theorem rot_29 (a : Int) (h0 : 0 ≤ a) (h1 : a < 4294967296) : rotN 29 a = (a * 536870912) % 4294967296 + a / 8 := by
  obtain ⟨q, r, e, r0, r1, q0, q1, h⟩ := rw_29 a h0 h1
  have e1 : a / 8 = q := by omega
  rw [h, show a * 536870912 = r * 536870912 + q * 4294967296 by omega, Int.add_mul_emod_self_right, Int.emod_eq_of_lt (by omega) (by omega), e1]
theorem rot_30 (a : Int) (h0 : 0 ≤ a) (h1 : a < 4294967296) : rotN 30 a = (a * 1073741824) % 4294967296 + a / 4 := by
  obtain ⟨q, r, e, r0, r1, q0, q1, h⟩ := rw_30 a h0 h1
  have e1 : a / 4 = q := by omega
  rw [h, show a * 1073741824 = r * 1073741824 + q * 4294967296 by omega, Int.add_mul_emod_self_right, Int.emod_eq_of_lt (by omega) (by omega), e1]
theorem rot_31 (a : Int) (h0 : 0 ≤ a) (h1 : a < 4294967296) : rotN 31 a = (a * 2147483648) % 4294967296 + a / 2 := by
  obtain ⟨q, r, e, r0, r1, q0, q1, h⟩ := rw_31 a h0 h1
  have e1 : a / 2 = q := by omega
  rw [h, show a * 2147483648 = r * 2147483648 + q * 4294967296 by omega, Int.add_mul_emod_self_right, Int.emod_eq_of_lt (by omega) (by omega), e1]
theorem rot_32 (a : Int) (h0 : 0 ≤ a) (h1 : a < 4294967296) : rotN 32 a = (a * 4294967296) % 4294967296 + a / 1 := by
  obtain ⟨q, r, e, r0, r1, q0, q1, h⟩ := rw_32 a h0 h1
  have e1 : a / 1 = q := by omega
  rw [h, show a * 4294967296 = r * 4294967296 + q * 4294967296 by omega, Int.add_mul_emod_self_right, Int.emod_eq_of_lt (by omega) (by omega), e1]
theorem rotN_32 (a : Int) (h0 : 0 ≤ a) (h1 : a < 4294967296) : rotN 32 a = a := by rw [rot_32 a h0 h1]; omega
theorem rot_all (a : Int) (h0 : 0 ≤ a) (h1 : a < 4294967296) (n : Nat) (hn : n < 32) : rotN n a = (a * 2 ^ n) % 4294967296 + a / 2 ^ (32 - n) := by
  have hc : n = 0 ∨ n = 1 ∨ n = 2 ∨ n = 3 ∨ n = 4 ∨ n = 5 ∨ n = 6 ∨ n = 7 ∨ n = 8 ∨ n = 9 ∨ n = 10 ∨ n = 11 ∨ n = 12 ∨ n = 13 ∨ n = 14 ∨ n = 15 ∨ n = 16 ∨ n = 17 ∨ n = 18 ∨ n = 19 ∨ n = 20 ∨ n = 21 ∨ n = 22 ∨ n = 23 ∨ n = 24 ∨ n = 25 ∨ n = 26 ∨ n = 27 ∨ n = 28 ∨ n = 29 ∨ n = 30 ∨ n = 31 := by omega
  rcases hc with rfl | rfl | rfl | rfl | rfl | rfl | rfl | rfl | rfl | rfl | rfl | rfl | rfl | rfl | rfl | rfl | rfl | rfl | rfl | rfl | rfl | rfl | rfl | rfl | rfl | rfl | rfl | rfl | rfl | rfl | rfl | rfl
  · exact rot_0 a h0 h1
  · exact rot_1 a h0 h1
  · exact rot_2 a h0 h1
  · exact rot_3 a h0 h1
  · exact rot_4 a h0 h1
  · exact rot_5 a h0 h1
  · exact rot_6 a h0 h1
  · exact rot_7 a h0 h1
  · exact rot_8 a h0 h1
  · exact rot_9 a h0 h1
  · exact rot_10 a h0 h1
  · exact rot_11 a h0 h1
  · exact rot_12 a h0 h1
  · exact rot_13 a h0 h1
  · exact rot_14 a h0 h1
  · exact rot_15 a h0 h1
  · exact rot_16 a h0 h1
  · exact rot_17 a h0 h1
  · exact rot_18 a h0 h1
  · exact rot_19 a h0 h1
  · exact rot_20 a h0 h1
  · exact rot_21 a h0 h1
  · exact rot_22 a h0 h1
  · exact rot_23 a h0 h1
  · exact rot_24 a h0 h1
  · exact rot_25 a h0 h1
  · exact rot_26 a h0 h1
  · exact rot_27 a h0 h1
  · exact rot_28 a h0 h1
  · exact rot_29 a h0 h1
  · exact rot_30 a h0 h1
  · exact rot_31 a h0 h1
theorem rotN_mod (a : Int) (h0 : 0 ≤ a) (h1 : a < 4294967296) (q r : Nat) : rotN (32 * q + r) a = rotN r a := by
  induction q with
  | zero => simp
  | succ q ih =>
    rw [show 32 * (q + 1) + r = (32 * q + r) + 32 by omega, rotN_add, rotN_32 a h0 h1, ih]
theorem rotN_same (a : Int) (h0 : 0 ≤ a) (h1 : a < 4294967296) (m n : Nat) (h : m % 32 = n % 32) : rotN m a = rotN n a := by
  have e1 : m = 32 * (m / 32) + m % 32 := by omega
  have e2 : n = 32 * (n / 32) + n % 32 := by omega
  rw [e1, e2, rotN_mod a h0 h1, rotN_mod a h0 h1, h]
theorem and31 (x : Int) (h0 : 0 ≤ x) (h1 : x < 18446744073709551616) : Go.bits .and .u64 x 31 = x % 32 :=
  bits_mask .u64 64 (by decide) (fun n g0 g1 => u64_id g0 (by omega)) 5 (by decide) x h0 (by omega)
theorem mod_pow_mul (a : Int) (n m : Nat) (h : n ≤ m) : (a * 2 ^ n) % 2 ^ m % 2 ^ n = 0 := by
  rw [Int.emod_emod_of_dvd _ ⟨2 ^ (m - n), by rw [← Int.pow_add]; congr 1; omega⟩, Int.mul_emod_left]
theorem turn_some (a n : Int) (h0 : 0 ≤ a) (h1 : a < 4294967296) (n0 : -9223372036854775808 ≤ n) (n1 : n < 9223372036854775808) : word_Turn.f a n = some (rotN (n % 32).toNat a) := by
  obtain ⟨t, ht⟩ := Int.eq_ofNat_of_zero_le (show 0 ≤ n % 32 by omega)
  have t31 : t ≤ 31 := by omega
  have e1 : Go.bits .and .u64 (IntKind.u64.wrap (Int.tmod n 32)) 31 = (t : Int) := by
    rw [and31 _ (by rw [u64_wrap]; omega) (by rw [u64_wrap]; omega), u64_wrap]
    have : Int.tmod n 32 % 32 = n % 32 := by
      by_cases h : 0 ≤ n
      · rw [Int.tmod_eq_emod_of_nonneg h]; omega
      · have := Int.neg_tmod (-n) 32
        rw [Int.neg_neg] at this
        rw [this, Int.tmod_eq_emod_of_nonneg (by omega)]; omega
    omega
  have e2 : IntKind.u64.wrap (32 - (t : Int)) = ((32 - t : Nat) : Int) := by rw [u64_wrap]; omega
  have hp := pow_pos' t
  have key : Go.bits .or .u32 (shl .u32 a (t : Int)) (shr .u32 a ((32 - t : Nat) : Int)) = rotN t a := by
    rw [shl_le a t (by omega), shr_le a (32 - t) (by omega), rot_all a h0 h1 t (by omega)]
    have hd : (a / 2 ^ (32 - t)) < 2 ^ t := by
      apply Int.ediv_lt_of_lt_mul (pow_pos' _)
      rw [← Int.pow_add, show t + (32 - t) = 32 by omega]
      omega
    have hd0 : 0 ≤ a / 2 ^ (32 - t) := Int.ediv_nonneg h0 (Int.le_of_lt (pow_pos' _))
    have hle := pow_le_31 t t31
    exact bits_join .u32 32 (by decide) (fun n g0 g1 => wrap_u32_id g0 (by omega)) t _ _ (by omega) (mod_pow_mul a t 32 (by omega)) (by omega) hd0 hd (by omega)
  unfold word_Turn.f bits_RotateLeft32.f
  rw [e1, e2, ht, Int.toNat_natCast, if_pos (by omega), if_pos (by omega), key]
  rfl
theorem ref_turn_loop (x5 : Nat) (d : Nat) : ∀ (i : Nat) (x : Int), i + d = x5 → x5 ≤ 31 → 0 ≤ x → x < 4294967296 → Ev (fun k => seedcornref01_Turn.l0 k x5 x i) (rotN d x) := by
  induction d with
  | zero =>
    intro i x hi h5 h0 h1
    refine Ev.step (f := fun _ => some x) (fun k => ?_) (Ev.now _)
    simp only [seedcornref01_Turn.l0]
    rw [if_neg (by omega), show x % 4294967296 = x by omega]
  | succ d ih =>
    intro i x hi h5 h0 h1
    obtain ⟨r0, r1⟩ := rot1_range h0 h1
    have := ih (i + 1) (rot1 x) (by omega) h5 r0 r1
    rw [show d + 1 = d + 1 from rfl, rotN_add d 1 x]
    refine Ev.step (f := fun k => seedcornref01_Turn.l0 k x5 (rot1 x) ((i + 1 : Nat) : Int)) (fun k => ?_) this
    have e : IntKind.u64.wrap ((Int.tmod (IntKind.u64.wrap (2 * x)) 4294967296) + (IntKind.u64.wrap (Int.tdiv x 2147483648))) = rot1 x := by
      unfold rot1
      rw [u64_id (n := 2 * x) (by omega) (by omega), Int.tmod_eq_emod_of_nonneg (by omega), Int.tdiv_eq_ediv_of_nonneg h0, u64_id (n := x / 2147483648) (by omega) (by omega), u64_id (by omega) (by omega)]
    simp only [seedcornref01_Turn.l0]
    rw [if_pos (by omega), e, show wrap64 ((i : Int) + 1) = ((i + 1 : Nat) : Int) by unfold wrap64; omega]
theorem ref_turn (a n : Int) (h0 : 0 ≤ a) (h1 : a < 4294967296) (n0 : -9223372036854775808 ≤ n) (n1 : n < 9223372036854775808) : Ev (fun k => seedcornref01_Turn.f k a n) (rotN (n % 32).toNat a) := by
  obtain ⟨t, ht⟩ := Int.eq_ofNat_of_zero_le (show 0 ≤ n % 32 by omega)
  have h := ref_turn_loop t t 0 a (by omega) (by omega) h0 h1
  rw [ht, Int.toNat_natCast]
  refine Ev.congr (f := fun k => seedcornref01_Turn.j0 k a (t : Int)) (fun k => ?_) (Ev.step (f := fun k => seedcornref01_Turn.l0 k t a ((0 : Nat) : Int)) (fun k => ?_) h)
  · unfold seedcornref01_Turn.f
    by_cases hn : 0 ≤ n
    · rw [Int.tmod_eq_emod_of_nonneg hn, ht, if_neg (by omega)]
    · have e : Int.tmod n 32 = -((-n) % 32) := by
        have := Int.neg_tmod (-n) 32
        rw [Int.neg_neg] at this
        rw [this, Int.tmod_eq_emod_of_nonneg (by omega)]
      rw [e]
      by_cases hz : -((-n) % 32) < 0
      · rw [if_pos hz, show wrap64 (-((-n) % 32) + 32) = (t : Int) by unfold wrap64; omega]
      · rw [if_neg hz, show -((-n) % 32) = (t : Int) by omega]
  · simp only [seedcornref01_Turn.j0]
    rw [u64_id h0 (by omega)]; rfl
theorem tmod_cases (n : Int) : (Int.tmod n 32 - n) % 32 = 0 ∧ -32 < Int.tmod n 32 ∧ Int.tmod n 32 < 32 := by
  by_cases h : 0 ≤ n
  · rw [Int.tmod_eq_emod_of_nonneg h]; omega
  · have := Int.neg_tmod (-n) 32
    rw [Int.neg_neg] at this
    rw [this, Int.tmod_eq_emod_of_nonneg (by omega)]; omega
theorem WordTurns : seedcornlaw01_WordTurns.Pure := by
  intro a n m ha hn hm
  obtain ⟨a0, a1⟩ := u32_range ha
  obtain ⟨n0, n1⟩ := i64_range hn
  obtain ⟨m0, m1⟩ := i64_range hm
  obtain ⟨K, hK⟩ := ref_turn a n a0 a1 n0 n1
  obtain ⟨tn, tn1, tn2⟩ := tmod_cases n
  obtain ⟨tm, tm1, tm2⟩ := tmod_cases m
  refine ⟨K + 10, ?_⟩
  have hK' : seedcornref01_Turn.f (K + 10) a n = some (rotN (n % 32).toNat a) := hK _ (by omega)
  unfold seedcornlaw01_WordTurns.f
  rw [alive_at _ (by omega), turn_some a n a0 a1 n0 n1, hK']
  obtain ⟨r0, r1⟩ := rotN_range a0 a1 (n % 32).toNat
  simp only [Option.bind_some, if_true]
  rw [turn_some _ m r0 r1 m0 m1]
  generalize Int.tmod n 32 = u at tn tn1 tn2 ⊢
  generalize Int.tmod m 32 = v at tm tm1 tm2 ⊢
  have e1 : wrap64 (u + v) = u + v := by unfold wrap64; omega
  have e2 : wrap64 (-v) = -v := by unfold wrap64; omega
  rw [e1, e2, turn_some a (u + v) a0 a1 (by omega) (by omega), turn_some a v a0 a1 (by omega) (by omega)]
  obtain ⟨s0, s1⟩ := rotN_range a0 a1 (v % 32).toNat
  simp only [Option.bind_some]
  rw [turn_some _ (-v) s0 s1 (by omega) (by omega), if_pos]
  · simp only [Option.bind_some, ← rotN_add]
    rw [rotN_same a a0 a1 ((-v % 32).toNat + (v % 32).toNat) 0 (by omega)]
    simp [rotN]
  · rw [← rotN_add]
    exact rotN_same a a0 a1 _ _ (by omega)
end Go.Proofs.Ytdmgponiefhlnaa.Pure
