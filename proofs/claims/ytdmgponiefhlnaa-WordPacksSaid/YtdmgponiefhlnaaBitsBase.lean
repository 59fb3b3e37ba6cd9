/- Plain laws of the bits of natural numbers and of words: both and one add up, words bit by bit, powers of two, turned words. No program in sight but the printed shifts. -/
import Derived.Test.YtdmgponiefhlnaaBase
namespace Go.Proofs.Ytdmgponiefhlnaa.Base
open Go Go.RowKit Go.Proofs.YtdmgponiefhlnaaW.PrintWords Go.Proofs.YtdmgponiefhlnaaW.PrintLast Go.Proofs.YtdmgponiefhlnaaW.PrintMore

theorem bit_cases (x : Nat) : x % 2 = 0 ∨ x % 2 = 1 := by omega
theorem and_step (a b : Nat) : a &&& b = 2 * ((a / 2) &&& (b / 2)) + (a % 2) * (b % 2) := by
  have h1 : (a &&& b) / 2 = a / 2 &&& b / 2 := Nat.and_div_two
  have h2 : (a &&& b) % 2 ^ 1 = a % 2 ^ 1 &&& b % 2 ^ 1 := Nat.and_mod_two_pow
  simp only [Nat.pow_one] at h2
  rcases bit_cases a with ha | ha <;> rcases bit_cases b with hb | hb <;> rw [ha, hb] at h2 ⊢ <;> simp only [Nat.reduceAnd] at h2 <;> omega
theorem or_step (a b : Nat) : a ||| b = 2 * ((a / 2) ||| (b / 2)) + (a % 2 + b % 2 - (a % 2) * (b % 2)) := by
  have h1 : (a ||| b) / 2 = a / 2 ||| b / 2 := Nat.or_div_two
  have h2 : (a ||| b) % 2 ^ 1 = a % 2 ^ 1 ||| b % 2 ^ 1 := Nat.or_mod_two_pow
  simp only [Nat.pow_one] at h2
  rcases bit_cases a with ha | ha <;> rcases bit_cases b with hb | hb <;> rw [ha, hb] at h2 ⊢ <;> simp only [Nat.reduceOr] at h2 <;> omega
theorem xor_step (a b : Nat) : a ^^^ b = 2 * ((a / 2) ^^^ (b / 2)) + (a % 2 + b % 2) % 2 := by
  have h1 : (a ^^^ b) / 2 = a / 2 ^^^ b / 2 := Nat.xor_div_two
  have h2 : (a ^^^ b) % 2 ^ 1 = a % 2 ^ 1 ^^^ b % 2 ^ 1 := Nat.xor_mod_two_pow
  simp only [Nat.pow_one] at h2
  rcases bit_cases a with ha | ha <;> rcases bit_cases b with hb | hb <;> rw [ha, hb] at h2 ⊢ <;> simp only [Nat.reduceXor] at h2 <;> omega
theorem and_or_add (n : Nat) : ∀ a b : Nat, a < 2 ^ n → b < 2 ^ n → (a &&& b) + (a ||| b) = a + b ∧ (a ^^^ b) + (a &&& b) = a ||| b := by
  induction n with
  | zero => intro a b ha hb; have : a = 0 := by simpa using ha
            have : b = 0 := by simpa using hb
            subst a; subst b; simp
  | succ n ih =>
    intro a b ha hb
    have := ih (a / 2) (b / 2) (by rw [Nat.pow_succ] at ha; omega) (by rw [Nat.pow_succ] at hb; omega)
    rw [and_step a b, or_step a b, xor_step a b]
    rcases bit_cases a with ha | ha <;> rcases bit_cases b with hb | hb <;> rw [ha, hb] <;> simp <;> omega

/-! the numbers of the bits, the low end first -/
def bitsL : Nat → Nat → List Nat
  | 0, _ => []
  | n + 1, a => a % 2 :: bitsL n (a / 2)
def ofL : List Nat → Nat
  | [] => 0
  | b :: l => b + 2 * ofL l
theorem bitsL_length (n a : Nat) : (bitsL n a).length = n := by
  induction n generalizing a with
  | zero => rfl
  | succ n ih => simp [bitsL, ih]
theorem zip_and (n : Nat) : ∀ a b, a < 2 ^ n → b < 2 ^ n → ofL (List.zipWith (fun x y => if x + y = 2 then 1 else 0) (bitsL n a) (bitsL n b)) = a &&& b := by
  induction n with
  | zero => intro a b ha hb; have : a = 0 := by simpa using ha
            subst a; simp [bitsL, ofL]
  | succ n ih =>
    intro a b ha hb
    rw [and_step a b]
    simp only [bitsL, List.zipWith_cons_cons, ofL]
    rw [ih (a / 2) (b / 2) (by rw [Nat.pow_succ] at ha; omega) (by rw [Nat.pow_succ] at hb; omega)]
    rcases bit_cases a with ha | ha <;> rcases bit_cases b with hb | hb <;> rw [ha, hb] <;> simp <;> omega
theorem zip_or (n : Nat) : ∀ a b, a < 2 ^ n → b < 2 ^ n → ofL (List.zipWith (fun x y => if x + y = 0 then 0 else 1) (bitsL n a) (bitsL n b)) = a ||| b := by
  induction n with
  | zero => intro a b ha hb; have : a = 0 := by simpa using ha
            have : b = 0 := by simpa using hb
            subst a; subst b; simp [bitsL, ofL]
  | succ n ih =>
    intro a b ha hb
    rw [or_step a b]
    simp only [bitsL, List.zipWith_cons_cons, ofL]
    rw [ih (a / 2) (b / 2) (by rw [Nat.pow_succ] at ha; omega) (by rw [Nat.pow_succ] at hb; omega)]
    rcases bit_cases a with ha | ha <;> rcases bit_cases b with hb | hb <;> rw [ha, hb] <;> simp <;> omega
theorem zip_xor (n : Nat) : ∀ a b, a < 2 ^ n → b < 2 ^ n → ofL (List.zipWith (fun x y => if x + y = 1 then 1 else 0) (bitsL n a) (bitsL n b)) = a ^^^ b := by
  induction n with
  | zero => intro a b ha hb; have : a = 0 := by simpa using ha
            have : b = 0 := by simpa using hb
            subst a; subst b; simp [bitsL, ofL]
  | succ n ih =>
    intro a b ha hb
    rw [xor_step a b]
    simp only [bitsL, List.zipWith_cons_cons, ofL]
    rw [ih (a / 2) (b / 2) (by rw [Nat.pow_succ] at ha; omega) (by rw [Nat.pow_succ] at hb; omega)]
    rcases bit_cases a with ha | ha <;> rcases bit_cases b with hb | hb <;> rw [ha, hb] <;> simp <;> omega

/-! shifts -/
theorem shl_le (a : Int) (n : Nat) (h : n ≤ 32) : shl .u32 a (n : Int) = (a * 2 ^ n) % 4294967296 := by
  unfold shl
  rw [IntKind.wrap_u32, Int.toNat_natCast, Nat.min_eq_left (by simpa [IntKind.bits] using h)]
theorem shr_le (a : Int) (n : Nat) (h : n ≤ 32) : shr .u32 a (n : Int) = a / 2 ^ n := by
  unfold shr
  rw [Int.toNat_natCast, Nat.min_eq_left (by simpa [IntKind.bits] using h)]
theorem shl_far (a b : Int) (h : 32 ≤ b) : shl .u32 a b = 0 := by
  unfold shl
  rw [IntKind.wrap_u32, Nat.min_eq_right (by simp [IntKind.bits]; omega)]
  simp [IntKind.bits]
theorem shr_far (a b : Int) (h : 32 ≤ b) (h0 : 0 ≤ a) (h1 : a < 4294967296) : shr .u32 a b = 0 := by
  unfold shr
  rw [Nat.min_eq_right (by simp [IntKind.bits]; omega)]
  simp [IntKind.bits]
  omega
theorem pow_le_31 (n : Nat) (h : n ≤ 31) : (2 : Int) ^ n ≤ 2147483648 := by
  have h1 : 2 ^ n ≤ 2 ^ 31 := Nat.pow_le_pow_right (by omega) h
  have h2 : ((2 ^ n : Nat) : Int) ≤ ((2 ^ 31 : Nat) : Int) := Int.ofNat_le.mpr h1
  simpa using h2
theorem pow_pos' (n : Nat) : (0 : Int) < 2 ^ n := by
  have h1 : 0 < 2 ^ n := Nat.pow_pos (by omega)
  have h2 : ((0 : Nat) : Int) < ((2 ^ n : Nat) : Int) := Int.ofNat_lt.mpr h1
  simpa using h2
end Go.Proofs.Ytdmgponiefhlnaa.Base
