/- Common facts of the chapter's pure proofs: the document's examples hold; what each operation answers. -/
import Derived.Test.YtdmgponiefhlnaaDoorQx5
import Derived.Laws.BitsLemmas
namespace Go.Proofs.YtdmgponiefhlnaaDoor.Base
open Go Go.RowKit Go.Proofs.YtdmgponiefhlnaaDoor.Q Go.Proofs.YtdmgponiefhlnaaDoorW.PrintWords Go.Proofs.YtdmgponiefhlnaaDoorW.PrintLast Go.Proofs.YtdmgponiefhlnaaDoorW.PrintMore

theorem alive_10 : seedcornlaw01_alive.f 10 = some true := by decide +kernel
theorem alive_at (k : Nat) (h : 10 ≤ k) : seedcornlaw01_alive.f k = some true :=
  at_rounds (g := fun k => seedcornlaw01_alive.f k) (fun k => seedcornlaw01_alive.mono k) h alive_10

theorem u32_range {n : Int} (h : (Lit.int .u32 n).wf = true) : 0 ≤ n ∧ n < 4294967296 := by
  simp [Lit.wf, IntKind.min, IntKind.max, IntKind.signed, IntKind.bits] at h
  omega
theorem i64_range {n : Int} (h : (Lit.int .i64 n).wf = true) : -9223372036854775808 ≤ n ∧ n < 9223372036854775808 := by
  simp [Lit.wf, IntKind.min, IntKind.max, IntKind.signed, IntKind.bits] at h
  omega
theorem u8_range {n : Int} (h : (Lit.int .u8 n).wf = true) : 0 ≤ n ∧ n < 256 := by
  simp [Lit.wf, IntKind.min, IntKind.max, IntKind.signed, IntKind.bits] at h
  omega
theorem u64_wrap (n : Int) : IntKind.u64.wrap n = n % 18446744073709551616 := by simp [IntKind.wrap, IntKind.bits, IntKind.signed]
theorem u64_id {n : Int} (h0 : 0 ≤ n) (h1 : n < 18446744073709551616) : IntKind.u64.wrap n = n := by rw [u64_wrap]; omega

section
variable (k : Nat) (a b : Int)
theorem ap_add : word_Apply.f k 4 a b = some ((a + b) % 4294967296, 0) := by simp [word_Apply.f]
theorem ap_sub : word_Apply.f k 5 a b = some ((a - b) % 4294967296, 0) := by simp [word_Apply.f]
theorem ap_mul : word_Apply.f k 6 a b = some ((a * b) % 4294967296, 0) := by simp [word_Apply.f]
theorem ap_div0 : word_Apply.f (k + 1) 7 a 0 = some (0, 14) := by simp [word_Apply.f, word_Apply.j0]
theorem ap_mod0 : word_Apply.f (k + 1) 8 a 0 = some (0, 14) := by simp [word_Apply.f, word_Apply.j0]
variable {a b}
theorem ap_div (ha : 0 ≤ a) (ha' : a < 4294967296) (hb : 0 < b) : word_Apply.f (k + 1) 7 a b = some (a / b, 0) := by
  have h0 : b ≠ 0 := by omega
  have h1 : 0 ≤ a / b := Int.ediv_nonneg ha (by omega)
  have h2 : a / b ≤ a := Int.ediv_le_self _ ha
  simp only [word_Apply.f, word_Apply.j0, if_neg h0, if_true, Int.tdiv_eq_ediv_of_nonneg ha]
  congr 2
  omega
theorem ap_mod (ha : 0 ≤ a) (hb : 0 < b) : word_Apply.f (k + 1) 8 a b = some (a % b, 0) := by
  have h0 : b ≠ 0 := by omega
  simp [word_Apply.f, word_Apply.j0, if_neg h0, Int.tmod_eq_emod_of_nonneg ha]
variable (a b)
theorem ap_and : word_Apply.f k 9 a b = some (Go.bits .and .u32 a b, 0) := by simp [word_Apply.f]
theorem ap_or : word_Apply.f k 10 a b = some (Go.bits .or .u32 a b, 0) := by simp [word_Apply.f]
theorem ap_xor : word_Apply.f k 11 a b = some (Go.bits .xor .u32 a b, 0) := by simp [word_Apply.f]
variable {b}
theorem ap_shl (hb : 0 ≤ b) : word_Apply.f k 12 a b = some (shl .u32 a b, 0) := by simp [word_Apply.f, hb]
theorem ap_shr (hb : 0 ≤ b) : word_Apply.f k 13 a b = some (shr .u32 a b, 0) := by simp [word_Apply.f, hb]
variable (b)
theorem ap_lt : word_Apply.f k 14 a b = some (if a < b then 1 else 0, 0) := by
  by_cases h : a < b <;> simp [word_Apply.f, word_truth.f, h]
theorem ap_eq : word_Apply.f k 15 a b = some (if a = b then 1 else 0, 0) := by
  by_cases h : a = b <;> simp [word_Apply.f, word_truth.f, h]
end

/-! bits of words -/
theorem wrap_u32_id {n : Int} (h0 : 0 ≤ n) (h1 : n < 4294967296) : IntKind.u32.wrap n = n := by rw [IntKind.wrap_u32]; omega
theorem bits_and_nat (a b : Nat) (ha : a < 4294967296) (hb : b < 4294967296) : Go.bits .and .u32 (a : Int) (b : Int) = ((a &&& b : Nat) : Int) := by
  exact (bits_nat .u32 32 (by decide) (fun n h0 h1 => wrap_u32_id h0 (by omega)) a b (by omega) (by omega)).1
theorem bits_or_nat (a b : Nat) (ha : a < 4294967296) (hb : b < 4294967296) : Go.bits .or .u32 (a : Int) (b : Int) = ((a ||| b : Nat) : Int) := by
  exact (bits_nat .u32 32 (by decide) (fun n h0 h1 => wrap_u32_id h0 (by omega)) a b (by omega) (by omega)).2
theorem bits_xor_nat (a b : Nat) (ha : a < 4294967296) (hb : b < 4294967296) : Go.bits .xor .u32 (a : Int) (b : Int) = ((a ^^^ b : Nat) : Int) := by
  have h : a ^^^ b < 2 ^ 32 := Nat.xor_lt_two_pow (by omega) (by omega)
  have e1 : (BitVec.ofInt 32 (a : Int)).toNat = a := by simp; omega
  have e2 : (BitVec.ofInt 32 (b : Int)).toNat = b := by simp; omega
  show IntKind.u32.wrap (((BitVec.ofInt 32 (a : Int)) ^^^ (BitVec.ofInt 32 (b : Int))).toNat : Int) = _
  rw [BitVec.toNat_xor, e1, e2]
  exact wrap_u32_id (by omega) (by omega)
end Go.Proofs.YtdmgponiefhlnaaDoor.Base
