/- Both, one, and just one add up to the sum of both; shifts are products and quotients by powers of 2: the printed statement of WordBits, for all words and counts. -/
import Derived.Test.YtdmgponiefhlnaaQx14
import Derived.Test.YtdmgponiefhlnaaBitsBase
namespace Go.Proofs.Ytdmgponiefhlnaa.Pure
open Go Go.RowKit Go.Proofs.Ytdmgponiefhlnaa.Q Go.Proofs.Ytdmgponiefhlnaa.Base Go.Proofs.YtdmgponiefhlnaaW.PrintWords Go.Proofs.YtdmgponiefhlnaaW.PrintLast Go.Proofs.YtdmgponiefhlnaaW.PrintMore

theorem bits_end (a c : Int) (a0 : 0 ≤ a) (a1 : a < 4294967296) (c0 : 0 ≤ c) (c1 : c < 256) (n : Nat) (hn : n ≤ 31) :
    Ev (fun k => seedcornlaw01_WordBits.l0 k a c n (2 ^ n) n) true := by
  have key : ∀ far : Int, 32 ≤ far → Ev (fun k => seedcornlaw01_WordBits.j2 k a n (2 ^ n) far) true := by
    intro far hf
    refine ⟨2, fun k hk => ?_⟩
    obtain ⟨k, rfl⟩ : ∃ m, k = m + 2 := ⟨k - 2, by omega⟩
    have hp := pow_pos' n
    simp only [seedcornlaw01_WordBits.j2, seedcornlaw01_of.f]
    rw [ap_shl (k + 1) a (by omega), ap_mul, ap_shr (k + 1) a (by omega), ap_div k a0 a1 hp, ap_shl (k + 1) a (by omega), ap_shr (k + 1) a (by omega)]
    rw [shl_le a n (by omega), shr_le a n (by omega), shl_far a far hf, shr_far a far hf a0 a1]
    simp
  refine Ev.step (f := fun k => seedcornlaw01_WordBits.j2 k a n (2 ^ n) (if c < 32 then c + 32 else c)) (fun k => ?_) (key _ (by split <;> omega))
  simp only [seedcornlaw01_WordBits.l0]
  rw [if_neg (by omega)]
  have e : c % 4294967296 = c := by omega
  rw [e]
  by_cases h : c < 32
  · rw [if_pos h, if_pos h, show (c + 32) % 4294967296 = c + 32 by omega]
  · rw [if_neg h, if_neg h]
theorem bits_loop (a c : Int) (a0 : 0 ≤ a) (a1 : a < 4294967296) (c0 : 0 ≤ c) (c1 : c < 256) (n : Nat) (hn : n ≤ 31) (d : Nat) : ∀ i : Nat, i + d = n →
    Ev (fun k => seedcornlaw01_WordBits.l0 k a c n (2 ^ i) i) true := by
  induction d with
  | zero => intro i hi; have : i = n := by omega
            subst this; exact bits_end a c a0 a1 c0 c1 i hn
  | succ d ih =>
    intro i hi
    refine Ev.step (f := fun k => seedcornlaw01_WordBits.l0 k a c n (2 ^ (i + 1)) ((i + 1 : Nat) : Int)) (fun k => ?_) (ih (i + 1) (by omega))
    have h1 : (i : Int) < (n : Int) := by omega
    simp only [seedcornlaw01_WordBits.l0]
    rw [if_pos h1]
    have h2 : (2 * 2 ^ i : Int) % 4294967296 = 2 ^ (i + 1) := by
      have h3 := pow_le_31 (i + 1) (by omega)
      have h4 := pow_pos' (i + 1)
      rw [Int.mul_comm, ← Int.pow_succ]
      omega
    have h5 : ((i : Int) + 1) % 4294967296 = ((i + 1 : Nat) : Int) := by omega
    rw [h2, h5]
theorem WordBits : seedcornlaw01_WordBits.Pure := by
  intro a b c ha hb hc
  obtain ⟨a0, a1⟩ := u32_range ha
  obtain ⟨b0, b1⟩ := u32_range hb
  obtain ⟨c0, c1⟩ := u8_range hc
  obtain ⟨x, rfl⟩ := Int.eq_ofNat_of_zero_le a0
  obtain ⟨y, rfl⟩ := Int.eq_ofNat_of_zero_le b0
  have hx : x < 2 ^ 32 := by omega
  have hy : y < 2 ^ 32 := by omega
  obtain ⟨s1, s2⟩ := and_or_add 32 x y hx hy
  have l1 : x &&& y < 2 ^ 32 := Nat.lt_of_le_of_lt Nat.and_le_left hx
  have l2 : x ||| y < 2 ^ 32 := Nat.or_lt_two_pow hx hy
  have l3 : x ^^^ y < 2 ^ 32 := Nat.xor_lt_two_pow hx hy
  obtain ⟨n, hn⟩ := Int.eq_ofNat_of_zero_le (show 0 ≤ c % 32 by omega)
  have hn31 : n ≤ 31 := by omega
  have hl := bits_loop (x : Int) c a0 a1 c0 c1 n hn31 n 0 (by omega)
  refine Ev.rounds ?_
  have hj : Ev (fun k => seedcornlaw01_WordBits.j0 k (x : Int) c false) true := by
    refine Ev.step (f := fun k => seedcornlaw01_WordBits.l0 k (x : Int) c n (2 ^ 0) ((0 : Nat) : Int)) (fun k => ?_) hl
    simp only [seedcornlaw01_WordBits.j0, Bool.false_eq_true, if_false]
    have e : (Int.tmod c 32) % 4294967296 = (n : Int) := by rw [Int.tmod_eq_emod_of_nonneg c0]; omega
    rw [e]; rfl
  obtain ⟨K, hK⟩ := hj
  refine ⟨K + 10, fun k hk => ?_⟩
  show seedcornlaw01_WordBits.f k (x : Int) (y : Int) c = some true
  unfold seedcornlaw01_WordBits.f seedcornlaw01_of.f
  rw [alive_at k (by omega)]
  simp only [Option.bind_some, if_true]
  rw [ap_and, ap_or, ap_xor, bits_and_nat x y hx hy, bits_or_nat x y hx hy, bits_xor_nat x y hx hy]
  simp only [Option.bind_some]
  rw [if_pos]
  · have e : ((IntKind.u64.wrap ((IntKind.u64.wrap ((x ^^^ y : Nat) : Int)) + (IntKind.u64.wrap ((x &&& y : Nat) : Int)))) != (IntKind.u64.wrap ((x ||| y : Nat) : Int))) = false := by
      rw [bne_eq_false_iff_eq]
      simp only [u64_wrap]
      omega
    rw [e]
    exact hK k (by omega)
  · simp only [u64_wrap]
    omega
end Go.Proofs.Ytdmgponiefhlnaa.Pure
