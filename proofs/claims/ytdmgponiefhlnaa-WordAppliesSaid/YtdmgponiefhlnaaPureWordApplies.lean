/- What any operation makes of any two words, or the error, is the document's: the printed statement of WordApplies. -/
import Derived.Test.YtdmgponiefhlnaaQx10
import Derived.Test.YtdmgponiefhlnaaBitsBase
namespace Go.Proofs.Ytdmgponiefhlnaa.Pure
open Go Go.RowKit Go.Proofs.Ytdmgponiefhlnaa.Q Go.Proofs.Ytdmgponiefhlnaa.Base Go.Proofs.YtdmgponiefhlnaaW.PrintWords Go.Proofs.YtdmgponiefhlnaaW.PrintLast Go.Proofs.YtdmgponiefhlnaaW.PrintMore

def ints (l : List Nat) : List Int := l.map (fun (n : Nat) => Int.ofNat n)
theorem ints_length (l : List Nat) : (ints l).length = l.length := by simp [ints]
theorem ints_append (l m : List Nat) : ints (l ++ m) = ints l ++ ints m := by simp [ints]
theorem rd_mid (l : List Nat) (x : Nat) (m : List Nat) : rd (ints (l ++ x :: m)) (l.length : Int) = (x : Int) := by
  unfold rd ints
  rw [Int.toNat_natCast]
  simp
theorem set_mid (l : List Nat) (x : Nat) (m : List Nat) (y : Nat) : (ints (l ++ x :: m)).set l.length (y : Int) = ints (l ++ y :: m) := by
  unfold ints
  simp
theorem bits_loop' (d : Nat) : ∀ (a : Nat) (pre : List Nat), a < 4294967296 → pre.length + d = 32 →
    Ev (fun k => seedcornref01_Bits.l0 k (a : Int) (ints pre) (pre.length : Int)) (ints (pre ++ bitsL d a)) := by
  induction d with
  | zero =>
    intro a pre ha hp
    refine Ev.step (f := fun _ => some (ints (pre ++ bitsL 0 a))) (fun k => ?_) (Ev.now _)
    simp only [seedcornref01_Bits.l0]
    rw [if_neg (by omega)]
    simp [bitsL]
  | succ d ih =>
    intro a pre ha hp
    have h := ih (a / 2) (pre ++ [a % 2]) (by omega) (by simp; omega)
    refine Ev.step (f := fun k => seedcornref01_Bits.l0 k ((a / 2 : Nat) : Int) (ints (pre ++ [a % 2])) ((pre ++ [a % 2]).length : Int)) (fun k => ?_) (by simpa [bitsL] using h)
    simp only [seedcornref01_Bits.l0]
    rw [if_pos (by omega), if_pos (by rw [ints_length]; omega)]
    have e1 : (Int.tdiv (a : Int) 2) % 4294967296 = ((a / 2 : Nat) : Int) := by
      rw [Int.tdiv_eq_ediv_of_nonneg (by omega)]; omega
    have e2 : wrap64 (Int.tmod (a : Int) 2) = ((a % 2 : Nat) : Int) := by
      rw [Int.tmod_eq_emod_of_nonneg (by omega)]; unfold wrap64; omega
    have e3 : wrap64 ((pre.length : Int) + 1) = ((pre ++ [a % 2]).length : Int) := by
      unfold wrap64; simp; omega
    rw [e1, e2, e3, ints_append]
    rfl
theorem bits_all (a : Nat) (ha : a < 4294967296) : Ev (fun k => seedcornref01_Bits.f k (a : Int)) (ints (bitsL 32 a)) :=
  bits_loop' 32 a [] ha (by simp)

def small (l : List Nat) : Prop := ∀ x ∈ l, x ≤ 1
theorem ofL_lt (l : List Nat) (h : small l) : ofL l < 2 ^ l.length := by
  induction l with
  | nil => simp [ofL]
  | cons x l ih =>
    have h1 := ih (fun y hy => h y (List.mem_cons_of_mem _ hy))
    have h2 := h x List.mem_cons_self
    simp only [ofL, List.length_cons, Nat.pow_succ]
    omega
theorem of_loop (pre : List Nat) : ∀ (post : List Nat), small (pre ++ post) → (pre ++ post).length ≤ 32 →
    Ev (fun k => seedcornref01_Of.l0 k (ints (pre ++ post)) (ofL post : Int) ((pre.length : Int) - 1)) (ofL (pre ++ post) : Int) := by
  induction hn : pre.length generalizing pre with
  | zero =>
    intro post hs hl
    have hp : pre = [] := List.length_eq_zero_iff.mp hn
    subst hp
    have hlt := ofL_lt _ hs
    have h2 : 2 ^ ([] ++ post).length ≤ 2 ^ 32 := Nat.pow_le_pow_right (by omega) hl
    refine Ev.step (f := fun _ => some (ofL ([] ++ post) : Int)) (fun k => ?_) (Ev.now _)
    simp only [seedcornref01_Of.l0]
    rw [if_neg (by simp)]
    rw [List.nil_append] at hlt ⊢
    rw [Int.tmod_eq_emod_of_nonneg (by omega)]
    congr 1
    simp only [List.nil_append] at h2
    omega
  | succ n ih =>
    intro post hs hl
    obtain ⟨p, x, rfl⟩ : ∃ p x, pre = p ++ [x] := ⟨pre.dropLast, pre.getLast (by intro h; simp [h] at hn), (List.dropLast_concat_getLast _).symm⟩
    have hpn : p.length = n := by simpa using hn
    have e0 : p ++ [x] ++ post = p ++ (x :: post) := by simp
    rw [e0] at hs hl ⊢
    have hx : x ≤ 1 := hs x (by simp)
    have hlt := ofL_lt post (fun y hy => hs y (by simp [hy]))
    have h2 : 2 ^ post.length ≤ 2 ^ 31 := Nat.pow_le_pow_right (by omega) (by simp at hl; omega)
    refine Ev.step (f := fun k => seedcornref01_Of.l0 k (ints (p ++ (x :: post))) (ofL (x :: post) : Int) ((n : Int) - 1)) (fun k => ?_) (ih p hpn (x :: post) hs hl)
    have e1 : ((n + 1 : Nat) : Int) - 1 = (p.length : Int) := by omega
    simp only [seedcornref01_Of.l0]
    rw [e1, if_pos (by omega), if_pos (by omega), if_pos (by rw [ints_length]; simp; omega), rd_mid]
    have e2 : IntKind.u64.wrap ((IntKind.u64.wrap (2 * (ofL post : Int))) + (IntKind.u64.wrap (x : Int))) = (ofL (x :: post) : Int) := by
      simp only [u64_wrap, ofL]
      omega
    have e3 : wrap64 ((p.length : Int) - 1) = (p.length : Int) - 1 := by
      have : p.length ≤ 32 := by simp at hl; omega
      unfold wrap64; omega
    rw [e2, e3, hpn]
theorem of_all (l : List Nat) (hs : small l) (hl : l.length = 32) : Ev (fun k => seedcornref01_Of.f k (ints l)) (ofL l : Int) := by
  have h := of_loop l [] (by simpa using hs) (by simp; omega)
  simp only [List.append_nil] at h
  refine Ev.congr (fun k => ?_) h
  unfold seedcornref01_Of.f
  have e : wrap64 ((l.length : Int) - 1) = (([] : List Nat).length : Int) + (l.length : Int) - 1 := by unfold wrap64; simp; omega
  rw [ints_length, e]
  simp [ofL]

/-- What 'both' makes of two bits. -/
def g (op : Int) (x y : Nat) : Nat := if (x + y = 2 ∧ op ≠ 11) ∨ (x + y = 1 ∧ op ≠ 9) then 1 else 0
theorem nat2 (n : Nat) : ((n : Nat) : Int) = 2 ↔ n = 2 := by omega
theorem nat1 (n : Nat) : ((n : Nat) : Int) = 1 ↔ n = 1 := by omega
theorem both_step {α : Type} (op : Int) (n : Nat) (F : Nat → α) :
    (if ((n : Nat) : Int) = 2 then (if op = 11 then (if ((n : Nat) : Int) = 1 then (if op = 9 then F 0 else F 1) else F 0) else F 1) else (if ((n : Nat) : Int) = 1 then (if op = 9 then F 0 else F 1) else F 0)) =
      F (if (n = 2 ∧ op ≠ 11) ∨ (n = 1 ∧ op ≠ 9) then 1 else 0) := by
  simp only [nat2, nat1]
  by_cases h2 : n = 2
  · subst h2
    by_cases h11 : op = 11 <;> simp [h11]
  · by_cases h1 : n = 1
    · subst h1
      by_cases h9 : op = 9 <;> simp [h9]
    · simp [h2, h1]
theorem g_le (op : Int) (x y : Nat) : g op x y ≤ 1 := by unfold g; split <;> omega
theorem both_loop (op : Int) (d : Nat) : ∀ (pre xs ypre ys : List Nat), small (pre ++ xs) → small (ypre ++ ys) → pre.length = ypre.length → pre.length + d = 32 → xs.length = d → ys.length = d →
    Ev (fun k => seedcornref01_both.l0 k op (ints (pre ++ xs)) (ints (ypre ++ ys)) (pre.length : Int)) (ofL (pre ++ List.zipWith (g op) xs ys) : Int) := by
  induction d with
  | zero =>
    intro pre xs ypre ys hs hsy hp hd hx hy
    have e1 : xs = [] := List.length_eq_zero_iff.mp hx
    have e2 : ys = [] := List.length_eq_zero_iff.mp hy
    subst e1; subst e2
    simp only [List.append_nil, List.zipWith_nil_left] at hs ⊢
    refine Ev.step (f := fun k => (seedcornref01_Of.f k (ints pre)).bind fun t => some t) (fun k => ?_) (Ev.bind (of_all pre hs (by omega)) (Ev.now _))
    simp only [seedcornref01_both.l0]
    rw [if_neg (by omega)]
  | succ d ih =>
    intro pre xs ypre ys hs hsy hp hd hx hy
    obtain ⟨x, xs, rfl⟩ := List.exists_cons_of_length_eq_add_one hx
    obtain ⟨y, ys, rfl⟩ := List.exists_cons_of_length_eq_add_one hy
    have hx1 : x ≤ 1 := hs x (by simp)
    have hy1 : y ≤ 1 := hsy y (by simp)
    have hi := ih (pre ++ [g op x y]) xs (ypre ++ [y]) ys (by
        intro z hz
        simp only [List.append_assoc, List.cons_append, List.nil_append, List.mem_append, List.mem_cons] at hz
        rcases hz with hz | hz | hz
        · exact hs z (by simp [hz])
        · subst hz; exact g_le op x y
        · exact hs z (by simp [hz])) (by simpa using hsy) (by simp; omega) (by simp; omega) (by simpa using hx) (by simpa using hy)
    simp only [List.append_assoc, List.cons_append, List.nil_append] at hi
    have hz : List.zipWith (g op) (x :: xs) (y :: ys) = g op x y :: List.zipWith (g op) xs ys := rfl
    rw [hz]
    refine Ev.step (f := fun k => seedcornref01_both.l0 k op (ints (pre ++ g op x y :: xs)) (ints (ypre ++ y :: ys)) ((pre ++ [g op x y]).length : Int)) (fun k => ?_) hi
    have r1 : rd (ints (pre ++ x :: xs)) (pre.length : Int) = (x : Int) := rd_mid pre x xs
    have r2 : rd (ints (ypre ++ y :: ys)) (pre.length : Int) = (y : Int) := by rw [hp]; exact rd_mid ypre y ys
    have e3 : wrap64 ((pre.length : Int) + 1) = ((pre ++ [g op x y]).length : Int) := by unfold wrap64; simp; omega
    have e4 : wrap64 ((x : Int) + (y : Int)) = ((x + y : Nat) : Int) := by unfold wrap64; omega
    have s0 : (ints (pre ++ x :: xs)).set pre.length (0 : Int) = ints (pre ++ 0 :: xs) := set_mid pre x xs 0
    have s1 : (ints (pre ++ 0 :: xs)).set pre.length (1 : Int) = ints (pre ++ 1 :: xs) := set_mid pre 0 xs 1
    simp only [seedcornref01_both.l0]
    rw [if_pos (by omega), if_pos (by omega), if_pos (by rw [ints_length]; simp; omega), if_pos (by rw [ints_length]; simp; omega), r1, r2, e3, e4, Int.toNat_natCast, s0]
    simp only [Option.bind_some, s1]
    exact both_step op (x + y) (fun b => seedcornref01_both.l0 k op (ints (pre ++ b :: xs)) (ints (ypre ++ y :: ys)) ((pre ++ [g op x y]).length : Int))
theorem small_bits (n a : Nat) : small (bitsL n a) := by
  induction n generalizing a with
  | zero => intro x hx; simp [bitsL] at hx
  | succ n ih =>
    intro x hx
    simp only [bitsL, List.mem_cons] at hx
    rcases hx with rfl | hx
    · omega
    · exact ih _ x hx
theorem zip_congr (f h : Nat → Nat → Nat) (hf : ∀ x y, x ≤ 1 → y ≤ 1 → f x y = h x y) (l m : List Nat) (hl : small l) (hm : small m) : List.zipWith f l m = List.zipWith h l m := by
  induction l generalizing m with
  | nil => rfl
  | cons x l ih =>
    cases m with
    | nil => rfl
    | cons y m =>
      simp only [List.zipWith_cons_cons]
      rw [hf x y (hl x List.mem_cons_self) (hm y List.mem_cons_self), ih m (fun z hz => hl z (List.mem_cons_of_mem _ hz)) (fun z hz => hm z (List.mem_cons_of_mem _ hz))]
theorem both_all (op : Int) (a b : Nat) (ha : a < 4294967296) (hb : b < 4294967296) : Ev (fun k => seedcornref01_both.f k op (a : Int) (b : Int)) (ofL (List.zipWith (g op) (bitsL 32 a) (bitsL 32 b)) : Int) := by
  have h := both_loop op 32 [] (bitsL 32 a) [] (bitsL 32 b) (small_bits 32 a) (small_bits 32 b) rfl (by simp) (bitsL_length 32 a) (bitsL_length 32 b)
  refine Ev.bind (bits_all a ha) (Ev.bind (bits_all b hb) ?_)
  simpa using h
theorem both_and (a b : Nat) (ha : a < 4294967296) (hb : b < 4294967296) : Ev (fun k => seedcornref01_both.f k 9 (a : Int) (b : Int)) ((a &&& b : Nat) : Int) := by
  have h := both_all 9 a b ha hb
  rwa [zip_congr (g 9) (fun x y => if x + y = 2 then 1 else 0) (fun x y _ _ => by simp [g]) _ _ (small_bits 32 a) (small_bits 32 b), zip_and 32 a b (by omega) (by omega)] at h
theorem both_or (a b : Nat) (ha : a < 4294967296) (hb : b < 4294967296) : Ev (fun k => seedcornref01_both.f k 10 (a : Int) (b : Int)) ((a ||| b : Nat) : Int) := by
  have h := both_all 10 a b ha hb
  rwa [zip_congr (g 10) (fun x y => if x + y = 0 then 0 else 1) (fun x y hx hy => by
    have : x + y = 0 ∨ x + y = 1 ∨ x + y = 2 := by omega
    rcases this with h | h | h <;> simp [g, h]) _ _ (small_bits 32 a) (small_bits 32 b), zip_or 32 a b (by omega) (by omega)] at h
theorem both_xor (a b : Nat) (ha : a < 4294967296) (hb : b < 4294967296) : Ev (fun k => seedcornref01_both.f k 11 (a : Int) (b : Int)) ((a ^^^ b : Nat) : Int) := by
  have h := both_all 11 a b ha hb
  rwa [zip_congr (g 11) (fun x y => if x + y = 1 then 1 else 0) (fun x y _ _ => by simp [g]) _ _ (small_bits 32 a) (small_bits 32 b), zip_xor 32 a b (by omega) (by omega)] at h

/-! shifts, place by place -/
theorem shl_loop (b : Nat) (hb : b < 32) (d : Nat) : ∀ (i : Nat) (x : Int), i + d = b → 0 ≤ x → x < 4294967296 → Ev (fun k => seedcornref01_shift.l0 k 12 b x i) ((x * 2 ^ d) % 4294967296) := by
  induction d with
  | zero =>
    intro i x hi h0 h1
    refine Ev.step (f := fun _ => some ((x * 2 ^ 0) % 4294967296)) (fun k => ?_) (Ev.now _)
    simp only [seedcornref01_shift.l0]
    rw [if_neg (by omega)]
    simp
  | succ d ih =>
    intro i x hi h0 h1
    have h := ih (i + 1) ((2 * x) % 4294967296) (by omega) (by omega) (by omega)
    have e : ((2 * x) % 4294967296 * 2 ^ d) % 4294967296 = (x * 2 ^ (d + 1)) % 4294967296 := by
      rw [Int.mul_emod, Int.emod_emod_of_dvd _ (Int.dvd_refl _), ← Int.mul_emod, Int.pow_succ]
      congr 1
      rw [Int.mul_comm 2 x, Int.mul_assoc, Int.mul_comm (2 ^ d) 2]
    rw [e] at h
    refine Ev.step (f := fun k => seedcornref01_shift.l0 k 12 b ((2 * x) % 4294967296) ((i + 1 : Nat) : Int)) (fun k => ?_) h
    simp only [seedcornref01_shift.l0]
    rw [if_pos (by omega)]
    simp only [if_true]
    rw [u64_id (by omega) (by omega), Int.tmod_eq_emod_of_nonneg (by omega), show ((i : Int) + 1) % 4294967296 = ((i + 1 : Nat) : Int) by omega]
theorem shr_loop (b : Nat) (hb : b < 32) (d : Nat) : ∀ (i : Nat) (x : Int), i + d = b → 0 ≤ x → x < 4294967296 → Ev (fun k => seedcornref01_shift.l0 k 13 b x i) (x / 2 ^ d) := by
  induction d with
  | zero =>
    intro i x hi h0 h1
    refine Ev.step (f := fun _ => some (x / 2 ^ 0)) (fun k => ?_) (Ev.now _)
    simp only [seedcornref01_shift.l0]
    rw [if_neg (by omega), show x % 4294967296 = x by omega]
    simp
  | succ d ih =>
    intro i x hi h0 h1
    have h := ih (i + 1) (x / 2) (by omega) (by omega) (by omega)
    have e : x / 2 / 2 ^ d = x / 2 ^ (d + 1) := by
      rw [Int.pow_succ, Int.mul_comm, Int.ediv_ediv_of_nonneg (by omega)]
    rw [e] at h
    refine Ev.step (f := fun k => seedcornref01_shift.l0 k 13 b (x / 2) ((i + 1 : Nat) : Int)) (fun k => ?_) h
    simp only [seedcornref01_shift.l0]
    rw [if_pos (by omega), if_neg (by omega), Int.tdiv_eq_ediv_of_nonneg h0, u64_id (by omega) (by omega), show ((i : Int) + 1) % 4294967296 = ((i + 1 : Nat) : Int) by omega]
theorem shift_l (a b : Int) (a0 : 0 ≤ a) (a1 : a < 4294967296) (b0 : 0 ≤ b) : Ev (fun k => seedcornref01_shift.f k 12 a b) (shl .u32 a b) := by
  by_cases h : b ≥ 32
  · refine Ev.congr (f := fun _ => some (shl .u32 a b)) (fun k => ?_) (Ev.now _)
    unfold seedcornref01_shift.f
    rw [if_pos h, shl_far a b h]
  · obtain ⟨n, rfl⟩ := Int.eq_ofNat_of_zero_le b0
    have hl := shl_loop n (by omega) n 0 a (by omega) a0 a1
    rw [shl_le a n (by omega)]
    refine Ev.congr (fun k => ?_) hl
    unfold seedcornref01_shift.f
    rw [if_neg h, u64_id a0 (by omega)]; rfl
theorem shift_r (a b : Int) (a0 : 0 ≤ a) (a1 : a < 4294967296) (b0 : 0 ≤ b) : Ev (fun k => seedcornref01_shift.f k 13 a b) (shr .u32 a b) := by
  by_cases h : b ≥ 32
  · refine Ev.congr (f := fun _ => some (shr .u32 a b)) (fun k => ?_) (Ev.now _)
    unfold seedcornref01_shift.f
    rw [if_pos h, shr_far a b h a0 a1]
  · obtain ⟨n, rfl⟩ := Int.eq_ofNat_of_zero_le b0
    have hl := shr_loop n (by omega) n 0 a (by omega) a0 a1
    rw [shr_le a n (by omega)]
    refine Ev.congr (fun k => ?_) hl
    unfold seedcornref01_shift.f
    rw [if_neg h, u64_id a0 (by omega)]; rfl

/-- The program's answer, for enough rounds, and the document's: one. -/
def Agree (op a b : Int) : Prop := ∃ r : Int × Int, Ev (fun k => word_Apply.f k op a b) r ∧ Ev (fun k => seedcornref01_Apply.f k op a b) r
theorem agree (op a b : Int) (a0 : 0 ≤ a) (a1 : a < 4294967296) (b0 : 0 ≤ b) (b1 : b < 4294967296) : Agree op a b := by
  by_cases h4 : op = 4
  · subst h4
    refine ⟨((a + b) % 4294967296, 0), Ev.congr (fun k => ap_add k a b) (Ev.now _), Ev.congr (f := fun _ => some ((a + b) % 4294967296, 0)) (fun k => ?_) (Ev.now _)⟩
    unfold seedcornref01_Apply.f
    rw [if_pos rfl, u64_id a0 (by omega), u64_id b0 (by omega), u64_id (by omega) (by omega), Int.tmod_eq_emod_of_nonneg (by omega)]
    congr 2; omega
  by_cases h5 : op = 5
  · subst h5
    refine ⟨((a - b) % 4294967296, 0), Ev.congr (fun k => ap_sub k a b) (Ev.now _), Ev.congr (f := fun _ => some ((a - b) % 4294967296, 0)) (fun k => ?_) (Ev.now _)⟩
    unfold seedcornref01_Apply.f
    rw [if_neg (by omega), if_pos rfl, u64_id a0 (by omega), u64_id b0 (by omega), u64_id (n := a + 4294967296) (by omega) (by omega), u64_id (by omega) (by omega), Int.tmod_eq_emod_of_nonneg (by omega)]
    congr 2; omega
  by_cases h6 : op = 6
  · subst h6
    have p0 : 0 ≤ a * b := Int.mul_nonneg a0 b0
    have p1 : a * b < 18446744073709551616 := by
      have : a * b ≤ 4294967295 * 4294967295 := Int.mul_le_mul (by omega) (by omega) b0 (by omega)
      omega
    refine ⟨((a * b) % 4294967296, 0), Ev.congr (fun k => ap_mul k a b) (Ev.now _), Ev.congr (f := fun _ => some ((a * b) % 4294967296, 0)) (fun k => ?_) (Ev.now _)⟩
    unfold seedcornref01_Apply.f
    rw [if_neg (by omega), if_neg (by omega), if_pos rfl, u64_id a0 (by omega), u64_id b0 (by omega), u64_id p0 p1, Int.tmod_eq_emod_of_nonneg p0]
    congr 2; omega
  by_cases h7 : op = 7
  · subst h7
    by_cases hb : b = 0
    · subst hb
      refine ⟨(0, 14), Ev.step (f := fun _ => some (0, 14)) (fun k => ap_div0 k a) (Ev.now _), Ev.congr (f := fun _ => some (0, 14)) (fun k => ?_) (Ev.now _)⟩
      unfold seedcornref01_Apply.f
      rfl
    · have q0 : 0 ≤ a / b := Int.ediv_nonneg a0 b0
      have q1 : a / b ≤ a := Int.ediv_le_self _ a0
      refine ⟨(a / b, 0), Ev.step (f := fun _ => some (a / b, 0)) (fun k => ap_div k a0 a1 (by omega)) (Ev.now _), Ev.congr (f := fun _ => some (a / b, 0)) (fun k => ?_) (Ev.now _)⟩
      unfold seedcornref01_Apply.f
      rw [if_neg (by omega), if_neg (by omega), if_neg (by omega), if_pos rfl, if_neg hb, u64_id a0 (by omega), u64_id b0 (by omega), if_neg hb, Int.tdiv_eq_ediv_of_nonneg a0, u64_id q0 (by omega), show a / b % 4294967296 = a / b by omega]
  by_cases h8 : op = 8
  · subst h8
    by_cases hb : b = 0
    · subst hb
      refine ⟨(0, 14), Ev.step (f := fun _ => some (0, 14)) (fun k => ap_mod0 k a) (Ev.now _), Ev.congr (f := fun _ => some (0, 14)) (fun k => ?_) (Ev.now _)⟩
      unfold seedcornref01_Apply.f
      rfl
    · have q0 : 0 ≤ a % b := Int.emod_nonneg _ hb
      have q1 : a % b < b := Int.emod_lt_of_pos _ (by omega)
      refine ⟨(a % b, 0), Ev.step (f := fun _ => some (a % b, 0)) (fun k => ap_mod k a0 (by omega)) (Ev.now _), Ev.congr (f := fun _ => some (a % b, 0)) (fun k => ?_) (Ev.now _)⟩
      unfold seedcornref01_Apply.f
      rw [if_neg (by omega), if_neg (by omega), if_neg (by omega), if_neg (by omega), if_pos rfl, if_neg hb, u64_id a0 (by omega), u64_id b0 (by omega), if_neg hb, Int.tmod_eq_emod_of_nonneg a0, show a % b % 4294967296 = a % b by omega]
  obtain ⟨x, rfl⟩ := Int.eq_ofNat_of_zero_le a0
  obtain ⟨y, rfl⟩ := Int.eq_ofNat_of_zero_le b0
  have hx : x < 4294967296 := by omega
  have hy : y < 4294967296 := by omega
  by_cases h9 : op = 9
  · subst h9
    refine ⟨(((x &&& y : Nat) : Int), 0), Ev.congr (fun k => (ap_and k x y).trans (by rw [bits_and_nat x y hx hy])) (Ev.now _), ?_⟩
    exact Ev.congr (f := fun k => seedcornref01_Apply.j0 k 9 x y 9 true) (fun k => rfl) (Ev.step (f := fun k => (seedcornref01_both.f k 9 x y).bind fun t => some (t, 0)) (fun k => rfl) (Ev.bind (both_and x y hx hy) (Ev.now _)))
  by_cases h10 : op = 10
  · subst h10
    refine ⟨(((x ||| y : Nat) : Int), 0), Ev.congr (fun k => (ap_or k x y).trans (by rw [bits_or_nat x y hx hy])) (Ev.now _), ?_⟩
    exact Ev.congr (f := fun k => seedcornref01_Apply.j0 k 10 x y 10 true) (fun k => rfl) (Ev.step (f := fun k => (seedcornref01_both.f k 10 x y).bind fun t => some (t, 0)) (fun k => rfl) (Ev.bind (both_or x y hx hy) (Ev.now _)))
  by_cases h11 : op = 11
  · subst h11
    refine ⟨(((x ^^^ y : Nat) : Int), 0), Ev.congr (fun k => (ap_xor k x y).trans (by rw [bits_xor_nat x y hx hy])) (Ev.now _), ?_⟩
    exact Ev.congr (f := fun k => seedcornref01_Apply.j0 k 11 x y 11 true) (fun k => rfl) (Ev.step (f := fun k => (seedcornref01_both.f k 11 x y).bind fun t => some (t, 0)) (fun k => rfl) (Ev.bind (both_xor x y hx hy) (Ev.now _)))
  have hr : ∀ k, seedcornref01_Apply.f k op x y = seedcornref01_Apply.j0 k op x y op false := by
    intro k
    unfold seedcornref01_Apply.f
    rw [if_neg h4, if_neg h5, if_neg h6, if_neg h7, if_neg h8, if_neg h9, if_neg h10, show (op == 11) = false from beq_eq_false_iff_ne.mpr h11]
  by_cases h12 : op = 12
  · subst h12
    refine ⟨(shl .u32 x y, 0), Ev.congr (fun k => ap_shl k x b0) (Ev.now _), ?_⟩
    exact Ev.congr hr (Ev.step (f := fun k => seedcornref01_Apply.j1 k 12 x y 12 true) (fun k => rfl) (Ev.step (f := fun k => (seedcornref01_shift.f k 12 x y).bind fun t => some (t, 0)) (fun k => rfl) (Ev.bind (shift_l x y a0 a1 b0) (Ev.now _))))
  by_cases h13 : op = 13
  · subst h13
    refine ⟨(shr .u32 x y, 0), Ev.congr (fun k => ap_shr k x b0) (Ev.now _), ?_⟩
    exact Ev.congr hr (Ev.step (f := fun k => seedcornref01_Apply.j1 k 13 x y 13 true) (fun k => rfl) (Ev.step (f := fun k => (seedcornref01_shift.f k 13 x y).bind fun t => some (t, 0)) (fun k => rfl) (Ev.bind (shift_r x y a0 a1 b0) (Ev.now _))))
  have hj : ∀ r : Int × Int, (∀ k, seedcornref01_Apply.j1 (k + 1) op x y op false = some r) → Ev (fun k => seedcornref01_Apply.f k op x y) r := by
    intro r h
    refine Ev.congr hr (Ev.step (f := fun k => seedcornref01_Apply.j1 k op x y op false) (fun k => ?_) (Ev.step (f := fun _ => some r) h (Ev.now _)))
    simp only [seedcornref01_Apply.j0, Bool.false_eq_true, if_false]
    rw [if_neg h12, show (op == 13) = false from beq_eq_false_iff_ne.mpr h13]
  by_cases h14 : op = 14
  · subst h14
    refine ⟨(if (x : Int) < y then 1 else 0, 0), Ev.congr (fun k => ap_lt k x y) (Ev.now _), hj _ (fun k => ?_)⟩
    by_cases h : (x : Int) < y <;> simp [seedcornref01_Apply.j1, seedcornref01_flag.f, h]
  by_cases h15 : op = 15
  · subst h15
    refine ⟨(if (x : Int) = y then 1 else 0, 0), Ev.congr (fun k => ap_eq k x y) (Ev.now _), hj _ (fun k => ?_)⟩
    by_cases h : (x : Int) = y <;> simp [seedcornref01_Apply.j1, seedcornref01_flag.f, h]
  refine ⟨(0, 1), Ev.congr (f := fun _ => some (0, 1)) (fun k => ?_) (Ev.now _), hj _ (fun k => ?_)⟩
  · unfold word_Apply.f
    rw [if_neg h7, if_neg h8, if_neg h4, if_neg h5, if_neg h6, if_neg h9, if_neg h10, if_neg h11, if_neg h12, if_neg h13, if_neg h14, if_neg h15]
  · simp [seedcornref01_Apply.j1, h14, h15]
theorem WordApplies : seedcornlaw01_WordApplies.Pure := by
  intro op a b _ ha hb
  obtain ⟨a0, a1⟩ := u32_range ha
  obtain ⟨b0, b1⟩ := u32_range hb
  obtain ⟨r, h1, h2⟩ := agree op a b a0 a1 b0 b1
  refine Ev.rounds ?_
  have h3 : Ev (fun k => seedcornlaw01_alive.f k) true := ⟨10, fun k hk => alive_at k hk⟩
  unfold seedcornlaw01_WordApplies.f
  refine Ev.bind h3 ?_
  simp only [if_true]
  refine Ev.bind h1 (Ev.bind h2 ?_)
  simp only [if_true, beq_self_eq_true]
  exact Ev.now _
end Go.Proofs.Ytdmgponiefhlnaa.Pure
