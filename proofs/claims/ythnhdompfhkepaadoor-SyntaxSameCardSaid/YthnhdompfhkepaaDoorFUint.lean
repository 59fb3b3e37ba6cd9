/- strconv.FormatUint at base 10: the decimal numeral of any word of 64 bits; its contract at this program. The table that it reads is a premise (TABU). -/
import Derived.Test.YthnhdompfhkepaaDoorShelf
import Derived.Lib.Walk
import Derived.Lib.ItoaMem
import Derived.WalkKit
import Derived.BigCall
import Derived.BigGuard
import Derived.Below
import Derived.Test.YthnhdompfhkepaaDoorW
namespace Go.Proofs.YthnhdompfhkepaaDoor.Ext
open Go.Shelf Go.RowKit Go.Sort Go.Lib Go.Proofs.YthnhdompfhkepaaDoorW.PrintWords
def TABU (w : World) : Prop := Lib.TabIs Tryd.prog w "internal/strconv.uint64pow10" .u64 Lib.pow10Tab
theorem gPow : (Tryd.prog.globalNamed "internal/strconv.uint64pow10").isSome = true := by kernel_rfl
theorem TABU.below {w w' : World} (h : TABU w) (hb : Below w.heap.size w w') : TABU w' := by
  obtain ⟨g, hg⟩ := Option.isSome_iff_exists.mp gPow
  unfold TABU Lib.TabIs World.var? at h ⊢
  simp only [hg, Option.bind_some] at h ⊢
  by_cases hlt : g < w.heap.size
  · rw [hb.block g hlt]
    exact h
  · rw [Array.getElem?_eq_none (by omega)] at h
    cases h
theorem fin_pos0 (w : World) (o : Obj) (dk : Array UInt8) (k : Nat) : ∃ os, (putRow (fun (b : UInt8) => Value.int .u8 (b.toNat : Int)) (w.alloc o) w.heap.size 0 dk).drewN k = grow (w.drewN k) os := by
  rw [alloc_eq_grow]
  obtain ⟨os', _, e⟩ := putRow_grow_new (fun (b : UInt8) => Value.int .u8 (b.toNat : Int)) w #[o] w.heap.size 0 dk (Nat.le_refl _)
  exact ⟨os', by rw [e]; rfl⟩
theorem below_grow (w : World) (k : Nat) (os : Array Obj) : Below w.heap.size w (grow (w.drewN k) os) := by
  refine ⟨rfl, rfl, rfl, ?_, fun i hi => ?_⟩
  · show w.heap.size ≤ (w.heap ++ os).size
    simp
  · show (w.heap ++ os)[i]? = w.heap[i]?
    rw [Array.getElem?_append_left hi]
set_option maxHeartbeats 6400000 in
set_option maxRecDepth 100000 in
theorem fuint_small (i : Nat) (hi : i < 100) (w : World) :
    Calls Tryd.prog 82 #[.int .u64 i, .int .i64 10] w fun e w' => e = .returned (.string ⟨(Lib.decDigits i).toArray⟩) ∧ w' = w := by
  go_enter Tryd.func82, Tryd.ntmps82
  go_wp2_with (go_at_call 100; refine (Tryd.internal_strconv_small i hi _).mono ?_; rintro e w' ⟨rfl, rfl⟩)
  go_ret
  exact ⟨rfl, rfl⟩
set_option maxHeartbeats 6400000 in
set_option maxRecDepth 100000 in
theorem fuint_big (u : Nat) (hu : 100 ≤ u) (hu64 : u < 18446744073709551616) (w : World) (htab : TABU w) :
    Calls Tryd.prog 82 #[.int .u64 u, .int .i64 10] w fun e w' => e = .returned (.string ⟨(Lib.decDigits u).toArray⟩) ∧ ∃ k os, w' = grow (w.drewN k) os := by
  have htab' : Lib.TabIs Tryd.prog w "internal/strconv.uint64pow10" .u64 Lib.pow10Tab := htab
  clear htab
  have hu1 : 1 ≤ u := by omega
  have hnd20 : Lib.nDigits u ≤ 20 := by have := Lib.numDigits_eq u hu1 hu64; split at this <;> omega
  have hb3 : Lib.nDigits u ≤ 23 := by omega
  have hal : Tryd.prog.arrayLen 118 = 24 := by kernel_rfl
  have hsl1 : ∀ W, (Instr.sliceAt 118 (.pointer (some ⟨w.heap.size, 0, none⟩)) none (some (.int .i64 (Lib.nDigits u : Int))) none).run Tryd.prog W = .ok (.slice (some ⟨w.heap.size, 0, none⟩) (Lib.nDigits u) 24) W := fun W => by
    rw [run_sliceAt_array_h W 118 ⟨w.heap.size, 0, none⟩ (by kernel_rfl) .i64 (Lib.nDigits u : Int) (by omega) (by rw [hal]; omega)]
    go_simp
    try omega
  have hH0 : Holds (fun (b : UInt8) => Value.int .u8 (b.toNat : Int)) (w.alloc (.cells Lib.zeros24 118)) w.heap.size 0 (Array.replicate (Lib.nDigits u) 0) := by
    intro j hj
    have hj' : j < Lib.nDigits u := by simpa using hj
    refine ⟨?_, World.frozen?_alloc_new _ _ _ _⟩
    rw [World.cell?_alloc_new, Lib.zeros24_at _ (by omega), getElem!_pos _ j hj]
    simp
  have hfmt := Tryd.internal_strconv_formatBase10 w.heap.size 0 24 u (Array.replicate (Lib.nDigits u) 0) (w.alloc (.cells Lib.zeros24 118)) hH0 (by rw [Array.size_replicate]; exact Lib.lt_pow_nDigits u) hu64 (by rw [Array.size_replicate]; omega)
  rw [Array.size_replicate] at hfmt
  have HH0 := Lib.hid hH0
  clear hH0 hal
  go_enter Tryd.func82, Tryd.ntmps82
  go_wp2_with (first
    | (go_at_call 101; refine (Tryd.internal_strconv_numDigits u hu1 hu64 _ (Lib.tabIs_alloc htab' _)).mono ?_; rintro e w' ⟨rfl, rfl⟩))
  go_at_call 102
  refine hfmt.mono ?_
  rintro e w' ⟨rfl, k, v', dk, rfl, hF⟩
  have hcv : (convert 51 9 (.slice (some ⟨w.heap.size, 0, none⟩) (Lib.nDigits u) 24)).run Tryd.prog ((putRow (fun (b : UInt8) => Value.int .u8 (b.toNat : Int)) (w.alloc (.cells Lib.zeros24 118)) w.heap.size 0 dk).drewN k) = .ok (.string ⟨(Lib.decDigits u).toArray⟩) ((putRow (fun (b : UInt8) => Value.int .u8 (b.toNat : Int)) (w.alloc (.cells Lib.zeros24 118)) w.heap.size 0 dk).drewN k) := by
    have h := run_convert_bytes_back (P := Tryd.prog) ((putRow (fun (b : UInt8) => Value.int .u8 (b.toNat : Int)) (w.alloc (.cells Lib.zeros24 118)) w.heap.size 0 dk).drewN k) 51 9 5 ⟨w.heap.size, 0, none⟩ 24 (Lib.decDigits u) Tryd.underlying51 Tryd.underlying5 Tryd.underlying9 (fun j hj => by
      rw [Lib.row_is_numeral hF j hj, Lib.add_plain, World.cell?_drewN]
      exact cell?_putRow (fun (b : UInt8) => Value.int .u8 (b.toNat : Int)) _ w.heap.size 0 _ dk HH0.out (by rw [hF.size, Array.size_replicate]) j (by rw [hF.size]; rw [Lib.decDigits_length] at hj; exact hj))
    rw [Lib.decDigits_length] at h
    exact h
  go_wp2
  go_ret
  obtain ⟨os, eo⟩ := fin_pos0 w (.cells Lib.zeros24 118) dk k
  exact ⟨rfl, k, os, eo⟩
def strconv_FormatUint.f (a0 a1 : Int) : Option ByteArray := if a1 = 10 ∧ 0 ≤ a0 ∧ a0 < 18446744073709551616 then some ⟨(Lib.decDigits a0.toNat).toArray⟩ else none
theorem strconv_FormatUint.calls_u (a0 a1 : Int) (r : ByteArray) (w : World) (hT : TABU w) (h : strconv_FormatUint.f a0 a1 = some r) :
    Calls Tryd.prog 62 #[.int .u64 a0, .int .i64 a1] w fun e w' => e = .returned (.string r) ∧ Below w.heap.size w w' := by
  unfold strconv_FormatUint.f at h
  by_cases hc : a1 = 10 ∧ 0 ≤ a0 ∧ a0 < 18446744073709551616
  · rw [if_pos hc] at h
    obtain ⟨rfl, h0, h1⟩ := hc
    obtain rfl := Option.some.inj h
    obtain ⟨u, rfl⟩ := Int.eq_ofNat_of_zero_le h0
    rw [Int.toNat_natCast]
    by_cases hs : u < 100
    · go_enter Tryd.func62, Tryd.ntmps62
      go_wp2_with (go_at_call 82; refine (fuint_small u hs _).mono ?_; rintro e w' ⟨rfl, rfl⟩)
      go_ret
      exact ⟨rfl, Below.refl _ _⟩
    · go_enter Tryd.func62, Tryd.ntmps62
      go_wp2_with (go_at_call 82; refine (fuint_big u (by omega) (by omega) _ hT).mono ?_; rintro e w' ⟨rfl, k, os, rfl⟩)
      go_ret
      exact ⟨rfl, below_grow w k os⟩
  · rw [if_neg hc] at h
    cases h
end Go.Proofs.YthnhdompfhkepaaDoor.Ext
