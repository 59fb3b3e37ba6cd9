/- strings.Builder's writers, strings.Join and strconv.Itoa at this program: what each leaves; over the library's proved contracts. -/
import Derived.Test.YthnhdompfhkepaaDoorShelf
import Derived.Test.YthnhdompfhkepaaDoorFUint
import Derived.Shelf.Strings.Builder1
import Derived.Shelf.Strings.Builder2
import Derived.Shelf.Strings.OnBuilder
import Derived.Test.YthnhdompfhkepaaDoorW
namespace Go.Proofs.YthnhdompfhkepaaDoor.Ext
open Go.Shelf Go.RowKit Go.Lib Go.Proofs.YthnhdompfhkepaaDoorW.PrintWords
def ren : Go.Shelf.Ren := ⟨fun | 156 => 29 | 165 => 61 | 166 => 58 | 169 => 32 | 240 => 77 | 241 => 81 | 276 => 95 | 277 => 99 | n => n, fun | 0 => 0 | 3 => 3 | 4 => 4 | 5 => 5 | 9 => 9 | 20 => 20 | 31 => 22 | 37 => 51 | 70 => 50 | 72 => 53 | 75 => 81 | 76 => 82 | 80 => 62 | 127 => 90 | 164 => 111 | n => n, fun | n => n⟩
theorem ren_n156 : Go.Proofs.Lays.n156 Tryd.prog ren := {
  mixed := by kernel_rfl
  f156 := Tryd.func29.trans (congrArg some (by kernel_rfl))
  f165 := Tryd.func61.trans (congrArg some (by kernel_rfl))
  f166 := Tryd.func58.trans (congrArg some (by kernel_rfl))
  f169 := Tryd.func32.trans (congrArg some (by kernel_rfl))
  f240 := Tryd.func77.trans (congrArg some (by kernel_rfl))
  f241 := Tryd.func81.trans (congrArg some (by kernel_rfl))
  f276 := Tryd.func95.trans (congrArg some (by kernel_rfl))
  f277 := Tryd.func99.trans (congrArg some (by kernel_rfl))
  t0 := Tryd.underlying0
  a0 := Tryd.isAgg0
  z0 := Tryd.sizeOf0
  v0 := Tryd.zeroValue0
  t3 := Tryd.underlying3
  a3 := Tryd.isAgg3
  z3 := Tryd.sizeOf3
  v3 := Tryd.zeroValue3
  t4 := Tryd.underlying4
  a4 := Tryd.isAgg4
  z4 := Tryd.sizeOf4
  v4 := Tryd.zeroValue4
  t9 := Tryd.underlying9
  a9 := Tryd.isAgg9
  z9 := Tryd.sizeOf9
  v9 := Tryd.zeroValue9
  t20 := Tryd.underlying20
  a20 := Tryd.isAgg20
  z20 := Tryd.sizeOf20
  v20 := Tryd.zeroValue20
  t31 := Tryd.underlying22
  a31 := Tryd.isAgg22
  z31 := Tryd.sizeOf22
  v31 := Tryd.zeroValue22
  t37 := Tryd.underlying51
  a37 := Tryd.isAgg51
  z37 := Tryd.sizeOf51
  v37 := Tryd.zeroValue51
  t70 := Tryd.underlying50
  a70 := Tryd.isAgg50
  z70 := Tryd.sizeOf50
  v70 := Tryd.zeroValue50
  t72 := Tryd.underlying53
  a72 := Tryd.isAgg53
  z72 := Tryd.sizeOf53
  v72 := Tryd.zeroValue53
  t75 := Tryd.underlying81
  a75 := Tryd.isAgg81
  z75 := Tryd.sizeOf81
  v75 := Tryd.zeroValue81
  t76 := Tryd.underlying82
  a76 := Tryd.isAgg82
  z76 := Tryd.sizeOf82
  v76 := Tryd.zeroValue82
  t127 := Tryd.underlying90
  a127 := Tryd.isAgg90
  z127 := Tryd.sizeOf90
  v127 := Tryd.zeroValue90
  t164 := Tryd.underlying111
  a164 := Tryd.isAgg111
  z164 := Tryd.sizeOf111
  v164 := Tryd.zeroValue111 }
theorem bx : Builder.Extra Tryd.prog ren := {
  sizeBuilder := by kernel_rfl
  liesBuilder := by kernel_rfl
  t5 := Tryd.underlying5
  a5 := Tryd.isAgg5
  z5 := Tryd.sizeOf5
  v5 := Tryd.zeroValue5
  infoByte := by kernel_rfl
  cellsByte := by kernel_rfl
  sizeByte := by kernel_rfl
  neB5 := by decide }
theorem info5b : (Tryd.prog.info? 5).map (fun i => (i.zero, i.size, i.bytes)) = some (some (.int .u8 0), 1, 1) := by kernel_rfl
theorem b_check (B b : Nat) (bs : List Value) (w : World) (h : Lib.IsBuilder 53 5 B b bs w) :
    Calls Tryd.prog 77 #[.pointer (some ⟨b, 0, none⟩)] w fun e w' => e = .returned (.tuple #[]) ∧ (w' = w ∨ w' = w.setCell ⟨b, 0, none⟩ (.pointer (some ⟨b, 0, none⟩))) ∧ Lib.BuilderAt 53 5 B b (.pointer (some ⟨b, 0, none⟩)) bs w' := by
  rcases h with h | h
  · refine (Any.Builder_copyCheck_fresh { ren_n156 with } bx.toX72 b w h.cell0 h.shape h.frozen0).mono ?_
    rintro e w' ⟨rfl, rfl⟩
    exact ⟨rfl, .inr rfl, h.used _⟩
  · refine (Any.Builder_copyCheck_used { ren_n156 with } bx.toX72 b w h.cell0).mono ?_
    rintro e w' ⟨rfl, rfl⟩
    exact ⟨rfl, .inl rfl, h⟩
theorem b_writeString (B b : Nat) (bs : List Value) (s : ByteArray) (w : World) (h : Lib.IsBuilder 53 5 B b bs w) (hlen : bs.length + s.size ≤ 140737488355328) (hBw : B ≤ w.heap.size) :
    Calls Tryd.prog 58 #[.pointer (some ⟨b, 0, none⟩), .string s] w fun e w' => e = .returned (.tuple #[.int .i64 s.size, .nilIface]) ∧ (Lib.BuilderAt 53 5 B b (.pointer (some ⟨b, 0, none⟩)) (bs ++ Lib.strCells s) w' ∧ Below B w w') :=
  Any.Builder_WriteString { ren_n156 with } bx B b bs s w h hlen hBw
theorem b_string (B b : Nat) (l : List UInt8) (w : World) (h : Lib.IsBuilder 53 5 B b (Lib.byteCells l) w) (hBw : B ≤ w.heap.size) :
    Calls Tryd.prog 32 #[.pointer (some ⟨b, 0, none⟩)] w fun e w' => e = .returned (.string ⟨l.toArray⟩) ∧ Below B w w' :=
  Any.Builder_String_any { ren_n156 with } bx B b l w h hBw
theorem spot_none {w : World} {a : Addr} {v : Value} (h : w.cell? a = some v) : a.spot = none := by
  unfold World.cell? at h
  split at h
  · by_cases hs : a.spot.isSome
    · rw [if_pos hs] at h; cases h
    · simpa using hs
  · cases h
def strings_Join.f (l : List ByteArray) (sep : ByteArray) : Option ByteArray :=
  if l.length ≤ 140737488355328 ∧ (Lib.join (l.map (·.data.toList)) sep.data.toList).length ≤ 140737488355328 then some ⟨(Lib.join (l.map (·.data.toList)) sep.data.toList).toArray⟩ else none
theorem strings_Join.calls (A0 : Option Addr) (c0 : Nat) (l0 : List ByteArray) (a1 : ByteArray) (r : ByteArray) (w : World) (hr0 : Kd.C Kd.string w A0 l0.length l0) (hc0 : l0.length ≤ c0) (h : strings_Join.f l0 a1 = some r) :
    Calls Tryd.prog 29 #[.slice A0 l0.length c0, .string a1] w fun e w' => e = .returned (.string r) ∧ Below w.heap.size w w' := by
  unfold strings_Join.f at h
  by_cases hc : l0.length ≤ 140737488355328 ∧ (Lib.join (l0.map (·.data.toList)) a1.data.toList).length ≤ 140737488355328
  · rw [if_pos hc] at h
    obtain rfl := Option.some.inj h
    by_cases hz : l0.length = 0
    · have hl : l0 = [] := List.length_eq_zero_iff.mp hz
      subst hl
      refine (Any.strings_Join_none ren_n156 bx A0 c0 a1 w).mono ?_
      rintro e w' ⟨rfl, rfl⟩
      exact ⟨rfl, Below.refl _ _⟩
    · have hcell : ∀ (i : Nat) (hi : i < l0.length), ∃ ad, A0 = some ad ∧ w.cell? (ad.add i) = some (.string l0[i]) := by
        intro i hi
        obtain ⟨ad, e, hx⟩ := Kd.at_string hr0 (i : Int) (by omega) (by omega)
        refine ⟨ad, e, ?_⟩
        rw [Int.toNat_natCast] at hx
        rw [hx]
        congr 2
        simp [rdOf, hi]
      obtain ⟨ad, rfl, h0⟩ := hcell 0 (by omega)
      rw [show ad.add 0 = ad from rfl] at h0
      have hs := spot_none h0
      obtain ⟨bk, o, sp⟩ := ad
      simp only at hs
      subst hs
      refine Any.strings_Join ren_n156 bx bk o c0 l0 a1 w (fun j x hj => ?_) (World.block_lt_of_cell? w _ h0) hc.1 hc0 hc.2
      obtain ⟨hl, hx⟩ := List.getElem?_eq_some_iff.mp hj
      obtain ⟨ad', e, hcl⟩ := hcell j hl
      cases e
      rw [hx] at hcl
      rw [← hcl]
      congr 1
      unfold Addr.add
      split
      · subst_vars; simp
      · rfl
  · rw [if_neg hc] at h
    cases h
end Go.Proofs.YthnhdompfhkepaaDoor.Ext
