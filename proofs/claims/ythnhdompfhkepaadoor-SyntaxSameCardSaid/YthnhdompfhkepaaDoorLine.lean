/- (*printer).line: what it leaves; the walk of the Go text. -/
import Derived.Test.YthnhdompfhkepaaDoorPBuild
import Derived.Deep.RegionWith
namespace Go.Proofs.YthnhdompfhkepaaDoor.Ext
open Go.Shelf Go.RowKit Go.Lib Go.Proofs.YthnhdompfhkepaaDoorW.PrintWords Go.Proofs.YthnhdompfhkepaaDoorW.PrintLast Go.Proofs.YthnhdompfhkepaaDoorW.PrintMore

/-- A line's text, put behind what stands. -/
def lineT (lv : Int) (parts : List ByteArray) (acc : List UInt8) : Option (List UInt8) :=
  if 0 ≤ lv ∧ lv ≤ 1000 ∧ acc.length + (2 * lv.toNat + (parts.map (·.size)).sum + 1) ≤ 1000000000 then
    some (acc ++ Lib.repeatL [32, 32] lv.toNat ++ parts.flatMap (·.data.toList) ++ [10]) else none

theorem isB_below {B b : Nat} {bs : List Value} {w w' : World} (h : Lib.IsBuilder 55 5 B b bs w) (hb : Below w.heap.size w w') : Lib.IsBuilder 55 5 B b bs w' := by
  have key : ∀ p, Lib.BuilderAt 55 5 B b p bs w → Lib.BuilderAt 55 5 B b p bs w' := by
    rintro p ⟨h1, v, h2, h3, h4⟩
    refine ⟨h1, v, ?_, ?_, h4⟩
    · rw [hb.block b (Array.getElem?_eq_some_iff.1 h2).1]; exact h2
    · refine ⟨h3.1, ?_⟩
      rcases h3.2 with h | ⟨g, cap, cur, hv, hg, hw, r⟩
      · exact .inl h
      · exact .inr ⟨g, cap, cur, hv, hg, by rw [hb.block g (Array.getElem?_eq_some_iff.1 hw).1]; exact hw, r⟩
  rcases h with h | h
  · exact .inl (key _ h)
  · exact .inr (key _ h)
theorem isB_alloc {B b : Nat} {bs : List Value} {w : World} (h : Lib.IsBuilder 55 5 B b bs w) (o : Obj) : Lib.IsBuilder 55 5 B b bs (w.alloc o) :=
  isB_below h (below_alloc (Below.refl _ _) _)
theorem flat_size (l : List ByteArray) : (l.flatMap (·.data.toList)).length = (l.map (·.size)).sum := by
  induction l with
  | nil => rfl
  | cons a l ih => rw [List.flatMap_cons, List.length_append, ih, List.map_cons, List.sum_cons]; rfl
theorem repeat_len (n : Nat) : (Lib.repeatL [32, 32] n : List UInt8).length = 2 * n := by
  rw [Lib.repeatL_length]; simp; omega
theorem parts_cell {parts : List ByteArray} {g : Nat} {w : World} (hg : w.heap[g]? = some (.cells (parts.map Value.string).toArray 9 (0, 0))) (i : Nat) (hi : i < parts.length) :
    w.cell? ⟨g, i, none⟩ = some (.string parts[i]) := by
  simp [World.cell?, hg, hi]
set_option maxHeartbeats 8000000 in
set_option maxRecDepth 100000 in
theorem line_calls (B b g : Nat) (lv : Int) (parts : List ByteArray) (acc r : List UInt8) (w : World) (hI : Lib.IsBuilder 55 5 B b (Lib.byteCells acc) w) (hBw : B ≤ w.heap.size)
    (hg : w.heap[g]? = some (.cells (parts.map Value.string).toArray 9 (0, 0))) (hgb : g ≠ b) (hn : parts.length ≤ 100) (h : lineT lv parts acc = some r) :
    Calls Tryd.prog 28 #[.pointer (some ⟨b, 0, none⟩), .int .i64 lv, .slice (some ⟨g, 0, none⟩) parts.length parts.length] w fun e w' => e = .returned (.tuple #[]) ∧ Lib.IsBuilder 55 5 B b (Lib.byteCells r) w' ∧ Below B w w' ∧ OthersKept 5 (some b) w w' := by
  unfold lineT at h
  split at h
  case isFalse => cases h
  case isTrue hc =>
  obtain ⟨h0, h1, h2⟩ := hc
  obtain rfl := Option.some.inj h
  obtain ⟨n, rfl⟩ := Int.eq_ofNat_of_zero_le h0
  simp only [Int.toNat_natCast] at h2 ⊢
  clear h h0
  have HI := Aside0.mk hI
  have HG := Aside0.mk hg
  have H2 := Aside0.mk h2
  have H1 := Aside0.mk h1
  have HW := Aside0.mk hBw
  clear hI hg h2 h1 hBw
  have step1 : ∀ (s : ByteArray) (W W1 : World), W.heap.size = w.heap.size → Below w.heap.size w W → Below W.heap.size W W1 → s = ⟨(Lib.repeatL [32, 32] n).toArray⟩ → Aside0 (Calls Tryd.prog 58 #[.pointer (some ⟨b, 0, none⟩), .string s] W1 fun e w' => e = .returned (.tuple #[.int .i64 s.size, .nilIface]) ∧ Lib.IsBuilder 55 5 B b (Lib.byteCells (acc ++ Lib.repeatL [32, 32] n)) w' ∧ Below B w w' ∧ OthersKept 5 (some b) w w') := by
    intro s W W1 hs hb1 hb2 hS
    have hb : Below w.heap.size w W1 := hb1.trans (hs ▸ hb2)
    refine ⟨(p_writeString B b _ s W1 (isB_below HI.out hb) ?_ ?_).mono ?_⟩
    · have := H2.out; rw [Lib.byteCells_length]; subst hS; show _ + (Lib.repeatL [32, 32] n : List UInt8).length ≤ _; rw [repeat_len]; omega
    · have := HW.out; have := hb.size; omega
    · rintro e w' ⟨rfl, k1, k2, k3⟩
      refine ⟨rfl, ?_, ?_, (OthersKept.of_below hb).trans k3⟩
      · rw [Lib.byteCells_append]
        rw [Lib.strCells_eq] at k1
        subst hS
        exact k1
      · exact (hb.mono HW.out).trans k2
  go_enter Tryd.func28, Tryd.ntmps28
  go_wp2
  go_region_with (first | (go_at_call 59; refine (repeat_two n _ (by have := H1.out; omega)).mono ?_; rintro e W1 ⟨rfl, hb⟩) | (go_at_call 58; go_loud (refine (step1 _ w.drew _ rfl (Below.drew (Below.refl _ _)) hb rfl).out.mono ?_; rintro e W2 ⟨rfl, k1, k2, k3⟩)))
  all_goals (try clear hb)
  have HI1 := Aside0.mk k1
  have HB1 := Aside0.mk k2
  have HO1 := Aside0.mk k3
  clear k1 k2 k3 HI step1
  go_wp2
  go_loopw [16] (fun v16 w' => ∃ j : Nat, j ≤ parts.length ∧ v16 = .int .i64 j ∧ Aside0 (Lib.IsBuilder 55 5 B b (Lib.byteCells (acc ++ Lib.repeatL [32, 32] n ++ (parts.take j).flatMap (·.data.toList))) w') ∧ Aside0 (Below B w w') ∧ Aside0 (OthersKept 5 (some b) w w')) (fun v16 _ => parts.length - (Go.RowKit.intOf v16).toNat)
  case atStart => exact ⟨0, Nat.zero_le _, rfl, ⟨by simpa using HI1.out⟩, HB1, HO1⟩
  case round =>
    clear HI1 HB1 HO1
    obtain ⟨j, hj, rfl, HI1, HB1, HO1⟩ := hrel
    by_cases hlt : j < parts.length
    · have hc := parts_cell (HO1.out g _ HG.out (fun e => hgb (Option.some.inj e)) (fun _ _ e => by cases e)) j hlt
      have hsum : (parts.take (j + 1)).flatMap (·.data.toList) = (parts.take j).flatMap (·.data.toList) ++ parts[j].data.toList := by
        rw [List.take_succ_eq_append_getElem hlt, List.flatMap_append]; simp
      have hle : ((parts.take (j + 1)).flatMap (·.data.toList)).length ≤ (parts.map (·.size)).sum := by
        rw [← flat_size]
        conv => rhs; rw [← List.take_append_drop (j + 1) parts, List.flatMap_append, List.length_append]
        omega
      have HS := Aside0.mk hsum
      have HL := Aside0.mk hle
      clear hsum hle
      go_wp2_with (go_at_call 58; refine (p_writeString B b _ parts[j] _ HI1.out (by have := H2.out; have h9 := HL.out; rw [HS.out] at h9; rw [Lib.byteCells_length, List.length_append, List.length_append, repeat_len]; rw [List.length_append] at h9; show _ + parts[j].data.toList.length ≤ _; omega) (by have := HB1.out.size; have := HW.out; omega)).mono ?_; rintro e W2 ⟨rfl, k1, k2, k3⟩)
      go_roundw
      case measure => simp [Go.RowKit.intOf]; omega
      case rel =>
        refine ⟨j + 1, by omega, by first | rfl | (simp; done) | (simp [*]; done), ⟨?_⟩, ⟨HB1.out.trans k2⟩, ⟨HO1.out.trans k3⟩⟩
        rw [HS.out, ← List.append_assoc, Lib.byteCells_append]
        rw [Lib.strCells_eq] at k1
        exact k1
    · have hje : j = parts.length := by omega
      subst hje
      rw [List.take_length] at HI1
      go_wp2_with (go_at_call 60; refine (p_writeByte B b _ 10 _ HI1.out (by have := H2.out; rw [Lib.byteCells_length, List.length_append, List.length_append, repeat_len, flat_size]; omega) (by have := HB1.out.size; have := HW.out; omega)).mono ?_; rintro e W2 ⟨rfl, k1, k2, k3⟩)
      go_end0
      refine ⟨rfl, ?_, HB1.out.trans k2, HO1.out.trans k3⟩
      rw [Lib.byteCells_append]
      exact k1
end Go.Proofs.YthnhdompfhkepaaDoor.Ext
