/- (*printer).stmts; stmt and stmts together. -/
import Derived.Test.YthnhdompfhkepaaDoorStmt
namespace Go.Proofs.YthnhdompfhkepaaDoor.Ext
open Go Go.RowKit Go.Proofs.YthnhdompfhkepaaDoor.Q Go.Proofs.YthnhdompfhkepaaDoorW.PrintWords Go.Proofs.YthnhdompfhkepaaDoorW.PrintLast Go.Proofs.YthnhdompfhkepaaDoorW.PrintMore
set_option linter.unusedSimpArgs false
set_option linter.unusedVariables false
attribute [local go_sem] max2_int min2_int max_two min_two max_three min_three max_four min_four

theorem stmtC_succ (k : Nat) (ih : StmtsC k) : StmtC (k + 1) := by
  intro w0 b lv f0 f1 A2 c2 f2 A3 c3 f3 A4 c4 f4 acc r w hT hr2 hc2 hr3 hc3 hr4 hc4 hS h
  simp only [stmtT] at h
  by_cases g1 : f0 = 1
  · rw [if_pos g1] at h
    obtain ⟨t, h0, h1⟩ := Option.bind_eq_some_iff.mp h
    subst g1
    exact stmt_set k w0 b lv f1 A2 c2 f2 A3 c3 f3 A4 c4 f4 acc r w hT hr2 hc2 hr3 hc3 hr4 hc4 hS t h0 h1
  rw [if_neg g1] at h
  by_cases g2 : f0 = 2
  · rw [if_pos g2] at h
    obtain ⟨t, h0, h⟩ := Option.bind_eq_some_iff.mp h
    obtain ⟨u, h2, h1⟩ := Option.bind_eq_some_iff.mp h
    subst g2
    exact stmt_store k w0 b lv f1 A2 c2 f2 A3 c3 f3 A4 c4 f4 acc r w hT hr2 hc2 hr3 hc3 hr4 hc4 hS t u h0 h2 h1
  rw [if_neg g2] at h
  by_cases g3 : f0 = 3
  · rw [if_pos g3] at h
    obtain ⟨t, h0, h1⟩ := Option.bind_eq_some_iff.mp h
    subst g3
    exact stmt_put k w0 b lv f1 A2 c2 f2 A3 c3 f3 A4 c4 f4 acc r w hT hr2 hc2 hr3 hc3 hr4 hc4 hS t h0 h1
  rw [if_neg g3] at h
  by_cases g6 : f0 = 6
  · rw [if_pos g6] at h
    obtain ⟨t, h0, h1⟩ := Option.bind_eq_some_iff.mp h
    subst g6
    exact stmt_call k w0 b lv f1 A2 c2 f2 A3 c3 f3 A4 c4 f4 acc r w hT hr2 hc2 hr3 hc3 hr4 hc4 hS t h0 h1
  rw [if_neg g6] at h
  by_cases g7 : f0 = 7
  · rw [if_pos g7] at h
    subst g7
    split at h
    · rename_i hz
      exact stmt_ret0 k w0 b lv f1 A2 c2 f2 A3 c3 f3 A4 c4 f4 acc r w hT hr2 hc2 hr3 hc3 hr4 hc4 hS hz h
    · obtain ⟨t, h0, h1⟩ := Option.bind_eq_some_iff.mp h
      exact stmt_ret k w0 b lv f1 A2 c2 f2 A3 c3 f3 A4 c4 f4 acc r w hT hr2 hc2 hr3 hc3 hr4 hc4 hS t h0 h1
  rw [if_neg g7] at h
  by_cases g5 : f0 = 5
  · rw [if_pos g5] at h
    obtain ⟨t, h0, h⟩ := Option.bind_eq_some_iff.mp h
    obtain ⟨a1, h1, h⟩ := Option.bind_eq_some_iff.mp h
    obtain ⟨a2, h2, h3⟩ := Option.bind_eq_some_iff.mp h
    subst g5
    exact stmt_while k w0 b lv f1 A2 c2 f2 A3 c3 f3 A4 c4 f4 acc r w hT hr2 hc2 hr3 hc3 hr4 hc4 hS ih t a1 a2 h0 h1 h2 h3
  rw [if_neg g5] at h
  obtain ⟨t, h0, h⟩ := Option.bind_eq_some_iff.mp h
  obtain ⟨a1, h1, h⟩ := Option.bind_eq_some_iff.mp h
  obtain ⟨a2, h2, h⟩ := Option.bind_eq_some_iff.mp h
  split at h
  · rename_i hz
    obtain ⟨a3, h3, h⟩ := Option.bind_eq_some_iff.mp h
    obtain ⟨a4, h4, h5⟩ := Option.bind_eq_some_iff.mp h
    exact stmt_ifelse k w0 b lv f0 f1 A2 c2 f2 A3 c3 f3 A4 c4 f4 acc r w hT hr2 hc2 hr3 hc3 hr4 hc4 hS g1 g2 g3 g5 g6 g7 ih hz t a1 a2 a3 a4 h0 h1 h2 h3 h4 h5
  · rename_i hz
    exact stmt_if k w0 b lv f0 f1 A2 c2 f2 A3 c3 f3 A4 c4 f4 acc r w hT hr2 hc2 hr3 hc3 hr4 hc4 hS g1 g2 g3 g5 g6 g7 ih hz t a1 a2 h0 h1 h2 h
theorem drop_rd {l : List S43} {j : Nat} (h : j < l.length) : l.drop j = rd_T43 l j :: l.drop (j + 1) := by
  rw [List.drop_eq_getElem_cons h]
  congr 1
  simp [rd_T43, List.getD_eq_getElem?_getD, h]
set_option maxHeartbeats 8000000 in
set_option maxRecDepth 100000 in
theorem stmtsC_of (k : Nat) (ih : ∀ j, j < k → StmtC j) : StmtsC k := by
  intro w0 b lv A c l acc r w hT hr hc hS h
  have H := Aside0.mk h
  have HT := Aside0.mk hT
  have HR := Aside0.mk hr
  have HC := Aside0.mk hc
  have HS := Aside0.mk hS
  have IH := Aside0.mk ih
  clear h hT hr hc hS ih
  go_enter Tryd.func31, Tryd.ntmps31
  go_wp2
  go_loopg [10] k (fun kq v10 w' => ∃ (j : Nat) (a : List UInt8), v10 = .int .i64 j ∧ j ≤ l.length ∧ Aside0 (stmtsT kq lv (l.drop j) a = some r) ∧ Aside0 (kq ≤ k) ∧ Aside0 (St w0 b a w') ∧ Aside0 (Lib.OthersKept 5 (some b) w w'))
  case atStart => exact ⟨0, acc, rfl, Nat.zero_le _, H, ⟨Nat.le_refl _⟩, HS, ⟨Lib.OthersKept.refl 5 _ _⟩⟩
  case round =>
    clear H HS
    obtain ⟨j, a, rfl, hj, HA, HK1, HS, HO⟩ := hrel
    cases gk with
    | zero => exact absurd HA.out (by cases l.drop j <;> simp [stmtsT])
    | succ k1 =>
      have H := HA.out
      clear HA
      by_cases hlt : j < l.length
      · rw [drop_rd hlt] at H
        simp only [stmtsT] at H
        obtain ⟨a1, h1, h2⟩ := Option.bind_eq_some_iff.mp H
        have H1 := Aside0.mk h1
        have H2 := Aside0.mk h2
        clear H h1 h2
        obtain ⟨ad, A2, c2, A3, c3, A4, c4, rfl, x0, x1, x2, x3, x4, l2, i2, l3, i3, l4, i4⟩ := at_T43 HR.out (j : Int) (by omega) (by omega)
        simp only [Int.toNat_natCast] at x0 x1 x2 x3 x4
        have ej : wrap64 ((j : Int) + 1) = (j : Int) + 1 := by have := Kd.C_max HR.out; unfold wrap64; omega
        have p0 : (0 ≤ (j : Int)) = True := eq_true (by omega)
        have q0 : ((j : Int) < (l.length : Int)) = True := eq_true (by omega)
        replace x0 := cell_up HS.out.below x0
        replace x1 := cell_up HS.out.below x1
        replace x2 := cell_up HS.out.below x2
        replace x3 := cell_up HS.out.below x3
        replace x4 := cell_up HS.out.below x4
        have I := Aside0.mk (And.intro i2 (And.intro l2 (And.intro i3 (And.intro l3 (And.intro i4 l4)))))
        clear i2 l2 i3 l3 i4 l4
        go_wp2_with (first | ((with_reducible refine gate_dst (N := 7) rfl ?_); refine box_event ?hg (N := 7) ?hd (cs := #[.int .i64 0, .string (⟨#[]⟩ : ByteArray), .slice none 0 0, .slice none 0 0, .slice none 0 0]) (t := 43) ?hr ?_; (case hd => rfl); (case hg => rfl); (case hr => first | (go_simp; done) | (go_simp; rfl)); intro gs hg W1 hbox hb; have GE := Aside0.mk (Nat.le_of_eq hg.symm); have HB := Aside0.mk hb; have z0 : W1.cell? ⟨gs, 0, none⟩ = some (.int .i64 0) := (blk_cell hbox 0).trans rfl; have z1 : W1.cell? ⟨gs, 1, none⟩ = some (.string (⟨#[]⟩ : ByteArray)) := (blk_cell hbox 1).trans rfl; have z2 : W1.cell? ⟨gs, 2, none⟩ = some (.slice none 0 0) := (blk_cell hbox 2).trans rfl; have z3 : W1.cell? ⟨gs, 3, none⟩ = some (.slice none 0 0) := (blk_cell hbox 3).trans rfl; have z4 : W1.cell? ⟨gs, 4, none⟩ = some (.slice none 0 0) := (blk_cell hbox 4).trans rfl; have y0 := blk_frozen hbox 0; have y1 := blk_frozen hbox 1; have y2 := blk_frozen hbox 2; have y3 := blk_frozen hbox 3; have y4 := blk_frozen hbox 4; clear hg hbox hb) | (go_at_call 63; go_loud (refine (IH.out k1 (by have := HK1.out; omega) w0 b lv _ _ _ _ _ _ _ _ _ _ _ a a1 _ HT.out I.out.1 I.out.2.1 I.out.2.2.1 I.out.2.2.2.1 I.out.2.2.2.2.1 I.out.2.2.2.2.2 (HS.out.step (by repeat (first | exact HB.out | refine below_set ?_ GE.out))) H1.out).mono ?_; rintro e W2 ⟨rfl, hs, hk⟩)))
        go_roundg k1
        case measure => have := HK1.out; omega
        case rel => exact ⟨j + 1, a1, by first | (rw [ej]; done) | (rw [ej]; rfl) | (simp [ej]; done), by omega, H2, ⟨by have := HK1.out; omega⟩, ⟨hs⟩, ⟨(HO.out.trans (OthersKept.of_below (by repeat (first | exact HB.out | refine below_set ?_ GE.out)))).trans hk⟩⟩
      · have hje : j = l.length := by omega
        subst hje
        rw [List.drop_length] at H
        simp only [stmtsT] at H
        obtain rfl := Option.some.inj H
        go_wp2
        go_end0
        exact ⟨rfl, HS.out, HO.out⟩
theorem both_C (k : Nat) : StmtC k ∧ StmtsC k := by
  induction k using Nat.strongRecOn with
  | _ k ih =>
    refine ⟨?_, stmtsC_of k (fun j hj => (ih j hj).1)⟩
    cases k with
    | zero => intro w0 b lv f0 f1 A2 c2 f2 A3 c3 f3 A4 c4 f4 acc r w _ _ _ _ _ _ _ _ h; exact absurd h (by simp [stmtT])
    | succ k => exact stmtC_succ k (ih k (Nat.lt_succ_self k)).2
end Go.Proofs.YthnhdompfhkepaaDoor.Ext
