/- syntax.Print: what it answers; the walk of the Go text. -/
import Derived.Test.YthnhdompfhkepaaDoorStmts
import Derived.Deep.DeepCutAuto
import Derived.Deep.CutBlock
namespace Go.Proofs.YthnhdompfhkepaaDoor.Ext
open Go Go.RowKit Go.Proofs.YthnhdompfhkepaaDoor.Q Go.Proofs.YthnhdompfhkepaaDoorW.PrintWords Go.Proofs.YthnhdompfhkepaaDoorW.PrintLast Go.Proofs.YthnhdompfhkepaaDoorW.PrintMore
set_option linter.unusedSimpArgs false
set_option linter.unusedVariables false
attribute [local go_sem] max2_int min2_int max_two min_two max_three min_three max_four min_four

def endS (wd : Bool) : ByteArray := if wd = true then ⟨#[41, 32, 119, 111, 114, 100, 32, 123]⟩ else ⟨#[41, 32, 123]⟩
def varsT (lv : Int) (l : List ByteArray) (acc : List UInt8) : Option (List UInt8) :=
  if (l.length : Int) > 0 then (strings_Join.f l ⟨#[44, 32]⟩).bind fun t => lineT lv [⟨#[118, 97, 114, 32]⟩, t, ⟨#[59]⟩] acc else some acc
def arrsT : List S59 → List UInt8 → Option (List UInt8)
  | [], acc => some acc
  | x :: l, acc => ((word_Text.f (IntKind.u32.wrap x.f1)).bind fun t => lineT 0 [⟨#[97, 114, 114, 97, 121, 32]⟩, x.f0, ⟨#[91]⟩, t, ⟨#[93, 59]⟩] acc).bind fun a => arrsT l a
def funcT (k : Nat) (f : S45) (acc : List UInt8) : Option (List UInt8) :=
  (strings_Join.f f.f1 ⟨#[44, 32]⟩).bind fun t => (lineT 0 [⟨#[102, 117, 110, 99, 32]⟩, f.f0, ⟨#[40]⟩, t, endS f.f3] acc).bind fun a1 => (varsT 1 f.f2 a1).bind fun a2 => (stmtsT k 1 f.f4 a2).bind fun a3 => lineT 0 [⟨#[125]⟩] a3
def funcsT (k : Nat) : List S45 → List UInt8 → Option (List UInt8)
  | [], acc => some acc
  | f :: l, acc => (funcT k f acc).bind fun a => funcsT k l a
/-- What syntax.Print answers. -/
def syntax_Print.f (k : Nat) (vars : List ByteArray) (arrs : List S59) (funcs : List S45) : Option ByteArray :=
  (varsT 0 vars []).bind fun a => (arrsT arrs a).bind fun b => (funcsT k funcs b).bind fun c => if c = [] then none else some ⟨c.toArray⟩
theorem drop_rd59 {l : List S59} {j : Nat} (h : j < l.length) : l.drop j = rd_T59 l j :: l.drop (j + 1) := by
  rw [List.drop_eq_getElem_cons h]
  congr 1
  simp [rd_T59, List.getD_eq_getElem?_getD, h]
theorem drop_rd45 {l : List S45} {j : Nat} (h : j < l.length) : l.drop j = rd_T45 l j :: l.drop (j + 1) := by
  rw [List.drop_eq_getElem_cons h]
  congr 1
  simp [rd_T45, List.getD_eq_getElem?_getD, h]
theorem St.fresh {w0 W : World} {b : Nat} (hg : b = w0.heap.size) (hbox : W.heap[b]? = some (.cells #[.pointer none, .slice none 0 0] 55 (0, 0))) (hb : Below w0.heap.size w0 W) : St w0 b [] W :=
  ⟨hb, .inl ⟨Nat.le_of_eq hg.symm, .slice none 0 0, hbox, World.ownsRow_nil _ _ _ _, by simp [Value.ownBlock]⟩⟩
theorem Sm.var {w0 w W : World} {b gs : Nat} {o : Obj} {acc : List UInt8} (h : St w0 b acc w) (hb : Below w.heap.size w W) (hbk : W.heap[gs]? = some o) (hne : gs ≠ b) : Sm w0 w b gs o acc W :=
  ⟨h.step hb, hbk, OthersKept.of_below hb, hne⟩
theorem join_st {w w0 W : World} {b : Nat} {acc : List UInt8} {A : Option Addr} {c : Nat} {l : List ByteArray} {s t : ByteArray} (hS : St w0 b acc W) (hb : Below w.heap.size w w0) (hr : Kd.C Kd.string w A l.length l) (hc : l.length ≤ c) (h : strings_Join.f l s = some t) :
    Calls Tryd.prog 29 #[.slice A l.length c, .string s] W fun e w' => e = .returned (.string t) ∧ St w0 b acc w' := by
  refine (strings_Join.calls A c l s t W (Kd.C_below hr (hb.trans (hS.below.mono hb.size))) hc h).mono ?_
  rintro e w' ⟨rfl, h'⟩
  exact ⟨rfl, hS.step h'⟩
theorem join_sm {w w0 w1 W : World} {b gs : Nat} {o : Obj} {acc : List UInt8} {A : Option Addr} {c : Nat} {l : List ByteArray} {s t : ByteArray} (hS : Sm w0 w1 b gs o acc W) (hb : Below w.heap.size w w0) (hr : Kd.C Kd.string w A l.length l) (hc : l.length ≤ c) (h : strings_Join.f l s = some t) :
    Calls Tryd.prog 29 #[.slice A l.length c, .string s] W fun e w' => e = .returned (.string t) ∧ Sm w0 w1 b gs o acc w' := by
  refine (strings_Join.calls A c l s t W (Kd.C_below hr (hb.trans (hS.st.below.mono hb.size))) hc h).mono ?_
  rintro e w' ⟨rfl, h'⟩
  exact ⟨rfl, hS.step h'⟩
theorem text_sm {w w0 w1 W : World} {b gs : Nat} {o : Obj} {acc : List UInt8} {x : Int} {t : ByteArray} (hS : Sm w0 w1 b gs o acc W) (hb : Below w.heap.size w w0) (hT : TAB w) (h : word_Text.f x = some t) :
    Calls Tryd.prog 30 #[.int .u32 x] W fun e w' => e = .returned (.string t) ∧ Sm w0 w1 b gs o acc w' := by
  refine (word_Text.calls x t W (TAB.below hT (hb.trans (hS.st.below.mono hb.size))) h).mono ?_
  rintro e w' ⟨rfl, h'⟩
  exact ⟨rfl, hS.step h'⟩
theorem line_st0 {w0 : World} {b : Nat} {lv : Int} {parts : List ByteArray} {acc r : List UInt8} {W : World} (hS : St w0 b acc W) (hn : parts.length ≤ 100) (h : lineT lv parts acc = some r) :
    Calls Tryd.prog 28 #[.pointer (some ⟨b, 0, none⟩), .int .i64 lv, .slice (some ⟨W.heap.size, 0, none⟩) parts.length parts.length] (W.alloc (.cells (parts.map Value.string).toArray 9 (0, 0))) fun e w' => e = .returned (.tuple #[]) ∧ St w0 b r w' := by
  refine (line_st (hS.step (below_alloc (Below.refl _ _) _)) (blk_new _ _) (by have := hS.le; omega) hn h).mono ?_
  rintro e w' ⟨rfl, s, _⟩
  exact ⟨rfl, s⟩
theorem line_n0 {w0 : World} {b : Nat} {lv : Int} {acc r : List UInt8} {W : World} (parts : List ByteArray) (n : Nat) (cells : Array Value) (hn1 : parts.length = n) (hcs : (parts.map Value.string).toArray = cells) (hS : St w0 b acc W) (hn : parts.length ≤ 100) (h : lineT lv parts acc = some r) :
    Calls Tryd.prog 28 #[.pointer (some ⟨b, 0, none⟩), .int .i64 lv, .slice (some ⟨W.heap.size, 0, none⟩) n n] (W.alloc (.cells cells 9 (0, 0))) fun e w' => e = .returned (.tuple #[]) ∧ St w0 b r w' := by
  subst hn1
  subst hcs
  exact line_st0 hS hn h
theorem startG {P : Program} {ops : Array Oper} {Q : Exit → Act → World → Prop} {S : World → Prop} {ds : List Nat} {id n : Nat} {a : Act} {w : World} (l : Array Bool) (hm : P.follows .mixedOrders = true) (hn : ops.size = n) (hl : Array.replicate n false = l) (hS : S w.drew)
    (h : ∀ W2, S W2 → wpAnyLast P .any ops Q S ds n l a W2) : (Code.region id ops true).wp P Q a w := start_ l hm hn hl hS (fun _ => h _ hS)
theorem meas_lt (n j : Nat) (h : j < n) (e : wrap64 ((j : Int) + 1) = (j : Int) + 1) : n - (Go.RowKit.intOf (.int .i64 (wrap64 ((j : Int) + 1)))).toNat < n - (Go.RowKit.intOf (.int .i64 (j : Int))).toNat := by
  rw [e]
  show n - ((j : Int) + 1).toNat < n - (j : Int).toNat
  omega
theorem exAt_mono (k : Nat) (l : List S36) (i : Int) : LeO (exAt k l i) (exAt (k + 1) l i) := by
  unfold exAt
  exact LeO.ite (syntax_Expr.mono _ _ _ _ _ _) (LeO.none _)
theorem stmts_mono : ∀ k, (∀ lv f0 f1 f2 f3 f4 acc, LeO (stmtT k lv f0 f1 f2 f3 f4 acc) (stmtT (k + 1) lv f0 f1 f2 f3 f4 acc)) ∧ (∀ lv l acc, LeO (stmtsT k lv l acc) (stmtsT (k + 1) lv l acc))
  | 0 => ⟨fun _ _ _ _ _ _ _ r h => by simp [stmtT] at h, fun _ _ _ r h => by simp [stmtsT] at h⟩
  | k + 1 => by
    obtain ⟨ih0, ih1⟩ := stmts_mono k
    refine ⟨?_, ?_⟩
    · intro lv f0 f1 f2 f3 f4 acc
      unfold stmtT
      repeat' first
        | (with_reducible exact exAt_mono _ _ _)
        | (with_reducible exact ih1 _ _ _)
        | (with_reducible exact syntax_args.mono _ _)
        | (with_reducible exact LeO.refl _)
        | (with_reducible refine LeO.ite ?_ ?_)
        | (with_reducible refine LeO.bind ?_ (fun _ => ?_))
    · intro lv l acc
      cases l with
      | nil => simp only [stmtsT]; exact LeO.refl _
      | cons s l => simp only [stmtsT]; exact LeO.bind (ih0 _ _ _ _ _ _ _) (fun _ => ih1 _ _ _)
theorem funcT_mono (k : Nat) (f : S45) (acc : List UInt8) : LeO (funcT k f acc) (funcT (k + 1) f acc) := by
  unfold funcT
  exact LeO.bind (LeO.refl _) fun _ => LeO.bind (LeO.refl _) fun _ => LeO.bind (LeO.refl _) fun _ => LeO.bind ((stmts_mono k).2 _ _ _) fun _ => LeO.refl _
theorem funcsT_mono (k : Nat) : ∀ (l : List S45) (acc : List UInt8), LeO (funcsT k l acc) (funcsT (k + 1) l acc)
  | [], _ => LeO.refl _
  | f :: l, acc => by
    simp only [funcsT]
    exact LeO.bind (funcT_mono k f acc) fun a => funcsT_mono k l a
theorem syntax_Print.mono : ∀ a0 a1 a2 k, LeO (syntax_Print.f k a0 a1 a2) (syntax_Print.f (k + 1) a0 a1 a2) := by
  intro a0 a1 a2 k
  unfold syntax_Print.f
  exact LeO.bind (LeO.refl _) fun _ => LeO.bind (LeO.refl _) fun _ => LeO.bind (funcsT_mono k _ _) fun _ => LeO.refl _
set_option maxHeartbeats 16000000 in
set_option maxRecDepth 100000 in
theorem syntax_Print.calls (k : Nat) (A0 : Option Addr) (c0 : Nat) (vars : List ByteArray) (A1 : Option Addr) (c1 : Nat) (arrs : List S59) (A2 : Option Addr) (c2 : Nat) (funcs : List S45) (r : ByteArray) (w : World) (hT : TAB w) (hr0 : Kd.C Kd.string w A0 vars.length vars) (hc0 : vars.length ≤ c0) (hr1 : Kd.C k59 w A1 arrs.length arrs) (hc1 : arrs.length ≤ c1) (hr2 : Kd.C k45 w A2 funcs.length funcs) (hc2 : funcs.length ≤ c2) (h : syntax_Print.f k vars arrs funcs = some r) :
    Calls Tryd.prog 12 #[.agg #[.slice A0 vars.length c0, .slice A1 arrs.length c1, .slice A2 funcs.length c2]] w fun e w' => e = .returned (.string r) ∧ Below w.heap.size w w' := by
  unfold syntax_Print.f at h
  obtain ⟨a0, h0, h⟩ := Option.bind_eq_some_iff.mp h
  obtain ⟨a1, h1, h⟩ := Option.bind_eq_some_iff.mp h
  obtain ⟨a2, h2, h⟩ := Option.bind_eq_some_iff.mp h
  split at h
  case isTrue => cases h
  case isFalse hne =>
  obtain rfl := Option.some.inj h
  have HT := Aside0.mk hT
  clear hT
  have HR0 := Aside0.mk hr0
  clear hr0
  have HC0 := Aside0.mk hc0
  clear hc0
  have HR1 := Aside0.mk hr1
  clear hr1
  have HC1 := Aside0.mk hc1
  clear hc1
  have HR2 := Aside0.mk hr2
  clear hr2
  have HC2 := Aside0.mk hc2
  clear hc2
  have H0 := Aside0.mk h0
  clear h0
  have H1 := Aside0.mk h1
  clear h1
  have H2 := Aside0.mk h2
  clear h2
  have HNE := Aside0.mk hne
  clear hne
  clear h
  go_enter Tryd.func12, Tryd.ntmps12
  go_upto_if 14 with (first | ((with_reducible refine gate_dst (N := 1) rfl ?_); refine box_event ?hg (N := 1) ?hd (cs := #[.slice A0 vars.length c0, .slice A1 arrs.length c1, .slice A2 funcs.length c2]) (t := 26) ?hr ?_; (case hd => rfl); (case hg => rfl); (case hr => first | (go_simp; done) | (go_simp; rfl)); intro gp hg W0 hbox hb; have GB := Aside0.mk hb; have BP := Aside0.mk hbox; have GL := Aside0.mk (show gp < W0.heap.size from (Array.getElem?_eq_some_iff.1 hbox).1); clear hg hbox hb) | ((with_reducible refine gate_dst (N := 10) rfl ?_); refine box_event ?hg (N := 10) ?hd (cs := #[.pointer none, .slice none 0 0]) (t := 55) ?hr ?_; (case hd => rfl); (case hg => rfl); (case hr => first | (go_simp; done) | (go_simp; rfl)); intro b hg W1 hbox hb; have hs := St.fresh hg hbox hb; have HS := Aside0.mk hs; have p0 := cell_up HS.out.below ((blk_cell BP.out 0).trans (show _ = some (Value.slice A0 vars.length c0) from rfl)); clear hg hbox hb hs))
  go_cut [] (fun wx => Aside0 (St W0 b a0 wx))
  case first =>
    have h0 := H0.out
    unfold varsT at h0
    by_cases hv : (vars.length : Int) > 0
    · rw [if_pos hv] at h0
      obtain ⟨t, j0, l0⟩ := Option.bind_eq_some_iff.mp h0
      have J0 := Aside0.mk j0
      have L0 := Aside0.mk l0
      clear h0 j0 l0
      have hv1 : decide ((vars.length : Int) > 0) = true := decide_eq_true hv
      have hv3 : decide (0 < vars.length) = true := decide_eq_true (by omega)
      clear hv hv1
      rw [hv3]
      go_wp2_with (first | ((with_reducible refine gate_callee (f := 29) rfl ?_); go_loud (refine goesL_ (some 18) rfl rfl Tryd.func29 (by kernel_rfl) rfl #[.slice A0 vars.length c0, .string (⟨#[44, 32]⟩ : ByteArray)] rfl (by (try simp only [List.map_toArray, List.map_cons, List.map_nil]); first | done | rfl) ?_; have c_ := join_st HS.out GB.out HR0.out HC0.out J0.out; with_reducible refine c_.mono ?_; clear c_; rintro e W2 ⟨rfl, hs⟩; refine ⟨_, rfl, ?_⟩; replace HS := Aside0.mk hs; clear hs)) | (go_at_call 28; have c_ := line_n0 [⟨#[118, 97, 114, 32]⟩, t, ⟨#[59]⟩] 3 #[.string (⟨#[118, 97, 114, 32]⟩), .string (t), .string (⟨#[59]⟩)] rfl rfl HS.out (Nat.le_of_ble_eq_true rfl) L0.out; with_reducible refine c_.mono ?_; clear c_; rintro e W3 ⟨rfl, hs⟩; replace HS := Aside0.mk hs; clear hs))
      go_meet
      exact HS
    · rw [if_neg hv] at h0
      obtain rfl := Option.some.inj h0
      have hv1 : decide ((vars.length : Int) > 0) = false := decide_eq_false hv
      have hv3 : decide (0 < vars.length) = false := decide_eq_false (by omega)
      clear hv hv1 h0
      rw [hv3]
      go_wp2
      go_meet
      exact HS
  case rest =>
  clear HS
  have HS := hcut
  clear hcut H0 p0
  have p1 := cell_up HS.out.below ((blk_cell BP.out 1).trans (show _ = some (Value.slice A1 arrs.length c1) from rfl))
  go_wp2
  go_loopw [24] (fun v24 w' => ∃ (j : Nat) (a : List UInt8), v24 = .int .i64 j ∧ j ≤ arrs.length ∧ Aside0 (arrsT (arrs.drop j) a = some a1) ∧ Aside0 (St W0 b a w')) (fun v24 _ => arrs.length - (Go.RowKit.intOf v24).toNat)
  case atStart => exact ⟨0, a0, rfl, Nat.zero_le _, H1, HS⟩
  case round =>
    clear HS H1 p1
    obtain ⟨j, a, rfl, hj, HA, HS⟩ := hrel
    by_cases hlt : j < arrs.length
    · have H := HA.out
      clear HA
      rw [drop_rd59 hlt] at H
      simp only [arrsT] at H
      obtain ⟨a', m1, m2⟩ := Option.bind_eq_some_iff.mp H
      obtain ⟨t, m0, m1⟩ := Option.bind_eq_some_iff.mp m1
      have M0 := Aside0.mk m0
      clear m0
      have M1 := Aside0.mk m1
      clear m1
      have M2 := Aside0.mk m2
      clear m2
      clear H
      obtain ⟨ad, rfl, x0, x1⟩ := at_T59 HR1.out (j : Int) (by omega) (by omega)
      simp only [Int.toNat_natCast] at x0 x1
      have ej : wrap64 ((j : Int) + 1) = (j : Int) + 1 := by have := Kd.C_max HR1.out; unfold wrap64; omega
      have q0 : (0 ≤ (j : Int)) = True := eq_true (by omega)
      have q1 : ((j : Int) < (arrs.length : Int)) = True := eq_true (by omega)
      replace x0 := cell_up HS.out.below (cell_up GB.out x0)
      replace x1 := cell_up HS.out.below (cell_up GB.out x1)
      go_upto_region 7 with (first | ((with_reducible refine gate_dst (N := 5) rfl ?_); refine box_event ?hg (N := 5) ?hd (cs := #[.string (⟨#[]⟩ : ByteArray), .int .i64 0]) (t := 59) ?hr ?_; (case hd => rfl); (case hg => rfl); (case hr => first | (go_simp; done) | (go_simp; rfl)); intro gs hg W1 hbox hb; have GE := Aside0.mk (Nat.le_of_eq hg.symm); have NE := Aside0.mk (show gs ≠ b by have := HS.out.le; omega); have HB := Aside0.mk hb; have BK := Aside0.mk hbox; have z0 : W1.cell? ⟨gs, 0, none⟩ = some (.string (⟨#[]⟩ : ByteArray)) := (blk_cell hbox 0).trans rfl; have z1 : W1.cell? ⟨gs, 1, none⟩ = some (.int .i64 0) := (blk_cell hbox 1).trans rfl; have y0 := blk_frozen hbox 0; have y1 := blk_frozen hbox 1; clear hg hbox hb))
      refine startG (n := 9) (S := Sm W0 wr b gs (.cells #[.string (rd_T59 arrs j).f0, .int .i64 (rd_T59 arrs j).f1] 59 (0, 0)) a) (ds := [7, 8]) #[false, false, false, false, false, false, false, false, false] (by kernel_rfl) rfl rfl (Sm.var HS.out (by repeat (first | exact HB.out | refine below_set ?_ GE.out)) ((blk_set (blk_set BK.out 0 _) 1 _).trans rfl) NE.out).drew (fun W2 hs => ?_)
      replace HS := Aside0.mk hs
      clear hs
      refine pure_ (i := 0) (N := some 28) (v := ?_) (a' := ?_) #[true, false, false, false, false, false, false, false, false] rfl rfl (by kernel_rfl) (fun _ _ _ h => h) (Or.inl ⟨by rfl, ?_⟩) ?_ ?_
      rotate_left
      · intro w'; go_simp; with_reducible rfl
      rotate_left
      · simp only [Act.put, List.setIfInBounds_toArray, List.set_cons_zero, List.set_cons_succ, i64_w, i32_w]
        rfl
      refine pure_ (i := 1) (N := some 29) (v := ?_) (a' := ?_) #[true, true, false, false, false, false, false, false, false] rfl rfl (by kernel_rfl) (fun _ _ _ h => h) (Or.inl ⟨by rfl, ?_⟩) ?_ ?_
      rotate_left
      · intro w'; go_simp; with_reducible rfl
      rotate_left
      · simp only [Act.put, List.setIfInBounds_toArray, List.set_cons_zero, List.set_cons_succ, i64_w, i32_w]
        rfl
      refine take_ (i := 2) (N := some 30) (v := ?_) (a' := ?_) #[true, true, true, false, false, false, false, false, false] rfl rfl (by kernel_rfl) (fun _ _ _ h => h) (Or.inl ⟨by rfl, ?_⟩) HS.out ?_ ?_
      rotate_left
      · intro w' hs; have b0 := (blk_cell hs.bk 0).trans (show _ = some (Value.string (rd_T59 arrs j).f0) from rfl); go_simp; with_reducible rfl
      rotate_left
      · simp only [Act.put, List.setIfInBounds_toArray, List.set_cons_zero, List.set_cons_succ, i64_w, i32_w]
        rfl
      refine pure_ (i := 3) (N := some 31) (v := ?_) (a' := ?_) #[true, true, true, true, false, false, false, false, false] rfl rfl (by kernel_rfl) (fun _ _ _ h => h) (Or.inl ⟨by rfl, ?_⟩) ?_ ?_
      rotate_left
      · intro w'; go_simp; with_reducible rfl
      rotate_left
      · simp only [Act.put, List.setIfInBounds_toArray, List.set_cons_zero, List.set_cons_succ, i64_w, i32_w]
        rfl
      refine take_ (i := 4) (N := some 32) (v := ?_) (a' := ?_) #[true, true, true, true, true, false, false, false, false] rfl rfl (by kernel_rfl) (fun _ _ _ h => h) (Or.inl ⟨by rfl, ?_⟩) HS.out ?_ ?_
      rotate_left
      · intro w' hs; have b1 := (blk_cell hs.bk 1).trans (show _ = some (Value.int .i64 (rd_T59 arrs j).f1) from rfl); go_simp; with_reducible rfl
      rotate_left
      · simp only [Act.put, List.setIfInBounds_toArray, List.set_cons_zero, List.set_cons_succ, i64_w, i32_w]
        rfl
      refine pure_ (i := 5) (N := some 33) (v := ?_) (a' := ?_) #[true, true, true, true, true, true, false, false, false] rfl rfl (by kernel_rfl) (fun _ _ _ h => h) (Or.inl ⟨by rfl, ?_⟩) ?_ ?_
      rotate_left
      · intro w'; go_simp; with_reducible rfl
      rotate_left
      · simp only [Act.put, List.setIfInBounds_toArray, List.set_cons_zero, List.set_cons_succ, i64_w, i32_w]
        rfl
      refine one_ (i := 6) (N := some 34) #[true, true, true, true, true, true, true, false, false] rfl rfl (by kernel_rfl) (by decide) (fun K hK => ?_)
      refine goes_ Tryd.func30 (by kernel_rfl) rfl #[.int .u32 (IntKind.u32.wrap (rd_T59 arrs j).f1)] (by rfl) rfl rfl (by (try simp only [List.map_toArray, List.map_cons, List.map_nil]); first | done | rfl) ?_
      refine (text_sm HS.out GB.out HT.out M0.out).mono ?_
      rintro e W3 ⟨rfl, hs⟩
      refine ⟨_, rfl, ?_⟩
      refine hK.out _ _ hs (fun hHeld => ?_)
      clear hK K hs
      replace HS := Aside0.mk hHeld
      clear hHeld
      refine norm_ (a' := ?_) ?_ ?_
      rotate_left
      · show Act.put _ (some 34) _ = _
        simp only [Act.put, List.setIfInBounds_toArray, List.set_cons_zero, List.set_cons_succ, i64_w, i32_w]
        rfl
      refine last_ (i := 7) (N := some 35) #[true, true, true, true, true, true, true, true, false] rfl rfl (by kernel_rfl) (by decide) (fun K hK => ?_)
      refine event_step (by rfl) (v := .slice (some ⟨W3.heap.size, 0, none⟩) 5 5) (w1 := W3.alloc (.cells ([⟨#[97, 114, 114, 97, 121, 32]⟩, (rd_T59 arrs j).f0, ⟨#[91]⟩, t, ⟨#[93, 59]⟩].map Value.string).toArray 9 (0, 0))) (by first | (go_simp; done) | (go_simp; rfl)) ?_
      refine hK.out _ _ ?_
      clear hK K
      refine norm_ (a' := ?_) ?_ ?_
      rotate_left
      · show Act.put _ (some 35) _ = _
        simp only [Act.put, List.setIfInBounds_toArray, List.set_cons_zero, List.set_cons_succ, i64_w, i32_w]
        rfl
      refine last_ (i := 8) (N := some 36) #[true, true, true, true, true, true, true, true, true] rfl rfl (by kernel_rfl) (by decide) (fun K hK => ?_)
      refine goes_ Tryd.func28 (by kernel_rfl) rfl #[.pointer (some ⟨b, 0, none⟩), .int .i64 0, .slice (some ⟨W3.heap.size, 0, none⟩) 5 5] (by rfl) rfl rfl (by (try simp only [List.map_toArray, List.map_cons, List.map_nil]); first | done | rfl) ?_
      refine (line_sm (parts := [⟨#[97, 114, 114, 97, 121, 32]⟩, (rd_T59 arrs j).f0, ⟨#[91]⟩, t, ⟨#[93, 59]⟩]) HS.out (fun _ _ e => by cases e) (Nat.le_of_ble_eq_true rfl) M1.out).mono ?_
      rintro e W9 ⟨rfl, hs⟩
      refine ⟨_, rfl, ?_⟩
      refine hK.out _ _ ?_
      clear hK K
      replace HS := Aside0.mk hs
      clear hs
      refine done_ (by kernel_rfl) ?_
      go_wp2
      go_roundw
      case measure => exact meas_lt _ _ hlt ej
      case rel => exact ⟨j + 1, a', by first | (rw [ej]; done) | (rw [ej]; rfl) | (simp [ej]; done), by omega, M2, ⟨HS.out.st⟩⟩
    · have hje : j = arrs.length := by omega
      subst hje
      have H := HA.out
      clear HA
      rw [List.drop_length] at H
      simp only [arrsT] at H
      obtain rfl := Option.some.inj H
      clear H
      have p2 := cell_up HS.out.below ((blk_cell BP.out 2).trans (show _ = some (Value.slice A2 funcs.length c2) from rfl))
      go_wp2
      go_loopw [41] (fun v41 w' => ∃ (j : Nat) (a' : List UInt8), v41 = .int .i64 j ∧ j ≤ funcs.length ∧ Aside0 (funcsT k (funcs.drop j) a' = some a2) ∧ Aside0 (St W0 b a' w')) (fun v41 _ => funcs.length - (Go.RowKit.intOf v41).toNat)
      case atStart => exact ⟨0, a, rfl, Nat.zero_le _, H2, HS⟩
      case round =>
        clear HS H2 p2
        obtain ⟨j, a', rfl, hj2, HA, HS⟩ := hrel
        by_cases hlt2 : j < funcs.length
        · have H := HA.out
          clear HA
          rw [drop_rd45 hlt2] at H
          simp only [funcsT, funcT] at H
          obtain ⟨e5, m1, m6⟩ := Option.bind_eq_some_iff.mp H
          obtain ⟨t, m0, m1⟩ := Option.bind_eq_some_iff.mp m1
          obtain ⟨e1, m1, m2⟩ := Option.bind_eq_some_iff.mp m1
          obtain ⟨e2, m2, m3⟩ := Option.bind_eq_some_iff.mp m2
          obtain ⟨e3, m3, m4⟩ := Option.bind_eq_some_iff.mp m3
          have M0 := Aside0.mk m0
          clear m0
          have M1 := Aside0.mk m1
          clear m1
          have M2 := Aside0.mk m2
          clear m2
          have M3 := Aside0.mk m3
          clear m3
          have M4 := Aside0.mk m4
          clear m4
          have M6 := Aside0.mk m6
          clear m6
          clear H
          obtain ⟨ad, A1f, c1f, A2f, c2f, A4f, c4f, rfl, x0, x1, x2, x3, x4, l1, i1, l2, i2, l4, i4⟩ := at_T45 HR2.out (j : Int) (by omega) (by omega)
          simp only [Int.toNat_natCast] at x0 x1 x2 x3 x4
          have ej : wrap64 ((j : Int) + 1) = (j : Int) + 1 := by have := Kd.C_max HR2.out; unfold wrap64; omega
          have q0 : (0 ≤ (j : Int)) = True := eq_true (by omega)
          have q1 : ((j : Int) < (funcs.length : Int)) = True := eq_true (by omega)
          replace x0 := cell_up HS.out.below (cell_up GB.out x0)
          replace x1 := cell_up HS.out.below (cell_up GB.out x1)
          replace x2 := cell_up HS.out.below (cell_up GB.out x2)
          replace x3 := cell_up HS.out.below (cell_up GB.out x3)
          replace x4 := cell_up HS.out.below (cell_up GB.out x4)
          have I1 := Aside0.mk (And.intro i1 l1)
          have I2 := Aside0.mk (And.intro i2 l2)
          have I4 := Aside0.mk (And.intro i4 l4)
          clear i1 l1 i2 l2 i4 l4
          go_upto_if 46 with (first | ((with_reducible refine gate_dst (N := 7) rfl ?_); refine box_event ?hg (N := 7) ?hd (cs := #[.string (⟨#[]⟩ : ByteArray), .slice none 0 0, .slice none 0 0, .bool false, .slice none 0 0]) (t := 45) ?hr ?_; (case hd => rfl); (case hg => rfl); (case hr => first | (go_simp; done) | (go_simp; rfl)); intro gs hg W1 hbox hb; have GE := Aside0.mk (Nat.le_of_eq hg.symm); have NE := Aside0.mk (show gs ≠ b by have := HS.out.le; omega); have HB := Aside0.mk hb; have BK := Aside0.mk hbox; have z0 : W1.cell? ⟨gs, 0, none⟩ = some (.string (⟨#[]⟩ : ByteArray)) := (blk_cell hbox 0).trans rfl; have z1 : W1.cell? ⟨gs, 1, none⟩ = some (.slice none 0 0) := (blk_cell hbox 1).trans rfl; have z2 : W1.cell? ⟨gs, 2, none⟩ = some (.slice none 0 0) := (blk_cell hbox 2).trans rfl; have z3 : W1.cell? ⟨gs, 3, none⟩ = some (.bool false) := (blk_cell hbox 3).trans rfl; have z4 : W1.cell? ⟨gs, 4, none⟩ = some (.slice none 0 0) := (blk_cell hbox 4).trans rfl; have y0 := blk_frozen hbox 0; have y1 := blk_frozen hbox 1; have y2 := blk_frozen hbox 2; have y3 := blk_frozen hbox 3; have y4 := blk_frozen hbox 4; clear hg hbox hb))
          go_cut [8] (fun v8 wx => v8 = .string (endS (rd_T45 funcs j).f3) ∧ Aside0 (Sm W0 wr b gs (.cells #[.string (rd_T45 funcs j).f0, .slice A1f (rd_T45 funcs j).f1.length c1f, .slice A2f (rd_T45 funcs j).f2.length c2f, .bool (rd_T45 funcs j).f3, .slice A4f (rd_T45 funcs j).f4.length c4f] 45 (0, 0)) a' wx))
          case first =>
            have hM := Sm.var (o := (.cells #[.string (rd_T45 funcs j).f0, .slice A1f (rd_T45 funcs j).f1.length c1f, .slice A2f (rd_T45 funcs j).f2.length c2f, .bool (rd_T45 funcs j).f3, .slice A4f (rd_T45 funcs j).f4.length c4f] 45 (0, 0))) HS.out (by repeat (first | exact HB.out | refine below_set ?_ GE.out)) ((blk_set (blk_set (blk_set (blk_set (blk_set BK.out 0 _) 1 _) 2 _) 3 _) 4 _).trans rfl) NE.out
            have HM := Aside0.mk hM
            clear hM
            cases hw : (rd_T45 funcs j).f3
            · go_wp2
              go_meet
              exact ⟨by simp [endS, hw], by rw [← hw]; exact HM⟩
            · go_wp2
              go_meet
              exact ⟨by simp [endS, hw], by rw [← hw]; exact HM⟩
          case rest =>
          obtain ⟨rfl, HM⟩ := hcut
          clear HS
          have HS := HM
          clear HM
          go_upto_region 15 with (fail)
          refine startG (n := 9) (S := Sm W0 wr b gs (.cells #[.string (rd_T45 funcs j).f0, .slice A1f (rd_T45 funcs j).f1.length c1f, .slice A2f (rd_T45 funcs j).f2.length c2f, .bool (rd_T45 funcs j).f3, .slice A4f (rd_T45 funcs j).f4.length c4f] 45 (0, 0)) a') (ds := [7, 8]) #[false, false, false, false, false, false, false, false, false] (by kernel_rfl) rfl rfl HS.out.drew (fun W2 hs => ?_)
          replace HS := Aside0.mk hs
          clear hs
          refine pure_ (i := 0) (N := some 47) (v := ?_) (a' := ?_) #[true, false, false, false, false, false, false, false, false] rfl rfl (by kernel_rfl) (fun _ _ _ h => h) (Or.inl ⟨by rfl, ?_⟩) ?_ ?_
          rotate_left
          · intro w'; go_simp; with_reducible rfl
          rotate_left
          · simp only [Act.put, List.setIfInBounds_toArray, List.set_cons_zero, List.set_cons_succ, i64_w, i32_w]
            rfl
          refine pure_ (i := 1) (N := some 48) (v := ?_) (a' := ?_) #[true, true, false, false, false, false, false, false, false] rfl rfl (by kernel_rfl) (fun _ _ _ h => h) (Or.inl ⟨by rfl, ?_⟩) ?_ ?_
          rotate_left
          · intro w'; go_simp; with_reducible rfl
          rotate_left
          · simp only [Act.put, List.setIfInBounds_toArray, List.set_cons_zero, List.set_cons_succ, i64_w, i32_w]
            rfl
          refine take_ (i := 2) (N := some 49) (v := ?_) (a' := ?_) #[true, true, true, false, false, false, false, false, false] rfl rfl (by kernel_rfl) (fun _ _ _ h => h) (Or.inl ⟨by rfl, ?_⟩) HS.out ?_ ?_
          rotate_left
          · intro w' hs; have b0 := (blk_cell hs.bk 0).trans (show _ = some (Value.string (rd_T45 funcs j).f0) from rfl); go_simp; with_reducible rfl
          rotate_left
          · simp only [Act.put, List.setIfInBounds_toArray, List.set_cons_zero, List.set_cons_succ, i64_w, i32_w]
            rfl
          refine pure_ (i := 3) (N := some 50) (v := ?_) (a' := ?_) #[true, true, true, true, false, false, false, false, false] rfl rfl (by kernel_rfl) (fun _ _ _ h => h) (Or.inl ⟨by rfl, ?_⟩) ?_ ?_
          rotate_left
          · intro w'; go_simp; with_reducible rfl
          rotate_left
          · simp only [Act.put, List.setIfInBounds_toArray, List.set_cons_zero, List.set_cons_succ, i64_w, i32_w]
            rfl
          refine take_ (i := 4) (N := some 51) (v := ?_) (a' := ?_) #[true, true, true, true, true, false, false, false, false] rfl rfl (by kernel_rfl) (fun _ _ _ h => h) (Or.inl ⟨by rfl, ?_⟩) HS.out ?_ ?_
          rotate_left
          · intro w' hs; have b1 := (blk_cell hs.bk 1).trans (show _ = some (Value.slice A1f (rd_T45 funcs j).f1.length c1f) from rfl); go_simp; with_reducible rfl
          rotate_left
          · simp only [Act.put, List.setIfInBounds_toArray, List.set_cons_zero, List.set_cons_succ, i64_w, i32_w]
            rfl
          refine pure_ (i := 6) (N := some 53) (v := ?_) (a' := ?_) #[true, true, true, true, true, false, true, false, false] rfl rfl (by kernel_rfl) (fun _ _ _ h => h) (Or.inl ⟨by rfl, ?_⟩) ?_ ?_
          rotate_left
          · intro w'; go_simp; with_reducible rfl
          rotate_left
          · simp only [Act.put, List.setIfInBounds_toArray, List.set_cons_zero, List.set_cons_succ, i64_w, i32_w]
            rfl
          refine one_ (i := 5) (N := some 52) #[true, true, true, true, true, true, true, false, false] rfl rfl (by kernel_rfl) (by decide) (fun K hK => ?_)
          refine goes_ Tryd.func29 (by kernel_rfl) rfl #[.slice A1f (rd_T45 funcs j).f1.length c1f, .string ⟨#[44, 32]⟩] (by rfl) rfl rfl (by (try simp only [List.map_toArray, List.map_cons, List.map_nil]); first | done | rfl) ?_
          refine (join_sm HS.out GB.out I1.out.1 I1.out.2 M0.out).mono ?_
          rintro e W3 ⟨rfl, hs⟩
          refine ⟨_, rfl, ?_⟩
          refine hK.out _ _ hs (fun hHeld => ?_)
          clear hK K hs
          replace HS := Aside0.mk hHeld
          clear hHeld
          refine norm_ (a' := ?_) ?_ ?_
          rotate_left
          · show Act.put _ (some 52) _ = _
            simp only [Act.put, List.setIfInBounds_toArray, List.set_cons_zero, List.set_cons_succ, i64_w, i32_w]
            rfl
          refine last_ (i := 7) (N := some 54) #[true, true, true, true, true, true, true, true, false] rfl rfl (by kernel_rfl) (by decide) (fun K hK => ?_)
          refine event_step (by rfl) (v := .slice (some ⟨W3.heap.size, 0, none⟩) 5 5) (w1 := W3.alloc (.cells ([⟨#[102, 117, 110, 99, 32]⟩, (rd_T45 funcs j).f0, ⟨#[40]⟩, t, endS (rd_T45 funcs j).f3].map Value.string).toArray 9 (0, 0))) (by first | (go_simp; done) | (go_simp; rfl)) ?_
          refine hK.out _ _ ?_
          clear hK K
          refine norm_ (a' := ?_) ?_ ?_
          rotate_left
          · show Act.put _ (some 54) _ = _
            simp only [Act.put, List.setIfInBounds_toArray, List.set_cons_zero, List.set_cons_succ, i64_w, i32_w]
            rfl
          refine last_ (i := 8) (N := some 55) #[true, true, true, true, true, true, true, true, true] rfl rfl (by kernel_rfl) (by decide) (fun K hK => ?_)
          refine goes_ Tryd.func28 (by kernel_rfl) rfl #[.pointer (some ⟨b, 0, none⟩), .int .i64 0, .slice (some ⟨W3.heap.size, 0, none⟩) 5 5] (by rfl) rfl rfl (by (try simp only [List.map_toArray, List.map_cons, List.map_nil]); first | done | rfl) ?_
          refine (line_sm (parts := [⟨#[102, 117, 110, 99, 32]⟩, (rd_T45 funcs j).f0, ⟨#[40]⟩, t, endS (rd_T45 funcs j).f3]) HS.out (fun _ _ e => by cases e) (Nat.le_of_ble_eq_true rfl) M1.out).mono ?_
          rintro e W9 ⟨rfl, hs⟩
          refine ⟨_, rfl, ?_⟩
          refine hK.out _ _ ?_
          clear hK K
          replace HS := Aside0.mk hs
          clear hs
          refine done_ (by kernel_rfl) ?_
          have b2 := (blk_cell HS.out.bk 2).trans (show _ = some (Value.slice A2f (rd_T45 funcs j).f2.length c2f) from rfl)
          go_upto_if 59 with (fail)
          go_cut [] (fun wx => Aside0 (Sm W0 wr b gs (.cells #[.string (rd_T45 funcs j).f0, .slice A1f (rd_T45 funcs j).f1.length c1f, .slice A2f (rd_T45 funcs j).f2.length c2f, .bool (rd_T45 funcs j).f3, .slice A4f (rd_T45 funcs j).f4.length c4f] 45 (0, 0)) e2 wx))
          case first =>
            have h0 := M2.out
            unfold varsT at h0
            by_cases hv : ((rd_T45 funcs j).f2.length : Int) > 0
            · rw [if_pos hv] at h0
              obtain ⟨u, j0, l0⟩ := Option.bind_eq_some_iff.mp h0
              have J0 := Aside0.mk j0
              have L0 := Aside0.mk l0
              clear h0 j0 l0
              have hv1 : decide (((rd_T45 funcs j).f2.length : Int) > 0) = true := decide_eq_true hv
              have hv3 : decide (0 < (rd_T45 funcs j).f2.length) = true := decide_eq_true (by omega)
              clear hv hv1
              rw [hv3]
              go_wp2_with (first | ((with_reducible refine gate_callee (f := 29) rfl ?_); go_loud (refine goesL_ (some 63) rfl rfl Tryd.func29 (by kernel_rfl) rfl #[.slice A2f (rd_T45 funcs j).f2.length c2f, .string (⟨#[44, 32]⟩ : ByteArray)] rfl (by (try simp only [List.map_toArray, List.map_cons, List.map_nil]); first | done | rfl) ?_; have c_ := join_sm HS.out GB.out I2.out.1 I2.out.2 J0.out; with_reducible refine c_.mono ?_; clear c_; rintro e W12 ⟨rfl, hs⟩; refine ⟨_, rfl, ?_⟩; replace HS := Aside0.mk hs; clear hs)) | (go_at_call 28; have c_ := line_n [⟨#[118, 97, 114, 32]⟩, u, ⟨#[59]⟩] 3 #[.string (⟨#[118, 97, 114, 32]⟩), .string (u), .string (⟨#[59]⟩)] rfl rfl HS.out (fun _ _ e => by cases e) (Nat.le_of_ble_eq_true rfl) L0.out; with_reducible refine c_.mono ?_; clear c_; rintro e W13 ⟨rfl, hs⟩; replace HS := Aside0.mk hs; clear hs))
              go_meet
              exact HS
            · rw [if_neg hv] at h0
              have h0 := Option.some.inj h0
              have hv1 : decide (((rd_T45 funcs j).f2.length : Int) > 0) = false := decide_eq_false hv
              have hv3 : decide (0 < (rd_T45 funcs j).f2.length) = false := decide_eq_false (by omega)
              clear hv hv1
              rw [hv3]
              go_wp2
              go_meet
              rw [← h0]
              exact HS
          case rest =>
          clear HS b2
          have HS := hcut
          clear hcut
          have b4 := (blk_cell HS.out.bk 4).trans (show _ = some (Value.slice A4f (rd_T45 funcs j).f4.length c4f) from rfl)
          go_wp2_with (first | (go_at_call 31; refine (stmts_sm (both_C k).2 HS.out (TAB.below HT.out GB.out) (Kd.C_below I4.out.1 GB.out) I4.out.2 (fun _ _ e => by cases e) M3.out).mono ?_; rintro e W14 ⟨rfl, hs⟩; replace HS := Aside0.mk hs; clear hs) | (go_at_call 28; have c_ := line_n [⟨#[125]⟩] 1 #[.string (⟨#[125]⟩)] rfl rfl HS.out (fun _ _ e => by cases e) (Nat.le_of_ble_eq_true rfl) M4.out; with_reducible refine c_.mono ?_; clear c_; rintro e W15 ⟨rfl, hs⟩; replace HS := Aside0.mk hs; clear hs))
          go_roundw
          case measure => exact meas_lt _ _ hlt2 ej
          case rel => exact ⟨j + 1, e5, by first | (rw [ej]; done) | (rw [ej]; rfl) | (simp [ej]; done), by omega, M6, ⟨HS.out.st⟩⟩
        · have hje : j = funcs.length := by omega
          subst hje
          have H := HA.out
          clear HA
          rw [List.drop_length] at H
          simp only [funcsT] at H
          obtain rfl := Option.some.inj H
          clear H
          go_wp2_with (go_at_call 32; refine (p_string _ b _ _ HS.out.isB HNE.out).mono ?_; rintro e W16 ⟨rfl, hb⟩)
          go_ret
          exact ⟨rfl, GB.out.trans (((HS.out.below.trans hb)).mono GB.out.size)⟩
end Go.Proofs.YthnhdompfhkepaaDoor.Ext
