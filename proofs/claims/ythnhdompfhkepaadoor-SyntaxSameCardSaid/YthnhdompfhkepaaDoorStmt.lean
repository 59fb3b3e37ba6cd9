/- (*printer).stmt and (*printer).stmts: what they leave; the walks of the Go text. -/
import Derived.Test.YthnhdompfhkepaaDoorLine
import Derived.Test.YthnhdompfhkepaaDoorQx3
namespace Go.Proofs.YthnhdompfhkepaaDoor.Ext
open Go Go.RowKit Go.Proofs.YthnhdompfhkepaaDoor.Q Go.Proofs.YthnhdompfhkepaaDoorW.PrintWords Go.Proofs.YthnhdompfhkepaaDoorW.PrintLast Go.Proofs.YthnhdompfhkepaaDoorW.PrintMore
set_option linter.unusedSimpArgs false
set_option linter.unusedVariables false
attribute [local go_sem] max2_int min2_int max_two min_two max_three min_three max_four min_four

def exAt (k : Nat) (l : List S36) (i : Int) : Option ByteArray := if i < (l.length : Int) then syntax_Expr.f k (rd_T36 l i).f0 (rd_T36 l i).f1 (rd_T36 l i).f2 (rd_T36 l i).f3 (rd_T36 l i).f4 else none
mutual
def stmtT : Nat → Int → Int → ByteArray → List S36 → List S43 → List S43 → List UInt8 → Option (List UInt8)
  | 0, _, _, _, _, _, _, _ => none
  | k + 1, lv, f0, f1, f2, f3, f4, acc =>
    if f0 = 1 then (exAt k f2 0).bind fun t => lineT lv [f1, ⟨#[32, 61, 32]⟩, t, ⟨#[59]⟩] acc
    else if f0 = 2 then (exAt k f2 0).bind fun t => (exAt k f2 1).bind fun u => lineT lv [f1, ⟨#[91]⟩, t, ⟨#[93, 32, 61, 32]⟩, u, ⟨#[59]⟩] acc
    else if f0 = 3 then (exAt k f2 0).bind fun t => lineT lv [⟨#[112, 117, 116, 40]⟩, t, ⟨#[41, 59]⟩] acc
    else if f0 = 6 then (syntax_args.f k f2).bind fun t => lineT lv [f1, ⟨#[40]⟩, t, ⟨#[41, 59]⟩] acc
    else if f0 = 7 then (if (f2.length : Int) = 0 then lineT lv [⟨#[114, 101, 116, 117, 114, 110, 59]⟩] acc else (exAt k f2 0).bind fun t => lineT lv [⟨#[114, 101, 116, 117, 114, 110, 32]⟩, t, ⟨#[59]⟩] acc)
    else if f0 = 5 then (exAt k f2 0).bind fun t => (lineT lv [⟨#[119, 104, 105, 108, 101, 32, 40]⟩, t, ⟨#[41, 32, 123]⟩] acc).bind fun a1 => (stmtsT k (lv + 1) f3 a1).bind fun a2 => lineT lv [⟨#[125]⟩] a2
    else (exAt k f2 0).bind fun t => (lineT lv [⟨#[105, 102, 32, 40]⟩, t, ⟨#[41, 32, 123]⟩] acc).bind fun a1 => (stmtsT k (lv + 1) f3 a1).bind fun a2 =>
      if (f4.length : Int) > 0 then (lineT lv [⟨#[125, 32, 101, 108, 115, 101, 32, 123]⟩] a2).bind fun a3 => (stmtsT k (lv + 1) f4 a3).bind fun a4 => lineT lv [⟨#[125]⟩] a4
      else lineT lv [⟨#[125]⟩] a2
def stmtsT : Nat → Int → List S43 → List UInt8 → Option (List UInt8)
  | 0, _, _, _ => none
  | _ + 1, _, [], acc => some acc
  | k + 1, lv, s :: l, acc => (stmtT k lv s.f0 s.f1 s.f2 s.f3 s.f4 acc).bind fun a => stmtsT k lv l a
end
theorem lineT_lv {lv : Int} {p : List ByteArray} {acc r : List UInt8} (h : lineT lv p acc = some r) : 0 ≤ lv ∧ lv ≤ 1000 := by
  unfold lineT at h
  split at h
  · rename_i hc; exact ⟨hc.1, hc.2.1⟩
  · cases h
/-- The world while the printer at block b holds acc; w0: the world before it was made. -/
structure St (w0 : World) (b : Nat) (acc : List UInt8) (W : World) : Prop where
  below : Below w0.heap.size w0 W
  isB : Lib.IsBuilder 55 5 w0.heap.size b (Lib.byteCells acc) W
theorem St.le {w0 : World} {b : Nat} {acc : List UInt8} {W : World} (h : St w0 b acc W) : w0.heap.size ≤ b ∧ b < W.heap.size := by
  rcases h.isB with h | h
  · exact ⟨h.1, h.lt⟩
  · exact ⟨h.1, h.lt⟩
theorem St.step {w0 : World} {b : Nat} {acc : List UInt8} {W W' : World} (h : St w0 b acc W) (hb : Below W.heap.size W W') : St w0 b acc W' :=
  ⟨h.below.trans (hb.mono h.below.size), isB_below h.isB hb⟩
def StmtC (k : Nat) : Prop := ∀ (w0 : World) (b : Nat) (lv f0 : Int) (f1 : ByteArray) (A2 : Option Addr) (c2 : Nat) (f2 : List S36) (A3 : Option Addr) (c3 : Nat) (f3 : List S43) (A4 : Option Addr) (c4 : Nat) (f4 : List S43) (acc r : List UInt8) (w : World),
  TAB w0 → Kd.C k36 w0 A2 f2.length f2 → f2.length ≤ c2 → Kd.C k43 w0 A3 f3.length f3 → f3.length ≤ c3 → Kd.C k43 w0 A4 f4.length f4 → f4.length ≤ c4 → St w0 b acc w → stmtT k lv f0 f1 f2 f3 f4 acc = some r →
  Calls Tryd.prog 63 #[.pointer (some ⟨b, 0, none⟩), .int .i64 lv, .agg #[.int .i64 f0, .string f1, .slice A2 f2.length c2, .slice A3 f3.length c3, .slice A4 f4.length c4]] w fun e w' => e = .returned (.tuple #[]) ∧ St w0 b r w' ∧ Lib.OthersKept 5 (some b) w w'
def StmtsC (k : Nat) : Prop := ∀ (w0 : World) (b : Nat) (lv : Int) (A : Option Addr) (c : Nat) (l : List S43) (acc r : List UInt8) (w : World),
  TAB w0 → Kd.C k43 w0 A l.length l → l.length ≤ c → St w0 b acc w → stmtsT k lv l acc = some r →
  Calls Tryd.prog 31 #[.pointer (some ⟨b, 0, none⟩), .int .i64 lv, .slice A l.length c] w fun e w' => e = .returned (.tuple #[]) ∧ St w0 b r w' ∧ Lib.OthersKept 5 (some b) w w'
/-- A line, in a world of the printer's: its parts lie in block g. -/
theorem line_st {w0 : World} {b g : Nat} {lv : Int} {parts : List ByteArray} {acc r : List UInt8} {w : World} (hS : St w0 b acc w) (hg : w.heap[g]? = some (.cells (parts.map Value.string).toArray 9 (0, 0))) (hgb : g ≠ b) (hn : parts.length ≤ 100) (h : lineT lv parts acc = some r) :
    Calls Tryd.prog 28 #[.pointer (some ⟨b, 0, none⟩), .int .i64 lv, .slice (some ⟨g, 0, none⟩) parts.length parts.length] w fun e w' => e = .returned (.tuple #[]) ∧ St w0 b r w' ∧ Lib.OthersKept 5 (some b) w w' := by
  refine (line_calls w0.heap.size b g lv parts acc r w hS.isB hS.below.size hg hgb hn h).mono ?_
  rintro e w' ⟨rfl, h1, h2, h3⟩
  exact ⟨rfl, ⟨hS.below.trans h2, h1⟩, h3⟩
theorem cell_up {w0 W : World} {p : Addr} {v : Value} (hb : Below w0.heap.size w0 W) (h : w0.cell? p = some v) : W.cell? p = some v := (hb.cell (World.block_lt_of_cell? w0 _ h)).trans h
theorem ex_cells {w0 : World} {A2 : Option Addr} {f2 : List S36} (HR : Kd.C k36 w0 A2 f2.length f2) (hlt : 0 < (f2.length : Int)) :
    ∃ ad A c, A2 = some ad ∧ w0.cell? ad = some (.int .i64 (rd_T36 f2 0).f0) ∧ w0.cell? ⟨ad.block, ad.off + 1, none⟩ = some (.int .i64 (rd_T36 f2 0).f1) ∧ w0.cell? ⟨ad.block, ad.off + 2, none⟩ = some (.int .u32 (rd_T36 f2 0).f2) ∧ w0.cell? ⟨ad.block, ad.off + 3, none⟩ = some (.string (rd_T36 f2 0).f3) ∧ w0.cell? ⟨ad.block, ad.off + 4, none⟩ = some (.slice A (rd_T36 f2 0).f4.length c) ∧ (rd_T36 f2 0).f4.length ≤ c ∧ Kd.C k36 w0 A (rd_T36 f2 0).f4.length (rd_T36 f2 0).f4 := by
  obtain ⟨ad, A, c, e, h0, h1, h2, h3, h4, hl, hi⟩ := at_T36 HR 0 (by omega) hlt
  simp only [show ((0 : Int)).toNat = 0 from rfl, Nat.zero_mul, Addr.add_zero'] at h0 h1 h2 h3 h4
  exact ⟨ad, A, c, e, h0, h1, h2, h3, h4, hl, hi⟩
theorem ex_cells1 {w0 : World} {ad : Addr} {f2 : List S36} (HR : Kd.C k36 w0 (some ad) f2.length f2) (hlt : 1 < (f2.length : Int)) :
    ∃ A c, w0.cell? ⟨ad.block, ad.off + 5, none⟩ = some (.int .i64 (rd_T36 f2 1).f0) ∧ w0.cell? ⟨ad.block, ad.off + 5 + 1, none⟩ = some (.int .i64 (rd_T36 f2 1).f1) ∧ w0.cell? ⟨ad.block, ad.off + 5 + 2, none⟩ = some (.int .u32 (rd_T36 f2 1).f2) ∧ w0.cell? ⟨ad.block, ad.off + 5 + 3, none⟩ = some (.string (rd_T36 f2 1).f3) ∧ w0.cell? ⟨ad.block, ad.off + 5 + 4, none⟩ = some (.slice A (rd_T36 f2 1).f4.length c) ∧ (rd_T36 f2 1).f4.length ≤ c ∧ Kd.C k36 w0 A (rd_T36 f2 1).f4.length (rd_T36 f2 1).f4 := by
  obtain ⟨ad', A, c, e, h0, h1, h2, h3, h4, hl, hi⟩ := at_T36 HR 1 (by omega) hlt
  cases e
  simp only [show (1 : Int).toNat = 1 from rfl, Nat.reduceMul, Nat.reduceEqDiff, Go.Addr.add, ↓reduceIte] at h0 h1 h2 h3 h4
  exact ⟨A, c, h0, h1, h2, h3, h4, hl, hi⟩
/-- .. while the statement lies boxed in block gs; w: the world at the call. -/
structure Sm (w0 w : World) (b gs : Nat) (o : Obj) (acc : List UInt8) (W : World) : Prop where
  st : St w0 b acc W
  bk : W.heap[gs]? = some o
  k : Lib.OthersKept 5 (some b) w W
  ne : gs ≠ b
theorem Sm.start {w0 w W1 : World} {b gs : Nat} {o : Obj} {acc : List UInt8} (h : St w0 b acc w) (hg : gs = w.heap.size) (hbox : W1.heap[gs]? = some o) (hb : Below w.heap.size w W1) : Sm w0 w b gs o acc W1 :=
  ⟨h.step hb, hbox, OthersKept.of_below hb, by have := h.le; omega⟩
theorem Sm.step {w0 w : World} {b gs : Nat} {o : Obj} {acc : List UInt8} {W W' : World} (h : Sm w0 w b gs o acc W) (hb : Below W.heap.size W W') : Sm w0 w b gs o acc W' :=
  ⟨h.st.step hb, by rw [hb.block gs (Array.getElem?_eq_some_iff.1 h.bk).1]; exact h.bk, h.k.trans (OthersKept.of_below hb), h.ne⟩
theorem Sm.drew {w0 w : World} {b gs : Nat} {o : Obj} {acc : List UInt8} {W : World} (h : Sm w0 w b gs o acc W) : Sm w0 w b gs o acc W.drew := h.step (Below.drew (Below.refl _ _))
theorem expr_st (k : Nat) {w0 w : World} {b gs : Nat} {o : Obj} {acc : List UInt8} {W : World} (hS : Sm w0 w b gs o acc W) (hT : TAB w0) {x : S36} {A : Option Addr} {c : Nat} (hr : Kd.C k36 w0 A x.f4.length x.f4) (hc : x.f4.length ≤ c) {t : ByteArray} (h : syntax_Expr.f k x.f0 x.f1 x.f2 x.f3 x.f4 = some t) :
    Calls Tryd.prog 24 #[.agg #[.int .i64 x.f0, .int .i64 x.f1, .int .u32 x.f2, .string x.f3, .slice A x.f4.length c]] W fun e w' => e = .returned (.string t) ∧ Sm w0 w b gs o acc w' := by
  refine (syntax_Expr.calls k _ _ _ _ _ _ _ t _ (TAB.below hT hS.st.below) (Kd.C_below hr hS.st.below) hc h).mono ?_
  rintro e w' ⟨rfl, hb⟩
  exact ⟨rfl, hS.step hb⟩
theorem args_st (k : Nat) {w0 w : World} {b gs : Nat} {o : Obj} {acc : List UInt8} {W : World} (hS : Sm w0 w b gs o acc W) (hT : TAB w0) {l : List S36} {A : Option Addr} {c : Nat} (hr : Kd.C k36 w0 A l.length l) (hc : l.length ≤ c) {t : ByteArray} (h : syntax_args.f k l = some t) :
    Calls Tryd.prog 53 #[.slice A l.length c] W fun e w' => e = .returned (.string t) ∧ Sm w0 w b gs o acc w' := by
  refine (syntax_args.calls k _ _ _ t _ (TAB.below hT hS.st.below) (Kd.C_below hr hS.st.below) hc h).mono ?_
  rintro e w' ⟨rfl, hb⟩
  exact ⟨rfl, hS.step hb⟩
theorem line_sm {w0 w : World} {b gs : Nat} {o : Obj} {acc r : List UInt8} {W : World} {lv : Int} {parts : List ByteArray} (hS : Sm w0 w b gs o acc W) (ho : ∀ c fz, o ≠ .cells c 5 fz) (hn : parts.length ≤ 100) (h : lineT lv parts acc = some r) :
    Calls Tryd.prog 28 #[.pointer (some ⟨b, 0, none⟩), .int .i64 lv, .slice (some ⟨W.heap.size, 0, none⟩) parts.length parts.length] (W.alloc (.cells (parts.map Value.string).toArray 9 (0, 0))) fun e w' => e = .returned (.tuple #[]) ∧ Sm w0 w b gs o r w' := by
  have h1 := hS.step (below_alloc (Below.refl _ _) (.cells (parts.map Value.string).toArray 9 (0, 0)))
  refine (line_st h1.st (blk_new _ _) (by have := hS.st.le; omega) hn h).mono ?_
  rintro e w' ⟨rfl, s, k⟩
  exact ⟨rfl, s, k gs _ h1.bk (fun e => hS.ne (Option.some.inj e)) ho, h1.k.trans k, hS.ne⟩
theorem line_n {w0 w : World} {b gs : Nat} {o : Obj} {acc r : List UInt8} {W : World} {lv : Int} (parts : List ByteArray) (n : Nat) (cells : Array Value) (hn1 : parts.length = n) (hcs : (parts.map Value.string).toArray = cells) (hS : Sm w0 w b gs o acc W) (ho : ∀ c fz, o ≠ .cells c 5 fz) (hn : parts.length ≤ 100) (h : lineT lv parts acc = some r) :
    Calls Tryd.prog 28 #[.pointer (some ⟨b, 0, none⟩), .int .i64 lv, .slice (some ⟨W.heap.size, 0, none⟩) n n] (W.alloc (.cells cells 9 (0, 0))) fun e w' => e = .returned (.tuple #[]) ∧ Sm w0 w b gs o r w' := by
  subst hn1
  subst hcs
  exact line_sm hS ho hn h
theorem stmts_sm {k : Nat} (ih : StmtsC k) {w0 w : World} {b gs : Nat} {o : Obj} {acc r : List UInt8} {W : World} {lv : Int} {A : Option Addr} {c : Nat} {l : List S43} (hS : Sm w0 w b gs o acc W) (hT : TAB w0) (hr : Kd.C k43 w0 A l.length l) (hc : l.length ≤ c) (ho : ∀ c fz, o ≠ .cells c 5 fz) (h : stmtsT k lv l acc = some r) :
    Calls Tryd.prog 31 #[.pointer (some ⟨b, 0, none⟩), .int .i64 lv, .slice A l.length c] W fun e w' => e = .returned (.tuple #[]) ∧ Sm w0 w b gs o r w' := by
  refine (ih w0 b lv A c l acc r W hT hr hc hS.st h).mono ?_
  rintro e w' ⟨rfl, s, k⟩
  exact ⟨rfl, s, k gs _ hS.bk (fun e => hS.ne (Option.some.inj e)) ho, hS.k.trans k, hS.ne⟩
set_option maxHeartbeats 8000000 in
set_option maxRecDepth 100000 in
theorem stmt_put (k : Nat) (w0 : World) (b : Nat) (lv : Int) (f1 : ByteArray) (A2 : Option Addr) (c2 : Nat) (f2 : List S36) (A3 : Option Addr) (c3 : Nat) (f3 : List S43) (A4 : Option Addr) (c4 : Nat) (f4 : List S43) (acc r : List UInt8) (w : World)
    (hT : TAB w0) (hr2 : Kd.C k36 w0 A2 f2.length f2) (hc2 : f2.length ≤ c2) (hr3 : Kd.C k43 w0 A3 f3.length f3) (hc3 : f3.length ≤ c3) (hr4 : Kd.C k43 w0 A4 f4.length f4) (hc4 : f4.length ≤ c4) (hS : St w0 b acc w) (t : ByteArray) (h0 : exAt k f2 0 = some t) (h1 : lineT lv [⟨#[112, 117, 116, 40]⟩, t, ⟨#[41, 59]⟩] acc = some r) :
    Calls Tryd.prog 63 #[.pointer (some ⟨b, 0, none⟩), .int .i64 lv, .agg #[.int .i64 3, .string f1, .slice A2 f2.length c2, .slice A3 f3.length c3, .slice A4 f4.length c4]] w fun e w' => e = .returned (.tuple #[]) ∧ St w0 b r w' ∧ Lib.OthersKept 5 (some b) w w' := by
  have HT := Aside0.mk hT
  have HR2 := Aside0.mk hr2
  have HC2 := Aside0.mk hc2
  have HR3 := Aside0.mk hr3
  have HC3 := Aside0.mk hc3
  have HR4 := Aside0.mk hr4
  have HC4 := Aside0.mk hc4
  have HS := Aside0.mk hS
  clear hT hr2 hc2 hr3 hc3 hr4 hc4 hS
  have H1 := Aside0.mk h1
  clear h1
  unfold exAt at h0
  split at h0
  case isFalse => cases h0
  case isTrue hlt0 =>
  have H0 := Aside0.mk h0
  clear h0
  obtain ⟨ad, Ae, ce, rfl, y0, y1, y2, y3, y4, hl, hi⟩ := ex_cells HR2.out hlt0
  have YL := Aside0.mk hl
  have YI := Aside0.mk hi
  have Y := Aside0.mk (And.intro y0 (And.intro y1 (And.intro y2 (And.intro y3 y4))))
  clear hl hi y0 y1 y2 y3 y4
  have qi : (0 < f2.length) = True := eq_true (by omega)
  go_enter Tryd.func63, Tryd.ntmps63
  go_wp2_with (first | ((with_reducible refine gate_dst (N := 5) rfl ?_); go_loud (refine box_event ?hg (N := 5) ?hd (cs := #[.int .i64 3, .string f1, .slice (some ad) f2.length c2, .slice A3 f3.length c3, .slice A4 f4.length c4]) (t := 43) ?hr ?_; (case hd => rfl); (case hg => rfl); (case hr => first | (go_simp; done) | (go_simp; rfl)); intro gs hg W1 hbox hb; have hs := Sm.start HS.out hg hbox hb; clear hg hbox hb; have n1 := Aside0.mk hs; clear HS hs; have HS := n1; clear n1; have b0 : W1.cell? ⟨gs, 0, none⟩ = some (.int .i64 3) := (blk_cell HS.out.bk 0).trans rfl; have b1 : W1.cell? ⟨gs, 1, none⟩ = some (.string f1) := (blk_cell HS.out.bk 1).trans rfl; have b2 : W1.cell? ⟨gs, 2, none⟩ = some (.slice (some ad) f2.length c2) := (blk_cell HS.out.bk 2).trans rfl; have b3 : W1.cell? ⟨gs, 3, none⟩ = some (.slice A3 f3.length c3) := (blk_cell HS.out.bk 3).trans rfl; have b4 : W1.cell? ⟨gs, 4, none⟩ = some (.slice A4 f4.length c4) := (blk_cell HS.out.bk 4).trans rfl; have x0 := cell_up HS.out.st.below Y.out.1; have x1 := cell_up HS.out.st.below Y.out.2.1; have x2 := cell_up HS.out.st.below Y.out.2.2.1; have x3 := cell_up HS.out.st.below Y.out.2.2.2.1; have x4 := cell_up HS.out.st.below Y.out.2.2.2.2)) | (go_at_call 24; refine (expr_st k HS.out HT.out YI.out YL.out H0.out).mono ?_; rintro e W2 ⟨rfl, hs⟩; have n1 := Aside0.mk hs; clear HS hs; have HS := n1; clear n1; have b0 : W2.cell? ⟨gs, 0, none⟩ = some (.int .i64 3) := (blk_cell HS.out.bk 0).trans rfl; have b1 : W2.cell? ⟨gs, 1, none⟩ = some (.string f1) := (blk_cell HS.out.bk 1).trans rfl; have b2 : W2.cell? ⟨gs, 2, none⟩ = some (.slice (some ad) f2.length c2) := (blk_cell HS.out.bk 2).trans rfl; have b3 : W2.cell? ⟨gs, 3, none⟩ = some (.slice A3 f3.length c3) := (blk_cell HS.out.bk 3).trans rfl; have b4 : W2.cell? ⟨gs, 4, none⟩ = some (.slice A4 f4.length c4) := (blk_cell HS.out.bk 4).trans rfl) | (go_at_call 28; have c_ := line_n [⟨#[112, 117, 116, 40]⟩, t, ⟨#[41, 59]⟩] 3 #[.string (⟨#[112, 117, 116, 40]⟩), .string (t), .string (⟨#[41, 59]⟩)] rfl rfl HS.out (fun _ _ e => by cases e) (Nat.le_of_ble_eq_true rfl) H1.out; with_reducible refine c_.mono ?_; clear c_; rintro e W3 ⟨rfl, hs⟩; have n1 := Aside0.mk hs; clear HS hs; have HS := n1; clear n1; have b0 : W3.cell? ⟨gs, 0, none⟩ = some (.int .i64 3) := (blk_cell HS.out.bk 0).trans rfl; have b1 : W3.cell? ⟨gs, 1, none⟩ = some (.string f1) := (blk_cell HS.out.bk 1).trans rfl; have b2 : W3.cell? ⟨gs, 2, none⟩ = some (.slice (some ad) f2.length c2) := (blk_cell HS.out.bk 2).trans rfl; have b3 : W3.cell? ⟨gs, 3, none⟩ = some (.slice A3 f3.length c3) := (blk_cell HS.out.bk 3).trans rfl; have b4 : W3.cell? ⟨gs, 4, none⟩ = some (.slice A4 f4.length c4) := (blk_cell HS.out.bk 4).trans rfl))
  go_end0
  exact ⟨rfl, HS.out.st, HS.out.k⟩
set_option maxHeartbeats 8000000 in
set_option maxRecDepth 100000 in
theorem stmt_ret (k : Nat) (w0 : World) (b : Nat) (lv : Int) (f1 : ByteArray) (A2 : Option Addr) (c2 : Nat) (f2 : List S36) (A3 : Option Addr) (c3 : Nat) (f3 : List S43) (A4 : Option Addr) (c4 : Nat) (f4 : List S43) (acc r : List UInt8) (w : World)
    (hT : TAB w0) (hr2 : Kd.C k36 w0 A2 f2.length f2) (hc2 : f2.length ≤ c2) (hr3 : Kd.C k43 w0 A3 f3.length f3) (hc3 : f3.length ≤ c3) (hr4 : Kd.C k43 w0 A4 f4.length f4) (hc4 : f4.length ≤ c4) (hS : St w0 b acc w) (t : ByteArray) (h0 : exAt k f2 0 = some t) (h1 : lineT lv [⟨#[114, 101, 116, 117, 114, 110, 32]⟩, t, ⟨#[59]⟩] acc = some r) :
    Calls Tryd.prog 63 #[.pointer (some ⟨b, 0, none⟩), .int .i64 lv, .agg #[.int .i64 7, .string f1, .slice A2 f2.length c2, .slice A3 f3.length c3, .slice A4 f4.length c4]] w fun e w' => e = .returned (.tuple #[]) ∧ St w0 b r w' ∧ Lib.OthersKept 5 (some b) w w' := by
  have HT := Aside0.mk hT
  have HR2 := Aside0.mk hr2
  have HC2 := Aside0.mk hc2
  have HR3 := Aside0.mk hr3
  have HC3 := Aside0.mk hc3
  have HR4 := Aside0.mk hr4
  have HC4 := Aside0.mk hc4
  have HS := Aside0.mk hS
  clear hT hr2 hc2 hr3 hc3 hr4 hc4 hS
  have H1 := Aside0.mk h1
  clear h1
  unfold exAt at h0
  split at h0
  case isFalse => cases h0
  case isTrue hlt0 =>
  have H0 := Aside0.mk h0
  clear h0
  obtain ⟨ad, Ae, ce, rfl, y0, y1, y2, y3, y4, hl, hi⟩ := ex_cells HR2.out hlt0
  have YL := Aside0.mk hl
  have YI := Aside0.mk hi
  have Y := Aside0.mk (And.intro y0 (And.intro y1 (And.intro y2 (And.intro y3 y4))))
  clear hl hi y0 y1 y2 y3 y4
  have qi : (0 < f2.length) = True := eq_true (by omega)
  go_enter Tryd.func63, Tryd.ntmps63
  go_wp2_with (first | ((with_reducible refine gate_dst (N := 5) rfl ?_); go_loud (refine box_event ?hg (N := 5) ?hd (cs := #[.int .i64 7, .string f1, .slice (some ad) f2.length c2, .slice A3 f3.length c3, .slice A4 f4.length c4]) (t := 43) ?hr ?_; (case hd => rfl); (case hg => rfl); (case hr => first | (go_simp; done) | (go_simp; rfl)); intro gs hg W1 hbox hb; have hs := Sm.start HS.out hg hbox hb; clear hg hbox hb; have n1 := Aside0.mk hs; clear HS hs; have HS := n1; clear n1; have b0 : W1.cell? ⟨gs, 0, none⟩ = some (.int .i64 7) := (blk_cell HS.out.bk 0).trans rfl; have b1 : W1.cell? ⟨gs, 1, none⟩ = some (.string f1) := (blk_cell HS.out.bk 1).trans rfl; have b2 : W1.cell? ⟨gs, 2, none⟩ = some (.slice (some ad) f2.length c2) := (blk_cell HS.out.bk 2).trans rfl; have b3 : W1.cell? ⟨gs, 3, none⟩ = some (.slice A3 f3.length c3) := (blk_cell HS.out.bk 3).trans rfl; have b4 : W1.cell? ⟨gs, 4, none⟩ = some (.slice A4 f4.length c4) := (blk_cell HS.out.bk 4).trans rfl; have x0 := cell_up HS.out.st.below Y.out.1; have x1 := cell_up HS.out.st.below Y.out.2.1; have x2 := cell_up HS.out.st.below Y.out.2.2.1; have x3 := cell_up HS.out.st.below Y.out.2.2.2.1; have x4 := cell_up HS.out.st.below Y.out.2.2.2.2)) | (go_at_call 24; refine (expr_st k HS.out HT.out YI.out YL.out H0.out).mono ?_; rintro e W2 ⟨rfl, hs⟩; have n1 := Aside0.mk hs; clear HS hs; have HS := n1; clear n1; have b0 : W2.cell? ⟨gs, 0, none⟩ = some (.int .i64 7) := (blk_cell HS.out.bk 0).trans rfl; have b1 : W2.cell? ⟨gs, 1, none⟩ = some (.string f1) := (blk_cell HS.out.bk 1).trans rfl; have b2 : W2.cell? ⟨gs, 2, none⟩ = some (.slice (some ad) f2.length c2) := (blk_cell HS.out.bk 2).trans rfl; have b3 : W2.cell? ⟨gs, 3, none⟩ = some (.slice A3 f3.length c3) := (blk_cell HS.out.bk 3).trans rfl; have b4 : W2.cell? ⟨gs, 4, none⟩ = some (.slice A4 f4.length c4) := (blk_cell HS.out.bk 4).trans rfl) | (go_at_call 28; have c_ := line_n [⟨#[114, 101, 116, 117, 114, 110, 32]⟩, t, ⟨#[59]⟩] 3 #[.string (⟨#[114, 101, 116, 117, 114, 110, 32]⟩), .string (t), .string (⟨#[59]⟩)] rfl rfl HS.out (fun _ _ e => by cases e) (Nat.le_of_ble_eq_true rfl) H1.out; with_reducible refine c_.mono ?_; clear c_; rintro e W3 ⟨rfl, hs⟩; have n1 := Aside0.mk hs; clear HS hs; have HS := n1; clear n1; have b0 : W3.cell? ⟨gs, 0, none⟩ = some (.int .i64 7) := (blk_cell HS.out.bk 0).trans rfl; have b1 : W3.cell? ⟨gs, 1, none⟩ = some (.string f1) := (blk_cell HS.out.bk 1).trans rfl; have b2 : W3.cell? ⟨gs, 2, none⟩ = some (.slice (some ad) f2.length c2) := (blk_cell HS.out.bk 2).trans rfl; have b3 : W3.cell? ⟨gs, 3, none⟩ = some (.slice A3 f3.length c3) := (blk_cell HS.out.bk 3).trans rfl; have b4 : W3.cell? ⟨gs, 4, none⟩ = some (.slice A4 f4.length c4) := (blk_cell HS.out.bk 4).trans rfl))
  go_end0
  exact ⟨rfl, HS.out.st, HS.out.k⟩
set_option maxHeartbeats 8000000 in
set_option maxRecDepth 100000 in
theorem stmt_ret0 (k : Nat) (w0 : World) (b : Nat) (lv : Int) (f1 : ByteArray) (A2 : Option Addr) (c2 : Nat) (f2 : List S36) (A3 : Option Addr) (c3 : Nat) (f3 : List S43) (A4 : Option Addr) (c4 : Nat) (f4 : List S43) (acc r : List UInt8) (w : World)
    (hT : TAB w0) (hr2 : Kd.C k36 w0 A2 f2.length f2) (hc2 : f2.length ≤ c2) (hr3 : Kd.C k43 w0 A3 f3.length f3) (hc3 : f3.length ≤ c3) (hr4 : Kd.C k43 w0 A4 f4.length f4) (hc4 : f4.length ≤ c4) (hS : St w0 b acc w) (hz : (f2.length : Int) = 0) (h1 : lineT lv [⟨#[114, 101, 116, 117, 114, 110, 59]⟩] acc = some r) :
    Calls Tryd.prog 63 #[.pointer (some ⟨b, 0, none⟩), .int .i64 lv, .agg #[.int .i64 7, .string f1, .slice A2 f2.length c2, .slice A3 f3.length c3, .slice A4 f4.length c4]] w fun e w' => e = .returned (.tuple #[]) ∧ St w0 b r w' ∧ Lib.OthersKept 5 (some b) w w' := by
  have HT := Aside0.mk hT
  have HR2 := Aside0.mk hr2
  have HC2 := Aside0.mk hc2
  have HR3 := Aside0.mk hr3
  have HC3 := Aside0.mk hc3
  have HR4 := Aside0.mk hr4
  have HC4 := Aside0.mk hc4
  have HS := Aside0.mk hS
  clear hT hr2 hc2 hr3 hc3 hr4 hc4 hS
  have H1 := Aside0.mk h1
  clear h1
  have hz1 : ((f2.length : Int) == 0) = true := beq_iff_eq.mpr hz
  have hz2 : decide ((f2.length : Int) = 0) = true := decide_eq_true hz
  have hz3 : (f2.length = 0) = True := eq_true (by omega)
  clear hz
  go_enter Tryd.func63, Tryd.ntmps63
  go_wp2_with (first | ((with_reducible refine gate_dst (N := 5) rfl ?_); go_loud (refine box_event ?hg (N := 5) ?hd (cs := #[.int .i64 7, .string f1, .slice A2 f2.length c2, .slice A3 f3.length c3, .slice A4 f4.length c4]) (t := 43) ?hr ?_; (case hd => rfl); (case hg => rfl); (case hr => first | (go_simp; done) | (go_simp; rfl)); intro gs hg W1 hbox hb; have hs := Sm.start HS.out hg hbox hb; clear hg hbox hb; have n1 := Aside0.mk hs; clear HS hs; have HS := n1; clear n1; have b0 : W1.cell? ⟨gs, 0, none⟩ = some (.int .i64 7) := (blk_cell HS.out.bk 0).trans rfl; have b1 : W1.cell? ⟨gs, 1, none⟩ = some (.string f1) := (blk_cell HS.out.bk 1).trans rfl; have b2 : W1.cell? ⟨gs, 2, none⟩ = some (.slice A2 f2.length c2) := (blk_cell HS.out.bk 2).trans rfl; have b3 : W1.cell? ⟨gs, 3, none⟩ = some (.slice A3 f3.length c3) := (blk_cell HS.out.bk 3).trans rfl; have b4 : W1.cell? ⟨gs, 4, none⟩ = some (.slice A4 f4.length c4) := (blk_cell HS.out.bk 4).trans rfl)) | (go_at_call 28; have c_ := line_n [⟨#[114, 101, 116, 117, 114, 110, 59]⟩] 1 #[.string (⟨#[114, 101, 116, 117, 114, 110, 59]⟩)] rfl rfl HS.out (fun _ _ e => by cases e) (Nat.le_of_ble_eq_true rfl) H1.out; with_reducible refine c_.mono ?_; clear c_; rintro e W2 ⟨rfl, hs⟩; have n1 := Aside0.mk hs; clear HS hs; have HS := n1; clear n1; have b0 : W2.cell? ⟨gs, 0, none⟩ = some (.int .i64 7) := (blk_cell HS.out.bk 0).trans rfl; have b1 : W2.cell? ⟨gs, 1, none⟩ = some (.string f1) := (blk_cell HS.out.bk 1).trans rfl; have b2 : W2.cell? ⟨gs, 2, none⟩ = some (.slice A2 f2.length c2) := (blk_cell HS.out.bk 2).trans rfl; have b3 : W2.cell? ⟨gs, 3, none⟩ = some (.slice A3 f3.length c3) := (blk_cell HS.out.bk 3).trans rfl; have b4 : W2.cell? ⟨gs, 4, none⟩ = some (.slice A4 f4.length c4) := (blk_cell HS.out.bk 4).trans rfl))
  (try simp only [Exit.inBlock, Exit.then]); refine bodyPost_ret (results_none rfl _ _ _) rfl ?_
  exact ⟨rfl, HS.out.st, HS.out.k⟩
set_option maxHeartbeats 8000000 in
set_option maxRecDepth 100000 in
theorem stmt_set (k : Nat) (w0 : World) (b : Nat) (lv : Int) (f1 : ByteArray) (A2 : Option Addr) (c2 : Nat) (f2 : List S36) (A3 : Option Addr) (c3 : Nat) (f3 : List S43) (A4 : Option Addr) (c4 : Nat) (f4 : List S43) (acc r : List UInt8) (w : World)
    (hT : TAB w0) (hr2 : Kd.C k36 w0 A2 f2.length f2) (hc2 : f2.length ≤ c2) (hr3 : Kd.C k43 w0 A3 f3.length f3) (hc3 : f3.length ≤ c3) (hr4 : Kd.C k43 w0 A4 f4.length f4) (hc4 : f4.length ≤ c4) (hS : St w0 b acc w) (t : ByteArray) (h0 : exAt k f2 0 = some t) (h1 : lineT lv [f1, ⟨#[32, 61, 32]⟩, t, ⟨#[59]⟩] acc = some r) :
    Calls Tryd.prog 63 #[.pointer (some ⟨b, 0, none⟩), .int .i64 lv, .agg #[.int .i64 1, .string f1, .slice A2 f2.length c2, .slice A3 f3.length c3, .slice A4 f4.length c4]] w fun e w' => e = .returned (.tuple #[]) ∧ St w0 b r w' ∧ Lib.OthersKept 5 (some b) w w' := by
  have HT := Aside0.mk hT
  have HR2 := Aside0.mk hr2
  have HC2 := Aside0.mk hc2
  have HR3 := Aside0.mk hr3
  have HC3 := Aside0.mk hc3
  have HR4 := Aside0.mk hr4
  have HC4 := Aside0.mk hc4
  have HS := Aside0.mk hS
  clear hT hr2 hc2 hr3 hc3 hr4 hc4 hS
  have H1 := Aside0.mk h1
  clear h1
  unfold exAt at h0
  split at h0
  case isFalse => cases h0
  case isTrue hlt0 =>
  have H0 := Aside0.mk h0
  clear h0
  obtain ⟨ad, Ae, ce, rfl, y0, y1, y2, y3, y4, hl, hi⟩ := ex_cells HR2.out hlt0
  have YL := Aside0.mk hl
  have YI := Aside0.mk hi
  have Y := Aside0.mk (And.intro y0 (And.intro y1 (And.intro y2 (And.intro y3 y4))))
  clear hl hi y0 y1 y2 y3 y4
  have qi : (0 < f2.length) = True := eq_true (by omega)
  go_enter Tryd.func63, Tryd.ntmps63
  go_wp2_with (first | ((with_reducible refine gate_dst (N := 5) rfl ?_); go_loud (refine box_event ?hg (N := 5) ?hd (cs := #[.int .i64 1, .string f1, .slice (some ad) f2.length c2, .slice A3 f3.length c3, .slice A4 f4.length c4]) (t := 43) ?hr ?_; (case hd => rfl); (case hg => rfl); (case hr => first | (go_simp; done) | (go_simp; rfl)); intro gs hg W1 hbox hb; have hs := Sm.start HS.out hg hbox hb; clear hg hbox hb; have n1 := Aside0.mk hs; clear HS hs; have HS := n1; clear n1; have b0 : W1.cell? ⟨gs, 0, none⟩ = some (.int .i64 1) := (blk_cell HS.out.bk 0).trans rfl; have b1 : W1.cell? ⟨gs, 1, none⟩ = some (.string f1) := (blk_cell HS.out.bk 1).trans rfl; have b2 : W1.cell? ⟨gs, 2, none⟩ = some (.slice (some ad) f2.length c2) := (blk_cell HS.out.bk 2).trans rfl; have b3 : W1.cell? ⟨gs, 3, none⟩ = some (.slice A3 f3.length c3) := (blk_cell HS.out.bk 3).trans rfl; have b4 : W1.cell? ⟨gs, 4, none⟩ = some (.slice A4 f4.length c4) := (blk_cell HS.out.bk 4).trans rfl; have x0 := cell_up HS.out.st.below Y.out.1; have x1 := cell_up HS.out.st.below Y.out.2.1; have x2 := cell_up HS.out.st.below Y.out.2.2.1; have x3 := cell_up HS.out.st.below Y.out.2.2.2.1; have x4 := cell_up HS.out.st.below Y.out.2.2.2.2)))
  refine start_ (n := 11) (S := Sm w0 w b gs (.cells #[.int .i64 1, .string f1, .slice (some ad) f2.length c2, .slice A3 f3.length c3, .slice A4 f4.length c4] 43 (0, 0)) acc) (ds := [9, 10]) #[false, false, false, false, false, false, false, false, false, false, false] (by kernel_rfl) rfl rfl HS.out.drew (fun hHeld => ?_)
  replace HS := Aside0.mk hHeld
  clear hHeld
  generalize W1.drew = W2 at HS ⊢
  refine pure_ (i := 0) (N := some 46) (v := ?_) (a' := ?_) #[true, false, false, false, false, false, false, false, false, false, false] rfl rfl (by kernel_rfl) (fun _ _ _ h => h) (Or.inl ⟨by rfl, ?_⟩) ?_ ?_
  rotate_left
  · intro w'; go_simp; with_reducible rfl
  rotate_left
  · simp only [Act.put, List.setIfInBounds_toArray, List.set_cons_zero, List.set_cons_succ, i64_w, i32_w]
    rfl
  refine pure_ (i := 1) (N := some 47) (v := ?_) (a' := ?_) #[true, true, false, false, false, false, false, false, false, false, false] rfl rfl (by kernel_rfl) (fun _ _ _ h => h) (Or.inl ⟨by rfl, ?_⟩) ?_ ?_
  rotate_left
  · intro w'; go_simp; with_reducible rfl
  rotate_left
  · simp only [Act.put, List.setIfInBounds_toArray, List.set_cons_zero, List.set_cons_succ, i64_w, i32_w]
    rfl
  refine pure_ (i := 2) (N := some 48) (v := ?_) (a' := ?_) #[true, true, true, false, false, false, false, false, false, false, false] rfl rfl (by kernel_rfl) (fun _ _ _ h => h) (Or.inl ⟨by rfl, ?_⟩) ?_ ?_
  rotate_left
  · intro w'; go_simp; with_reducible rfl
  rotate_left
  · simp only [Act.put, List.setIfInBounds_toArray, List.set_cons_zero, List.set_cons_succ, i64_w, i32_w]
    rfl
  refine take_ (i := 3) (N := some 49) (v := ?_) (a' := ?_) #[true, true, true, true, false, false, false, false, false, false, false] rfl rfl (by kernel_rfl) (fun _ _ _ h => h) (Or.inl ⟨by rfl, ?_⟩) HS.out ?_ ?_
  rotate_left
  · intro w' hs; have b1 := (blk_cell hs.bk 1).trans (show _ = some (Value.string f1) from rfl); go_simp; with_reducible rfl
  rotate_left
  · simp only [Act.put, List.setIfInBounds_toArray, List.set_cons_zero, List.set_cons_succ, i64_w, i32_w]
    rfl
  refine pure_ (i := 4) (N := some 50) (v := ?_) (a' := ?_) #[true, true, true, true, true, false, false, false, false, false, false] rfl rfl (by kernel_rfl) (fun _ _ _ h => h) (Or.inl ⟨by rfl, ?_⟩) ?_ ?_
  rotate_left
  · intro w'; go_simp; with_reducible rfl
  rotate_left
  · simp only [Act.put, List.setIfInBounds_toArray, List.set_cons_zero, List.set_cons_succ, i64_w, i32_w]
    rfl
  refine take_ (i := 5) (N := some 51) (v := ?_) (a' := ?_) #[true, true, true, true, true, true, false, false, false, false, false] rfl rfl (by kernel_rfl) (fun _ _ _ h => h) (Or.inl ⟨by rfl, ?_⟩) HS.out ?_ ?_
  rotate_left
  · intro w' hs; have b2 := (blk_cell hs.bk 2).trans (show _ = some (Value.slice (some ad) f2.length c2) from rfl); go_simp; with_reducible rfl
  rotate_left
  · simp only [Act.put, List.setIfInBounds_toArray, List.set_cons_zero, List.set_cons_succ, i64_w, i32_w]
    rfl
  refine pure_ (i := 6) (N := some 52) (v := ?_) (a' := ?_) #[true, true, true, true, true, true, true, false, false, false, false] rfl rfl (by kernel_rfl) (fun _ _ _ h => h) (Or.inl ⟨by rfl, ?_⟩) ?_ ?_
  rotate_left
  · intro w'; go_simp; with_reducible rfl
  rotate_left
  · simp only [Act.put, List.setIfInBounds_toArray, List.set_cons_zero, List.set_cons_succ, i64_w, i32_w]
    rfl
  refine take_ (i := 7) (N := some 53) (v := ?_) (a' := ?_) #[true, true, true, true, true, true, true, true, false, false, false] rfl rfl (by kernel_rfl) (fun _ _ _ h => h) (Or.inl ⟨by rfl, ?_⟩) HS.out ?_ ?_
  rotate_left
  · intro w' hs; have x0 := cell_up hs.st.below Y.out.1; have x1 := cell_up hs.st.below Y.out.2.1; have x2 := cell_up hs.st.below Y.out.2.2.1; have x3 := cell_up hs.st.below Y.out.2.2.2.1; have x4 := cell_up hs.st.below Y.out.2.2.2.2; go_simp; with_reducible rfl
  rotate_left
  · simp only [Act.put, List.setIfInBounds_toArray, List.set_cons_zero, List.set_cons_succ, i64_w, i32_w]
    rfl
  refine one_ (i := 8) (N := some 54) #[true, true, true, true, true, true, true, true, true, false, false] rfl rfl (by kernel_rfl) (by decide) (fun K hK => ?_)
  refine goes_ Tryd.func24 (by kernel_rfl) rfl #[.agg #[.int .i64 (rd_T36 f2 0).f0, .int .i64 (rd_T36 f2 0).f1, .int .u32 (rd_T36 f2 0).f2, .string (rd_T36 f2 0).f3, .slice Ae (rd_T36 f2 0).f4.length ce]] (by rfl) rfl rfl (by (try simp only [List.map_toArray, List.map_cons, List.map_nil]); first | done | rfl) ?_
  refine (expr_st k HS.out HT.out YI.out YL.out H0.out).mono ?_
  rintro e W3 ⟨rfl, hs⟩
  refine ⟨_, rfl, ?_⟩
  refine hK.out _ _ hs (fun hHeld => ?_)
  clear hK K hs
  replace HS := Aside0.mk hHeld
  clear hHeld
  refine norm_ (a' := ?_) ?_ ?_
  rotate_left
  · show Act.put _ (some 54) _ = _
    simp only [Act.put, List.setIfInBounds_toArray, List.set_cons_zero, List.set_cons_succ, i64_w, i32_w]
    rfl
  refine last_ (i := 9) (N := some 55) #[true, true, true, true, true, true, true, true, true, true, false] rfl rfl (by kernel_rfl) (by decide) (fun K hK => ?_)
  refine event_step (by rfl) (v := .slice (some ⟨W3.heap.size, 0, none⟩) 4 4) (w1 := W3.alloc (.cells ([f1, ⟨#[32, 61, 32]⟩, t, ⟨#[59]⟩].map Value.string).toArray 9 (0, 0))) (by first | (go_simp; done) | (go_simp; rfl)) ?_
  refine hK.out _ _ ?_
  clear hK K
  refine norm_ (a' := ?_) ?_ ?_
  rotate_left
  · show Act.put _ (some 55) _ = _
    simp only [Act.put, List.setIfInBounds_toArray, List.set_cons_zero, List.set_cons_succ, i64_w, i32_w]
    rfl
  refine last_ (i := 10) (N := some 56) #[true, true, true, true, true, true, true, true, true, true, true] rfl rfl (by kernel_rfl) (by decide) (fun K hK => ?_)
  refine call_ 28 #[.pointer (some ⟨b, 0, none⟩), .int .i64 lv, .slice (some ⟨W3.heap.size, 0, none⟩) 4 4] (by rfl) rfl (by first | (go_simp; done) | (go_simp; rfl)) ?_
  refine (line_sm (parts := [f1, ⟨#[32, 61, 32]⟩, t, ⟨#[59]⟩]) HS.out (fun _ _ e => by cases e) (Nat.le_of_ble_eq_true rfl) H1.out).mono ?_
  rintro e W9 ⟨rfl, hs⟩
  refine ⟨_, rfl, ?_⟩
  refine hK.out _ _ ?_
  clear hK K
  replace HS := Aside0.mk hs
  clear hs
  refine done_ (by kernel_rfl) ?_
  go_end0
  exact ⟨rfl, HS.out.st, HS.out.k⟩
set_option maxHeartbeats 8000000 in
set_option maxRecDepth 100000 in
theorem stmt_call (k : Nat) (w0 : World) (b : Nat) (lv : Int) (f1 : ByteArray) (A2 : Option Addr) (c2 : Nat) (f2 : List S36) (A3 : Option Addr) (c3 : Nat) (f3 : List S43) (A4 : Option Addr) (c4 : Nat) (f4 : List S43) (acc r : List UInt8) (w : World)
    (hT : TAB w0) (hr2 : Kd.C k36 w0 A2 f2.length f2) (hc2 : f2.length ≤ c2) (hr3 : Kd.C k43 w0 A3 f3.length f3) (hc3 : f3.length ≤ c3) (hr4 : Kd.C k43 w0 A4 f4.length f4) (hc4 : f4.length ≤ c4) (hS : St w0 b acc w) (t : ByteArray) (h0 : syntax_args.f k f2 = some t) (h1 : lineT lv [f1, ⟨#[40]⟩, t, ⟨#[41, 59]⟩] acc = some r) :
    Calls Tryd.prog 63 #[.pointer (some ⟨b, 0, none⟩), .int .i64 lv, .agg #[.int .i64 6, .string f1, .slice A2 f2.length c2, .slice A3 f3.length c3, .slice A4 f4.length c4]] w fun e w' => e = .returned (.tuple #[]) ∧ St w0 b r w' ∧ Lib.OthersKept 5 (some b) w w' := by
  have HT := Aside0.mk hT
  have HR2 := Aside0.mk hr2
  have HC2 := Aside0.mk hc2
  have HR3 := Aside0.mk hr3
  have HC3 := Aside0.mk hc3
  have HR4 := Aside0.mk hr4
  have HC4 := Aside0.mk hc4
  have HS := Aside0.mk hS
  clear hT hr2 hc2 hr3 hc3 hr4 hc4 hS
  have H0 := Aside0.mk h0
  clear h0
  have H1 := Aside0.mk h1
  clear h1
  go_enter Tryd.func63, Tryd.ntmps63
  go_wp2_with (first | ((with_reducible refine gate_dst (N := 5) rfl ?_); go_loud (refine box_event ?hg (N := 5) ?hd (cs := #[.int .i64 6, .string f1, .slice A2 f2.length c2, .slice A3 f3.length c3, .slice A4 f4.length c4]) (t := 43) ?hr ?_; (case hd => rfl); (case hg => rfl); (case hr => first | (go_simp; done) | (go_simp; rfl)); intro gs hg W1 hbox hb; have hs := Sm.start HS.out hg hbox hb; clear hg hbox hb; have n1 := Aside0.mk hs; clear HS hs; have HS := n1; clear n1; have b0 : W1.cell? ⟨gs, 0, none⟩ = some (.int .i64 6) := (blk_cell HS.out.bk 0).trans rfl; have b1 : W1.cell? ⟨gs, 1, none⟩ = some (.string f1) := (blk_cell HS.out.bk 1).trans rfl; have b2 : W1.cell? ⟨gs, 2, none⟩ = some (.slice A2 f2.length c2) := (blk_cell HS.out.bk 2).trans rfl; have b3 : W1.cell? ⟨gs, 3, none⟩ = some (.slice A3 f3.length c3) := (blk_cell HS.out.bk 3).trans rfl; have b4 : W1.cell? ⟨gs, 4, none⟩ = some (.slice A4 f4.length c4) := (blk_cell HS.out.bk 4).trans rfl)))
  refine start_ (n := 9) (S := Sm w0 w b gs (.cells #[.int .i64 6, .string f1, .slice A2 f2.length c2, .slice A3 f3.length c3, .slice A4 f4.length c4] 43 (0, 0)) acc) (ds := [7, 8]) #[false, false, false, false, false, false, false, false, false] (by kernel_rfl) rfl rfl HS.out.drew (fun hHeld => ?_)
  replace HS := Aside0.mk hHeld
  clear hHeld
  generalize W1.drew = W2 at HS ⊢
  refine pure_ (i := 0) (N := some 88) (v := ?_) (a' := ?_) #[true, false, false, false, false, false, false, false, false] rfl rfl (by kernel_rfl) (fun _ _ _ h => h) (Or.inl ⟨by rfl, ?_⟩) ?_ ?_
  rotate_left
  · intro w'; go_simp; with_reducible rfl
  rotate_left
  · simp only [Act.put, List.setIfInBounds_toArray, List.set_cons_zero, List.set_cons_succ, i64_w, i32_w]
    rfl
  refine pure_ (i := 1) (N := some 89) (v := ?_) (a' := ?_) #[true, true, false, false, false, false, false, false, false] rfl rfl (by kernel_rfl) (fun _ _ _ h => h) (Or.inl ⟨by rfl, ?_⟩) ?_ ?_
  rotate_left
  · intro w'; go_simp; with_reducible rfl
  rotate_left
  · simp only [Act.put, List.setIfInBounds_toArray, List.set_cons_zero, List.set_cons_succ, i64_w, i32_w]
    rfl
  refine pure_ (i := 2) (N := some 90) (v := ?_) (a' := ?_) #[true, true, true, false, false, false, false, false, false] rfl rfl (by kernel_rfl) (fun _ _ _ h => h) (Or.inl ⟨by rfl, ?_⟩) ?_ ?_
  rotate_left
  · intro w'; go_simp; with_reducible rfl
  rotate_left
  · simp only [Act.put, List.setIfInBounds_toArray, List.set_cons_zero, List.set_cons_succ, i64_w, i32_w]
    rfl
  refine take_ (i := 3) (N := some 91) (v := ?_) (a' := ?_) #[true, true, true, true, false, false, false, false, false] rfl rfl (by kernel_rfl) (fun _ _ _ h => h) (Or.inl ⟨by rfl, ?_⟩) HS.out ?_ ?_
  rotate_left
  · intro w' hs; have b1 := (blk_cell hs.bk 1).trans (show _ = some (Value.string f1) from rfl); go_simp; with_reducible rfl
  rotate_left
  · simp only [Act.put, List.setIfInBounds_toArray, List.set_cons_zero, List.set_cons_succ, i64_w, i32_w]
    rfl
  refine pure_ (i := 4) (N := some 92) (v := ?_) (a' := ?_) #[true, true, true, true, true, false, false, false, false] rfl rfl (by kernel_rfl) (fun _ _ _ h => h) (Or.inl ⟨by rfl, ?_⟩) ?_ ?_
  rotate_left
  · intro w'; go_simp; with_reducible rfl
  rotate_left
  · simp only [Act.put, List.setIfInBounds_toArray, List.set_cons_zero, List.set_cons_succ, i64_w, i32_w]
    rfl
  refine take_ (i := 5) (N := some 93) (v := ?_) (a' := ?_) #[true, true, true, true, true, true, false, false, false] rfl rfl (by kernel_rfl) (fun _ _ _ h => h) (Or.inl ⟨by rfl, ?_⟩) HS.out ?_ ?_
  rotate_left
  · intro w' hs; have b2 := (blk_cell hs.bk 2).trans (show _ = some (Value.slice A2 f2.length c2) from rfl); go_simp; with_reducible rfl
  rotate_left
  · simp only [Act.put, List.setIfInBounds_toArray, List.set_cons_zero, List.set_cons_succ, i64_w, i32_w]
    rfl
  refine one_ (i := 6) (N := some 94) #[true, true, true, true, true, true, true, false, false] rfl rfl (by kernel_rfl) (by decide) (fun K hK => ?_)
  refine goes_ Tryd.func53 (by kernel_rfl) rfl #[.slice A2 f2.length c2] (by rfl) rfl rfl (by (try simp only [List.map_toArray, List.map_cons, List.map_nil]); first | done | rfl) ?_
  refine (args_st k HS.out HT.out HR2.out HC2.out H0.out).mono ?_
  rintro e W3 ⟨rfl, hs⟩
  refine ⟨_, rfl, ?_⟩
  refine hK.out _ _ hs (fun hHeld => ?_)
  clear hK K hs
  replace HS := Aside0.mk hHeld
  clear hHeld
  refine norm_ (a' := ?_) ?_ ?_
  rotate_left
  · show Act.put _ (some 94) _ = _
    simp only [Act.put, List.setIfInBounds_toArray, List.set_cons_zero, List.set_cons_succ, i64_w, i32_w]
    rfl
  refine last_ (i := 7) (N := some 95) #[true, true, true, true, true, true, true, true, false] rfl rfl (by kernel_rfl) (by decide) (fun K hK => ?_)
  refine event_step (by rfl) (v := .slice (some ⟨W3.heap.size, 0, none⟩) 4 4) (w1 := W3.alloc (.cells ([f1, ⟨#[40]⟩, t, ⟨#[41, 59]⟩].map Value.string).toArray 9 (0, 0))) (by first | (go_simp; done) | (go_simp; rfl)) ?_
  refine hK.out _ _ ?_
  clear hK K
  refine norm_ (a' := ?_) ?_ ?_
  rotate_left
  · show Act.put _ (some 95) _ = _
    simp only [Act.put, List.setIfInBounds_toArray, List.set_cons_zero, List.set_cons_succ, i64_w, i32_w]
    rfl
  refine last_ (i := 8) (N := some 96) #[true, true, true, true, true, true, true, true, true] rfl rfl (by kernel_rfl) (by decide) (fun K hK => ?_)
  refine call_ 28 #[.pointer (some ⟨b, 0, none⟩), .int .i64 lv, .slice (some ⟨W3.heap.size, 0, none⟩) 4 4] (by rfl) rfl (by first | (go_simp; done) | (go_simp; rfl)) ?_
  refine (line_sm (parts := [f1, ⟨#[40]⟩, t, ⟨#[41, 59]⟩]) HS.out (fun _ _ e => by cases e) (Nat.le_of_ble_eq_true rfl) H1.out).mono ?_
  rintro e W9 ⟨rfl, hs⟩
  refine ⟨_, rfl, ?_⟩
  refine hK.out _ _ ?_
  clear hK K
  replace HS := Aside0.mk hs
  clear hs
  refine done_ (by kernel_rfl) ?_
  go_end0
  exact ⟨rfl, HS.out.st, HS.out.k⟩
set_option maxHeartbeats 8000000 in
set_option maxRecDepth 100000 in
theorem stmt_store (k : Nat) (w0 : World) (b : Nat) (lv : Int) (f1 : ByteArray) (A2 : Option Addr) (c2 : Nat) (f2 : List S36) (A3 : Option Addr) (c3 : Nat) (f3 : List S43) (A4 : Option Addr) (c4 : Nat) (f4 : List S43) (acc r : List UInt8) (w : World)
    (hT : TAB w0) (hr2 : Kd.C k36 w0 A2 f2.length f2) (hc2 : f2.length ≤ c2) (hr3 : Kd.C k43 w0 A3 f3.length f3) (hc3 : f3.length ≤ c3) (hr4 : Kd.C k43 w0 A4 f4.length f4) (hc4 : f4.length ≤ c4) (hS : St w0 b acc w) (t u : ByteArray) (h0 : exAt k f2 0 = some t) (h2 : exAt k f2 1 = some u) (h1 : lineT lv [f1, ⟨#[91]⟩, t, ⟨#[93, 32, 61, 32]⟩, u, ⟨#[59]⟩] acc = some r) :
    Calls Tryd.prog 63 #[.pointer (some ⟨b, 0, none⟩), .int .i64 lv, .agg #[.int .i64 2, .string f1, .slice A2 f2.length c2, .slice A3 f3.length c3, .slice A4 f4.length c4]] w fun e w' => e = .returned (.tuple #[]) ∧ St w0 b r w' ∧ Lib.OthersKept 5 (some b) w w' := by
  have HT := Aside0.mk hT
  have HR2 := Aside0.mk hr2
  have HC2 := Aside0.mk hc2
  have HR3 := Aside0.mk hr3
  have HC3 := Aside0.mk hc3
  have HR4 := Aside0.mk hr4
  have HC4 := Aside0.mk hc4
  have HS := Aside0.mk hS
  clear hT hr2 hc2 hr3 hc3 hr4 hc4 hS
  have H1 := Aside0.mk h1
  clear h1
  unfold exAt at h0
  split at h0
  case isFalse => cases h0
  case isTrue hlt0 =>
  have H0 := Aside0.mk h0
  clear h0
  unfold exAt at h2
  split at h2
  case isFalse => cases h2
  case isTrue hlt1 =>
  have H2 := Aside0.mk h2
  clear h2
  obtain ⟨ad, Ae, ce, rfl, y0, y1, y2, y3, y4, hl, hi⟩ := ex_cells HR2.out hlt0
  have YL := Aside0.mk hl
  have YI := Aside0.mk hi
  have Y := Aside0.mk (And.intro y0 (And.intro y1 (And.intro y2 (And.intro y3 y4))))
  clear hl hi y0 y1 y2 y3 y4
  have qi : (0 < f2.length) = True := eq_true (by omega)
  obtain ⟨Ag, cg, z0, z1, z2, z3, z4, hl, hi⟩ := ex_cells1 HR2.out hlt1
  have ZL := Aside0.mk hl
  have ZI := Aside0.mk hi
  have Z := Aside0.mk (And.intro z0 (And.intro z1 (And.intro z2 (And.intro z3 z4))))
  clear hl hi z0 z1 z2 z3 z4
  have qi1 : (1 < f2.length) = True := eq_true (by omega)
  go_enter Tryd.func63, Tryd.ntmps63
  go_wp2_with (first | ((with_reducible refine gate_dst (N := 5) rfl ?_); go_loud (refine box_event ?hg (N := 5) ?hd (cs := #[.int .i64 2, .string f1, .slice (some ad) f2.length c2, .slice A3 f3.length c3, .slice A4 f4.length c4]) (t := 43) ?hr ?_; (case hd => rfl); (case hg => rfl); (case hr => first | (go_simp; done) | (go_simp; rfl)); intro gs hg W1 hbox hb; have hs := Sm.start HS.out hg hbox hb; clear hg hbox hb; have n1 := Aside0.mk hs; clear HS hs; have HS := n1; clear n1; have b0 : W1.cell? ⟨gs, 0, none⟩ = some (.int .i64 2) := (blk_cell HS.out.bk 0).trans rfl; have b1 : W1.cell? ⟨gs, 1, none⟩ = some (.string f1) := (blk_cell HS.out.bk 1).trans rfl; have b2 : W1.cell? ⟨gs, 2, none⟩ = some (.slice (some ad) f2.length c2) := (blk_cell HS.out.bk 2).trans rfl; have b3 : W1.cell? ⟨gs, 3, none⟩ = some (.slice A3 f3.length c3) := (blk_cell HS.out.bk 3).trans rfl; have b4 : W1.cell? ⟨gs, 4, none⟩ = some (.slice A4 f4.length c4) := (blk_cell HS.out.bk 4).trans rfl; have x0 := cell_up HS.out.st.below Y.out.1; have x1 := cell_up HS.out.st.below Y.out.2.1; have x2 := cell_up HS.out.st.below Y.out.2.2.1; have x3 := cell_up HS.out.st.below Y.out.2.2.2.1; have x4 := cell_up HS.out.st.below Y.out.2.2.2.2)))
  refine start_ (n := 16) (S := Sm w0 w b gs (.cells #[.int .i64 2, .string f1, .slice (some ad) f2.length c2, .slice A3 f3.length c3, .slice A4 f4.length c4] 43 (0, 0)) acc) (ds := [14, 15]) #[false, false, false, false, false, false, false, false, false, false, false, false, false, false, false, false] (by kernel_rfl) rfl rfl HS.out.drew (fun hHeld => ?_)
  replace HS := Aside0.mk hHeld
  clear hHeld
  generalize W1.drew = W2 at HS ⊢
  refine pure_ (i := 0) (N := some 59) (v := ?_) (a' := ?_) #[true, false, false, false, false, false, false, false, false, false, false, false, false, false, false, false] rfl rfl (by kernel_rfl) (fun _ _ _ h => h) (Or.inl ⟨by rfl, ?_⟩) ?_ ?_
  rotate_left
  · intro w'; go_simp; with_reducible rfl
  rotate_left
  · simp only [Act.put, List.setIfInBounds_toArray, List.set_cons_zero, List.set_cons_succ, i64_w, i32_w]
    rfl
  refine pure_ (i := 1) (N := some 60) (v := ?_) (a' := ?_) #[true, true, false, false, false, false, false, false, false, false, false, false, false, false, false, false] rfl rfl (by kernel_rfl) (fun _ _ _ h => h) (Or.inl ⟨by rfl, ?_⟩) ?_ ?_
  rotate_left
  · intro w'; go_simp; with_reducible rfl
  rotate_left
  · simp only [Act.put, List.setIfInBounds_toArray, List.set_cons_zero, List.set_cons_succ, i64_w, i32_w]
    rfl
  refine pure_ (i := 2) (N := some 61) (v := ?_) (a' := ?_) #[true, true, true, false, false, false, false, false, false, false, false, false, false, false, false, false] rfl rfl (by kernel_rfl) (fun _ _ _ h => h) (Or.inl ⟨by rfl, ?_⟩) ?_ ?_
  rotate_left
  · intro w'; go_simp; with_reducible rfl
  rotate_left
  · simp only [Act.put, List.setIfInBounds_toArray, List.set_cons_zero, List.set_cons_succ, i64_w, i32_w]
    rfl
  refine take_ (i := 3) (N := some 62) (v := ?_) (a' := ?_) #[true, true, true, true, false, false, false, false, false, false, false, false, false, false, false, false] rfl rfl (by kernel_rfl) (fun _ _ _ h => h) (Or.inl ⟨by rfl, ?_⟩) HS.out ?_ ?_
  rotate_left
  · intro w' hs; have b1 := (blk_cell hs.bk 1).trans (show _ = some (Value.string f1) from rfl); go_simp; with_reducible rfl
  rotate_left
  · simp only [Act.put, List.setIfInBounds_toArray, List.set_cons_zero, List.set_cons_succ, i64_w, i32_w]
    rfl
  refine pure_ (i := 4) (N := some 63) (v := ?_) (a' := ?_) #[true, true, true, true, true, false, false, false, false, false, false, false, false, false, false, false] rfl rfl (by kernel_rfl) (fun _ _ _ h => h) (Or.inl ⟨by rfl, ?_⟩) ?_ ?_
  rotate_left
  · intro w'; go_simp; with_reducible rfl
  rotate_left
  · simp only [Act.put, List.setIfInBounds_toArray, List.set_cons_zero, List.set_cons_succ, i64_w, i32_w]
    rfl
  refine take_ (i := 5) (N := some 64) (v := ?_) (a' := ?_) #[true, true, true, true, true, true, false, false, false, false, false, false, false, false, false, false] rfl rfl (by kernel_rfl) (fun _ _ _ h => h) (Or.inl ⟨by rfl, ?_⟩) HS.out ?_ ?_
  rotate_left
  · intro w' hs; have b2 := (blk_cell hs.bk 2).trans (show _ = some (Value.slice (some ad) f2.length c2) from rfl); go_simp; with_reducible rfl
  rotate_left
  · simp only [Act.put, List.setIfInBounds_toArray, List.set_cons_zero, List.set_cons_succ, i64_w, i32_w]
    rfl
  refine pure_ (i := 6) (N := some 65) (v := ?_) (a' := ?_) #[true, true, true, true, true, true, true, false, false, false, false, false, false, false, false, false] rfl rfl (by kernel_rfl) (fun _ _ _ h => h) (Or.inl ⟨by rfl, ?_⟩) ?_ ?_
  rotate_left
  · intro w'; go_simp; with_reducible rfl
  rotate_left
  · simp only [Act.put, List.setIfInBounds_toArray, List.set_cons_zero, List.set_cons_succ, i64_w, i32_w]
    rfl
  refine take_ (i := 7) (N := some 66) (v := ?_) (a' := ?_) #[true, true, true, true, true, true, true, true, false, false, false, false, false, false, false, false] rfl rfl (by kernel_rfl) (fun _ _ _ h => h) (Or.inl ⟨by rfl, ?_⟩) HS.out ?_ ?_
  rotate_left
  · intro w' hs; have x0 := cell_up hs.st.below Y.out.1; have x1 := cell_up hs.st.below Y.out.2.1; have x2 := cell_up hs.st.below Y.out.2.2.1; have x3 := cell_up hs.st.below Y.out.2.2.2.1; have x4 := cell_up hs.st.below Y.out.2.2.2.2; go_simp; with_reducible rfl
  rotate_left
  · simp only [Act.put, List.setIfInBounds_toArray, List.set_cons_zero, List.set_cons_succ, i64_w, i32_w]
    rfl
  refine pure_ (i := 9) (N := some 68) (v := ?_) (a' := ?_) #[true, true, true, true, true, true, true, true, false, true, false, false, false, false, false, false] rfl rfl (by kernel_rfl) (fun _ _ _ h => h) (Or.inl ⟨by rfl, ?_⟩) ?_ ?_
  rotate_left
  · intro w'; go_simp; with_reducible rfl
  rotate_left
  · simp only [Act.put, List.setIfInBounds_toArray, List.set_cons_zero, List.set_cons_succ, i64_w, i32_w]
    rfl
  refine take_ (i := 10) (N := some 69) (v := ?_) (a' := ?_) #[true, true, true, true, true, true, true, true, false, true, true, false, false, false, false, false] rfl rfl (by kernel_rfl) (fun _ _ _ h => h) (Or.inl ⟨by rfl, ?_⟩) HS.out ?_ ?_
  rotate_left
  · intro w' hs; have b2 := (blk_cell hs.bk 2).trans (show _ = some (Value.slice (some ad) f2.length c2) from rfl); go_simp; with_reducible rfl
  rotate_left
  · simp only [Act.put, List.setIfInBounds_toArray, List.set_cons_zero, List.set_cons_succ, i64_w, i32_w]
    rfl
  refine pure_ (i := 11) (N := some 70) (v := ?_) (a' := ?_) #[true, true, true, true, true, true, true, true, false, true, true, true, false, false, false, false] rfl rfl (by kernel_rfl) (fun _ _ _ h => h) (Or.inl ⟨by rfl, ?_⟩) ?_ ?_
  rotate_left
  · intro w'; go_simp; with_reducible rfl
  rotate_left
  · simp only [Act.put, List.setIfInBounds_toArray, List.set_cons_zero, List.set_cons_succ, i64_w, i32_w]
    rfl
  refine take_ (i := 12) (N := some 71) (v := ?_) (a' := ?_) #[true, true, true, true, true, true, true, true, false, true, true, true, true, false, false, false] rfl rfl (by kernel_rfl) (fun _ _ _ h => h) (Or.inl ⟨by rfl, ?_⟩) HS.out ?_ ?_
  rotate_left
  · intro w' hs; have x0 := cell_up hs.st.below Z.out.1; have x1 := cell_up hs.st.below Z.out.2.1; have x2 := cell_up hs.st.below Z.out.2.2.1; have x3 := cell_up hs.st.below Z.out.2.2.2.1; have x4 := cell_up hs.st.below Z.out.2.2.2.2; go_simp; with_reducible rfl
  rotate_left
  · simp only [Act.put, List.setIfInBounds_toArray, List.set_cons_zero, List.set_cons_succ, i64_w, i32_w]
    rfl
  refine one_ (i := 8) (N := some 67) #[true, true, true, true, true, true, true, true, true, true, true, true, true, false, false, false] rfl rfl (by kernel_rfl) (by decide) (fun K hK => ?_)
  refine goes_ Tryd.func24 (by kernel_rfl) rfl #[.agg #[.int .i64 (rd_T36 f2 0).f0, .int .i64 (rd_T36 f2 0).f1, .int .u32 (rd_T36 f2 0).f2, .string (rd_T36 f2 0).f3, .slice Ae (rd_T36 f2 0).f4.length ce]] (by rfl) rfl rfl (by (try simp only [List.map_toArray, List.map_cons, List.map_nil]); first | done | rfl) ?_
  refine (expr_st k HS.out HT.out YI.out YL.out H0.out).mono ?_
  rintro e W3 ⟨rfl, hs⟩
  refine ⟨_, rfl, ?_⟩
  refine hK.out _ _ hs (fun hHeld => ?_)
  clear hK K hs
  replace HS := Aside0.mk hHeld
  clear hHeld
  refine norm_ (a' := ?_) ?_ ?_
  rotate_left
  · show Act.put _ (some 67) _ = _
    simp only [Act.put, List.setIfInBounds_toArray, List.set_cons_zero, List.set_cons_succ, i64_w, i32_w]
    rfl
  refine one_ (i := 13) (N := some 72) #[true, true, true, true, true, true, true, true, true, true, true, true, true, true, false, false] rfl rfl (by kernel_rfl) (by decide) (fun K hK => ?_)
  refine goes_ Tryd.func24 (by kernel_rfl) rfl #[.agg #[.int .i64 (rd_T36 f2 1).f0, .int .i64 (rd_T36 f2 1).f1, .int .u32 (rd_T36 f2 1).f2, .string (rd_T36 f2 1).f3, .slice Ag (rd_T36 f2 1).f4.length cg]] (by rfl) rfl rfl (by (try simp only [List.map_toArray, List.map_cons, List.map_nil]); first | done | rfl) ?_
  refine (expr_st k HS.out HT.out ZI.out ZL.out H2.out).mono ?_
  rintro e W4 ⟨rfl, hs⟩
  refine ⟨_, rfl, ?_⟩
  refine hK.out _ _ hs (fun hHeld => ?_)
  clear hK K hs
  replace HS := Aside0.mk hHeld
  clear hHeld
  refine norm_ (a' := ?_) ?_ ?_
  rotate_left
  · show Act.put _ (some 72) _ = _
    simp only [Act.put, List.setIfInBounds_toArray, List.set_cons_zero, List.set_cons_succ, i64_w, i32_w]
    rfl
  refine last_ (i := 14) (N := some 73) #[true, true, true, true, true, true, true, true, true, true, true, true, true, true, true, false] rfl rfl (by kernel_rfl) (by decide) (fun K hK => ?_)
  refine event_step (by rfl) (v := .slice (some ⟨W4.heap.size, 0, none⟩) 6 6) (w1 := W4.alloc (.cells ([f1, ⟨#[91]⟩, t, ⟨#[93, 32, 61, 32]⟩, u, ⟨#[59]⟩].map Value.string).toArray 9 (0, 0))) (by first | (go_simp; done) | (go_simp; rfl)) ?_
  refine hK.out _ _ ?_
  clear hK K
  refine norm_ (a' := ?_) ?_ ?_
  rotate_left
  · show Act.put _ (some 73) _ = _
    simp only [Act.put, List.setIfInBounds_toArray, List.set_cons_zero, List.set_cons_succ, i64_w, i32_w]
    rfl
  refine last_ (i := 15) (N := some 74) #[true, true, true, true, true, true, true, true, true, true, true, true, true, true, true, true] rfl rfl (by kernel_rfl) (by decide) (fun K hK => ?_)
  refine call_ 28 #[.pointer (some ⟨b, 0, none⟩), .int .i64 lv, .slice (some ⟨W4.heap.size, 0, none⟩) 6 6] (by rfl) rfl (by first | (go_simp; done) | (go_simp; rfl)) ?_
  refine (line_sm (parts := [f1, ⟨#[91]⟩, t, ⟨#[93, 32, 61, 32]⟩, u, ⟨#[59]⟩]) HS.out (fun _ _ e => by cases e) (Nat.le_of_ble_eq_true rfl) H1.out).mono ?_
  rintro e W9 ⟨rfl, hs⟩
  refine ⟨_, rfl, ?_⟩
  refine hK.out _ _ ?_
  clear hK K
  replace HS := Aside0.mk hs
  clear hs
  refine done_ (by kernel_rfl) ?_
  go_end0
  exact ⟨rfl, HS.out.st, HS.out.k⟩
set_option maxHeartbeats 8000000 in
set_option maxRecDepth 100000 in
theorem stmt_while (k : Nat) (w0 : World) (b : Nat) (lv : Int) (f1 : ByteArray) (A2 : Option Addr) (c2 : Nat) (f2 : List S36) (A3 : Option Addr) (c3 : Nat) (f3 : List S43) (A4 : Option Addr) (c4 : Nat) (f4 : List S43) (acc r : List UInt8) (w : World)
    (hT : TAB w0) (hr2 : Kd.C k36 w0 A2 f2.length f2) (hc2 : f2.length ≤ c2) (hr3 : Kd.C k43 w0 A3 f3.length f3) (hc3 : f3.length ≤ c3) (hr4 : Kd.C k43 w0 A4 f4.length f4) (hc4 : f4.length ≤ c4) (hS : St w0 b acc w) (ih : StmtsC k) (t : ByteArray) (a1 a2 : List UInt8) (h0 : exAt k f2 0 = some t) (h1 : lineT lv [⟨#[119, 104, 105, 108, 101, 32, 40]⟩, t, ⟨#[41, 32, 123]⟩] acc = some a1) (h2 : stmtsT k (lv + 1) f3 a1 = some a2) (h3 : lineT lv [⟨#[125]⟩] a2 = some r) :
    Calls Tryd.prog 63 #[.pointer (some ⟨b, 0, none⟩), .int .i64 lv, .agg #[.int .i64 5, .string f1, .slice A2 f2.length c2, .slice A3 f3.length c3, .slice A4 f4.length c4]] w fun e w' => e = .returned (.tuple #[]) ∧ St w0 b r w' ∧ Lib.OthersKept 5 (some b) w w' := by
  have HT := Aside0.mk hT
  have HR2 := Aside0.mk hr2
  have HC2 := Aside0.mk hc2
  have HR3 := Aside0.mk hr3
  have HC3 := Aside0.mk hc3
  have HR4 := Aside0.mk hr4
  have HC4 := Aside0.mk hc4
  have HS := Aside0.mk hS
  clear hT hr2 hc2 hr3 hc3 hr4 hc4 hS
  have IH := Aside0.mk ih
  clear ih
  have H1 := Aside0.mk h1
  clear h1
  have H2 := Aside0.mk h2
  clear h2
  have H3 := Aside0.mk h3
  clear h3
  unfold exAt at h0
  split at h0
  case isFalse => cases h0
  case isTrue hlt0 =>
  have H0 := Aside0.mk h0
  clear h0
  obtain ⟨ad, Ae, ce, rfl, y0, y1, y2, y3, y4, hl, hi⟩ := ex_cells HR2.out hlt0
  have YL := Aside0.mk hl
  have YI := Aside0.mk hi
  have Y := Aside0.mk (And.intro y0 (And.intro y1 (And.intro y2 (And.intro y3 y4))))
  clear hl hi y0 y1 y2 y3 y4
  have qi : (0 < f2.length) = True := eq_true (by omega)
  have e16 : IntKind.i64.wrap (lv + 1) = lv + 1 := by rw [IntKind.wrap_i64]; have := lineT_lv H1.out; omega
  have e16' : wrap64 (lv + 1) = lv + 1 := by unfold wrap64; have := lineT_lv H1.out; omega
  go_enter Tryd.func63, Tryd.ntmps63
  go_wp2_with (first | ((with_reducible refine gate_dst (N := 5) rfl ?_); go_loud (refine box_event ?hg (N := 5) ?hd (cs := #[.int .i64 5, .string f1, .slice (some ad) f2.length c2, .slice A3 f3.length c3, .slice A4 f4.length c4]) (t := 43) ?hr ?_; (case hd => rfl); (case hg => rfl); (case hr => first | (go_simp; done) | (go_simp; rfl)); intro gs hg W1 hbox hb; have hs := Sm.start HS.out hg hbox hb; clear hg hbox hb; have n1 := Aside0.mk hs; clear HS hs; have HS := n1; clear n1; have b0 : W1.cell? ⟨gs, 0, none⟩ = some (.int .i64 5) := (blk_cell HS.out.bk 0).trans rfl; have b1 : W1.cell? ⟨gs, 1, none⟩ = some (.string f1) := (blk_cell HS.out.bk 1).trans rfl; have b2 : W1.cell? ⟨gs, 2, none⟩ = some (.slice (some ad) f2.length c2) := (blk_cell HS.out.bk 2).trans rfl; have b3 : W1.cell? ⟨gs, 3, none⟩ = some (.slice A3 f3.length c3) := (blk_cell HS.out.bk 3).trans rfl; have b4 : W1.cell? ⟨gs, 4, none⟩ = some (.slice A4 f4.length c4) := (blk_cell HS.out.bk 4).trans rfl; have x0 := cell_up HS.out.st.below Y.out.1; have x1 := cell_up HS.out.st.below Y.out.2.1; have x2 := cell_up HS.out.st.below Y.out.2.2.1; have x3 := cell_up HS.out.st.below Y.out.2.2.2.1; have x4 := cell_up HS.out.st.below Y.out.2.2.2.2)) | (go_at_call 24; refine (expr_st k HS.out HT.out YI.out YL.out H0.out).mono ?_; rintro e W2 ⟨rfl, hs⟩; have n1 := Aside0.mk hs; clear HS hs; have HS := n1; clear n1; have b0 : W2.cell? ⟨gs, 0, none⟩ = some (.int .i64 5) := (blk_cell HS.out.bk 0).trans rfl; have b1 : W2.cell? ⟨gs, 1, none⟩ = some (.string f1) := (blk_cell HS.out.bk 1).trans rfl; have b2 : W2.cell? ⟨gs, 2, none⟩ = some (.slice (some ad) f2.length c2) := (blk_cell HS.out.bk 2).trans rfl; have b3 : W2.cell? ⟨gs, 3, none⟩ = some (.slice A3 f3.length c3) := (blk_cell HS.out.bk 3).trans rfl; have b4 : W2.cell? ⟨gs, 4, none⟩ = some (.slice A4 f4.length c4) := (blk_cell HS.out.bk 4).trans rfl) | (go_at_call 28; have c_ := line_n [⟨#[119, 104, 105, 108, 101, 32, 40]⟩, t, ⟨#[41, 32, 123]⟩] 3 #[.string (⟨#[119, 104, 105, 108, 101, 32, 40]⟩), .string (t), .string (⟨#[41, 32, 123]⟩)] rfl rfl HS.out (fun _ _ e => by cases e) (Nat.le_of_ble_eq_true rfl) H1.out; with_reducible refine c_.mono ?_; clear c_; rintro e W3 ⟨rfl, hs⟩; have n1 := Aside0.mk hs; clear HS hs; have HS := n1; clear n1; have b0 : W3.cell? ⟨gs, 0, none⟩ = some (.int .i64 5) := (blk_cell HS.out.bk 0).trans rfl; have b1 : W3.cell? ⟨gs, 1, none⟩ = some (.string f1) := (blk_cell HS.out.bk 1).trans rfl; have b2 : W3.cell? ⟨gs, 2, none⟩ = some (.slice (some ad) f2.length c2) := (blk_cell HS.out.bk 2).trans rfl; have b3 : W3.cell? ⟨gs, 3, none⟩ = some (.slice A3 f3.length c3) := (blk_cell HS.out.bk 3).trans rfl; have b4 : W3.cell? ⟨gs, 4, none⟩ = some (.slice A4 f4.length c4) := (blk_cell HS.out.bk 4).trans rfl) | (go_at_call 31; have c_ := stmts_sm IH.out HS.out HT.out HR3.out HC3.out (fun _ _ e => by cases e) H2.out; with_reducible refine c_.mono ?_; clear c_; rintro e W4 ⟨rfl, hs⟩; have n1 := Aside0.mk hs; clear HS hs; have HS := n1; clear n1; have b0 : W4.cell? ⟨gs, 0, none⟩ = some (.int .i64 5) := (blk_cell HS.out.bk 0).trans rfl; have b1 : W4.cell? ⟨gs, 1, none⟩ = some (.string f1) := (blk_cell HS.out.bk 1).trans rfl; have b2 : W4.cell? ⟨gs, 2, none⟩ = some (.slice (some ad) f2.length c2) := (blk_cell HS.out.bk 2).trans rfl; have b3 : W4.cell? ⟨gs, 3, none⟩ = some (.slice A3 f3.length c3) := (blk_cell HS.out.bk 3).trans rfl; have b4 : W4.cell? ⟨gs, 4, none⟩ = some (.slice A4 f4.length c4) := (blk_cell HS.out.bk 4).trans rfl) | (go_at_call 28; have c_ := line_n [⟨#[125]⟩] 1 #[.string (⟨#[125]⟩)] rfl rfl HS.out (fun _ _ e => by cases e) (Nat.le_of_ble_eq_true rfl) H3.out; with_reducible refine c_.mono ?_; clear c_; rintro e W5 ⟨rfl, hs⟩; have n1 := Aside0.mk hs; clear HS hs; have HS := n1; clear n1; have b0 : W5.cell? ⟨gs, 0, none⟩ = some (.int .i64 5) := (blk_cell HS.out.bk 0).trans rfl; have b1 : W5.cell? ⟨gs, 1, none⟩ = some (.string f1) := (blk_cell HS.out.bk 1).trans rfl; have b2 : W5.cell? ⟨gs, 2, none⟩ = some (.slice (some ad) f2.length c2) := (blk_cell HS.out.bk 2).trans rfl; have b3 : W5.cell? ⟨gs, 3, none⟩ = some (.slice A3 f3.length c3) := (blk_cell HS.out.bk 3).trans rfl; have b4 : W5.cell? ⟨gs, 4, none⟩ = some (.slice A4 f4.length c4) := (blk_cell HS.out.bk 4).trans rfl))
  go_end0
  exact ⟨rfl, HS.out.st, HS.out.k⟩
set_option maxHeartbeats 8000000 in
set_option maxRecDepth 100000 in
theorem stmt_if (k : Nat) (w0 : World) (b : Nat) (lv f0 : Int) (f1 : ByteArray) (A2 : Option Addr) (c2 : Nat) (f2 : List S36) (A3 : Option Addr) (c3 : Nat) (f3 : List S43) (A4 : Option Addr) (c4 : Nat) (f4 : List S43) (acc r : List UInt8) (w : World)
    (hT : TAB w0) (hr2 : Kd.C k36 w0 A2 f2.length f2) (hc2 : f2.length ≤ c2) (hr3 : Kd.C k43 w0 A3 f3.length f3) (hc3 : f3.length ≤ c3) (hr4 : Kd.C k43 w0 A4 f4.length f4) (hc4 : f4.length ≤ c4) (hS : St w0 b acc w) (g1 : f0 ≠ 1) (g2 : f0 ≠ 2) (g3 : f0 ≠ 3) (g5 : f0 ≠ 5) (g6 : f0 ≠ 6) (g7 : f0 ≠ 7) (ih : StmtsC k) (hz : ¬ (f4.length : Int) > 0) (t : ByteArray) (a1 a2 : List UInt8) (h0 : exAt k f2 0 = some t) (h1 : lineT lv [⟨#[105, 102, 32, 40]⟩, t, ⟨#[41, 32, 123]⟩] acc = some a1) (h2 : stmtsT k (lv + 1) f3 a1 = some a2) (h3 : lineT lv [⟨#[125]⟩] a2 = some r) :
    Calls Tryd.prog 63 #[.pointer (some ⟨b, 0, none⟩), .int .i64 lv, .agg #[.int .i64 f0, .string f1, .slice A2 f2.length c2, .slice A3 f3.length c3, .slice A4 f4.length c4]] w fun e w' => e = .returned (.tuple #[]) ∧ St w0 b r w' ∧ Lib.OthersKept 5 (some b) w w' := by
  have HT := Aside0.mk hT
  have HR2 := Aside0.mk hr2
  have HC2 := Aside0.mk hc2
  have HR3 := Aside0.mk hr3
  have HC3 := Aside0.mk hc3
  have HR4 := Aside0.mk hr4
  have HC4 := Aside0.mk hc4
  have HS := Aside0.mk hS
  clear hT hr2 hc2 hr3 hc3 hr4 hc4 hS
  have IH := Aside0.mk ih
  clear ih
  have H1 := Aside0.mk h1
  clear h1
  have H2 := Aside0.mk h2
  clear h2
  have H3 := Aside0.mk h3
  clear h3
  unfold exAt at h0
  split at h0
  case isFalse => cases h0
  case isTrue hlt0 =>
  have H0 := Aside0.mk h0
  clear h0
  obtain ⟨ad, Ae, ce, rfl, y0, y1, y2, y3, y4, hl, hi⟩ := ex_cells HR2.out hlt0
  have YL := Aside0.mk hl
  have YI := Aside0.mk hi
  have Y := Aside0.mk (And.intro y0 (And.intro y1 (And.intro y2 (And.intro y3 y4))))
  clear hl hi y0 y1 y2 y3 y4
  have qi : (0 < f2.length) = True := eq_true (by omega)
  have e16 : IntKind.i64.wrap (lv + 1) = lv + 1 := by rw [IntKind.wrap_i64]; have := lineT_lv H1.out; omega
  have e16' : wrap64 (lv + 1) = lv + 1 := by unfold wrap64; have := lineT_lv H1.out; omega
  have gb1 : (f0 == 1) = false := beq_eq_false_iff_ne.mpr g1; have gd1 : decide (f0 = 1) = false := decide_eq_false g1
  have gb2 : (f0 == 2) = false := beq_eq_false_iff_ne.mpr g2; have gd2 : decide (f0 = 2) = false := decide_eq_false g2
  have gb3 : (f0 == 3) = false := beq_eq_false_iff_ne.mpr g3; have gd3 : decide (f0 = 3) = false := decide_eq_false g3
  have gb5 : (f0 == 5) = false := beq_eq_false_iff_ne.mpr g5; have gd5 : decide (f0 = 5) = false := decide_eq_false g5
  have gb6 : (f0 == 6) = false := beq_eq_false_iff_ne.mpr g6; have gd6 : decide (f0 = 6) = false := decide_eq_false g6
  have gb7 : (f0 == 7) = false := beq_eq_false_iff_ne.mpr g7; have gd7 : decide (f0 = 7) = false := decide_eq_false g7
  have hz2 : decide ((f4.length : Int) > 0) = false := decide_eq_false hz
  have hz3 : (0 < f4.length) = False := eq_false (by omega)
  clear hz
  go_enter Tryd.func63, Tryd.ntmps63
  go_wp2_with (first | ((with_reducible refine gate_dst (N := 5) rfl ?_); go_loud (refine box_event ?hg (N := 5) ?hd (cs := #[.int .i64 f0, .string f1, .slice (some ad) f2.length c2, .slice A3 f3.length c3, .slice A4 f4.length c4]) (t := 43) ?hr ?_; (case hd => rfl); (case hg => rfl); (case hr => first | (go_simp; done) | (go_simp; rfl)); intro gs hg W1 hbox hb; have hs := Sm.start HS.out hg hbox hb; clear hg hbox hb; have n1 := Aside0.mk hs; clear HS hs; have HS := n1; clear n1; have b0 : W1.cell? ⟨gs, 0, none⟩ = some (.int .i64 f0) := (blk_cell HS.out.bk 0).trans rfl; have b1 : W1.cell? ⟨gs, 1, none⟩ = some (.string f1) := (blk_cell HS.out.bk 1).trans rfl; have b2 : W1.cell? ⟨gs, 2, none⟩ = some (.slice (some ad) f2.length c2) := (blk_cell HS.out.bk 2).trans rfl; have b3 : W1.cell? ⟨gs, 3, none⟩ = some (.slice A3 f3.length c3) := (blk_cell HS.out.bk 3).trans rfl; have b4 : W1.cell? ⟨gs, 4, none⟩ = some (.slice A4 f4.length c4) := (blk_cell HS.out.bk 4).trans rfl; have x0 := cell_up HS.out.st.below Y.out.1; have x1 := cell_up HS.out.st.below Y.out.2.1; have x2 := cell_up HS.out.st.below Y.out.2.2.1; have x3 := cell_up HS.out.st.below Y.out.2.2.2.1; have x4 := cell_up HS.out.st.below Y.out.2.2.2.2)) | (go_at_call 24; refine (expr_st k HS.out HT.out YI.out YL.out H0.out).mono ?_; rintro e W2 ⟨rfl, hs⟩; have n1 := Aside0.mk hs; clear HS hs; have HS := n1; clear n1; have b0 : W2.cell? ⟨gs, 0, none⟩ = some (.int .i64 f0) := (blk_cell HS.out.bk 0).trans rfl; have b1 : W2.cell? ⟨gs, 1, none⟩ = some (.string f1) := (blk_cell HS.out.bk 1).trans rfl; have b2 : W2.cell? ⟨gs, 2, none⟩ = some (.slice (some ad) f2.length c2) := (blk_cell HS.out.bk 2).trans rfl; have b3 : W2.cell? ⟨gs, 3, none⟩ = some (.slice A3 f3.length c3) := (blk_cell HS.out.bk 3).trans rfl; have b4 : W2.cell? ⟨gs, 4, none⟩ = some (.slice A4 f4.length c4) := (blk_cell HS.out.bk 4).trans rfl) | (go_at_call 28; have c_ := line_n [⟨#[105, 102, 32, 40]⟩, t, ⟨#[41, 32, 123]⟩] 3 #[.string (⟨#[105, 102, 32, 40]⟩), .string (t), .string (⟨#[41, 32, 123]⟩)] rfl rfl HS.out (fun _ _ e => by cases e) (Nat.le_of_ble_eq_true rfl) H1.out; with_reducible refine c_.mono ?_; clear c_; rintro e W3 ⟨rfl, hs⟩; have n1 := Aside0.mk hs; clear HS hs; have HS := n1; clear n1; have b0 : W3.cell? ⟨gs, 0, none⟩ = some (.int .i64 f0) := (blk_cell HS.out.bk 0).trans rfl; have b1 : W3.cell? ⟨gs, 1, none⟩ = some (.string f1) := (blk_cell HS.out.bk 1).trans rfl; have b2 : W3.cell? ⟨gs, 2, none⟩ = some (.slice (some ad) f2.length c2) := (blk_cell HS.out.bk 2).trans rfl; have b3 : W3.cell? ⟨gs, 3, none⟩ = some (.slice A3 f3.length c3) := (blk_cell HS.out.bk 3).trans rfl; have b4 : W3.cell? ⟨gs, 4, none⟩ = some (.slice A4 f4.length c4) := (blk_cell HS.out.bk 4).trans rfl) | (go_at_call 31; have c_ := stmts_sm IH.out HS.out HT.out HR3.out HC3.out (fun _ _ e => by cases e) H2.out; with_reducible refine c_.mono ?_; clear c_; rintro e W4 ⟨rfl, hs⟩; have n1 := Aside0.mk hs; clear HS hs; have HS := n1; clear n1; have b0 : W4.cell? ⟨gs, 0, none⟩ = some (.int .i64 f0) := (blk_cell HS.out.bk 0).trans rfl; have b1 : W4.cell? ⟨gs, 1, none⟩ = some (.string f1) := (blk_cell HS.out.bk 1).trans rfl; have b2 : W4.cell? ⟨gs, 2, none⟩ = some (.slice (some ad) f2.length c2) := (blk_cell HS.out.bk 2).trans rfl; have b3 : W4.cell? ⟨gs, 3, none⟩ = some (.slice A3 f3.length c3) := (blk_cell HS.out.bk 3).trans rfl; have b4 : W4.cell? ⟨gs, 4, none⟩ = some (.slice A4 f4.length c4) := (blk_cell HS.out.bk 4).trans rfl) | (go_at_call 28; have c_ := line_n [⟨#[125]⟩] 1 #[.string (⟨#[125]⟩)] rfl rfl HS.out (fun _ _ e => by cases e) (Nat.le_of_ble_eq_true rfl) H3.out; with_reducible refine c_.mono ?_; clear c_; rintro e W5 ⟨rfl, hs⟩; have n1 := Aside0.mk hs; clear HS hs; have HS := n1; clear n1; have b0 : W5.cell? ⟨gs, 0, none⟩ = some (.int .i64 f0) := (blk_cell HS.out.bk 0).trans rfl; have b1 : W5.cell? ⟨gs, 1, none⟩ = some (.string f1) := (blk_cell HS.out.bk 1).trans rfl; have b2 : W5.cell? ⟨gs, 2, none⟩ = some (.slice (some ad) f2.length c2) := (blk_cell HS.out.bk 2).trans rfl; have b3 : W5.cell? ⟨gs, 3, none⟩ = some (.slice A3 f3.length c3) := (blk_cell HS.out.bk 3).trans rfl; have b4 : W5.cell? ⟨gs, 4, none⟩ = some (.slice A4 f4.length c4) := (blk_cell HS.out.bk 4).trans rfl))
  go_end0
  exact ⟨rfl, HS.out.st, HS.out.k⟩
set_option maxHeartbeats 8000000 in
set_option maxRecDepth 100000 in
theorem stmt_ifelse (k : Nat) (w0 : World) (b : Nat) (lv f0 : Int) (f1 : ByteArray) (A2 : Option Addr) (c2 : Nat) (f2 : List S36) (A3 : Option Addr) (c3 : Nat) (f3 : List S43) (A4 : Option Addr) (c4 : Nat) (f4 : List S43) (acc r : List UInt8) (w : World)
    (hT : TAB w0) (hr2 : Kd.C k36 w0 A2 f2.length f2) (hc2 : f2.length ≤ c2) (hr3 : Kd.C k43 w0 A3 f3.length f3) (hc3 : f3.length ≤ c3) (hr4 : Kd.C k43 w0 A4 f4.length f4) (hc4 : f4.length ≤ c4) (hS : St w0 b acc w) (g1 : f0 ≠ 1) (g2 : f0 ≠ 2) (g3 : f0 ≠ 3) (g5 : f0 ≠ 5) (g6 : f0 ≠ 6) (g7 : f0 ≠ 7) (ih : StmtsC k) (hz : (f4.length : Int) > 0) (t : ByteArray) (a1 a2 a3 a4 : List UInt8) (h0 : exAt k f2 0 = some t) (h1 : lineT lv [⟨#[105, 102, 32, 40]⟩, t, ⟨#[41, 32, 123]⟩] acc = some a1) (h2 : stmtsT k (lv + 1) f3 a1 = some a2) (h3 : lineT lv [⟨#[125, 32, 101, 108, 115, 101, 32, 123]⟩] a2 = some a3) (h4 : stmtsT k (lv + 1) f4 a3 = some a4) (h5 : lineT lv [⟨#[125]⟩] a4 = some r) :
    Calls Tryd.prog 63 #[.pointer (some ⟨b, 0, none⟩), .int .i64 lv, .agg #[.int .i64 f0, .string f1, .slice A2 f2.length c2, .slice A3 f3.length c3, .slice A4 f4.length c4]] w fun e w' => e = .returned (.tuple #[]) ∧ St w0 b r w' ∧ Lib.OthersKept 5 (some b) w w' := by
  have HT := Aside0.mk hT
  have HR2 := Aside0.mk hr2
  have HC2 := Aside0.mk hc2
  have HR3 := Aside0.mk hr3
  have HC3 := Aside0.mk hc3
  have HR4 := Aside0.mk hr4
  have HC4 := Aside0.mk hc4
  have HS := Aside0.mk hS
  clear hT hr2 hc2 hr3 hc3 hr4 hc4 hS
  have IH := Aside0.mk ih
  clear ih
  have H1 := Aside0.mk h1
  clear h1
  have H2 := Aside0.mk h2
  clear h2
  have H3 := Aside0.mk h3
  clear h3
  have H4 := Aside0.mk h4
  clear h4
  have H5 := Aside0.mk h5
  clear h5
  unfold exAt at h0
  split at h0
  case isFalse => cases h0
  case isTrue hlt0 =>
  have H0 := Aside0.mk h0
  clear h0
  obtain ⟨ad, Ae, ce, rfl, y0, y1, y2, y3, y4, hl, hi⟩ := ex_cells HR2.out hlt0
  have YL := Aside0.mk hl
  have YI := Aside0.mk hi
  have Y := Aside0.mk (And.intro y0 (And.intro y1 (And.intro y2 (And.intro y3 y4))))
  clear hl hi y0 y1 y2 y3 y4
  have qi : (0 < f2.length) = True := eq_true (by omega)
  have e16 : IntKind.i64.wrap (lv + 1) = lv + 1 := by rw [IntKind.wrap_i64]; have := lineT_lv H1.out; omega
  have e16' : wrap64 (lv + 1) = lv + 1 := by unfold wrap64; have := lineT_lv H1.out; omega
  have gb1 : (f0 == 1) = false := beq_eq_false_iff_ne.mpr g1; have gd1 : decide (f0 = 1) = false := decide_eq_false g1
  have gb2 : (f0 == 2) = false := beq_eq_false_iff_ne.mpr g2; have gd2 : decide (f0 = 2) = false := decide_eq_false g2
  have gb3 : (f0 == 3) = false := beq_eq_false_iff_ne.mpr g3; have gd3 : decide (f0 = 3) = false := decide_eq_false g3
  have gb5 : (f0 == 5) = false := beq_eq_false_iff_ne.mpr g5; have gd5 : decide (f0 = 5) = false := decide_eq_false g5
  have gb6 : (f0 == 6) = false := beq_eq_false_iff_ne.mpr g6; have gd6 : decide (f0 = 6) = false := decide_eq_false g6
  have gb7 : (f0 == 7) = false := beq_eq_false_iff_ne.mpr g7; have gd7 : decide (f0 = 7) = false := decide_eq_false g7
  have hz2 : decide ((f4.length : Int) > 0) = true := decide_eq_true hz
  have hz3 : (0 < f4.length) = True := eq_true (by omega)
  clear hz
  go_enter Tryd.func63, Tryd.ntmps63
  go_wp2_with (first | ((with_reducible refine gate_dst (N := 5) rfl ?_); go_loud (refine box_event ?hg (N := 5) ?hd (cs := #[.int .i64 f0, .string f1, .slice (some ad) f2.length c2, .slice A3 f3.length c3, .slice A4 f4.length c4]) (t := 43) ?hr ?_; (case hd => rfl); (case hg => rfl); (case hr => first | (go_simp; done) | (go_simp; rfl)); intro gs hg W1 hbox hb; have hs := Sm.start HS.out hg hbox hb; clear hg hbox hb; have n1 := Aside0.mk hs; clear HS hs; have HS := n1; clear n1; have b0 : W1.cell? ⟨gs, 0, none⟩ = some (.int .i64 f0) := (blk_cell HS.out.bk 0).trans rfl; have b1 : W1.cell? ⟨gs, 1, none⟩ = some (.string f1) := (blk_cell HS.out.bk 1).trans rfl; have b2 : W1.cell? ⟨gs, 2, none⟩ = some (.slice (some ad) f2.length c2) := (blk_cell HS.out.bk 2).trans rfl; have b3 : W1.cell? ⟨gs, 3, none⟩ = some (.slice A3 f3.length c3) := (blk_cell HS.out.bk 3).trans rfl; have b4 : W1.cell? ⟨gs, 4, none⟩ = some (.slice A4 f4.length c4) := (blk_cell HS.out.bk 4).trans rfl; have x0 := cell_up HS.out.st.below Y.out.1; have x1 := cell_up HS.out.st.below Y.out.2.1; have x2 := cell_up HS.out.st.below Y.out.2.2.1; have x3 := cell_up HS.out.st.below Y.out.2.2.2.1; have x4 := cell_up HS.out.st.below Y.out.2.2.2.2)) | (go_at_call 24; refine (expr_st k HS.out HT.out YI.out YL.out H0.out).mono ?_; rintro e W2 ⟨rfl, hs⟩; have n1 := Aside0.mk hs; clear HS hs; have HS := n1; clear n1; have b0 : W2.cell? ⟨gs, 0, none⟩ = some (.int .i64 f0) := (blk_cell HS.out.bk 0).trans rfl; have b1 : W2.cell? ⟨gs, 1, none⟩ = some (.string f1) := (blk_cell HS.out.bk 1).trans rfl; have b2 : W2.cell? ⟨gs, 2, none⟩ = some (.slice (some ad) f2.length c2) := (blk_cell HS.out.bk 2).trans rfl; have b3 : W2.cell? ⟨gs, 3, none⟩ = some (.slice A3 f3.length c3) := (blk_cell HS.out.bk 3).trans rfl; have b4 : W2.cell? ⟨gs, 4, none⟩ = some (.slice A4 f4.length c4) := (blk_cell HS.out.bk 4).trans rfl) | (go_at_call 28; have c_ := line_n [⟨#[105, 102, 32, 40]⟩, t, ⟨#[41, 32, 123]⟩] 3 #[.string (⟨#[105, 102, 32, 40]⟩), .string (t), .string (⟨#[41, 32, 123]⟩)] rfl rfl HS.out (fun _ _ e => by cases e) (Nat.le_of_ble_eq_true rfl) H1.out; with_reducible refine c_.mono ?_; clear c_; rintro e W3 ⟨rfl, hs⟩; have n1 := Aside0.mk hs; clear HS hs; have HS := n1; clear n1; have b0 : W3.cell? ⟨gs, 0, none⟩ = some (.int .i64 f0) := (blk_cell HS.out.bk 0).trans rfl; have b1 : W3.cell? ⟨gs, 1, none⟩ = some (.string f1) := (blk_cell HS.out.bk 1).trans rfl; have b2 : W3.cell? ⟨gs, 2, none⟩ = some (.slice (some ad) f2.length c2) := (blk_cell HS.out.bk 2).trans rfl; have b3 : W3.cell? ⟨gs, 3, none⟩ = some (.slice A3 f3.length c3) := (blk_cell HS.out.bk 3).trans rfl; have b4 : W3.cell? ⟨gs, 4, none⟩ = some (.slice A4 f4.length c4) := (blk_cell HS.out.bk 4).trans rfl) | (go_at_call 31; have c_ := stmts_sm IH.out HS.out HT.out HR3.out HC3.out (fun _ _ e => by cases e) H2.out; with_reducible refine c_.mono ?_; clear c_; rintro e W4 ⟨rfl, hs⟩; have n1 := Aside0.mk hs; clear HS hs; have HS := n1; clear n1; have b0 : W4.cell? ⟨gs, 0, none⟩ = some (.int .i64 f0) := (blk_cell HS.out.bk 0).trans rfl; have b1 : W4.cell? ⟨gs, 1, none⟩ = some (.string f1) := (blk_cell HS.out.bk 1).trans rfl; have b2 : W4.cell? ⟨gs, 2, none⟩ = some (.slice (some ad) f2.length c2) := (blk_cell HS.out.bk 2).trans rfl; have b3 : W4.cell? ⟨gs, 3, none⟩ = some (.slice A3 f3.length c3) := (blk_cell HS.out.bk 3).trans rfl; have b4 : W4.cell? ⟨gs, 4, none⟩ = some (.slice A4 f4.length c4) := (blk_cell HS.out.bk 4).trans rfl) | (go_at_call 28; have c_ := line_n [⟨#[125, 32, 101, 108, 115, 101, 32, 123]⟩] 1 #[.string (⟨#[125, 32, 101, 108, 115, 101, 32, 123]⟩)] rfl rfl HS.out (fun _ _ e => by cases e) (Nat.le_of_ble_eq_true rfl) H3.out; with_reducible refine c_.mono ?_; clear c_; rintro e W5 ⟨rfl, hs⟩; have n1 := Aside0.mk hs; clear HS hs; have HS := n1; clear n1; have b0 : W5.cell? ⟨gs, 0, none⟩ = some (.int .i64 f0) := (blk_cell HS.out.bk 0).trans rfl; have b1 : W5.cell? ⟨gs, 1, none⟩ = some (.string f1) := (blk_cell HS.out.bk 1).trans rfl; have b2 : W5.cell? ⟨gs, 2, none⟩ = some (.slice (some ad) f2.length c2) := (blk_cell HS.out.bk 2).trans rfl; have b3 : W5.cell? ⟨gs, 3, none⟩ = some (.slice A3 f3.length c3) := (blk_cell HS.out.bk 3).trans rfl; have b4 : W5.cell? ⟨gs, 4, none⟩ = some (.slice A4 f4.length c4) := (blk_cell HS.out.bk 4).trans rfl) | (go_at_call 31; have c_ := stmts_sm IH.out HS.out HT.out HR4.out HC4.out (fun _ _ e => by cases e) H4.out; with_reducible refine c_.mono ?_; clear c_; rintro e W6 ⟨rfl, hs⟩; have n1 := Aside0.mk hs; clear HS hs; have HS := n1; clear n1; have b0 : W6.cell? ⟨gs, 0, none⟩ = some (.int .i64 f0) := (blk_cell HS.out.bk 0).trans rfl; have b1 : W6.cell? ⟨gs, 1, none⟩ = some (.string f1) := (blk_cell HS.out.bk 1).trans rfl; have b2 : W6.cell? ⟨gs, 2, none⟩ = some (.slice (some ad) f2.length c2) := (blk_cell HS.out.bk 2).trans rfl; have b3 : W6.cell? ⟨gs, 3, none⟩ = some (.slice A3 f3.length c3) := (blk_cell HS.out.bk 3).trans rfl; have b4 : W6.cell? ⟨gs, 4, none⟩ = some (.slice A4 f4.length c4) := (blk_cell HS.out.bk 4).trans rfl) | (go_at_call 28; have c_ := line_n [⟨#[125]⟩] 1 #[.string (⟨#[125]⟩)] rfl rfl HS.out (fun _ _ e => by cases e) (Nat.le_of_ble_eq_true rfl) H5.out; with_reducible refine c_.mono ?_; clear c_; rintro e W7 ⟨rfl, hs⟩; have n1 := Aside0.mk hs; clear HS hs; have HS := n1; clear n1; have b0 : W7.cell? ⟨gs, 0, none⟩ = some (.int .i64 f0) := (blk_cell HS.out.bk 0).trans rfl; have b1 : W7.cell? ⟨gs, 1, none⟩ = some (.string f1) := (blk_cell HS.out.bk 1).trans rfl; have b2 : W7.cell? ⟨gs, 2, none⟩ = some (.slice (some ad) f2.length c2) := (blk_cell HS.out.bk 2).trans rfl; have b3 : W7.cell? ⟨gs, 3, none⟩ = some (.slice A3 f3.length c3) := (blk_cell HS.out.bk 3).trans rfl; have b4 : W7.cell? ⟨gs, 4, none⟩ = some (.slice A4 f4.length c4) := (blk_cell HS.out.bk 4).trans rfl))
  go_end0
  exact ⟨rfl, HS.out.st, HS.out.k⟩
end Go.Proofs.YthnhdompfhkepaaDoor.Ext
