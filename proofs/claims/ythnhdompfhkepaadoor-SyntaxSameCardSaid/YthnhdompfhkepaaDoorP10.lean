/- syntax.Print answers a program's text. -/
import Derived.Test.YthnhdompfhkepaaDoorP9
namespace Go.Proofs.YthnhdompfhkepaaDoor.Pure
open Go Go.RowKit Go.Proofs.YthnhdompfhkepaaDoor.Q Go.Proofs.YthnhdompfhkepaaDoorW.PrintWords Go.Proofs.YthnhdompfhkepaaDoorW.PrintMore
def namesX (l : List ByteArray) : List UInt8 := joinT (l.map B)
def varsX (n : Nat) (l : List ByteArray) : List UInt8 := if l = [] then [] else lineX n [[118, 97, 114, 32], namesX l, [59]]
def arrX (a : S59) : List UInt8 := lineX 0 [[97, 114, 114, 97, 121, 32], B a.f0, [91], Lib.decDigits a.f1.toNat, [93, 59]]
def endX (wd : Bool) : List UInt8 := if wd = true then [41, 32, 119, 111, 114, 100, 32, 123] else [41, 32, 123]
def headX (f : S45) : List UInt8 := lineX 0 [[102, 117, 110, 99, 32], B f.f0, [40], namesX f.f1, endX f.f3]
def funX (f : S45) : List UInt8 := headX f ++ varsX 1 f.f2 ++ stsX 1 f.f4 ++ lineX 0 [[125]]
def arrsX (l : List S59) : List UInt8 := (l.map arrX).flatten
def funsX (l : List S45) : List UInt8 := (l.map funX).flatten
def progX (vars : List ByteArray) (arrs : List S59) (funcs : List S45) : List UInt8 := varsX 0 vars ++ arrsX arrs ++ funsX funcs
theorem namesX_len {l : List ByteArray} (h : ∀ s ∈ l, NameOk s) : (namesX l).length ≤ 22 * l.length := by
  have h1 := joinT_len (l.map B)
  have h2 : ((l.map B).map List.length).sum ≤ 20 * l.length := by
    clear h1
    induction l with
    | nil => simp
    | cons a l ih =>
      have e1 := name_len (h a (by simp))
      have e2 := ih fun s hs => h s (by simp [hs])
      simp only [List.map_cons, List.sum_cons, List.length_cons]
      omega
  unfold namesX
  rw [List.length_map] at h1
  omega
theorem names_ev {l : List ByteArray} (h : ∀ s ∈ l, NameOk s) (hl : l.length ≤ 1000) : Ext.strings_Join.f l (⟨#[44, 32]⟩ : ByteArray) = some (T (namesX l)) := by
  have h1 := namesX_len h
  have e : (l.map B).map T = l := by
    rw [List.map_map]
    conv => rhs; rw [← List.map_id l]
    exact List.map_congr_left fun s _ => T_B s
  have := join_f (l.map B) (by rw [List.length_map]; omega) (by unfold namesX at h1; omega)
  rw [e] at this
  exact this
theorem varsX_len {n : Nat} {l : List ByteArray} (h : ∀ s ∈ l, NameOk s) : (varsX n l).length ≤ 2 * n + 6 + 22 * l.length := by
  have h1 := namesX_len h
  unfold varsX
  split
  · simp
  · rw [lineX_len]
    simp
    omega
theorem vars_ev {n : Nat} {l : List ByteArray} (h : ∀ s ∈ l, NameOk s) (hl : l.length ≤ 1000) (hn : n ≤ 1000) (acc : List UInt8) (ha : acc.length ≤ 900000000) : Ext.varsT (n : Int) l acc = some (acc ++ varsX n l) := by
  unfold Ext.varsT
  by_cases hz : l = []
  · subst hz
    simp [varsX]
  · have : 0 < l.length := List.length_pos_iff.mpr hz
    have h1 := namesX_len h
    rw [if_pos (by omega), names_ev h hl, Option.bind_some]
    have e : ([⟨#[118, 97, 114, 32]⟩, T (namesX l), ⟨#[59]⟩] : List ByteArray).map B = [[118, 97, 114, 32], namesX l, [59]] := by simp [B_T]
    rw [line_ev n _ acc hn (by rw [e, lineX_len]; simp; omega), e]
    unfold varsX
    rw [if_neg hz]
theorem arr_ev {a : S59} (h : NameOk a.f0 ∧ 1 ≤ a.f1 ∧ a.f1 ≤ 4096) (acc : List UInt8) (ha : acc.length ≤ 900000000) : ((word_Text.f (IntKind.u32.wrap a.f1)).bind fun t => Ext.lineT 0 [⟨#[97, 114, 114, 97, 121, 32]⟩, a.f0, ⟨#[91]⟩, t, ⟨#[93, 59]⟩] acc) = some (acc ++ arrX a) ∧ (arrX a).length ≤ 60 := by
  have e1 : IntKind.u32.wrap a.f1 = a.f1 := by
    show a.f1 % _ = a.f1
    simp only [IntKind.bits]
    omega
  have hd := Lib.nDigits_le20 a.f1.toNat (by omega)
  have hs := h.1.size
  have e : ([⟨#[97, 114, 114, 97, 121, 32]⟩, a.f0, ⟨#[91]⟩, T (Lib.decDigits a.f1.toNat), ⟨#[93, 59]⟩] : List ByteArray).map B = [[97, 114, 114, 97, 121, 32], B a.f0, [91], Lib.decDigits a.f1.toNat, [93, 59]] := by simp [B_T]
  have hlen : (arrX a).length ≤ 60 := by
    unfold arrX
    rw [lineX_len]
    simp only [List.map_cons, List.map_nil, List.sum_cons, List.sum_nil, List.length_cons, List.length_nil, Lib.decDigits_length]
    have : (B a.f0).length = a.f0.size := rfl
    omega
  refine ⟨?_, hlen⟩
  rw [e1, text_f (by omega) (by omega), Option.bind_some]
  have := line_ev 0 [⟨#[97, 114, 114, 97, 121, 32]⟩, a.f0, ⟨#[91]⟩, T (Lib.decDigits a.f1.toNat), ⟨#[93, 59]⟩] acc (by omega) (by rw [e]; unfold arrX at hlen; omega)
  rw [e] at this
  exact this
theorem arrs_ev : ∀ (l : List S59), (∀ a ∈ l, NameOk a.f0 ∧ 1 ≤ a.f1 ∧ a.f1 ≤ 4096) → ∀ acc : List UInt8, acc.length + 60 * l.length ≤ 900000000 → Ext.arrsT l acc = some (acc ++ arrsX l) ∧ (arrsX l).length ≤ 60 * l.length
  | [], _, acc, _ => by simp [Ext.arrsT, arrsX]
  | a :: l, h, acc, hacc => by
    rw [List.length_cons] at hacc
    obtain ⟨h1, h2⟩ := arr_ev (h a (by simp)) acc (by omega)
    have e : arrsX (a :: l) = arrX a ++ arrsX l := by simp [arrsX]
    obtain ⟨h3, h4⟩ := arrs_ev l (fun b hb => h b (by simp [hb])) (acc ++ arrX a) (by rw [List.length_append]; omega)
    refine ⟨?_, by rw [e, List.length_append, List.length_cons]; omega⟩
    simp only [Ext.arrsT]
    rw [h1, Option.bind_some, h3, e, List.append_assoc]
theorem endS_B (wd : Bool) : B (Ext.endS wd) = endX wd := by cases wd <;> rfl
theorem fun_ev {f : S45} (h : RF f) (hc : cF f ≤ 900) (acc : List UInt8) (ha : acc.length ≤ 100000000) : Ev (fun k => Ext.funcT k f acc) (acc ++ funX f) ∧ (funX f).length ≤ 100 + 200 * cF f := by
  unfold cF at hc
  have hn := h.name.size
  have h1 := namesX_len h.params
  have h2 := varsX_len (n := 1) h.locals
  have each : ∀ y ∈ f.f4, cS y ≤ cSs f.f4 := fun y hy => by rw [cSs_sum]; exact le_sum cS hy
  have h3 := stsX_len (n := 1) (l := f.f4) fun x hx => stX_len (h.body x hx) 1 rfl
  have he : (endX f.f3).length ≤ 8 := by cases f.f3 <;> decide
  have hh : (headX f).length ≤ 40 + 22 * f.f1.length := by
    unfold headX
    rw [lineX_len]
    simp only [List.map_cons, List.map_nil, List.sum_cons, List.sum_nil, List.length_cons, List.length_nil]
    have : (B f.f0).length = f.f0.size := rfl
    omega
  have e : ([⟨#[102, 117, 110, 99, 32]⟩, f.f0, ⟨#[40]⟩, T (namesX f.f1), Ext.endS f.f3] : List ByteArray).map B = [[102, 117, 110, 99, 32], B f.f0, [40], namesX f.f1, endX f.f3] := by simp [B_T, endS_B]
  constructor
  · unfold Ext.funcT funX
    rw [names_ev h.params (by omega)]
    have l1 := line_ev 0 [⟨#[102, 117, 110, 99, 32]⟩, f.f0, ⟨#[40]⟩, T (namesX f.f1), Ext.endS f.f3] acc (by omega) (by rw [e]; unfold headX at hh; omega)
    rw [e] at l1
    simp only [Option.bind_some]
    refine Ev.bind (Ev.const fun _ => l1) (Ev.bind (Ev.const fun _ => vars_ev (n := 1) h.locals (by omega) (by omega) _ (by rw [List.length_append]; unfold headX at hh; omega)) (Ev.bind (stmts_ev (n := 1) (fun x hx => stmt_ev (h.body x hx) 1 rfl (by have := each x hx; omega)) (fun x hx => stX_len (h.body x hx) 1 rfl) _ ?_) ((line_at (P := [[125]]) (n := 0) (by simp) (by omega) ?_).cast ?_)))
    · rw [List.length_append, List.length_append]; unfold headX at hh; omega
    · have l2 : (lineX 0 [[125]]).length = 2 := by rw [lineX_len]; rfl
      rw [List.length_append, List.length_append, List.length_append, l2]; unfold headX at hh; omega
    · simp only [List.append_assoc]
      rfl
  · unfold funX
    rw [List.length_append, List.length_append, List.length_append, lineX_len]
    unfold cF
    simp
    omega
theorem funs_ev : ∀ (l : List S45), (∀ f ∈ l, RF f) → inF l ≤ 900 → l.length ≤ 1000 → ∀ acc : List UInt8, acc.length + 100 * l.length + 200 * inF l ≤ 100000000 → Ev (fun k => Ext.funcsT k l acc) (acc ++ funsX l)
  | [], _, _, _, acc, _ => by
    simp only [Ext.funcsT, funsX, List.map_nil, List.flatten_nil, List.append_nil]
    exact Ev.some _
  | f :: l, h, hc, hl, acc, hacc => by
    have ec : inF (f :: l) = cF f + inF l := by simp [inF]
    have e : funsX (f :: l) = funX f ++ funsX l := by simp [funsX]
    rw [ec] at hc hacc
    rw [List.length_cons] at hl hacc
    obtain ⟨h1, h2⟩ := fun_ev (h f (by simp)) (by omega) acc (by omega)
    simp only [Ext.funcsT]
    refine Ev.bind h1 ((funs_ev l (fun g hg => h g (by simp [hg])) (by omega) (by omega) (acc ++ funX f) (by rw [List.length_append]; omega)).cast ?_)
    rw [e, List.append_assoc]
theorem progX_ne {vars : List ByteArray} {arrs : List S59} {funcs : List S45} (h : funcs ≠ []) : progX vars arrs funcs ≠ [] := by
  cases funcs with
  | nil => exact absurd rfl h
  | cons f l =>
    intro he
    unfold progX funsX at he
    have := (List.append_eq_nil_iff.mp he).2
    rw [List.map_cons, List.flatten_cons] at this
    have := (List.append_eq_nil_iff.mp this).1
    unfold funX at this
    have := (List.append_eq_nil_iff.mp this).2
    have h2 := congrArg List.length this
    rw [lineX_len] at h2
    simp at h2
theorem print_ev {vars : List ByteArray} {arrs : List S59} {funcs : List S45} (h : RP vars arrs funcs) (hc : parts vars arrs funcs < 400) : Ev (fun k => Ext.syntax_Print.f k vars arrs funcs) (T (progX vars arrs funcs)) := by
  unfold parts at hc
  have v := vars_ev (n := 0) h.rvars (by omega) (by omega) [] (by simp)
  have vl := varsX_len (n := 0) h.rvars
  obtain ⟨a, al⟩ := arrs_ev arrs h.rarrs ([] ++ varsX 0 vars) (by simp; omega)
  unfold Ext.syntax_Print.f
  refine Ev.bind (Ev.const fun _ => v) (Ev.bind (Ev.const fun _ => a) (Ev.bind (funs_ev funcs h.rfuncs (by omega) (by omega) _ (by simp; omega)) ?_))
  have e : [] ++ varsX 0 vars ++ arrsX arrs ++ funsX funcs = progX vars arrs funcs := by simp [progX]
  rw [e]
  exact Ev.const fun _ => by rw [if_neg (progX_ne h.some)]; rfl
end Go.Proofs.YthnhdompfhkepaaDoor.Pure
