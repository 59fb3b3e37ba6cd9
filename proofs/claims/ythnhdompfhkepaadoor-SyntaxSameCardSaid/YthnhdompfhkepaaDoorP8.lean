/- The texts of statements and programs that may be, and that syntax.Print answers them. -/
import Derived.Test.YthnhdompfhkepaaDoorP7
namespace Go.Proofs.YthnhdompfhkepaaDoor.Pure
open Go Go.RowKit Go.Proofs.YthnhdompfhkepaaDoor.Q Go.Proofs.YthnhdompfhkepaaDoorW.PrintWords Go.Proofs.YthnhdompfhkepaaDoorW.PrintMore
def lineX (n : Nat) (parts : List (List UInt8)) : List UInt8 := Lib.repeatL [32, 32] n ++ parts.flatten ++ [10]
theorem lineX_len (n : Nat) (parts : List (List UInt8)) : (lineX n parts).length = 2 * n + (parts.map List.length).sum + 1 := by
  unfold lineX
  rw [List.length_append, List.length_append, Ext.repeat_len, List.length_flatten]
  rfl
theorem line_ev (n : Nat) (parts : List ByteArray) (acc : List UInt8) (hn : n ≤ 1000) (h : acc.length + (lineX n (parts.map B)).length ≤ 1000000000) : Ext.lineT (n : Int) parts acc = some (acc ++ lineX n (parts.map B)) := by
  rw [lineX_len] at h
  have e : ((parts.map B).map List.length) = parts.map (·.size) := by
    rw [List.map_map]
    rfl
  rw [e] at h
  unfold Ext.lineT
  rw [if_pos ⟨by omega, by omega, by rw [Int.toNat_natCast]; omega⟩]
  unfold lineX
  rw [Int.toNat_natCast]
  congr 1
  simp only [List.append_assoc, List.flatMap_def]
mutual
def stX : Nat → S43 → List UInt8
  | n, ⟨f0, f1, e, t, f⟩ =>
    if f0 = 1 then lineX n [B f1, [32, 61, 32], (e.map exT).headD [], [59]]
    else if f0 = 2 then lineX n [B f1, [91], (e.map exT).headD [], [93, 32, 61, 32], (e.map exT).tail.headD [], [59]]
    else if f0 = 3 then lineX n [[112, 117, 116, 40], (e.map exT).headD [], [41, 59]]
    else if f0 = 6 then lineX n [B f1, [40], joinT (e.map exT), [41, 59]]
    else if f0 = 7 then (if e = [] then lineX n [[114, 101, 116, 117, 114, 110, 59]] else lineX n [[114, 101, 116, 117, 114, 110, 32], (e.map exT).headD [], [59]])
    else if f0 = 5 then lineX n [[119, 104, 105, 108, 101, 32, 40], (e.map exT).headD [], [41, 32, 123]] ++ stsX (n + 1) t ++ lineX n [[125]]
    else lineX n [[105, 102, 32, 40], (e.map exT).headD [], [41, 32, 123]] ++ stsX (n + 1) t ++ (if f = [] then [] else lineX n [[125, 32, 101, 108, 115, 101, 32, 123]] ++ stsX (n + 1) f) ++ lineX n [[125]]
def stsX : Nat → List S43 → List UInt8
  | _, [] => []
  | n, x :: l => stX n x ++ stsX n l
end
section
variable (n : Nat) (s : ByteArray) (a b : S36) (l : List S36) (t f : List S43)
theorem stX_set : stX n ⟨1, s, [a], [], []⟩ = lineX n [B s, [32, 61, 32], exT a, [59]] := by simp [stX]
theorem stX_store : stX n ⟨2, s, [a, b], [], []⟩ = lineX n [B s, [91], exT a, [93, 32, 61, 32], exT b, [59]] := by simp [stX]
theorem stX_put : stX n ⟨3, noName, [a], [], []⟩ = lineX n [[112, 117, 116, 40], exT a, [41, 59]] := by simp [stX]
theorem stX_call : stX n ⟨6, s, l, [], []⟩ = lineX n [B s, [40], joinT (l.map exT), [41, 59]] := by simp [stX]
theorem stX_ret0 : stX n ⟨7, noName, [], [], []⟩ = lineX n [[114, 101, 116, 117, 114, 110, 59]] := by simp [stX]
theorem stX_ret : stX n ⟨7, noName, [a], [], []⟩ = lineX n [[114, 101, 116, 117, 114, 110, 32], exT a, [59]] := by simp [stX]
theorem stX_loop : stX n ⟨5, noName, [a], t, []⟩ = lineX n [[119, 104, 105, 108, 101, 32, 40], exT a, [41, 32, 123]] ++ stsX (n + 1) t ++ lineX n [[125]] := by simp [stX]
theorem stX_cond : stX n ⟨4, noName, [a], t, f⟩ = lineX n [[105, 102, 32, 40], exT a, [41, 32, 123]] ++ stsX (n + 1) t ++ (if f = [] then [] else lineX n [[125, 32, 101, 108, 115, 101, 32, 123]] ++ stsX (n + 1) f) ++ lineX n [[125]] := by simp [stX]
end
theorem stsX_eq (n : Nat) (l : List S43) : stsX n l = (l.map (stX n)).flatten := by
  induction l with
  | nil => rfl
  | cons a l ih => simp [stsX, ih]
theorem stsX_len {n : Nat} {l : List S43} (h : ∀ x ∈ l, (stX n x).length ≤ 200 * cS x) : (stsX n l).length ≤ 200 * cSs l := by
  induction l with
  | nil => simp [stsX, cSs]
  | cons a l ih =>
    have h1 := h a (by simp)
    have h2 := ih fun x hx => h x (by simp [hx])
    simp only [stsX, cSs, List.length_append]
    omega
theorem stX_len {lv : Int} {x : S43} (h : RS lv x) : ∀ n : Nat, lv = n → (stX n x).length ≤ 200 * cS x := by
  induction h with
  | set lv s e h0 h1 hs he => intro n hn; rw [stX_set, lineX_len]; have := exT_len he; have := hs.size; simp [cS, cSs, cEs] at *; omega
  | store lv s a b h0 h1 hs ha hb => intro n hn; rw [stX_store, lineX_len]; have := exT_len ha; have := exT_len hb; have := hs.size; simp [cS, cSs, cEs] at *; omega
  | put lv e h0 h1 he => intro n hn; rw [stX_put, lineX_len]; have := exT_len he; simp [cS, cSs, cEs] at *; omega
  | cond lv e t f h0 h1 he _ _ it jf =>
    intro n hn
    rw [stX_cond]
    have h1' := exT_len he
    have h2 := stsX_len (n := n + 1) fun x hx => it x hx (n + 1) (by omega)
    have h3 := stsX_len (n := n + 1) fun x hx => jf x hx (n + 1) (by omega)
    have h4 : (if f = [] then [] else lineX n [[125, 32, 101, 108, 115, 101, 32, 123]] ++ stsX (n + 1) f).length ≤ 2 * n + 9 + 200 * cSs f := by
      split
      · simp
      · rw [List.length_append, lineX_len]
        simp
        omega
    rw [List.length_append, List.length_append, List.length_append, lineX_len, lineX_len]
    simp only [cS, cEs, List.map_cons, List.map_nil, List.sum_cons, List.sum_nil, List.length_cons, List.length_nil]
    omega
  | loop lv e t h0 h1 he _ it =>
    intro n hn
    rw [stX_loop]
    have h1' := exT_len he
    have h2 := stsX_len (n := n + 1) fun x hx => it x hx (n + 1) (by omega)
    rw [List.length_append, List.length_append, lineX_len, lineX_len]
    simp only [cS, cEs, cSs, List.map_cons, List.map_nil, List.sum_cons, List.sum_nil, List.length_cons, List.length_nil]
    omega
  | call lv s l h0 h1 hs hl he =>
    intro n hn
    rw [stX_call, lineX_len]
    have hx : RE ⟨4, 0, 0, s, l⟩ := .call s l hs hl he
    have lx := exT_len hx
    rw [exT_call] at lx
    simp only [cE, List.length_append, List.length_cons, List.length_nil] at lx
    simp only [cS, cSs, List.map_cons, List.map_nil, List.sum_cons, List.sum_nil, List.length_cons, List.length_nil]
    omega
  | ret0 lv h0 h1 => intro n hn; rw [stX_ret0, lineX_len]; simp [cS, cSs, cEs]; omega
  | ret lv e h0 h1 he => intro n hn; rw [stX_ret, lineX_len]; have := exT_len he; simp [cS, cSs, cEs] at *; omega
theorem exAt0 {a : S36} {l : List S36} (h : EvE a) : Ev (fun k => Ext.exAt k (a :: l) 0) (T (exT a)) := by
  have r0 : rd_T36 (a :: l) 0 = a := rfl
  unfold Ext.exAt
  simp only [r0]
  exact Ev.pos (by simp) h
theorem exAt1 {a b : S36} (h : EvE b) : Ev (fun k => Ext.exAt k [a, b] 1) (T (exT b)) := by
  have r0 : rd_T36 [a, b] 1 = b := rfl
  unfold Ext.exAt
  simp only [r0]
  exact Ev.pos (by simp) h
/-- what stmt leaves of acc -/
def EvS (n : Nat) (x : S43) : Prop := ∀ acc : List UInt8, acc.length + 200 * cS x ≤ 900000000 → Ev (fun k => Ext.stmtT k (n : Int) x.f0 x.f1 x.f2 x.f3 x.f4 acc) (acc ++ stX n x)
theorem stmts_ev {n : Nat} : ∀ {l : List S43}, (∀ x ∈ l, EvS n x) → (∀ x ∈ l, (stX n x).length ≤ 200 * cS x) → ∀ acc : List UInt8, acc.length + 200 * cSs l ≤ 900000000 → Ev (fun k => Ext.stmtsT k (n : Int) l acc) (acc ++ stsX n l)
  | [], _, _, acc, _ => by
    refine Ev.succ ?_
    simp only [Ext.stmtsT, stsX, List.append_nil]
    exact Ev.some _
  | x :: l, h, hl, acc, hacc => by
    refine Ev.succ ?_
    simp only [cSs] at hacc
    have h1 := hl x (by simp)
    simp only [Ext.stmtsT, stsX]
    refine Ev.bind (h x (by simp) acc (by omega)) ?_
    rw [← List.append_assoc]
    exact stmts_ev (fun y hy => h y (by simp [hy])) (fun y hy => hl y (by simp [hy])) _ (by rw [List.length_append]; omega)
end Go.Proofs.YthnhdompfhkepaaDoor.Pure
