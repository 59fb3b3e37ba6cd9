/- The texts of expressions that may be. -/
import Derived.Test.YthnhdompfhkepaaDoorCEv
import Derived.Test.YthnhdompfhkepaaDoorPrint
import Derived.Lib.ItoaLen
namespace Go.Proofs.YthnhdompfhkepaaDoor.Pure
open Go Go.RowKit Go.Proofs.YthnhdompfhkepaaDoor.Q Go.Proofs.YthnhdompfhkepaaDoorW.PrintWords Go.Proofs.YthnhdompfhkepaaDoorW.PrintMore
abbrev B (s : ByteArray) : List UInt8 := s.data.toList
def joinT (l : List (List UInt8)) : List UInt8 := Lib.join l [44, 32]
def signT (o : Int) : List UInt8 := B (Ext.signsL.getD (o - 4).toNat ByteArray.empty)
mutual
def exT : S36 → List UInt8
  | ⟨f0, f1, f2, f3, l⟩ =>
    if f0 = 1 then Lib.decDigits f2.toNat
    else if f0 = 2 then B f3
    else if f0 = 3 then B f3 ++ [91] ++ (exTs l).headD [] ++ [93]
    else if f0 = 4 then B f3 ++ [40] ++ joinT (exTs l) ++ [41]
    else if f0 = 5 then [103, 101, 116, 40, 41]
    else if f0 = 6 then [40] ++ (exTs l).headD [] ++ [32] ++ signT f1 ++ [32] ++ (exTs l).tail.headD [] ++ [41]
    else if f0 = 7 then [33] ++ (exTs l).headD []
    else if f0 = 8 then [40] ++ (exTs l).headD [] ++ [32] ++ [38, 38] ++ [32] ++ (exTs l).tail.headD [] ++ [41]
    else [40] ++ (exTs l).headD [] ++ [32] ++ [124, 124] ++ [32] ++ (exTs l).tail.headD [] ++ [41]
def exTs : List S36 → List (List UInt8)
  | [] => []
  | x :: l => exT x :: exTs l
end
theorem exTs_eq (l : List S36) : exTs l = l.map exT := by
  induction l with
  | nil => rfl
  | cons a l ih => simp [exTs, ih]
theorem exT_num (n : Int) : exT ⟨1, 0, n, noName, []⟩ = Lib.decDigits n.toNat := by simp [exT]
theorem exT_var (s : ByteArray) : exT ⟨2, 0, 0, s, []⟩ = B s := by simp [exT]
theorem exT_index (s : ByteArray) (a : S36) : exT ⟨3, 0, 0, s, [a]⟩ = B s ++ [91] ++ exT a ++ [93] := by simp [exT, exTs]
theorem exT_call (s : ByteArray) (l : List S36) : exT ⟨4, 0, 0, s, l⟩ = B s ++ [40] ++ joinT (l.map exT) ++ [41] := by simp [exT, exTs_eq]
theorem exT_get : exT ⟨5, 0, 0, noName, []⟩ = [103, 101, 116, 40, 41] := by simp [exT]
theorem exT_op (o : Int) (a b : S36) : exT ⟨6, o, 0, noName, [a, b]⟩ = [40] ++ exT a ++ [32] ++ signT o ++ [32] ++ exT b ++ [41] := by simp [exT, exTs]
theorem exT_not (a : S36) : exT ⟨7, 0, 0, noName, [a]⟩ = [33] ++ exT a := by simp [exT, exTs]
theorem exT_and (a b : S36) : exT ⟨8, 0, 0, noName, [a, b]⟩ = [40] ++ exT a ++ [32] ++ [38, 38] ++ [32] ++ exT b ++ [41] := by simp [exT, exTs]
theorem exT_or (a b : S36) : exT ⟨9, 0, 0, noName, [a, b]⟩ = [40] ++ exT a ++ [32] ++ [124, 124] ++ [32] ++ exT b ++ [41] := by simp [exT, exTs]
theorem name_len {s : ByteArray} (h : NameOk s) : (B s).length ≤ 20 := h.size
theorem joinT_len : ∀ l : List (List UInt8), (joinT l).length ≤ (l.map List.length).sum + 2 * l.length
  | [] => by simp [joinT, Lib.join_nil]
  | a :: l => by
    unfold joinT
    rw [Lib.join_cons, List.length_append]
    have : ∀ r : List (List UInt8), (Lib.joinTail [44, 32] r).length = (r.map List.length).sum + 2 * r.length := by
      intro r
      induction r with
      | nil => rfl
      | cons b r ih =>
        have e : Lib.joinTail [44, 32] (b :: r) = [44, 32] ++ b ++ Lib.joinTail [44, 32] r := by simp [Lib.joinTail]
        rw [e, List.length_append, ih]
        simp
        omega
    rw [this]
    simp
    omega
theorem sign_len {o : Int} (h : 4 ≤ o) (h' : o ≤ 15) : (signT o).length ≤ 2 := by
  have : o = 4 ∨ o = 5 ∨ o = 6 ∨ o = 7 ∨ o = 8 ∨ o = 9 ∨ o = 10 ∨ o = 11 ∨ o = 12 ∨ o = 13 ∨ o = 14 ∨ o = 15 := by omega
  rcases this with rfl | rfl | rfl | rfl | rfl | rfl | rfl | rfl | rfl | rfl | rfl | rfl <;> decide
theorem cEs_sum (l : List S36) : cEs l = (l.map cE).sum := by
  induction l with
  | nil => rfl
  | cons a l ih => simp [cEs, ih]
theorem exT_len {x : S36} (h : RE x) : (exT x).length ≤ 40 * cE x := by
  induction h with
  | num n h0 h1 =>
    rw [exT_num, Lib.decDigits_length]
    have := Lib.nDigits_le20 n.toNat (by omega)
    simp [cE, cEs]
    omega
  | var s h => rw [exT_var]; have := h.size; simp [cE, cEs]; omega
  | index s a h _ ih => rw [exT_index]; have := name_len h; simp [cE, cEs] at *; omega
  | call s l h hl hall ih =>
    rw [exT_call]
    have h1 := name_len h
    have h2 := joinT_len (l.map exT)
    have h3 : ((l.map exT).map List.length).sum ≤ 40 * cEs l := by
      clear h2 hl hall
      induction l with
      | nil => simp [cEs]
      | cons a l il =>
        have e1 := ih a (by simp)
        have e2 := il (fun y hy => ih y (by simp [hy]))
        simp only [List.map_cons, List.sum_cons, cEs] at *
        omega
    simp only [List.length_append, List.length_map, List.length_cons, List.length_nil, cE] at *
    omega
  | get => rw [exT_get]; simp [cE, cEs]
  | op o a b h0 h1 _ _ ia ib => rw [exT_op]; have := sign_len h0 h1; simp [cE, cEs] at *; omega
  | not a _ ih => rw [exT_not]; simp [cE, cEs] at *; omega
  | and a b _ _ ia ib => rw [exT_and]; simp [cE, cEs] at *; omega
  | or a b _ _ ia ib => rw [exT_or]; simp [cE, cEs] at *; omega
def T (l : List UInt8) : ByteArray := ⟨l.toArray⟩
theorem T_app (a b : List UInt8) : T a ++ T b = T (a ++ b) := by
  apply ByteArray.ext
  show (T a ++ T b).data = _
  rw [ByteArray.data_append]
  simp [T]
theorem T_size (a : List UInt8) : (T a).size = a.length := by simp [T, ByteArray.size]
theorem T_B (s : ByteArray) : T (B s) = s := by cases s; simp [T, B]
theorem B_T (l : List UInt8) : B (T l) = l := by simp [T, B]
theorem text_f {n : Int} (h0 : 0 ≤ n) (h1 : n < 4294967296) : word_Text.f n = some (T (Lib.decDigits n.toNat)) := by
  have e : IntKind.u64.wrap n = n := by
    show n % _ = n
    simp only [IntKind.bits]
    omega
  unfold word_Text.f
  rw [e]
  unfold Ext.strconv_FormatUint.f
  rw [if_pos ⟨rfl, h0, by omega⟩]
  rfl
theorem join_f (l : List (List UInt8)) (h : l.length ≤ 1000) (hl : (joinT l).length ≤ 1000000) : Ext.strings_Join.f (l.map T) (⟨#[44, 32]⟩ : ByteArray) = some (T (joinT l)) := by
  have e : (l.map T).map (·.data.toList) = l := by
    rw [List.map_map]
    conv => rhs; rw [← List.map_id l]
    exact List.map_congr_left fun a _ => B_T a
  unfold Ext.strings_Join.f
  rw [e]
  have hj : Lib.join l (⟨#[44, 32]⟩ : ByteArray).data.toList = joinT l := rfl
  rw [hj, if_pos ⟨by rw [List.length_map]; omega, by omega⟩]
  rfl
end Go.Proofs.YthnhdompfhkepaaDoor.Pure
