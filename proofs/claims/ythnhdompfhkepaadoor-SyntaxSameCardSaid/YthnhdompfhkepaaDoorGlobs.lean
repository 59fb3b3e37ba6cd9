/- The package's tables of strings (laid): what a world says that holds them; with the table of strconv.FormatUint, one premise. -/
import Derived.Test.YthnhdompfhkepaaDoorFUint
import Derived.Test.YthnhdompfhkepaaDoorW
import Derived.Below
namespace Go.Proofs.YthnhdompfhkepaaDoor.Ext
open Go Go.RowKit Go.Proofs.YthnhdompfhkepaaDoorW.PrintWords Go.Proofs.YthnhdompfhkepaaDoorW.PrintLast
def mk (n b : Nat) : Array Bool := ((List.range n).map fun i => b.testBit i).toArray
theorem ne_nil (l : List UInt8) : (l != []) = !l.isEmpty := by cases l <;> rfl
def wordsL : List ByteArray := [⟨#[118, 97, 114]⟩, ⟨#[97, 114, 114, 97, 121]⟩, ⟨#[102, 117, 110, 99]⟩, ⟨#[119, 111, 114, 100]⟩, ⟨#[105, 102]⟩, ⟨#[101, 108, 115, 101]⟩, ⟨#[119, 104, 105, 108, 101]⟩, ⟨#[114, 101, 116, 117, 114, 110]⟩, ⟨#[112, 117, 116]⟩, ⟨#[103, 101, 116]⟩]
def signsL : List ByteArray := [⟨#[43]⟩, ⟨#[45]⟩, ⟨#[42]⟩, ⟨#[47]⟩, ⟨#[37]⟩, ⟨#[38]⟩, ⟨#[124]⟩, ⟨#[94]⟩, ⟨#[60, 60]⟩, ⟨#[62, 62]⟩, ⟨#[60]⟩, ⟨#[61, 61]⟩]
def Table (g : Nat) (l : List ByteArray) (w : World) : Prop := ∃ t f, w.heap[g]? = some (.cells (l.map Value.string).toArray t f)
theorem Table.below {g : Nat} {l : List ByteArray} {w w' : World} (h : Table g l w) (hb : Below w.heap.size w w') : Table g l w' := by
  obtain ⟨t, f, h⟩ := h
  exact ⟨t, f, (hb.block g (Array.getElem?_eq_some_iff.1 h).1).trans h⟩
theorem Table.reads {g : Nat} {l : List ByteArray} {w : World} (h : Table g l w) (hl : l.length ≤ 1000) : Kd.C Kd.string w (some ⟨g, 0, none⟩) l.length l := by
  obtain ⟨t, f, h⟩ := h
  refine Kd.C_of_reads (d := (⟨#[]⟩ : ByteArray)) (h1 := fun _ => rfl) ⟨rfl, by omega, fun _ => ⟨_, rfl, fun j hj => ?_⟩⟩
  rw [add_plain]
  simp [World.cell?, h, hj, List.getD_eq_getElem?_getD]
theorem w_tt {s : ByteArray} (h : (true = !s.toList.isEmpty) = True) : (s.toList = []) = False := by
  apply eq_false
  intro h_
  rw [h_] at h
  exact absurd (of_eq_true h) (by decide)
theorem w_ft {s : ByteArray} (h : (false = !s.toList.isEmpty) = True) : (s.toList = []) = True := by
  apply eq_true
  have h := of_eq_true h
  cases hs : s.toList with
  | nil => rfl
  | cons a l => rw [hs] at h; exact absurd h (by simp)
theorem w_tf {s : ByteArray} (h : (true = !s.toList.isEmpty) = False) : (s.toList = []) = True := by
  apply eq_true
  have h := of_eq_false h
  cases hs : s.toList with
  | nil => rfl
  | cons a l => rw [hs] at h; exact absurd (show true = !(a :: l).isEmpty from rfl) h
theorem w_ff {s : ByteArray} (h : (false = !s.toList.isEmpty) = False) : (s.toList = []) = False := by
  apply eq_false
  intro h_
  rw [h_] at h
  exact absurd rfl (of_eq_false h)
def TAB (w : World) : Prop := TABU w ∧ Table 1 wordsL w ∧ Table 0 signsL w
theorem TAB.below {w w' : World} (h : TAB w) (hb : Below w.heap.size w w') : TAB w' := ⟨h.1.below hb, h.2.1.below hb, h.2.2.below hb⟩
theorem wordsL_C {w : World} (h : TAB w) : Kd.C Kd.string w (some ⟨1, 0, none⟩) wordsL.length wordsL := h.2.1.reads (by decide)
theorem signsL_C {w : World} (h : TAB w) : Kd.C Kd.string w (some ⟨0, 0, none⟩) signsL.length signsL := h.2.2.reads (by decide)
theorem strconv_FormatUint.calls (a0 a1 : Int) (r : ByteArray) (w : World) (hT : TAB w) (h : strconv_FormatUint.f a0 a1 = some r) :
    Calls Tryd.prog 62 #[.int .u64 a0, .int .i64 a1] w fun e w' => e = .returned (.string r) ∧ Below w.heap.size w w' := strconv_FormatUint.calls_u a0 a1 r w hT.1 h
end Go.Proofs.YthnhdompfhkepaaDoor.Ext
