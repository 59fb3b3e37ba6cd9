/- SyntaxSame: any two trees are alike just as the document says. Whatever the input, the answer is true, and the input reads as it did. Conditions: the card's own (the tables that the program's text lays). -/
import Derived.Test.YthnhdompfhkepaaDoorRows
import Derived.Test.YthnhdompfhkepaaDoorLSame
import Derived.Test.YthnhdompfhkepaaDoorRowOpen
import Derived.WalkKit
import Derived.ProofKit
import Derived.OpenShut
import Derived.ShutString
import Derived.ChangeOld
import Derived.Below
import Derived.Carry
import Derived.SizedLaws
import Derived.Test.YthnhdompfhkepaaDoorTie
import Derived.Test.YthnhdompfhkepaaDoorCards
import Derived.LaidMore
import Derived.MakeChecks
import Derived.LaidLaws
import Derived.SevenTiedAt
import Derived.Lib.LaidTab
import Derived.Stop.Joined
namespace Go.Proofs.YthnhdompfhkepaaDoor.syntaxSame
open Go.ChangeShapes Go.WideShapes Go.ChangeAt Go.RowKit
set_option linter.unusedVariables false
theorem own : ownKnob Tryd.prog.godebug = none := by kernel_rfl
theorem laidOut : laidOutB Tryd.prog = true := by kernel_rfl
def laidL : List (String × DataW Unit) := [("math/bits.deBruijn32tab", Rows.laid_math_bits_deBruijn32tab), ("math/bits.deBruijn64tab", Rows.laid_math_bits_deBruijn64tab), ("internal/strconv.uint64pow10", Rows.laid_internal_strconv_uint64pow10), ("seedcorn/token.words", Rows.laid_seedcorn_token_words), ("seedcorn/syntax.signs", Rows.laid_seedcorn_syntax_signs)]
theorem door_met (os : Os) (args : Array Value) : laidMetH Tryd.prog laidL ((World.doorLaid Tryd.prog 34 os).forCall (fun _ _ => 0) ⟨#[], args, []⟩).memory :=
  laidMetH_of_parts3 (fuel := 8) (laidMet_of_run' 8 (by kernel_rfl) (by kernel_rfl)) (by kernel_rfl) (by kernel_rfl)
/-- an array of strings, as a row lists it -/
def strData {H : Type} (zs : List ByteArray) : DataW H := .agg (zs.map fun z => .lit (.string z.data.toList))
theorem cells_of_strs {H : Type} {enc : TypeId × Value → H} {P : Program} {w : World} {base : Nat} {sp : Nat → Bool} {held : Bool} {fuel : Nat} {t e : TypeId} {n : Nat} {cs : List Value} {zs : List ByteArray} {p : List MemPlace}
    (ht : P.underlying t = some (.array n e)) (he : P.underlying e = some .string) (hce : P.cellsOf e = 1) (hct : P.cellsOf t = n)
    (h : DataW.trod enc P w base sp held fuel t cs = some (strData zs, p)) : cs = zs.map Value.string := by
  cases fuel with
  | zero => simp [DataW.trod] at h
  | succ fuel =>
    simp only [DataW.trod, ht, hce, hct, Nat.mul_one] at h
    split at h
    · rename_i hl
      obtain ⟨xs, hm, hx⟩ := Option.map_eq_some_iff.1 h
      have hxs : xs.map (·.1) = zs.map fun z => (DataW.lit (.string z.data.toList) : DataW H) := by
        have := congrArg Prod.fst hx
        simpa [strData] using this
      have hxl : xs.length = n := by simpa using Lib.mapM_length hm
      have hzl : zs.length = n := by
        have := congrArg List.length hxs
        simp at this
        omega
      apply List.ext_getElem?
      intro i
      by_cases hi : i < n
      · obtain ⟨b, hb, hf⟩ := Lib.mapM_at hm i i (by simp [hi])
        obtain ⟨z, hc, rfl, _⟩ := DataW.trod_string he hf
        have h1 : cs[i]? = some (.string z) := by
          have := congrArg (·[0]?) hc
          simpa [List.getElem?_take, List.getElem?_drop] using this
        have h2 : (xs.map (·.1))[i]? = some (DataW.lit (.string z.data.toList) : DataW H) := by simp [hb]
        rw [hxs] at h2
        simp only [List.getElem?_map, Option.map_eq_some_iff, DataW.lit.injEq, Lit.string.injEq] at h2
        obtain ⟨z', hz', e2⟩ := h2
        have e3 : z' = z := ByteArray.ext (Array.toList_inj.mp e2)
        simp [h1, hz', e3]
      · rw [List.getElem?_eq_none (by omega), List.getElem?_eq_none (by simp; omega)]
    · cases h
theorem table_of {W : World} {s : String} {k : Nat} {n : Nat} {zs : List ByteArray} {cs : Array Value} {t : TypeId} {f : Nat} {p : List MemPlace} (hg : Tryd.prog.globalNamed s = some k) (ht : Tryd.prog.underlying t = some (.array n 9)) (hct : Tryd.prog.cellsOf t = n) (hv : W.var? Tryd.prog s = some cs)
    (hd : DataW.trod (fun _ => ()) Tryd.prog W 0 (fun _ => true) false f t cs.toList = some (strData zs, p)) : Ext.Table k zs W := by
  have e := cells_of_strs ht Tryd.underlying9 (by kernel_rfl) hct hd
  unfold World.var? at hv
  rw [hg] at hv
  simp only [Option.bind_some] at hv
  cases hh : W.heap[k]? with
  | none => rw [hh] at hv; cases hv
  | some o =>
    rw [hh] at hv
    cases o with
    | cells c u fr =>
      simp only [Option.some.injEq] at hv
      subst hv
      exact ⟨u, fr, by rw [hh, ← e]⟩
    | _ => cases hv
theorem tab_of_laid {W : World} (h : laidMetH Tryd.prog laidL W) : Ext.TAB W := by
  rw [MakeChecks.laidMetH_plain _ _ _ (by kernel_rfl)] at h
  obtain ⟨_, ⟨_, _, _, _, _, _, _, _, _, _, ⟨_, _, _, _, _, _, _, _, _, _, ⟨g, t, cs, f, p, q, hg, ht, hv, hd, ⟨g3, t3, cs3, f3, p3, q3, hg3, ht3, hv3, hd3, ⟨g2, t2, cs2, f2, p2, q2, hg2, ht2, hv2, hd2, _, _⟩, _⟩, _⟩, _⟩, _⟩, _⟩ := h
  obtain rfl := Option.some.inj ((show Tryd.prog.globalNamed "internal/strconv.uint64pow10" = some 3 by kernel_rfl).symm.trans hg)
  obtain rfl := Option.some.inj ((show (Tryd.prog.globals[3]?).map (·.type) = some 126 by kernel_rfl).symm.trans ht)
  obtain rfl := Option.some.inj ((show Tryd.prog.globalNamed "seedcorn/token.words" = some 1 by kernel_rfl).symm.trans hg3)
  obtain rfl := Option.some.inj ((show (Tryd.prog.globals[1]?).map (·.type) = some 110 by kernel_rfl).symm.trans ht3)
  obtain rfl := Option.some.inj ((show Tryd.prog.globalNamed "seedcorn/syntax.signs" = some 0 by kernel_rfl).symm.trans hg2)
  obtain rfl := Option.some.inj ((show (Tryd.prog.globals[0]?).map (·.type) = some 78 by kernel_rfl).symm.trans ht2)
  have hd' : DataW.trod (fun _ => ()) Tryd.prog W 0 (fun _ => true) false f 126 cs.toList = some (Lib.tabData .u64 Lib.pow10Tab, p) := hd
  have hd3' : DataW.trod (fun _ => ()) Tryd.prog W 0 (fun _ => true) false f3 110 cs3.toList = some (strData Ext.wordsL, p3) := hd3
  have hd2' : DataW.trod (fun _ => ()) Tryd.prog W 0 (fun _ => true) false f2 78 cs2.toList = some (strData Ext.signsL, p2) := hd2
  refine ⟨?_, table_of (by kernel_rfl) Tryd.underlying110 (by kernel_rfl) hv3 hd3', table_of (by kernel_rfl) Tryd.underlying78 (by kernel_rfl) hv2 hd2'⟩
  unfold Ext.TABU Lib.TabIs
  rw [hv, ← Lib.cells_of_tab Tryd.underlying126 Tryd.underlying88 (by kernel_rfl) (by kernel_rfl) hd']
theorem sized_at {H : Type} {P : Program} {ts : List TypeId} {ds : List (DataW H)} (h : (DataW.weightsEach P ts ds).all (· ≤ reachBytes) = true) {j : Nat} {t : TypeId} {d : DataW H} (ht : ts[j]? = some t) (hd : ds[j]? = some d) : ∀ q ∈ d.weights P t, q ≤ reachBytes := fun q hq => by
  have := List.all_eq_true.1 h q (DataW.weights_mem_each ht hd q hq)
  simpa using this
set_option maxRecDepth 100000 in
theorem lifted (os : Os) (started : os.Started) (H : Type) (enc : TypeId × Value → H) :
    ReturnsInHanded {} Tryd.checked os 5 .any (fun w args => (Rows.syntaxSameSpec.pre enc Tryd.prog Tryd.f5 [] false w args ∧ laidMetH Tryd.prog laidL w) ∧ sizedMet enc Tryd.prog Tryd.f5 (OpenSpec.ofChange Rows.syntaxSameSpec) false w args) (Rows.syntaxSameSpec.post enc Tryd.prog Tryd.f5 false true false false) := by
  refine returnsInHanded_of_change_and (C := Tryd.checked) (X := fun w _ => laidMetH Tryd.prog laidL w) (fun _ _ _ hh h => h.of_heap hh) own started (by kernel_rfl) Tryd.func5
    (ChangeSpec.witness_shaped (enc := enc) (C := Tryd.checked) (os := os) (X := fun w _ => laidMetH Tryd.prog laidL w) false (World.doorLaid Tryd.prog 34 os) #[.agg #[.slice none 0 0, .slice none 0 0, .slice none 0 0], .agg #[.slice none 0 0, .slice none 0 0, .slice none 0 0]] 8 rfl (World.shaped_of_RefB (by kernel_rfl) (by kernel_rfl)) (by kernel_rfl) (by kernel_rfl) (by kernel_rfl) (door_met os _)) ?_
  intro W base args ds gs before hval0 hW hcnd hsz0 hL _
  have hT : Ext.TAB W := tab_of_laid hL
  have hsz : (DataW.weightsEach Tryd.prog (Tryd.f5.params.toList ++ Rows.syntaxSameSpec.plain.varTypes Tryd.prog) (ds ++ gs)).all (· ≤ reachBytes) = true := hsz0
  have hW' := hW
  obtain ⟨p, q, hA0, hV, rfl, hfz, hnd⟩ := hW
  have hA : DataW.TrodAll enc Tryd.prog W 0 (fun _ => true) true Tryd.f5.params.toList args.toList ds p := hA0
  rw [Tryd.params5] at hA hsz
  obtain ⟨v0, vs0, d0, ds0, p0, q0, hargs, rfl, rfl, h0, r0⟩ := trodAll_cons hA
  obtain ⟨v1, vs1, d1, ds1, p1, q1, rfl, rfl, rfl, h1, r1⟩ := trodAll_cons r0
  obtain ⟨rfl, rfl, rfl⟩ := trodAll_nil r1
  obtain rfl : args = #[v0, v1] := by cases args; simp_all
  obtain ⟨rfl, rfl⟩ := trodVars_none hV
  have k0 := h0
  have k1 := h1
  have lt0 : ∀ x ∈ p0, x.block < W.heap.size := by obtain ⟨m, hm⟩ := k0; exact DataW.trod_lt m _ _ _ hm
  have lt1 : ∀ x ∈ p1, x.block < W.heap.size := by obtain ⟨m, hm⟩ := k1; exact DataW.trod_lt m _ _ _ hm
  obtain ⟨A00, c00, l00, A01, c01, l01, A02, c02, l02, rfl, a00, a01, a02, a03, a04, a05, ok0⟩ := Pure.openP h0 (sized_at hsz (j := 0) rfl rfl)
  obtain ⟨A10, c10, l10, A11, c11, l11, A12, c12, l12, rfl, a10, a11, a12, a13, a14, a15, ok1⟩ := Pure.openP h1 (sized_at hsz (j := 1) rfl rfl)
  clear hA0 hval0 hsz0 hsz
  refine (Pure.syntaxSame_c ok0 A00 c00 A01 c01 A02 c02 ok1 A10 c10 A11 c11 A12 c12 W ⟨⟨a00, a01⟩, ⟨a02, a03⟩, a04, a05⟩ ⟨⟨a10, a11⟩, ⟨a12, a13⟩, a14, a15⟩ hT).mono fun e W' ⟨he, bel⟩ => ?_
  subst he
  exact ⟨_, rfl, _, _, _, [], _, [], hW', trodAll_mk1 (shut_bool Tryd.underlying4 _), (trodAll_cons_mk (Below.trod laidOut (by kernel_rfl) (of_decide_eq_true (by kernel_rfl)) k0 bel lt0) (trodAll_cons_mk (Below.trod laidOut (by kernel_rfl) (of_decide_eq_true (by kernel_rfl)) k1 bel lt1) trodAll_mk0)), rfl, bel.frame _, fun h => by cases h⟩
theorem over : Rows.syntaxSameRow.holds Tryd.pinned (OpenSpec.ofChange Rows.syntaxSameSpec) :=
  OpenClaim.holds_of_wide 5 Tryd.f5 rfl rfl rfl rfl rfl rfl rfl ⟨rfl, rfl, rfl, rfl, rfl⟩ rfl rfl rfl rfl rfl (by kernel_rfl) Tryd.func5 (by kernel_rfl)
    (of_decide_eq_true (by kernel_rfl)) (by unfold Func.isWrapper; first | (rw [if_pos (by decide +kernel)]; kernel_rfl) | (rw [if_neg (by decide +kernel)]; exact ⟨rfl, rfl⟩))
    (fun os started H enc _ => lifted os started H enc)
theorem card_proved : Rows.SyntaxSameCardSaid :=
  Claim7.holds_tied_plain_at .later [] [.data, .data, .data, .widerDeep, .data] true (true, "59ad70f75419b6fbb88d6fd35c37fc25434709807431c3d40c07e0cf8306f349") false
    over (fun _ h => by cases h) (by kernel_rfl) (fun _ h => by cases h) syntaxSame_row_tie rfl ⟨rfl, rfl⟩ (by kernel_rfl) rfl
    (fun f fn hf hfn => by
      obtain rfl : f = 5 := Option.some.inj ((show Tryd.prog.funcNamed "seedcorn/seedcornlaw14.SyntaxSame" = some 5 by kernel_rfl).symm.trans hf) |>.symm
      obtain rfl : fn = Tryd.f5 := (Option.some.inj (Tryd.func5.symm.trans hfn)).symm
      exact ⟨by kernel_rfl, fun j t ht => by
        rw [Tryd.params5] at ht
        have hm : t ∈ [26, 26] := by simpa using Array.mem_of_getElem? ht
        have hall : ([26, 26].all fun u => !Tryd.prog.wantsStandIn u) = true := by kernel_rfl
        exact (show Tryd.prog.wantsStandIn t = false by simpa using List.all_eq_true.1 hall t hm)⟩)
    (by kernel_rfl)
#print axioms card_proved
end Go.Proofs.YthnhdompfhkepaaDoor.syntaxSame
namespace Go.Proofs.YthnhdompfhkepaaDoor
/-- The row, under a short name, for the claim. -/
theorem syntaxSame_holds : Rows.SyntaxSameCardSaid := syntaxSame.card_proved
end Go.Proofs.YthnhdompfhkepaaDoor
