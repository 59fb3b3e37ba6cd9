/- SystemPrinted: two programs that may be, of fewer than 100 parts, have one text just if they are the same; whatever the input, the answer is true, and the input reads as it did. Conditions: the card's own (the tables that the program's text lays). -/
import Derived.Test.YthnhdompfhkepaaDoorRows
import Derived.Test.YthnhdompfhkepaaDoorPure
import Derived.WalkKit
import Derived.ProofKit
import Derived.OpenShut
import Derived.ShutString
import Derived.ChangeOld
import Derived.Below
import Derived.Carry
import Derived.SizedLaws
import Derived.Test.YthnhdompfhkepaaDoorTie
import Derived.Test.YthnhdompfhkepaaDoorCards
import Derived.LaidMore
import Derived.MakeChecks
import Derived.LaidLaws
import Derived.SevenTiedAt
import Derived.Lib.LaidTab
import Derived.Stop.Joined
namespace Go.Proofs.YthnhdompfhkepaaDoor.systemPrinted
open Go.ChangeShapes Go.WideShapes Go.ChangeAt Go.RowKit
set_option linter.unusedVariables false
theorem own : ownKnob Tryd.prog.godebug = none := by kernel_rfl
theorem laidOut : laidOutB Tryd.prog = true := by kernel_rfl
def laidL : List (String × DataW Unit) := [("math/bits.deBruijn32tab", Rows.laid_math_bits_deBruijn32tab), ("math/bits.deBruijn64tab", Rows.laid_math_bits_deBruijn64tab), ("internal/strconv.uint64pow10", Rows.laid_internal_strconv_uint64pow10), ("seedcorn/syntax.signs", Rows.laid_seedcorn_syntax_signs)]
theorem door_met (os : Os) (args : Array Value) : laidMetH Tryd.prog laidL ((World.doorLaid Tryd.prog 34 os).forCall (fun _ _ => 0) ⟨#[], args, []⟩).memory :=
  laidMetH_of_parts3 (fuel := 8) (laidMet_of_run' 8 (by kernel_rfl) (by kernel_rfl)) (by kernel_rfl) (by kernel_rfl)
/-- an array of strings, as a row lists it -/
def strData {H : Type} (zs : List ByteArray) : DataW H := .agg (zs.map fun z => .lit (.string z.data.toList))
theorem cells_of_strs {H : Type} {enc : TypeId × Value → H} {P : Program} {w : World} {base : Nat} {sp : Nat → Bool} {held : Bool} {fuel : Nat} {t e : TypeId} {n : Nat} {cs : List Value} {zs : List ByteArray} {p : List MemPlace}
    (ht : P.underlying t = some (.array n e)) (he : P.underlying e = some .string) (hce : P.cellsOf e = 1) (hct : P.cellsOf t = n)
    (h : DataW.trod enc P w base sp held fuel t cs = some (strData zs, p)) : cs = zs.map Value.string := by
  cases fuel with
  | zero => simp [DataW.trod] at h
  | succ fuel =>
    simp only [DataW.trod, ht, hce, hct, Nat.mul_one] at h
    split at h
    · rename_i hl
      obtain ⟨xs, hm, hx⟩ := Option.map_eq_some_iff.1 h
      have hxs : xs.map (·.1) = zs.map fun z => (DataW.lit (.string z.data.toList) : DataW H) := by
        have := congrArg Prod.fst hx
        simpa [strData] using this
      have hxl : xs.length = n := by simpa using Lib.mapM_length hm
      have hzl : zs.length = n := by
        have := congrArg List.length hxs
        simp at this
        omega
      apply List.ext_getElem?
      intro i
      by_cases hi : i < n
      · obtain ⟨b, hb, hf⟩ := Lib.mapM_at hm i i (by simp [hi])
        obtain ⟨z, hc, rfl, _⟩ := DataW.trod_string he hf
        have h1 : cs[i]? = some (.string z) := by
          have := congrArg (·[0]?) hc
          simpa [List.getElem?_take, List.getElem?_drop] using this
        have h2 : (xs.map (·.1))[i]? = some (DataW.lit (.string z.data.toList) : DataW H) := by simp [hb]
        rw [hxs] at h2
        simp only [List.getElem?_map, Option.map_eq_some_iff, DataW.lit.injEq, Lit.string.injEq] at h2
        obtain ⟨z', hz', e2⟩ := h2
        have e3 : z' = z := ByteArray.ext (Array.toList_inj.mp e2)
        simp [h1, hz', e3]
      · rw [List.getElem?_eq_none (by omega), List.getElem?_eq_none (by simp; omega)]
    · cases h
theorem tab_of_laid {W : World} (h : laidMetH Tryd.prog laidL W) : Ext.TAB W := by
  rw [MakeChecks.laidMetH_plain _ _ _ (by kernel_rfl)] at h
  obtain ⟨_, ⟨_, _, _, _, _, _, _, _, _, _, ⟨_, _, _, _, _, _, _, _, _, _, ⟨g, t, cs, f, p, q, hg, ht, hv, hd, ⟨g2, t2, cs2, f2, p2, q2, hg2, ht2, hv2, hd2, _, _⟩, _⟩, _⟩, _⟩, _⟩ := h
  obtain rfl := Option.some.inj ((show Tryd.prog.globalNamed "internal/strconv.uint64pow10" = some 3 by kernel_rfl).symm.trans hg)
  obtain rfl := Option.some.inj ((show (Tryd.prog.globals[3]?).map (·.type) = some 126 by kernel_rfl).symm.trans ht)
  obtain rfl := Option.some.inj ((show Tryd.prog.globalNamed "seedcorn/syntax.signs" = some 0 by kernel_rfl).symm.trans hg2)
  obtain rfl := Option.some.inj ((show (Tryd.prog.globals[0]?).map (·.type) = some 78 by kernel_rfl).symm.trans ht2)
  have hd' : DataW.trod (fun _ => ()) Tryd.prog W 0 (fun _ => true) false f 126 cs.toList = some (Lib.tabData .u64 Lib.pow10Tab, p) := hd
  have hd2' : DataW.trod (fun _ => ()) Tryd.prog W 0 (fun _ => true) false f2 78 cs2.toList = some (strData Ext.signsL, p2) := hd2
  refine ⟨?_, ?_⟩
  · unfold Ext.TABU Lib.TabIs
    rw [hv, ← Lib.cells_of_tab Tryd.underlying126 Tryd.underlying88 (by kernel_rfl) (by kernel_rfl) hd']
  · have e := cells_of_strs Tryd.underlying78 Tryd.underlying9 (by kernel_rfl) (by kernel_rfl) hd2'
    unfold World.var? at hv2
    rw [show Tryd.prog.globalNamed "seedcorn/syntax.signs" = some 0 by kernel_rfl] at hv2
    simp only [Option.bind_some] at hv2
    cases hh : W.heap[0]? with
    | none => rw [hh] at hv2; cases hv2
    | some o =>
      rw [hh] at hv2
      cases o with
      | cells c u fr =>
        simp only [Option.some.injEq] at hv2
        subst hv2
        exact ⟨u, fr, by rw [hh, ← e]⟩
      | _ => cases hv2
theorem sized_at {H : Type} {P : Program} {ts : List TypeId} {ds : List (DataW H)} (h : (DataW.weightsEach P ts ds).all (· ≤ reachBytes) = true) {j : Nat} {t : TypeId} {d : DataW H} (ht : ts[j]? = some t) (hd : ds[j]? = some d) : ∀ q ∈ d.weights P t, q ≤ reachBytes := fun q hq => by
  have := List.all_eq_true.1 h q (DataW.weights_mem_each ht hd q hq)
  simpa using this
set_option maxRecDepth 100000 in
theorem lifted (os : Os) (started : os.Started) (H : Type) (enc : TypeId × Value → H) :
    ReturnsInHanded {} Tryd.checked os 3 .any (fun w args => (Rows.systemPrintedSpec.pre enc Tryd.prog Tryd.f3 [] false w args ∧ laidMetH Tryd.prog laidL w) ∧ sizedMet enc Tryd.prog Tryd.f3 (OpenSpec.ofChange Rows.systemPrintedSpec) false w args) (Rows.systemPrintedSpec.post enc Tryd.prog Tryd.f3 false true false false) := by
  refine returnsInHanded_of_change_and (C := Tryd.checked) (X := fun w _ => laidMetH Tryd.prog laidL w) (fun _ _ _ hh h => h.of_heap hh) own started (by kernel_rfl) Tryd.func3
    (ChangeSpec.witness_shaped (enc := enc) (C := Tryd.checked) (os := os) (X := fun w _ => laidMetH Tryd.prog laidL w) false (World.doorLaid Tryd.prog 34 os) #[.agg #[.slice none 0 0, .slice none 0 0, .slice none 0 0], .agg #[.slice none 0 0, .slice none 0 0, .slice none 0 0]] 8 rfl (World.shaped_of_RefB (by kernel_rfl) (by kernel_rfl)) (by kernel_rfl) (by kernel_rfl) (by kernel_rfl) (door_met os _)) ?_
  intro W base args ds gs before hval0 hW hcnd hsz0 hL _
  have hT : Ext.TAB W := tab_of_laid hL
  have hsz : (DataW.weightsEach Tryd.prog (Tryd.f3.params.toList ++ Rows.systemPrintedSpec.plain.varTypes Tryd.prog) (ds ++ gs)).all (· ≤ reachBytes) = true := hsz0
  have hW' := hW
  obtain ⟨p, q, hA0, hV, rfl, hfz, hnd⟩ := hW
  have hA : DataW.TrodAll enc Tryd.prog W 0 (fun _ => true) true Tryd.f3.params.toList args.toList ds p := hA0
  rw [Tryd.params3] at hA hsz
  obtain ⟨v0, vs0, d0, ds0, p0, q0, hargs, rfl, rfl, h0, r0⟩ := trodAll_cons hA
  obtain ⟨v1, vs1, d1, ds1, p1, q1, rfl, rfl, rfl, h1, r1⟩ := trodAll_cons r0
  obtain ⟨rfl, rfl, rfl⟩ := trodAll_nil r1
  obtain rfl : args = #[v0, v1] := by cases args; simp_all
  obtain ⟨rfl, rfl⟩ := trodVars_none hV
  have k0 := h0
  have k1 := h1
  have lt0 : ∀ x ∈ p0, x.block < W.heap.size := by obtain ⟨m, hm⟩ := k0; exact DataW.trod_lt m _ _ _ hm
  have lt1 : ∀ x ∈ p1, x.block < W.heap.size := by obtain ⟨m, hm⟩ := k1; exact DataW.trod_lt m _ _ _ hm
  obtain ⟨A0, c0, l0, A1, c1, l1, A2, c2, l2, rfl, a0, a1, a2, a3, a4, a5, ok0⟩ := Pure.openP h0 (sized_at hsz (j := 0) rfl rfl)
  obtain ⟨B0, b0, m0, B1, b1, m1, B2, b2, m2, rfl, e0, e1, e2, e3, e4, e5, ok1⟩ := Pure.openP h1 (sized_at hsz (j := 1) rfl rfl)
  clear hA0 hval0 hsz0 hsz
  obtain ⟨k, hk⟩ := Pure.systemPrinted ok0 ok1
  refine (Q.tSystemPrinted.calls k A0 c0 l0 A1 c1 l1 A2 c2 l2 B0 b0 m0 B1 b1 m1 B2 b2 m2 true W hT a1 a0 a3 a2 a5 a4 e1 e0 e3 e2 e5 e4 hk).mono fun e W' ⟨he, bel⟩ => ?_
  subst he
  exact ⟨_, rfl, _, _, _, [], _, [], hW', trodAll_mk1 (shut_bool Tryd.underlying4 _), (trodAll_cons_mk (Below.trod laidOut (by kernel_rfl) (of_decide_eq_true (by kernel_rfl)) k0 bel lt0) (trodAll_cons_mk (Below.trod laidOut (by kernel_rfl) (of_decide_eq_true (by kernel_rfl)) k1 bel lt1) trodAll_mk0)), rfl, bel.frame _, fun h => by cases h⟩
theorem over : Rows.systemPrintedRow.holds Tryd.pinned (OpenSpec.ofChange Rows.systemPrintedSpec) :=
  OpenClaim.holds_of_wide 3 Tryd.f3 rfl rfl rfl rfl rfl rfl rfl ⟨rfl, rfl, rfl, rfl, rfl⟩ rfl rfl rfl rfl rfl (by kernel_rfl) Tryd.func3 (by kernel_rfl)
    (of_decide_eq_true (by kernel_rfl)) (by unfold Func.isWrapper; first | (rw [if_pos (by decide +kernel)]; kernel_rfl) | (rw [if_neg (by decide +kernel)]; exact ⟨rfl, rfl⟩))
    (fun os started H enc _ => lifted os started H enc)
theorem card_proved : Rows.SystemPrintedCardSaid :=
  Claim7.holds_tied_plain_at .later [] [.data, .data, .data, .data] true (true, "59ad70f75419b6fbb88d6fd35c37fc25434709807431c3d40c07e0cf8306f349") false
    over (fun _ h => by cases h) (by kernel_rfl) (fun _ h => by cases h) systemPrinted_row_tie rfl ⟨rfl, rfl⟩ (by kernel_rfl) rfl
    (fun f fn hf hfn => by
      obtain rfl : f = 3 := Option.some.inj ((show Tryd.prog.funcNamed "seedcorn/seedcorntop.SystemPrinted" = some 3 by kernel_rfl).symm.trans hf) |>.symm
      obtain rfl : fn = Tryd.f3 := (Option.some.inj (Tryd.func3.symm.trans hfn)).symm
      exact ⟨by kernel_rfl, fun j t ht => by
        rw [Tryd.params3] at ht
        have hm : t ∈ [26, 26] := by simpa using Array.mem_of_getElem? ht
        have hall : ([26, 26].all fun u => !Tryd.prog.wantsStandIn u) = true := by kernel_rfl
        exact (show Tryd.prog.wantsStandIn t = false by simpa using List.all_eq_true.1 hall t hm)⟩)
    (by kernel_rfl)
#print axioms card_proved
end Go.Proofs.YthnhdompfhkepaaDoor.systemPrinted
namespace Go.Proofs.YthnhdompfhkepaaDoor
/-- The row, under a short name, for the claim. -/
theorem systemPrinted_holds : Rows.SystemPrintedCardSaid := systemPrinted.card_proved
end Go.Proofs.YthnhdompfhkepaaDoor
