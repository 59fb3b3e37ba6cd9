/-
  DERIVED. GIVEN WITH THE SEED: THE CARDS: each row of YtdmgponiefhlnaaDoorRows.lean that lists a variable, with what it lists TIED to the program's text (the seventh form; the later family's looks); each row that meets fmt, with fmt's text TOLD by the authors' own Lean function (tested against real Go, not proved from fmt's source: count such statements apart). THE CARD IS WHAT COUNTS. Prove the row's statement (the work); the ties are given (YtdmgponiefhlnaaDoorTie.lean); close each card by the builder's one call (the guide's Derived/Test/ToyasCard.lean, 'card_holds'). Laid BY PROGRAM, IN A SANDBOX (cutbox-door.mjs). By AI agents, Wed Nov 11 2026. No macro, syntax, notation, axiom, sorry.
-/
import Derived.Test.YtdmgponiefhlnaaDoorRows
import GoSem.ClaimSeven
namespace Go.Proofs.YtdmgponiefhlnaaDoor
namespace Rows

/-- THE TIED CARD OF 'seedcornlaw01.WordReads'. -/
def wordReadsCard : Claim7 := { stood := { row := wordReadsRow, standIns := [], harness := (true, "885952a8442b4a41d371d2690b59d59590a015cbe41a3ee2bbd30ca39e108a67"), looks := false }, kinds := [], alts := [], laidByText := true, laidKinds := [.data, .data, .data], laidTests := true, laidLooks := .later }
def WordReadsCardSaid : Prop := Claim7.holds Tryd.pinned (.plain (OpenSpec.ofChange wordReadsSpec)) wordReadsCard

/-- THE SECOND FORM's CARD OF 'seedcornlaw01.WordReads'. -/
def wordReadsUptoCard : Claim7 := { stood := { row := wordReadsUptoRow, standIns := [], harness := (true, "885952a8442b4a41d371d2690b59d59590a015cbe41a3ee2bbd30ca39e108a67"), looks := false }, kinds := [], alts := [], laidByText := true, laidKinds := [.data, .data, .data], laidTests := true, laidLooks := .later }
def WordReadsUptoCardSaid : Prop := Claim7.holds Tryd.pinned (.plain (OpenSpec.upto wordReadsSpec)) wordReadsUptoCard
end Rows
end Go.Proofs.YtdmgponiefhlnaaDoor
