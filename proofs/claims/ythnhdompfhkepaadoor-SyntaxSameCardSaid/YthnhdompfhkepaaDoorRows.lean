/-
  NARROWER THAN 'FOR EVERY INPUT', by the rows' own cells (each row's printed sentence says how): SystemPrinted: loops, laid · SyntaxRight: loops, laid · SyntaxSame: loops, laid · SyntaxPrints: loops, laid · SyntaxExpr: loops, laid · SyntaxApart: loops, laid · SyntaxLevels: laid · SyntaxGrows: loops, laid.
  DERIVED. THE GIVEN ROWS OF THIS SEAT. 8 by the template 'for every input the law returns true; each argument reads behind the call as it read before'; 0 by the template 'total and deterministic' (their statements: YthnhdompfhkepaaDoorTotals.lean).
  GIVEN WITH THE SEED: the statements are not yours to turn. If you find one false, say at which input.
  Laid BY PROGRAM, IN A SANDBOX (cutbox-rows.mjs): the forced cells as the released guide's own fill.sh prints them over the translation 5f1de07c4e71ba9a… (all of the seat's roots in one cut). By AI agents, Wed Nov 11 2026. No macro, syntax, notation, axiom, sorry.
-/
import Derived.Test.YthnhdompfhkepaaDoorChecked
import GoSem.Claim
import GoSem.ClaimJoined
import GoSem.ClaimMapViews
import Derived.JoinedTies
import Derived.KernelRfl
namespace Go.Proofs.YthnhdompfhkepaaDoor
/- THE CELL 'sum', in the pinned program and in every row, IS THE sha256 OF THE DUMP (.gsa) THAT YthnhdompfhkepaaDoorProg.lean LOADS. Nothing in Lean hashes anything: it is a label: what it is worth is what the hold of that sum in a sandbox is worth. -/
noncomputable def Tryd.pinned : Pinned := { name := "ythnhdompfhkepaadoor", sum := "5f1de07c4e71ba9a60a50cd6250a63832dd32d691640f16a38f7ac5632244caa", checked := Tryd.checked }
namespace Rows
def none {H : Type} : Left H := { results := [], args := [] }

/- WHAT THE LISTED PACKAGE-LEVEL VARIABLES READ AS WHEN THE CALL BEGINS. Each datum BY PROGRAM (the guide's laid-datum.mjs) off the statement by which the dump's own 'gosem.cut.vars' lays the variable. In a bare row this is a premise. The card (YthnhdompfhkepaaDoorCards.lean) ties it to the program's text. -/
def laid_math_bits_deBruijn32tab {H : Type} : DataW H := .agg [.lit (.int .u8 0), .lit (.int .u8 1), .lit (.int .u8 28), .lit (.int .u8 2), .lit (.int .u8 29), .lit (.int .u8 14), .lit (.int .u8 24), .lit (.int .u8 3), .lit (.int .u8 30), .lit (.int .u8 22), .lit (.int .u8 20), .lit (.int .u8 15), .lit (.int .u8 25), .lit (.int .u8 17), .lit (.int .u8 4), .lit (.int .u8 8), .lit (.int .u8 31), .lit (.int .u8 27), .lit (.int .u8 13), .lit (.int .u8 23), .lit (.int .u8 21), .lit (.int .u8 19), .lit (.int .u8 16), .lit (.int .u8 7), .lit (.int .u8 26), .lit (.int .u8 12), .lit (.int .u8 18), .lit (.int .u8 6), .lit (.int .u8 11), .lit (.int .u8 5), .lit (.int .u8 10), .lit (.int .u8 9)]
def laid_math_bits_deBruijn64tab {H : Type} : DataW H := .agg [.lit (.int .u8 0), .lit (.int .u8 1), .lit (.int .u8 56), .lit (.int .u8 2), .lit (.int .u8 57), .lit (.int .u8 49), .lit (.int .u8 28), .lit (.int .u8 3), .lit (.int .u8 61), .lit (.int .u8 58), .lit (.int .u8 42), .lit (.int .u8 50), .lit (.int .u8 38), .lit (.int .u8 29), .lit (.int .u8 17), .lit (.int .u8 4), .lit (.int .u8 62), .lit (.int .u8 47), .lit (.int .u8 59), .lit (.int .u8 36), .lit (.int .u8 45), .lit (.int .u8 43), .lit (.int .u8 51), .lit (.int .u8 22), .lit (.int .u8 53), .lit (.int .u8 39), .lit (.int .u8 33), .lit (.int .u8 30), .lit (.int .u8 24), .lit (.int .u8 18), .lit (.int .u8 12), .lit (.int .u8 5), .lit (.int .u8 63), .lit (.int .u8 55), .lit (.int .u8 48), .lit (.int .u8 27), .lit (.int .u8 60), .lit (.int .u8 41), .lit (.int .u8 37), .lit (.int .u8 16), .lit (.int .u8 46), .lit (.int .u8 35), .lit (.int .u8 44), .lit (.int .u8 21), .lit (.int .u8 52), .lit (.int .u8 32), .lit (.int .u8 23), .lit (.int .u8 11), .lit (.int .u8 54), .lit (.int .u8 26), .lit (.int .u8 40), .lit (.int .u8 15), .lit (.int .u8 34), .lit (.int .u8 20), .lit (.int .u8 31), .lit (.int .u8 10), .lit (.int .u8 25), .lit (.int .u8 14), .lit (.int .u8 19), .lit (.int .u8 9), .lit (.int .u8 13), .lit (.int .u8 8), .lit (.int .u8 7), .lit (.int .u8 6)]
def laid_internal_strconv_uint64pow10 {H : Type} : DataW H := .agg [.lit (.int .u64 1), .lit (.int .u64 10), .lit (.int .u64 100), .lit (.int .u64 1000), .lit (.int .u64 10000), .lit (.int .u64 100000), .lit (.int .u64 1000000), .lit (.int .u64 10000000), .lit (.int .u64 100000000), .lit (.int .u64 1000000000), .lit (.int .u64 10000000000), .lit (.int .u64 100000000000), .lit (.int .u64 1000000000000), .lit (.int .u64 10000000000000), .lit (.int .u64 100000000000000), .lit (.int .u64 1000000000000000), .lit (.int .u64 10000000000000000), .lit (.int .u64 100000000000000000), .lit (.int .u64 1000000000000000000), .lit (.int .u64 10000000000000000000)]
def laid_seedcorn_syntax_signs {H : Type} : DataW H := .agg [.lit (.string [43]), .lit (.string [45]), .lit (.string [42]), .lit (.string [47]), .lit (.string [37]), .lit (.string [38]), .lit (.string [124]), .lit (.string [94]), .lit (.string [60, 60]), .lit (.string [62, 62]), .lit (.string [60]), .lit (.string [61, 61])]
def laid_seedcorn_token_words {H : Type} : DataW H := .agg [.lit (.string [118, 97, 114]), .lit (.string [97, 114, 114, 97, 121]), .lit (.string [102, 117, 110, 99]), .lit (.string [119, 111, 114, 100]), .lit (.string [105, 102]), .lit (.string [101, 108, 115, 101]), .lit (.string [119, 104, 105, 108, 101]), .lit (.string [114, 101, 116, 117, 114, 110]), .lit (.string [112, 117, 116]), .lit (.string [103, 101, 116])]

/-- 'seedcorntop.SystemPrinted': WHATEVER THE INPUT: true; the input reads as it did. -/
def systemPrintedSpec : ChangeSpec := { name := "systemPrinted", fn := fun _ => fun
  | [d1, d2] => { results := [.lit (.bool true)], args := [d1, d2] }
  | _ => none }
def systemPrintedRow : OpenClaim := { program := "ythnhdompfhkepaadoor", sum := "5f1de07c4e71ba9a60a50cd6250a63832dd32d691640f16a38f7ac5632244caa", func := "seedcorn/seedcorntop.SystemPrinted", spec := "systemPrinted", inPlace := ["internal/abi.NoEscape", "internal/bytealg.MakeNoZero"], unfollowed := true, recurses := true, named := ["internal/strconv.uint64pow10", "math/bits.deBruijn32tab", "math/bits.deBruijn64tab", "seedcorn/syntax.signs"], loops := true, apart := false, laid := [("math/bits.deBruijn32tab", laid_math_bits_deBruijn32tab), ("math/bits.deBruijn64tab", laid_math_bits_deBruijn64tab), ("internal/strconv.uint64pow10", laid_internal_strconv_uint64pow10), ("seedcorn/syntax.signs", laid_seedcorn_syntax_signs)] }
def SystemPrintedSaid : Prop := systemPrintedRow.holds Tryd.pinned (OpenSpec.ofChange systemPrintedSpec)

/-- ITS FALSE NEIGHBOUR: 'it returns false'. Refute it at one input. -/
def systemPrintedWrong : ChangeSpec := { name := "systemPrinted", fn := fun _ => fun
  | [d1, d2] => { results := [.lit (.bool false)], args := [d1, d2] }
  | _ => none }
def SystemPrintedWrongFalsely : Prop := systemPrintedRow.holds Tryd.pinned (OpenSpec.ofChange systemPrintedWrong)

/-- 'seedcornlaw14.SyntaxRight': WHATEVER THE INPUT: true; the input reads as it did. -/
def syntaxRightSpec : ChangeSpec := { name := "syntaxRight", fn := fun _ => fun
  | [d] => { results := [.lit (.bool true)], args := [d] }
  | _ => none }
def syntaxRightRow : OpenClaim := { program := "ythnhdompfhkepaadoor", sum := "5f1de07c4e71ba9a60a50cd6250a63832dd32d691640f16a38f7ac5632244caa", func := "seedcorn/seedcornlaw14.SyntaxRight", spec := "syntaxRight", inPlace := ["internal/abi.NoEscape", "internal/bytealg.MakeNoZero"], unfollowed := true, recurses := true, named := ["seedcorn/token.words", "seedcorn/syntax.signs", "internal/strconv.uint64pow10", "math/bits.deBruijn32tab", "math/bits.deBruijn64tab"], loops := true, apart := false, laid := [("math/bits.deBruijn32tab", laid_math_bits_deBruijn32tab), ("math/bits.deBruijn64tab", laid_math_bits_deBruijn64tab), ("internal/strconv.uint64pow10", laid_internal_strconv_uint64pow10), ("seedcorn/token.words", laid_seedcorn_token_words), ("seedcorn/syntax.signs", laid_seedcorn_syntax_signs)] }
def SyntaxRightSaid : Prop := syntaxRightRow.holds Tryd.pinned (OpenSpec.ofChange syntaxRightSpec)

/-- ITS FALSE NEIGHBOUR: 'it returns false'. Refute it at one input. -/
def syntaxRightWrong : ChangeSpec := { name := "syntaxRight", fn := fun _ => fun
  | [d] => { results := [.lit (.bool false)], args := [d] }
  | _ => none }
def SyntaxRightWrongFalsely : Prop := syntaxRightRow.holds Tryd.pinned (OpenSpec.ofChange syntaxRightWrong)

/-- 'seedcornlaw14.SyntaxSame': WHATEVER THE INPUT: true; the input reads as it did. -/
def syntaxSameSpec : ChangeSpec := { name := "syntaxSame", fn := fun _ => fun
  | [d1, d2] => { results := [.lit (.bool true)], args := [d1, d2] }
  | _ => none }
def syntaxSameRow : OpenClaim := { program := "ythnhdompfhkepaadoor", sum := "5f1de07c4e71ba9a60a50cd6250a63832dd32d691640f16a38f7ac5632244caa", func := "seedcorn/seedcornlaw14.SyntaxSame", spec := "syntaxSame", inPlace := ["internal/abi.NoEscape", "internal/bytealg.MakeNoZero"], unfollowed := true, recurses := true, named := ["seedcorn/token.words", "seedcorn/syntax.signs", "internal/strconv.uint64pow10", "math/bits.deBruijn32tab", "math/bits.deBruijn64tab"], loops := true, apart := false, laid := [("math/bits.deBruijn32tab", laid_math_bits_deBruijn32tab), ("math/bits.deBruijn64tab", laid_math_bits_deBruijn64tab), ("internal/strconv.uint64pow10", laid_internal_strconv_uint64pow10), ("seedcorn/token.words", laid_seedcorn_token_words), ("seedcorn/syntax.signs", laid_seedcorn_syntax_signs)] }
def SyntaxSameSaid : Prop := syntaxSameRow.holds Tryd.pinned (OpenSpec.ofChange syntaxSameSpec)

/-- ITS FALSE NEIGHBOUR: 'it returns false'. Refute it at one input. -/
def syntaxSameWrong : ChangeSpec := { name := "syntaxSame", fn := fun _ => fun
  | [d1, d2] => { results := [.lit (.bool false)], args := [d1, d2] }
  | _ => none }
def SyntaxSameWrongFalsely : Prop := syntaxSameRow.holds Tryd.pinned (OpenSpec.ofChange syntaxSameWrong)

/-- 'seedcornlaw14.SyntaxPrints': WHATEVER THE INPUT: true; the input reads as it did. -/
def syntaxPrintsSpec : ChangeSpec := { name := "syntaxPrints", fn := fun _ => fun
  | [d] => { results := [.lit (.bool true)], args := [d] }
  | _ => none }
def syntaxPrintsRow : OpenClaim := { program := "ythnhdompfhkepaadoor", sum := "5f1de07c4e71ba9a60a50cd6250a63832dd32d691640f16a38f7ac5632244caa", func := "seedcorn/seedcornlaw14.SyntaxPrints", spec := "syntaxPrints", inPlace := ["internal/abi.NoEscape", "internal/bytealg.MakeNoZero"], unfollowed := true, recurses := true, named := ["seedcorn/token.words", "seedcorn/syntax.signs", "internal/strconv.uint64pow10", "math/bits.deBruijn32tab", "math/bits.deBruijn64tab"], loops := true, apart := false, laid := [("math/bits.deBruijn32tab", laid_math_bits_deBruijn32tab), ("math/bits.deBruijn64tab", laid_math_bits_deBruijn64tab), ("internal/strconv.uint64pow10", laid_internal_strconv_uint64pow10), ("seedcorn/token.words", laid_seedcorn_token_words), ("seedcorn/syntax.signs", laid_seedcorn_syntax_signs)] }
def SyntaxPrintsSaid : Prop := syntaxPrintsRow.holds Tryd.pinned (OpenSpec.ofChange syntaxPrintsSpec)

/-- ITS FALSE NEIGHBOUR: 'it returns false'. Refute it at one input. -/
def syntaxPrintsWrong : ChangeSpec := { name := "syntaxPrints", fn := fun _ => fun
  | [d] => { results := [.lit (.bool false)], args := [d] }
  | _ => none }
def SyntaxPrintsWrongFalsely : Prop := syntaxPrintsRow.holds Tryd.pinned (OpenSpec.ofChange syntaxPrintsWrong)

/-- 'seedcornlaw14.SyntaxExpr': WHATEVER THE INPUT: true; the input reads as it did. -/
def syntaxExprSpec : ChangeSpec := { name := "syntaxExpr", fn := fun _ => fun
  | [d] => { results := [.lit (.bool true)], args := [d] }
  | _ => none }
def syntaxExprRow : OpenClaim := { program := "ythnhdompfhkepaadoor", sum := "5f1de07c4e71ba9a60a50cd6250a63832dd32d691640f16a38f7ac5632244caa", func := "seedcorn/seedcornlaw14.SyntaxExpr", spec := "syntaxExpr", inPlace := ["internal/abi.NoEscape", "internal/bytealg.MakeNoZero"], unfollowed := true, recurses := true, named := ["seedcorn/token.words", "seedcorn/syntax.signs", "internal/strconv.uint64pow10", "math/bits.deBruijn32tab", "math/bits.deBruijn64tab"], loops := true, apart := false, laid := [("math/bits.deBruijn32tab", laid_math_bits_deBruijn32tab), ("math/bits.deBruijn64tab", laid_math_bits_deBruijn64tab), ("internal/strconv.uint64pow10", laid_internal_strconv_uint64pow10), ("seedcorn/token.words", laid_seedcorn_token_words), ("seedcorn/syntax.signs", laid_seedcorn_syntax_signs)] }
def SyntaxExprSaid : Prop := syntaxExprRow.holds Tryd.pinned (OpenSpec.ofChange syntaxExprSpec)

/-- ITS FALSE NEIGHBOUR: 'it returns false'. Refute it at one input. -/
def syntaxExprWrong : ChangeSpec := { name := "syntaxExpr", fn := fun _ => fun
  | [d] => { results := [.lit (.bool false)], args := [d] }
  | _ => none }
def SyntaxExprWrongFalsely : Prop := syntaxExprRow.holds Tryd.pinned (OpenSpec.ofChange syntaxExprWrong)

/-- 'seedcornlaw14.SyntaxApart': WHATEVER THE INPUT: true; the input reads as it did. -/
def syntaxApartSpec : ChangeSpec := { name := "syntaxApart", fn := fun _ => fun
  | [d1, d2] => { results := [.lit (.bool true)], args := [d1, d2] }
  | _ => none }
def syntaxApartRow : OpenClaim := { program := "ythnhdompfhkepaadoor", sum := "5f1de07c4e71ba9a60a50cd6250a63832dd32d691640f16a38f7ac5632244caa", func := "seedcorn/seedcornlaw14.SyntaxApart", spec := "syntaxApart", inPlace := ["internal/abi.NoEscape", "internal/bytealg.MakeNoZero"], unfollowed := true, recurses := true, named := ["seedcorn/token.words", "seedcorn/syntax.signs", "internal/strconv.uint64pow10", "math/bits.deBruijn32tab", "math/bits.deBruijn64tab"], loops := true, apart := false, laid := [("math/bits.deBruijn32tab", laid_math_bits_deBruijn32tab), ("math/bits.deBruijn64tab", laid_math_bits_deBruijn64tab), ("internal/strconv.uint64pow10", laid_internal_strconv_uint64pow10), ("seedcorn/token.words", laid_seedcorn_token_words), ("seedcorn/syntax.signs", laid_seedcorn_syntax_signs)] }
def SyntaxApartSaid : Prop := syntaxApartRow.holds Tryd.pinned (OpenSpec.ofChange syntaxApartSpec)

/-- ITS FALSE NEIGHBOUR: 'it returns false'. Refute it at one input. -/
def syntaxApartWrong : ChangeSpec := { name := "syntaxApart", fn := fun _ => fun
  | [d1, d2] => { results := [.lit (.bool false)], args := [d1, d2] }
  | _ => none }
def SyntaxApartWrongFalsely : Prop := syntaxApartRow.holds Tryd.pinned (OpenSpec.ofChange syntaxApartWrong)

/-- 'seedcornlaw14.SyntaxLevels': WHATEVER THE INPUT: true; the input reads as it did. -/
def syntaxLevelsSpec : ChangeSpec := { name := "syntaxLevels", fn := fun _ => fun
  | [d1, d2, d3] => { results := [.lit (.bool true)], args := [d1, d2, d3] }
  | _ => none }
def syntaxLevelsRow : OpenClaim := { program := "ythnhdompfhkepaadoor", sum := "5f1de07c4e71ba9a60a50cd6250a63832dd32d691640f16a38f7ac5632244caa", func := "seedcorn/seedcornlaw14.SyntaxLevels", spec := "syntaxLevels", inPlace := ["internal/abi.NoEscape", "internal/bytealg.MakeNoZero"], unfollowed := true, recurses := true, named := ["seedcorn/token.words", "seedcorn/syntax.signs", "internal/strconv.uint64pow10", "math/bits.deBruijn32tab", "math/bits.deBruijn64tab"], apart := false, laid := [("math/bits.deBruijn32tab", laid_math_bits_deBruijn32tab), ("math/bits.deBruijn64tab", laid_math_bits_deBruijn64tab), ("internal/strconv.uint64pow10", laid_internal_strconv_uint64pow10), ("seedcorn/token.words", laid_seedcorn_token_words), ("seedcorn/syntax.signs", laid_seedcorn_syntax_signs)] }
def SyntaxLevelsSaid : Prop := syntaxLevelsRow.holds Tryd.pinned (OpenSpec.ofChange syntaxLevelsSpec)

/-- ITS FALSE NEIGHBOUR: 'it returns false'. Refute it at one input. -/
def syntaxLevelsWrong : ChangeSpec := { name := "syntaxLevels", fn := fun _ => fun
  | [d1, d2, d3] => { results := [.lit (.bool false)], args := [d1, d2, d3] }
  | _ => none }
def SyntaxLevelsWrongFalsely : Prop := syntaxLevelsRow.holds Tryd.pinned (OpenSpec.ofChange syntaxLevelsWrong)

/-- 'seedcornlaw14.SyntaxGrows': WHATEVER THE INPUT: true; the input reads as it did. -/
def syntaxGrowsSpec : ChangeSpec := { name := "syntaxGrows", fn := fun _ => fun
  | [d1, d2] => { results := [.lit (.bool true)], args := [d1, d2] }
  | _ => none }
def syntaxGrowsRow : OpenClaim := { program := "ythnhdompfhkepaadoor", sum := "5f1de07c4e71ba9a60a50cd6250a63832dd32d691640f16a38f7ac5632244caa", func := "seedcorn/seedcornlaw14.SyntaxGrows", spec := "syntaxGrows", inPlace := ["internal/abi.NoEscape", "internal/bytealg.MakeNoZero"], unfollowed := true, recurses := true, named := ["seedcorn/token.words", "seedcorn/syntax.signs", "internal/strconv.uint64pow10", "math/bits.deBruijn32tab", "math/bits.deBruijn64tab"], loops := true, apart := false, laid := [("math/bits.deBruijn32tab", laid_math_bits_deBruijn32tab), ("math/bits.deBruijn64tab", laid_math_bits_deBruijn64tab), ("internal/strconv.uint64pow10", laid_internal_strconv_uint64pow10), ("seedcorn/token.words", laid_seedcorn_token_words), ("seedcorn/syntax.signs", laid_seedcorn_syntax_signs)] }
def SyntaxGrowsSaid : Prop := syntaxGrowsRow.holds Tryd.pinned (OpenSpec.ofChange syntaxGrowsSpec)

/-- ITS FALSE NEIGHBOUR: 'it returns false'. Refute it at one input. -/
def syntaxGrowsWrong : ChangeSpec := { name := "syntaxGrows", fn := fun _ => fun
  | [d1, d2] => { results := [.lit (.bool false)], args := [d1, d2] }
  | _ => none }
def SyntaxGrowsWrongFalsely : Prop := syntaxGrowsRow.holds Tryd.pinned (OpenSpec.ofChange syntaxGrowsWrong)

/- THE SECOND FORM. 'bulk': how many values and letters a reading holds, each counted each time it is reached (what is shared counts as often as it is met; a slice's spare places count too). A statement '..UptoSaid' is the law's where the arguments, and the package variables that the reading takes, are together of bulk at most 1048576: NARROWER than '..Said'. Prove '..Said' where nothing that the law and all that it calls make is longer than what came in: it says more and counts as full. Else prove '..UptoSaid'. A law counts once. -/
mutual
def uptoBulk {H : Type} : DataW H → Nat
  | .lit (.string bytes) => bytes.length + 1
  | .lit _ => 1
  | .nil => 1
  | .ptr d => uptoBulk d + 1
  | .slice elems spare => uptoBulkAll elems + uptoBulkAll spare + 1
  | .agg parts => uptoBulkAll parts + 1
  | .iface _ d => uptoBulk d + 1
  | .map entries => uptoBulkEntries entries + 1
  | .held _ => 1
def uptoBulkAll {H : Type} : List (DataW H) → Nat
  | [] => 0
  | d :: r => uptoBulk d + uptoBulkAll r
def uptoBulkEntries {H : Type} : List (Lit × DataW H) → Nat
  | [] => 0
  | x :: r => uptoBulkEntry x + uptoBulkEntries r
def uptoBulkEntry {H : Type} : Lit × DataW H → Nat
  | (.string bytes, d) => bytes.length + uptoBulk d + 1
  | (_, d) => uptoBulk d + 1
 end
def uptoSmall : (H : Type) → List (DataW H) → Bool := fun _ ds => decide (uptoBulkAll ds ≤ 1048576)
def OpenSpec.upto (s : _root_.Go.ChangeSpec) : _root_.Go.OpenSpec := { _root_.Go.OpenSpec.ofChange s with cond := some uptoSmall }

/-- 'seedcorntop.SystemPrinted', WHERE WHAT IT READS IS OF BULK AT MOST 1048576: true; the input reads as it did. -/
def systemPrintedUptoRow : OpenClaim := { program := "ythnhdompfhkepaadoor", sum := "5f1de07c4e71ba9a60a50cd6250a63832dd32d691640f16a38f7ac5632244caa", func := "seedcorn/seedcorntop.SystemPrinted", spec := "systemPrinted", inPlace := ["internal/abi.NoEscape", "internal/bytealg.MakeNoZero"], unfollowed := true, recurses := true, named := ["internal/strconv.uint64pow10", "math/bits.deBruijn32tab", "math/bits.deBruijn64tab", "seedcorn/syntax.signs"], loops := true, apart := false, laid := [("math/bits.deBruijn32tab", laid_math_bits_deBruijn32tab), ("math/bits.deBruijn64tab", laid_math_bits_deBruijn64tab), ("internal/strconv.uint64pow10", laid_internal_strconv_uint64pow10), ("seedcorn/syntax.signs", laid_seedcorn_syntax_signs)], narrowed := true }
def SystemPrintedUptoSaid : Prop := systemPrintedUptoRow.holds Tryd.pinned (OpenSpec.upto systemPrintedSpec)

/-- 'seedcornlaw14.SyntaxRight', WHERE WHAT IT READS IS OF BULK AT MOST 1048576: true; the input reads as it did. -/
def syntaxRightUptoRow : OpenClaim := { program := "ythnhdompfhkepaadoor", sum := "5f1de07c4e71ba9a60a50cd6250a63832dd32d691640f16a38f7ac5632244caa", func := "seedcorn/seedcornlaw14.SyntaxRight", spec := "syntaxRight", inPlace := ["internal/abi.NoEscape", "internal/bytealg.MakeNoZero"], unfollowed := true, recurses := true, named := ["seedcorn/token.words", "seedcorn/syntax.signs", "internal/strconv.uint64pow10", "math/bits.deBruijn32tab", "math/bits.deBruijn64tab"], loops := true, apart := false, laid := [("math/bits.deBruijn32tab", laid_math_bits_deBruijn32tab), ("math/bits.deBruijn64tab", laid_math_bits_deBruijn64tab), ("internal/strconv.uint64pow10", laid_internal_strconv_uint64pow10), ("seedcorn/token.words", laid_seedcorn_token_words), ("seedcorn/syntax.signs", laid_seedcorn_syntax_signs)], narrowed := true }
def SyntaxRightUptoSaid : Prop := syntaxRightUptoRow.holds Tryd.pinned (OpenSpec.upto syntaxRightSpec)

/-- 'seedcornlaw14.SyntaxSame', WHERE WHAT IT READS IS OF BULK AT MOST 1048576: true; the input reads as it did. -/
def syntaxSameUptoRow : OpenClaim := { program := "ythnhdompfhkepaadoor", sum := "5f1de07c4e71ba9a60a50cd6250a63832dd32d691640f16a38f7ac5632244caa", func := "seedcorn/seedcornlaw14.SyntaxSame", spec := "syntaxSame", inPlace := ["internal/abi.NoEscape", "internal/bytealg.MakeNoZero"], unfollowed := true, recurses := true, named := ["seedcorn/token.words", "seedcorn/syntax.signs", "internal/strconv.uint64pow10", "math/bits.deBruijn32tab", "math/bits.deBruijn64tab"], loops := true, apart := false, laid := [("math/bits.deBruijn32tab", laid_math_bits_deBruijn32tab), ("math/bits.deBruijn64tab", laid_math_bits_deBruijn64tab), ("internal/strconv.uint64pow10", laid_internal_strconv_uint64pow10), ("seedcorn/token.words", laid_seedcorn_token_words), ("seedcorn/syntax.signs", laid_seedcorn_syntax_signs)], narrowed := true }
def SyntaxSameUptoSaid : Prop := syntaxSameUptoRow.holds Tryd.pinned (OpenSpec.upto syntaxSameSpec)

/-- 'seedcornlaw14.SyntaxPrints', WHERE WHAT IT READS IS OF BULK AT MOST 1048576: true; the input reads as it did. -/
def syntaxPrintsUptoRow : OpenClaim := { program := "ythnhdompfhkepaadoor", sum := "5f1de07c4e71ba9a60a50cd6250a63832dd32d691640f16a38f7ac5632244caa", func := "seedcorn/seedcornlaw14.SyntaxPrints", spec := "syntaxPrints", inPlace := ["internal/abi.NoEscape", "internal/bytealg.MakeNoZero"], unfollowed := true, recurses := true, named := ["seedcorn/token.words", "seedcorn/syntax.signs", "internal/strconv.uint64pow10", "math/bits.deBruijn32tab", "math/bits.deBruijn64tab"], loops := true, apart := false, laid := [("math/bits.deBruijn32tab", laid_math_bits_deBruijn32tab), ("math/bits.deBruijn64tab", laid_math_bits_deBruijn64tab), ("internal/strconv.uint64pow10", laid_internal_strconv_uint64pow10), ("seedcorn/token.words", laid_seedcorn_token_words), ("seedcorn/syntax.signs", laid_seedcorn_syntax_signs)], narrowed := true }
def SyntaxPrintsUptoSaid : Prop := syntaxPrintsUptoRow.holds Tryd.pinned (OpenSpec.upto syntaxPrintsSpec)

/-- 'seedcornlaw14.SyntaxExpr', WHERE WHAT IT READS IS OF BULK AT MOST 1048576: true; the input reads as it did. -/
def syntaxExprUptoRow : OpenClaim := { program := "ythnhdompfhkepaadoor", sum := "5f1de07c4e71ba9a60a50cd6250a63832dd32d691640f16a38f7ac5632244caa", func := "seedcorn/seedcornlaw14.SyntaxExpr", spec := "syntaxExpr", inPlace := ["internal/abi.NoEscape", "internal/bytealg.MakeNoZero"], unfollowed := true, recurses := true, named := ["seedcorn/token.words", "seedcorn/syntax.signs", "internal/strconv.uint64pow10", "math/bits.deBruijn32tab", "math/bits.deBruijn64tab"], loops := true, apart := false, laid := [("math/bits.deBruijn32tab", laid_math_bits_deBruijn32tab), ("math/bits.deBruijn64tab", laid_math_bits_deBruijn64tab), ("internal/strconv.uint64pow10", laid_internal_strconv_uint64pow10), ("seedcorn/token.words", laid_seedcorn_token_words), ("seedcorn/syntax.signs", laid_seedcorn_syntax_signs)], narrowed := true }
def SyntaxExprUptoSaid : Prop := syntaxExprUptoRow.holds Tryd.pinned (OpenSpec.upto syntaxExprSpec)

/-- 'seedcornlaw14.SyntaxApart', WHERE WHAT IT READS IS OF BULK AT MOST 1048576: true; the input reads as it did. -/
def syntaxApartUptoRow : OpenClaim := { program := "ythnhdompfhkepaadoor", sum := "5f1de07c4e71ba9a60a50cd6250a63832dd32d691640f16a38f7ac5632244caa", func := "seedcorn/seedcornlaw14.SyntaxApart", spec := "syntaxApart", inPlace := ["internal/abi.NoEscape", "internal/bytealg.MakeNoZero"], unfollowed := true, recurses := true, named := ["seedcorn/token.words", "seedcorn/syntax.signs", "internal/strconv.uint64pow10", "math/bits.deBruijn32tab", "math/bits.deBruijn64tab"], loops := true, apart := false, laid := [("math/bits.deBruijn32tab", laid_math_bits_deBruijn32tab), ("math/bits.deBruijn64tab", laid_math_bits_deBruijn64tab), ("internal/strconv.uint64pow10", laid_internal_strconv_uint64pow10), ("seedcorn/token.words", laid_seedcorn_token_words), ("seedcorn/syntax.signs", laid_seedcorn_syntax_signs)], narrowed := true }
def SyntaxApartUptoSaid : Prop := syntaxApartUptoRow.holds Tryd.pinned (OpenSpec.upto syntaxApartSpec)

/-- 'seedcornlaw14.SyntaxLevels', WHERE WHAT IT READS IS OF BULK AT MOST 1048576: true; the input reads as it did. -/
def syntaxLevelsUptoRow : OpenClaim := { program := "ythnhdompfhkepaadoor", sum := "5f1de07c4e71ba9a60a50cd6250a63832dd32d691640f16a38f7ac5632244caa", func := "seedcorn/seedcornlaw14.SyntaxLevels", spec := "syntaxLevels", inPlace := ["internal/abi.NoEscape", "internal/bytealg.MakeNoZero"], unfollowed := true, recurses := true, named := ["seedcorn/token.words", "seedcorn/syntax.signs", "internal/strconv.uint64pow10", "math/bits.deBruijn32tab", "math/bits.deBruijn64tab"], apart := false, laid := [("math/bits.deBruijn32tab", laid_math_bits_deBruijn32tab), ("math/bits.deBruijn64tab", laid_math_bits_deBruijn64tab), ("internal/strconv.uint64pow10", laid_internal_strconv_uint64pow10), ("seedcorn/token.words", laid_seedcorn_token_words), ("seedcorn/syntax.signs", laid_seedcorn_syntax_signs)], narrowed := true }
def SyntaxLevelsUptoSaid : Prop := syntaxLevelsUptoRow.holds Tryd.pinned (OpenSpec.upto syntaxLevelsSpec)

/-- 'seedcornlaw14.SyntaxGrows', WHERE WHAT IT READS IS OF BULK AT MOST 1048576: true; the input reads as it did. -/
def syntaxGrowsUptoRow : OpenClaim := { program := "ythnhdompfhkepaadoor", sum := "5f1de07c4e71ba9a60a50cd6250a63832dd32d691640f16a38f7ac5632244caa", func := "seedcorn/seedcornlaw14.SyntaxGrows", spec := "syntaxGrows", inPlace := ["internal/abi.NoEscape", "internal/bytealg.MakeNoZero"], unfollowed := true, recurses := true, named := ["seedcorn/token.words", "seedcorn/syntax.signs", "internal/strconv.uint64pow10", "math/bits.deBruijn32tab", "math/bits.deBruijn64tab"], loops := true, apart := false, laid := [("math/bits.deBruijn32tab", laid_math_bits_deBruijn32tab), ("math/bits.deBruijn64tab", laid_math_bits_deBruijn64tab), ("internal/strconv.uint64pow10", laid_internal_strconv_uint64pow10), ("seedcorn/token.words", laid_seedcorn_token_words), ("seedcorn/syntax.signs", laid_seedcorn_syntax_signs)], narrowed := true }
def SyntaxGrowsUptoSaid : Prop := syntaxGrowsUptoRow.holds Tryd.pinned (OpenSpec.upto syntaxGrowsSpec)

end Rows
end Go.Proofs.YthnhdompfhkepaaDoor
