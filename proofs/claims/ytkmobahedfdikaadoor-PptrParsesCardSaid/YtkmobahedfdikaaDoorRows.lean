/-
  NARROWER THAN 'FOR EVERY INPUT', by the rows' own cells (each row's printed sentence says how): PptrWords: laid · PptrMoves: laid · PptrTwoMoves: laid · PptrMakes: laid · PptrParts: laid · PptrGens: laid · PptrTexts: laid · PptrParses: laid.
  DERIVED. THE GIVEN ROWS OF THIS SEAT. 8 by the template 'for every input the law returns true; each argument reads behind the call as it read before'; 0 by the template 'total and deterministic' (their statements: YtkmobahedfdikaaDoorTotals.lean).
  GIVEN WITH THE SEED: the statements are not yours to turn. If you find one false, say at which input.
  Laid BY PROGRAM, IN A SANDBOX (cutbox-rows.mjs): the forced cells as the released guide's own fill.sh prints them over the translation 35c18f7b2b3252aa… (all of the seat's roots in one cut). By AI agents, Wed Nov 11 2026. No macro, syntax, notation, axiom, sorry.
-/
import Derived.Test.YtkmobahedfdikaaDoorChecked
import GoSem.Claim
import GoSem.ClaimJoined
import GoSem.ClaimMapViews
import Derived.JoinedTies
import Derived.KernelRfl
namespace Go.Proofs.YtkmobahedfdikaaDoor
/- THE CELL 'sum', in the pinned program and in every row, IS THE sha256 OF THE DUMP (.gsa) THAT YtkmobahedfdikaaDoorProg.lean LOADS. Nothing in Lean hashes anything: it is a label: what it is worth is what the hold of that sum in a sandbox is worth. -/
noncomputable def Tryd.pinned : Pinned := { name := "ytkmobahedfdikaadoor", sum := "35c18f7b2b3252aa5497923378654174c82a679c4eed0ec79e4726314a15a71d", checked := Tryd.checked }
namespace Rows
def none {H : Type} : Left H := { results := [], args := [] }

/- WHAT THE LISTED PACKAGE-LEVEL VARIABLES READ AS WHEN THE CALL BEGINS. Each datum BY PROGRAM (the guide's laid-datum.mjs) off the statement by which the dump's own 'gosem.cut.vars' lays the variable. In a bare row this is a premise. The card (YtkmobahedfdikaaDoorCards.lean) ties it to the program's text. -/
def laid_math_bits_deBruijn32tab {H : Type} : DataW H := .agg [.lit (.int .u8 0), .lit (.int .u8 1), .lit (.int .u8 28), .lit (.int .u8 2), .lit (.int .u8 29), .lit (.int .u8 14), .lit (.int .u8 24), .lit (.int .u8 3), .lit (.int .u8 30), .lit (.int .u8 22), .lit (.int .u8 20), .lit (.int .u8 15), .lit (.int .u8 25), .lit (.int .u8 17), .lit (.int .u8 4), .lit (.int .u8 8), .lit (.int .u8 31), .lit (.int .u8 27), .lit (.int .u8 13), .lit (.int .u8 23), .lit (.int .u8 21), .lit (.int .u8 19), .lit (.int .u8 16), .lit (.int .u8 7), .lit (.int .u8 26), .lit (.int .u8 12), .lit (.int .u8 18), .lit (.int .u8 6), .lit (.int .u8 11), .lit (.int .u8 5), .lit (.int .u8 10), .lit (.int .u8 9)]
def laid_math_bits_deBruijn64tab {H : Type} : DataW H := .agg [.lit (.int .u8 0), .lit (.int .u8 1), .lit (.int .u8 56), .lit (.int .u8 2), .lit (.int .u8 57), .lit (.int .u8 49), .lit (.int .u8 28), .lit (.int .u8 3), .lit (.int .u8 61), .lit (.int .u8 58), .lit (.int .u8 42), .lit (.int .u8 50), .lit (.int .u8 38), .lit (.int .u8 29), .lit (.int .u8 17), .lit (.int .u8 4), .lit (.int .u8 62), .lit (.int .u8 47), .lit (.int .u8 59), .lit (.int .u8 36), .lit (.int .u8 45), .lit (.int .u8 43), .lit (.int .u8 51), .lit (.int .u8 22), .lit (.int .u8 53), .lit (.int .u8 39), .lit (.int .u8 33), .lit (.int .u8 30), .lit (.int .u8 24), .lit (.int .u8 18), .lit (.int .u8 12), .lit (.int .u8 5), .lit (.int .u8 63), .lit (.int .u8 55), .lit (.int .u8 48), .lit (.int .u8 27), .lit (.int .u8 60), .lit (.int .u8 41), .lit (.int .u8 37), .lit (.int .u8 16), .lit (.int .u8 46), .lit (.int .u8 35), .lit (.int .u8 44), .lit (.int .u8 21), .lit (.int .u8 52), .lit (.int .u8 32), .lit (.int .u8 23), .lit (.int .u8 11), .lit (.int .u8 54), .lit (.int .u8 26), .lit (.int .u8 40), .lit (.int .u8 15), .lit (.int .u8 34), .lit (.int .u8 20), .lit (.int .u8 31), .lit (.int .u8 10), .lit (.int .u8 25), .lit (.int .u8 14), .lit (.int .u8 19), .lit (.int .u8 9), .lit (.int .u8 13), .lit (.int .u8 8), .lit (.int .u8 7), .lit (.int .u8 6)]
def laid_internal_strconv_uint64pow10 {H : Type} : DataW H := .agg [.lit (.int .u64 1), .lit (.int .u64 10), .lit (.int .u64 100), .lit (.int .u64 1000), .lit (.int .u64 10000), .lit (.int .u64 100000), .lit (.int .u64 1000000), .lit (.int .u64 10000000), .lit (.int .u64 100000000), .lit (.int .u64 1000000000), .lit (.int .u64 10000000000), .lit (.int .u64 100000000000), .lit (.int .u64 1000000000000), .lit (.int .u64 10000000000000), .lit (.int .u64 100000000000000), .lit (.int .u64 1000000000000000), .lit (.int .u64 10000000000000000), .lit (.int .u64 100000000000000000), .lit (.int .u64 1000000000000000000), .lit (.int .u64 10000000000000000000)]
def laid_strconv_ErrRange {H : Type} : DataW H := .iface "*errors.errorString" (.ptr (.agg [.lit (.string [118, 97, 108, 117, 101, 32, 111, 117, 116, 32, 111, 102, 32, 114, 97, 110, 103, 101])]))
def laid_strconv_ErrSyntax {H : Type} : DataW H := .iface "*errors.errorString" (.ptr (.agg [.lit (.string [105, 110, 118, 97, 108, 105, 100, 32, 115, 121, 110, 116, 97, 120])]))

/-- 'bedrocklaw09.PptrWords': WHATEVER THE INPUT: true; the input reads as it did. -/
def pptrWordsSpec : ChangeSpec := { name := "pptrWords", fn := fun _ => fun
  | [d1, d2] => { results := [.lit (.bool true)], args := [d1, d2] }
  | _ => none }
def pptrWordsRow : OpenClaim := { program := "ytkmobahedfdikaadoor", sum := "35c18f7b2b3252aa5497923378654174c82a679c4eed0ec79e4726314a15a71d", func := "bedrock/bedrocklaw09.PptrWords", spec := "pptrWords", named := ["internal/strconv.uint64pow10", "math/bits.deBruijn32tab", "math/bits.deBruijn64tab"], apart := false, laid := [("math/bits.deBruijn32tab", laid_math_bits_deBruijn32tab), ("math/bits.deBruijn64tab", laid_math_bits_deBruijn64tab), ("internal/strconv.uint64pow10", laid_internal_strconv_uint64pow10)] }
def PptrWordsSaid : Prop := pptrWordsRow.holds Tryd.pinned (OpenSpec.ofChange pptrWordsSpec)

/-- ITS FALSE NEIGHBOUR: 'it returns false'. Refute it at one input. -/
def pptrWordsWrong : ChangeSpec := { name := "pptrWords", fn := fun _ => fun
  | [d1, d2] => { results := [.lit (.bool false)], args := [d1, d2] }
  | _ => none }
def PptrWordsWrongFalsely : Prop := pptrWordsRow.holds Tryd.pinned (OpenSpec.ofChange pptrWordsWrong)

/-- 'bedrocklaw09.PptrMoves': WHATEVER THE INPUT: true; the input reads as it did. -/
def pptrMovesSpec : ChangeSpec := { name := "pptrMoves", fn := fun _ => fun
  | [d1, d2] => { results := [.lit (.bool true)], args := [d1, d2] }
  | _ => none }
def pptrMovesRow : OpenClaim := { program := "ytkmobahedfdikaadoor", sum := "35c18f7b2b3252aa5497923378654174c82a679c4eed0ec79e4726314a15a71d", func := "bedrock/bedrocklaw09.PptrMoves", spec := "pptrMoves", named := ["internal/strconv.uint64pow10", "math/bits.deBruijn32tab", "math/bits.deBruijn64tab"], apart := false, laid := [("math/bits.deBruijn32tab", laid_math_bits_deBruijn32tab), ("math/bits.deBruijn64tab", laid_math_bits_deBruijn64tab), ("internal/strconv.uint64pow10", laid_internal_strconv_uint64pow10)] }
def PptrMovesSaid : Prop := pptrMovesRow.holds Tryd.pinned (OpenSpec.ofChange pptrMovesSpec)

/-- ITS FALSE NEIGHBOUR: 'it returns false'. Refute it at one input. -/
def pptrMovesWrong : ChangeSpec := { name := "pptrMoves", fn := fun _ => fun
  | [d1, d2] => { results := [.lit (.bool false)], args := [d1, d2] }
  | _ => none }
def PptrMovesWrongFalsely : Prop := pptrMovesRow.holds Tryd.pinned (OpenSpec.ofChange pptrMovesWrong)

/-- 'bedrocklaw09.PptrTwoMoves': WHATEVER THE INPUT: true; the input reads as it did. -/
def pptrTwoMovesSpec : ChangeSpec := { name := "pptrTwoMoves", fn := fun _ => fun
  | [d1, d2, d3] => { results := [.lit (.bool true)], args := [d1, d2, d3] }
  | _ => none }
def pptrTwoMovesRow : OpenClaim := { program := "ytkmobahedfdikaadoor", sum := "35c18f7b2b3252aa5497923378654174c82a679c4eed0ec79e4726314a15a71d", func := "bedrock/bedrocklaw09.PptrTwoMoves", spec := "pptrTwoMoves", named := ["internal/strconv.uint64pow10", "math/bits.deBruijn32tab", "math/bits.deBruijn64tab"], apart := false, laid := [("math/bits.deBruijn32tab", laid_math_bits_deBruijn32tab), ("math/bits.deBruijn64tab", laid_math_bits_deBruijn64tab), ("internal/strconv.uint64pow10", laid_internal_strconv_uint64pow10)] }
def PptrTwoMovesSaid : Prop := pptrTwoMovesRow.holds Tryd.pinned (OpenSpec.ofChange pptrTwoMovesSpec)

/-- ITS FALSE NEIGHBOUR: 'it returns false'. Refute it at one input. -/
def pptrTwoMovesWrong : ChangeSpec := { name := "pptrTwoMoves", fn := fun _ => fun
  | [d1, d2, d3] => { results := [.lit (.bool false)], args := [d1, d2, d3] }
  | _ => none }
def PptrTwoMovesWrongFalsely : Prop := pptrTwoMovesRow.holds Tryd.pinned (OpenSpec.ofChange pptrTwoMovesWrong)

/-- 'bedrocklaw09.PptrMakes': WHATEVER THE INPUT: true; the input reads as it did. -/
def pptrMakesSpec : ChangeSpec := { name := "pptrMakes", fn := fun _ => fun
  | [d1, d2, d3] => { results := [.lit (.bool true)], args := [d1, d2, d3] }
  | _ => none }
def pptrMakesRow : OpenClaim := { program := "ytkmobahedfdikaadoor", sum := "35c18f7b2b3252aa5497923378654174c82a679c4eed0ec79e4726314a15a71d", func := "bedrock/bedrocklaw09.PptrMakes", spec := "pptrMakes", named := ["internal/strconv.uint64pow10", "math/bits.deBruijn32tab", "math/bits.deBruijn64tab"], apart := false, laid := [("math/bits.deBruijn32tab", laid_math_bits_deBruijn32tab), ("math/bits.deBruijn64tab", laid_math_bits_deBruijn64tab), ("internal/strconv.uint64pow10", laid_internal_strconv_uint64pow10)] }
def PptrMakesSaid : Prop := pptrMakesRow.holds Tryd.pinned (OpenSpec.ofChange pptrMakesSpec)

/-- ITS FALSE NEIGHBOUR: 'it returns false'. Refute it at one input. -/
def pptrMakesWrong : ChangeSpec := { name := "pptrMakes", fn := fun _ => fun
  | [d1, d2, d3] => { results := [.lit (.bool false)], args := [d1, d2, d3] }
  | _ => none }
def PptrMakesWrongFalsely : Prop := pptrMakesRow.holds Tryd.pinned (OpenSpec.ofChange pptrMakesWrong)

/-- 'bedrocklaw09.PptrParts': WHATEVER THE INPUT: true; the input reads as it did. -/
def pptrPartsSpec : ChangeSpec := { name := "pptrParts", fn := fun _ => fun
  | [d1, d2] => { results := [.lit (.bool true)], args := [d1, d2] }
  | _ => none }
def pptrPartsRow : OpenClaim := { program := "ytkmobahedfdikaadoor", sum := "35c18f7b2b3252aa5497923378654174c82a679c4eed0ec79e4726314a15a71d", func := "bedrock/bedrocklaw09.PptrParts", spec := "pptrParts", named := ["internal/strconv.uint64pow10", "math/bits.deBruijn32tab", "math/bits.deBruijn64tab"], apart := false, laid := [("math/bits.deBruijn32tab", laid_math_bits_deBruijn32tab), ("math/bits.deBruijn64tab", laid_math_bits_deBruijn64tab), ("internal/strconv.uint64pow10", laid_internal_strconv_uint64pow10)] }
def PptrPartsSaid : Prop := pptrPartsRow.holds Tryd.pinned (OpenSpec.ofChange pptrPartsSpec)

/-- ITS FALSE NEIGHBOUR: 'it returns false'. Refute it at one input. -/
def pptrPartsWrong : ChangeSpec := { name := "pptrParts", fn := fun _ => fun
  | [d1, d2] => { results := [.lit (.bool false)], args := [d1, d2] }
  | _ => none }
def PptrPartsWrongFalsely : Prop := pptrPartsRow.holds Tryd.pinned (OpenSpec.ofChange pptrPartsWrong)

/-- 'bedrocklaw09.PptrGens': WHATEVER THE INPUT: true; the input reads as it did. -/
def pptrGensSpec : ChangeSpec := { name := "pptrGens", fn := fun _ => fun
  | [d] => { results := [.lit (.bool true)], args := [d] }
  | _ => none }
def pptrGensRow : OpenClaim := { program := "ytkmobahedfdikaadoor", sum := "35c18f7b2b3252aa5497923378654174c82a679c4eed0ec79e4726314a15a71d", func := "bedrock/bedrocklaw09.PptrGens", spec := "pptrGens", named := ["internal/strconv.uint64pow10", "math/bits.deBruijn32tab", "math/bits.deBruijn64tab"], apart := false, laid := [("math/bits.deBruijn32tab", laid_math_bits_deBruijn32tab), ("math/bits.deBruijn64tab", laid_math_bits_deBruijn64tab), ("internal/strconv.uint64pow10", laid_internal_strconv_uint64pow10)] }
def PptrGensSaid : Prop := pptrGensRow.holds Tryd.pinned (OpenSpec.ofChange pptrGensSpec)

/-- ITS FALSE NEIGHBOUR: 'it returns false'. Refute it at one input. -/
def pptrGensWrong : ChangeSpec := { name := "pptrGens", fn := fun _ => fun
  | [d] => { results := [.lit (.bool false)], args := [d] }
  | _ => none }
def PptrGensWrongFalsely : Prop := pptrGensRow.holds Tryd.pinned (OpenSpec.ofChange pptrGensWrong)

/-- 'bedrocklaw09.PptrTexts': WHATEVER THE INPUT: true; the input reads as it did. -/
def pptrTextsSpec : ChangeSpec := { name := "pptrTexts", fn := fun _ => fun
  | [d] => { results := [.lit (.bool true)], args := [d] }
  | _ => none }
def pptrTextsRow : OpenClaim := { program := "ytkmobahedfdikaadoor", sum := "35c18f7b2b3252aa5497923378654174c82a679c4eed0ec79e4726314a15a71d", func := "bedrock/bedrocklaw09.PptrTexts", spec := "pptrTexts", inPlace := ["internal/bytealg.IndexByteString", "internal/bytealg.IndexString"], named := ["internal/strconv.uint64pow10", "math/bits.deBruijn32tab", "math/bits.deBruijn64tab", "internal/bytealg.MaxLen", "strconv.ErrSyntax", "strconv.ErrRange"], apart := false, laid := [("math/bits.deBruijn32tab", laid_math_bits_deBruijn32tab), ("math/bits.deBruijn64tab", laid_math_bits_deBruijn64tab), ("internal/strconv.uint64pow10", laid_internal_strconv_uint64pow10), ("strconv.ErrRange", laid_strconv_ErrRange), ("strconv.ErrSyntax", laid_strconv_ErrSyntax)] }
def PptrTextsSaid : Prop := pptrTextsRow.holds Tryd.pinned (OpenSpec.ofChange pptrTextsSpec)

/-- ITS FALSE NEIGHBOUR: 'it returns false'. Refute it at one input. -/
def pptrTextsWrong : ChangeSpec := { name := "pptrTexts", fn := fun _ => fun
  | [d] => { results := [.lit (.bool false)], args := [d] }
  | _ => none }
def PptrTextsWrongFalsely : Prop := pptrTextsRow.holds Tryd.pinned (OpenSpec.ofChange pptrTextsWrong)

/-- 'bedrocklaw09.PptrParses': WHATEVER THE INPUT: true; the input reads as it did. -/
def pptrParsesSpec : ChangeSpec := { name := "pptrParses", fn := fun _ => fun
  | [d] => { results := [.lit (.bool true)], args := [d] }
  | _ => none }
def pptrParsesRow : OpenClaim := { program := "ytkmobahedfdikaadoor", sum := "35c18f7b2b3252aa5497923378654174c82a679c4eed0ec79e4726314a15a71d", func := "bedrock/bedrocklaw09.PptrParses", spec := "pptrParses", inPlace := ["internal/bytealg.IndexByteString", "internal/bytealg.IndexString"], named := ["internal/strconv.uint64pow10", "math/bits.deBruijn32tab", "math/bits.deBruijn64tab", "internal/bytealg.MaxLen", "strconv.ErrSyntax", "strconv.ErrRange"], apart := false, laid := [("math/bits.deBruijn32tab", laid_math_bits_deBruijn32tab), ("math/bits.deBruijn64tab", laid_math_bits_deBruijn64tab), ("internal/strconv.uint64pow10", laid_internal_strconv_uint64pow10), ("strconv.ErrRange", laid_strconv_ErrRange), ("strconv.ErrSyntax", laid_strconv_ErrSyntax)] }
def PptrParsesSaid : Prop := pptrParsesRow.holds Tryd.pinned (OpenSpec.ofChange pptrParsesSpec)

/-- ITS FALSE NEIGHBOUR: 'it returns false'. Refute it at one input. -/
def pptrParsesWrong : ChangeSpec := { name := "pptrParses", fn := fun _ => fun
  | [d] => { results := [.lit (.bool false)], args := [d] }
  | _ => none }
def PptrParsesWrongFalsely : Prop := pptrParsesRow.holds Tryd.pinned (OpenSpec.ofChange pptrParsesWrong)

/- THE SECOND FORM. 'bulk': how many values and letters a reading holds, each counted each time it is reached (what is shared counts as often as it is met; a slice's spare places count too). A statement '..UptoSaid' is the law's where the arguments, and the package variables that the reading takes, are together of bulk at most 1048576: NARROWER than '..Said'. Prove '..Said' where nothing that the law and all that it calls make is longer than what came in: it says more and counts as full. Else prove '..UptoSaid'. A law counts once. -/
mutual
def uptoBulk {H : Type} : DataW H → Nat
  | .lit (.string bytes) => bytes.length + 1
  | .lit _ => 1
  | .nil => 1
  | .ptr d => uptoBulk d + 1
  | .slice elems spare => uptoBulkAll elems + uptoBulkAll spare + 1
  | .agg parts => uptoBulkAll parts + 1
  | .iface _ d => uptoBulk d + 1
  | .map entries => uptoBulkEntries entries + 1
  | .held _ => 1
def uptoBulkAll {H : Type} : List (DataW H) → Nat
  | [] => 0
  | d :: r => uptoBulk d + uptoBulkAll r
def uptoBulkEntries {H : Type} : List (Lit × DataW H) → Nat
  | [] => 0
  | x :: r => uptoBulkEntry x + uptoBulkEntries r
def uptoBulkEntry {H : Type} : Lit × DataW H → Nat
  | (.string bytes, d) => bytes.length + uptoBulk d + 1
  | (_, d) => uptoBulk d + 1
 end
def uptoSmall : (H : Type) → List (DataW H) → Bool := fun _ ds => decide (uptoBulkAll ds ≤ 1048576)
def OpenSpec.upto (s : _root_.Go.ChangeSpec) : _root_.Go.OpenSpec := { _root_.Go.OpenSpec.ofChange s with cond := some uptoSmall }

/-- 'bedrocklaw09.PptrWords', WHERE WHAT IT READS IS OF BULK AT MOST 1048576: true; the input reads as it did. -/
def pptrWordsUptoRow : OpenClaim := { program := "ytkmobahedfdikaadoor", sum := "35c18f7b2b3252aa5497923378654174c82a679c4eed0ec79e4726314a15a71d", func := "bedrock/bedrocklaw09.PptrWords", spec := "pptrWords", named := ["internal/strconv.uint64pow10", "math/bits.deBruijn32tab", "math/bits.deBruijn64tab"], apart := false, laid := [("math/bits.deBruijn32tab", laid_math_bits_deBruijn32tab), ("math/bits.deBruijn64tab", laid_math_bits_deBruijn64tab), ("internal/strconv.uint64pow10", laid_internal_strconv_uint64pow10)], narrowed := true }
def PptrWordsUptoSaid : Prop := pptrWordsUptoRow.holds Tryd.pinned (OpenSpec.upto pptrWordsSpec)

/-- 'bedrocklaw09.PptrMoves', WHERE WHAT IT READS IS OF BULK AT MOST 1048576: true; the input reads as it did. -/
def pptrMovesUptoRow : OpenClaim := { program := "ytkmobahedfdikaadoor", sum := "35c18f7b2b3252aa5497923378654174c82a679c4eed0ec79e4726314a15a71d", func := "bedrock/bedrocklaw09.PptrMoves", spec := "pptrMoves", named := ["internal/strconv.uint64pow10", "math/bits.deBruijn32tab", "math/bits.deBruijn64tab"], apart := false, laid := [("math/bits.deBruijn32tab", laid_math_bits_deBruijn32tab), ("math/bits.deBruijn64tab", laid_math_bits_deBruijn64tab), ("internal/strconv.uint64pow10", laid_internal_strconv_uint64pow10)], narrowed := true }
def PptrMovesUptoSaid : Prop := pptrMovesUptoRow.holds Tryd.pinned (OpenSpec.upto pptrMovesSpec)

/-- 'bedrocklaw09.PptrTwoMoves', WHERE WHAT IT READS IS OF BULK AT MOST 1048576: true; the input reads as it did. -/
def pptrTwoMovesUptoRow : OpenClaim := { program := "ytkmobahedfdikaadoor", sum := "35c18f7b2b3252aa5497923378654174c82a679c4eed0ec79e4726314a15a71d", func := "bedrock/bedrocklaw09.PptrTwoMoves", spec := "pptrTwoMoves", named := ["internal/strconv.uint64pow10", "math/bits.deBruijn32tab", "math/bits.deBruijn64tab"], apart := false, laid := [("math/bits.deBruijn32tab", laid_math_bits_deBruijn32tab), ("math/bits.deBruijn64tab", laid_math_bits_deBruijn64tab), ("internal/strconv.uint64pow10", laid_internal_strconv_uint64pow10)], narrowed := true }
def PptrTwoMovesUptoSaid : Prop := pptrTwoMovesUptoRow.holds Tryd.pinned (OpenSpec.upto pptrTwoMovesSpec)

/-- 'bedrocklaw09.PptrMakes', WHERE WHAT IT READS IS OF BULK AT MOST 1048576: true; the input reads as it did. -/
def pptrMakesUptoRow : OpenClaim := { program := "ytkmobahedfdikaadoor", sum := "35c18f7b2b3252aa5497923378654174c82a679c4eed0ec79e4726314a15a71d", func := "bedrock/bedrocklaw09.PptrMakes", spec := "pptrMakes", named := ["internal/strconv.uint64pow10", "math/bits.deBruijn32tab", "math/bits.deBruijn64tab"], apart := false, laid := [("math/bits.deBruijn32tab", laid_math_bits_deBruijn32tab), ("math/bits.deBruijn64tab", laid_math_bits_deBruijn64tab), ("internal/strconv.uint64pow10", laid_internal_strconv_uint64pow10)], narrowed := true }
def PptrMakesUptoSaid : Prop := pptrMakesUptoRow.holds Tryd.pinned (OpenSpec.upto pptrMakesSpec)

/-- 'bedrocklaw09.PptrParts', WHERE WHAT IT READS IS OF BULK AT MOST 1048576: true; the input reads as it did. -/
def pptrPartsUptoRow : OpenClaim := { program := "ytkmobahedfdikaadoor", sum := "35c18f7b2b3252aa5497923378654174c82a679c4eed0ec79e4726314a15a71d", func := "bedrock/bedrocklaw09.PptrParts", spec := "pptrParts", named := ["internal/strconv.uint64pow10", "math/bits.deBruijn32tab", "math/bits.deBruijn64tab"], apart := false, laid := [("math/bits.deBruijn32tab", laid_math_bits_deBruijn32tab), ("math/bits.deBruijn64tab", laid_math_bits_deBruijn64tab), ("internal/strconv.uint64pow10", laid_internal_strconv_uint64pow10)], narrowed := true }
def PptrPartsUptoSaid : Prop := pptrPartsUptoRow.holds Tryd.pinned (OpenSpec.upto pptrPartsSpec)

/-- 'bedrocklaw09.PptrGens', WHERE WHAT IT READS IS OF BULK AT MOST 1048576: true; the input reads as it did. -/
def pptrGensUptoRow : OpenClaim := { program := "ytkmobahedfdikaadoor", sum := "35c18f7b2b3252aa5497923378654174c82a679c4eed0ec79e4726314a15a71d", func := "bedrock/bedrocklaw09.PptrGens", spec := "pptrGens", named := ["internal/strconv.uint64pow10", "math/bits.deBruijn32tab", "math/bits.deBruijn64tab"], apart := false, laid := [("math/bits.deBruijn32tab", laid_math_bits_deBruijn32tab), ("math/bits.deBruijn64tab", laid_math_bits_deBruijn64tab), ("internal/strconv.uint64pow10", laid_internal_strconv_uint64pow10)], narrowed := true }
def PptrGensUptoSaid : Prop := pptrGensUptoRow.holds Tryd.pinned (OpenSpec.upto pptrGensSpec)

/-- 'bedrocklaw09.PptrTexts', WHERE WHAT IT READS IS OF BULK AT MOST 1048576: true; the input reads as it did. -/
def pptrTextsUptoRow : OpenClaim := { program := "ytkmobahedfdikaadoor", sum := "35c18f7b2b3252aa5497923378654174c82a679c4eed0ec79e4726314a15a71d", func := "bedrock/bedrocklaw09.PptrTexts", spec := "pptrTexts", inPlace := ["internal/bytealg.IndexByteString", "internal/bytealg.IndexString"], named := ["internal/strconv.uint64pow10", "math/bits.deBruijn32tab", "math/bits.deBruijn64tab", "internal/bytealg.MaxLen", "strconv.ErrSyntax", "strconv.ErrRange"], apart := false, laid := [("math/bits.deBruijn32tab", laid_math_bits_deBruijn32tab), ("math/bits.deBruijn64tab", laid_math_bits_deBruijn64tab), ("internal/strconv.uint64pow10", laid_internal_strconv_uint64pow10), ("strconv.ErrRange", laid_strconv_ErrRange), ("strconv.ErrSyntax", laid_strconv_ErrSyntax)], narrowed := true }
def PptrTextsUptoSaid : Prop := pptrTextsUptoRow.holds Tryd.pinned (OpenSpec.upto pptrTextsSpec)

/-- 'bedrocklaw09.PptrParses', WHERE WHAT IT READS IS OF BULK AT MOST 1048576: true; the input reads as it did. -/
def pptrParsesUptoRow : OpenClaim := { program := "ytkmobahedfdikaadoor", sum := "35c18f7b2b3252aa5497923378654174c82a679c4eed0ec79e4726314a15a71d", func := "bedrock/bedrocklaw09.PptrParses", spec := "pptrParses", inPlace := ["internal/bytealg.IndexByteString", "internal/bytealg.IndexString"], named := ["internal/strconv.uint64pow10", "math/bits.deBruijn32tab", "math/bits.deBruijn64tab", "internal/bytealg.MaxLen", "strconv.ErrSyntax", "strconv.ErrRange"], apart := false, laid := [("math/bits.deBruijn32tab", laid_math_bits_deBruijn32tab), ("math/bits.deBruijn64tab", laid_math_bits_deBruijn64tab), ("internal/strconv.uint64pow10", laid_internal_strconv_uint64pow10), ("strconv.ErrRange", laid_strconv_ErrRange), ("strconv.ErrSyntax", laid_strconv_ErrSyntax)], narrowed := true }
def PptrParsesUptoSaid : Prop := pptrParsesUptoRow.holds Tryd.pinned (OpenSpec.upto pptrParsesSpec)

end Rows
end Go.Proofs.YtkmobahedfdikaaDoor
