/-
  NARROWER THAN 'FOR EVERY INPUT', by the rows' own cells (each row's printed sentence says how): LayoutPacks: laid · LayoutMakes: laid · LayoutPointers: laid · LayoutConverts: laid · LayoutApart: laid · LayoutSets: laid · LayoutBack: laid · LayoutParses: laid · LayoutTexts: laid.
  DERIVED. THE GIVEN ROWS OF THIS SEAT. 9 by the template 'for every input the law returns true; each argument reads behind the call as it read before'; 0 by the template 'total and deterministic' (their statements: YtlkffmmgcoiniaaDoorTotals.lean).
  GIVEN WITH THE SEED: the statements are not yours to turn. If you find one false, say at which input.
  Laid BY PROGRAM, IN A SANDBOX (cutbox-rows.mjs): the forced cells as the released guide's own fill.sh prints them over the translation 040c47fd8073db87… (all of the seat's roots in one cut). By AI agents, Wed Nov 11 2026. No macro, syntax, notation, axiom, sorry.
-/
import Derived.Test.YtlkffmmgcoiniaaDoorChecked
import GoSem.PinnedTables
import GoSem.Claim
import GoSem.ClaimJoined
import GoSem.ClaimMapViews
import Derived.JoinedTies
import Derived.KernelRfl
namespace Go.Proofs.YtlkffmmgcoiniaaDoor
/- THE CELL 'sum', in the pinned program and in every row, IS THE sha256 OF THE DUMP (.gsa) THAT YtlkffmmgcoiniaaDoorProg.lean LOADS. Nothing in Lean hashes anything: it is a label: what it is worth is what the hold of that sum in a sandbox is worth. -/
noncomputable def Tryd.pinned : Pinned := { name := "ytlkffmmgcoiniaadoor", sum := "040c47fd8073db87aab2170634511e11db284091b36f7531aacac796cdda9871", checked := Tryd.checked }
namespace Rows
def none {H : Type} : Left H := { results := [], args := [] }

/- WHAT THE LISTED PACKAGE-LEVEL VARIABLES READ AS WHEN THE CALL BEGINS. Each datum BY PROGRAM (the guide's laid-datum.mjs) off the statement by which the dump's own 'gosem.cut.vars' lays the variable. In a bare row this is a premise. The card (YtlkffmmgcoiniaaDoorCards.lean) ties it to the program's text. -/
def laid_math_bits_deBruijn32tab {H : Type} : DataW H := .agg [.lit (.int .u8 0), .lit (.int .u8 1), .lit (.int .u8 28), .lit (.int .u8 2), .lit (.int .u8 29), .lit (.int .u8 14), .lit (.int .u8 24), .lit (.int .u8 3), .lit (.int .u8 30), .lit (.int .u8 22), .lit (.int .u8 20), .lit (.int .u8 15), .lit (.int .u8 25), .lit (.int .u8 17), .lit (.int .u8 4), .lit (.int .u8 8), .lit (.int .u8 31), .lit (.int .u8 27), .lit (.int .u8 13), .lit (.int .u8 23), .lit (.int .u8 21), .lit (.int .u8 19), .lit (.int .u8 16), .lit (.int .u8 7), .lit (.int .u8 26), .lit (.int .u8 12), .lit (.int .u8 18), .lit (.int .u8 6), .lit (.int .u8 11), .lit (.int .u8 5), .lit (.int .u8 10), .lit (.int .u8 9)]
def laid_math_bits_deBruijn64tab {H : Type} : DataW H := .agg [.lit (.int .u8 0), .lit (.int .u8 1), .lit (.int .u8 56), .lit (.int .u8 2), .lit (.int .u8 57), .lit (.int .u8 49), .lit (.int .u8 28), .lit (.int .u8 3), .lit (.int .u8 61), .lit (.int .u8 58), .lit (.int .u8 42), .lit (.int .u8 50), .lit (.int .u8 38), .lit (.int .u8 29), .lit (.int .u8 17), .lit (.int .u8 4), .lit (.int .u8 62), .lit (.int .u8 47), .lit (.int .u8 59), .lit (.int .u8 36), .lit (.int .u8 45), .lit (.int .u8 43), .lit (.int .u8 51), .lit (.int .u8 22), .lit (.int .u8 53), .lit (.int .u8 39), .lit (.int .u8 33), .lit (.int .u8 30), .lit (.int .u8 24), .lit (.int .u8 18), .lit (.int .u8 12), .lit (.int .u8 5), .lit (.int .u8 63), .lit (.int .u8 55), .lit (.int .u8 48), .lit (.int .u8 27), .lit (.int .u8 60), .lit (.int .u8 41), .lit (.int .u8 37), .lit (.int .u8 16), .lit (.int .u8 46), .lit (.int .u8 35), .lit (.int .u8 44), .lit (.int .u8 21), .lit (.int .u8 52), .lit (.int .u8 32), .lit (.int .u8 23), .lit (.int .u8 11), .lit (.int .u8 54), .lit (.int .u8 26), .lit (.int .u8 40), .lit (.int .u8 15), .lit (.int .u8 34), .lit (.int .u8 20), .lit (.int .u8 31), .lit (.int .u8 10), .lit (.int .u8 25), .lit (.int .u8 14), .lit (.int .u8 19), .lit (.int .u8 9), .lit (.int .u8 13), .lit (.int .u8 8), .lit (.int .u8 7), .lit (.int .u8 6)]
def laid_internal_strconv_uint64pow10 {H : Type} : DataW H := .agg [.lit (.int .u64 1), .lit (.int .u64 10), .lit (.int .u64 100), .lit (.int .u64 1000), .lit (.int .u64 10000), .lit (.int .u64 100000), .lit (.int .u64 1000000), .lit (.int .u64 10000000), .lit (.int .u64 100000000), .lit (.int .u64 1000000000), .lit (.int .u64 10000000000), .lit (.int .u64 100000000000), .lit (.int .u64 1000000000000), .lit (.int .u64 10000000000000), .lit (.int .u64 100000000000000), .lit (.int .u64 1000000000000000), .lit (.int .u64 10000000000000000), .lit (.int .u64 100000000000000000), .lit (.int .u64 1000000000000000000), .lit (.int .u64 10000000000000000000)]
def laid_bedrock_layout_widths {H : Type} : DataW H := .agg [.lit (.int .i64 0), .lit (.int .i64 64), .lit (.int .i64 64), .lit (.int .i64 32), .lit (.int .i64 16), .lit (.int .i64 8), .lit (.int .i64 1), .lit (.int .i64 64)]
def laid_bedrock_layout_typeNames {H : Type} : DataW H := .agg [.lit (.string []), .lit (.string [117, 54, 52]), .lit (.string [105, 54, 52]), .lit (.string [117, 51, 50]), .lit (.string [117, 49, 54]), .lit (.string [117, 56]), .lit (.string [102, 108, 97, 103]), .lit (.string [112, 111, 105, 110, 116, 101, 114])]
def laid_unicode_utf8_acceptRanges {H : Type} : DataW H := .agg [.agg [.lit (.int .u8 128), .lit (.int .u8 191)], .agg [.lit (.int .u8 160), .lit (.int .u8 191)], .agg [.lit (.int .u8 128), .lit (.int .u8 159)], .agg [.lit (.int .u8 144), .lit (.int .u8 191)], .agg [.lit (.int .u8 128), .lit (.int .u8 143)], .agg [.lit (.int .u8 0), .lit (.int .u8 0)], .agg [.lit (.int .u8 0), .lit (.int .u8 0)], .agg [.lit (.int .u8 0), .lit (.int .u8 0)], .agg [.lit (.int .u8 0), .lit (.int .u8 0)], .agg [.lit (.int .u8 0), .lit (.int .u8 0)], .agg [.lit (.int .u8 0), .lit (.int .u8 0)], .agg [.lit (.int .u8 0), .lit (.int .u8 0)], .agg [.lit (.int .u8 0), .lit (.int .u8 0)], .agg [.lit (.int .u8 0), .lit (.int .u8 0)], .agg [.lit (.int .u8 0), .lit (.int .u8 0)], .agg [.lit (.int .u8 0), .lit (.int .u8 0)]]
def laid_strconv_ErrRange {H : Type} : DataW H := .iface "*errors.errorString" (.ptr (.agg [.lit (.string [118, 97, 108, 117, 101, 32, 111, 117, 116, 32, 111, 102, 32, 114, 97, 110, 103, 101])]))
def laid_strconv_ErrSyntax {H : Type} : DataW H := .iface "*errors.errorString" (.ptr (.agg [.lit (.string [105, 110, 118, 97, 108, 105, 100, 32, 115, 121, 110, 116, 97, 120])]))
/-- One of Go's own tables, pinned by name: the form's constant. -/
def laid_unicode_utf8_first : DataW Unit := Go.Pinned.utf8First

/-- 'bedrocklaw12.LayoutPacks': WHATEVER THE INPUT: true; the input reads as it did. -/
def layoutPacksSpec : ChangeSpec := { name := "layoutPacks", fn := fun _ => fun
  | [d] => { results := [.lit (.bool true)], args := [d] }
  | _ => none }
def layoutPacksRow : OpenClaim := { program := "ytlkffmmgcoiniaadoor", sum := "040c47fd8073db87aab2170634511e11db284091b36f7531aacac796cdda9871", func := "bedrock/bedrocklaw12.LayoutPacks", spec := "layoutPacks", inPlace := ["internal/abi.NoEscape"], named := ["bedrock/layout.widths", "bedrock/layout.typeNames", "internal/strconv.uint64pow10", "math/bits.deBruijn32tab", "math/bits.deBruijn64tab"], apart := false, laid := [("math/bits.deBruijn32tab", laid_math_bits_deBruijn32tab), ("math/bits.deBruijn64tab", laid_math_bits_deBruijn64tab), ("internal/strconv.uint64pow10", laid_internal_strconv_uint64pow10), ("bedrock/layout.widths", laid_bedrock_layout_widths), ("bedrock/layout.typeNames", laid_bedrock_layout_typeNames)] }
def LayoutPacksSaid : Prop := layoutPacksRow.holds Tryd.pinned (OpenSpec.ofChange layoutPacksSpec)

/-- ITS FALSE NEIGHBOUR: 'it returns false'. Refute it at one input. -/
def layoutPacksWrong : ChangeSpec := { name := "layoutPacks", fn := fun _ => fun
  | [d] => { results := [.lit (.bool false)], args := [d] }
  | _ => none }
def LayoutPacksWrongFalsely : Prop := layoutPacksRow.holds Tryd.pinned (OpenSpec.ofChange layoutPacksWrong)

/-- 'bedrocklaw12.LayoutMakes': WHATEVER THE INPUT: true; the input reads as it did. -/
def layoutMakesSpec : ChangeSpec := { name := "layoutMakes", fn := fun _ => fun
  | [d] => { results := [.lit (.bool true)], args := [d] }
  | _ => none }
def layoutMakesRow : OpenClaim := { program := "ytlkffmmgcoiniaadoor", sum := "040c47fd8073db87aab2170634511e11db284091b36f7531aacac796cdda9871", func := "bedrock/bedrocklaw12.LayoutMakes", spec := "layoutMakes", inPlace := ["internal/abi.NoEscape"], named := ["bedrock/layout.widths", "bedrock/layout.typeNames", "internal/strconv.uint64pow10", "math/bits.deBruijn32tab", "math/bits.deBruijn64tab"], apart := false, laid := [("math/bits.deBruijn32tab", laid_math_bits_deBruijn32tab), ("math/bits.deBruijn64tab", laid_math_bits_deBruijn64tab), ("internal/strconv.uint64pow10", laid_internal_strconv_uint64pow10), ("bedrock/layout.widths", laid_bedrock_layout_widths), ("bedrock/layout.typeNames", laid_bedrock_layout_typeNames)] }
def LayoutMakesSaid : Prop := layoutMakesRow.holds Tryd.pinned (OpenSpec.ofChange layoutMakesSpec)

/-- ITS FALSE NEIGHBOUR: 'it returns false'. Refute it at one input. -/
def layoutMakesWrong : ChangeSpec := { name := "layoutMakes", fn := fun _ => fun
  | [d] => { results := [.lit (.bool false)], args := [d] }
  | _ => none }
def LayoutMakesWrongFalsely : Prop := layoutMakesRow.holds Tryd.pinned (OpenSpec.ofChange layoutMakesWrong)

/-- 'bedrocklaw12.LayoutPointers': WHATEVER THE INPUT: true; the input reads as it did. -/
def layoutPointersSpec : ChangeSpec := { name := "layoutPointers", fn := fun _ => fun
  | [d] => { results := [.lit (.bool true)], args := [d] }
  | _ => none }
def layoutPointersRow : OpenClaim := { program := "ytlkffmmgcoiniaadoor", sum := "040c47fd8073db87aab2170634511e11db284091b36f7531aacac796cdda9871", func := "bedrock/bedrocklaw12.LayoutPointers", spec := "layoutPointers", inPlace := ["internal/abi.NoEscape"], named := ["bedrock/layout.widths", "bedrock/layout.typeNames", "internal/strconv.uint64pow10", "math/bits.deBruijn32tab", "math/bits.deBruijn64tab"], apart := false, laid := [("math/bits.deBruijn32tab", laid_math_bits_deBruijn32tab), ("math/bits.deBruijn64tab", laid_math_bits_deBruijn64tab), ("internal/strconv.uint64pow10", laid_internal_strconv_uint64pow10), ("bedrock/layout.widths", laid_bedrock_layout_widths), ("bedrock/layout.typeNames", laid_bedrock_layout_typeNames)] }
def LayoutPointersSaid : Prop := layoutPointersRow.holds Tryd.pinned (OpenSpec.ofChange layoutPointersSpec)

/-- ITS FALSE NEIGHBOUR: 'it returns false'. Refute it at one input. -/
def layoutPointersWrong : ChangeSpec := { name := "layoutPointers", fn := fun _ => fun
  | [d] => { results := [.lit (.bool false)], args := [d] }
  | _ => none }
def LayoutPointersWrongFalsely : Prop := layoutPointersRow.holds Tryd.pinned (OpenSpec.ofChange layoutPointersWrong)

/-- 'bedrocklaw12.LayoutConverts': WHATEVER THE INPUT: true; the input reads as it did. -/
def layoutConvertsSpec : ChangeSpec := { name := "layoutConverts", fn := fun _ => fun
  | [d1, d2, d3] => { results := [.lit (.bool true)], args := [d1, d2, d3] }
  | _ => none }
def layoutConvertsRow : OpenClaim := { program := "ytlkffmmgcoiniaadoor", sum := "040c47fd8073db87aab2170634511e11db284091b36f7531aacac796cdda9871", func := "bedrock/bedrocklaw12.LayoutConverts", spec := "layoutConverts", inPlace := ["internal/abi.NoEscape"], named := ["bedrock/layout.widths", "bedrock/layout.typeNames", "internal/strconv.uint64pow10", "math/bits.deBruijn32tab", "math/bits.deBruijn64tab"], apart := false, laid := [("math/bits.deBruijn32tab", laid_math_bits_deBruijn32tab), ("math/bits.deBruijn64tab", laid_math_bits_deBruijn64tab), ("internal/strconv.uint64pow10", laid_internal_strconv_uint64pow10), ("bedrock/layout.widths", laid_bedrock_layout_widths), ("bedrock/layout.typeNames", laid_bedrock_layout_typeNames)] }
def LayoutConvertsSaid : Prop := layoutConvertsRow.holds Tryd.pinned (OpenSpec.ofChange layoutConvertsSpec)

/-- ITS FALSE NEIGHBOUR: 'it returns false'. Refute it at one input. -/
def layoutConvertsWrong : ChangeSpec := { name := "layoutConverts", fn := fun _ => fun
  | [d1, d2, d3] => { results := [.lit (.bool false)], args := [d1, d2, d3] }
  | _ => none }
def LayoutConvertsWrongFalsely : Prop := layoutConvertsRow.holds Tryd.pinned (OpenSpec.ofChange layoutConvertsWrong)

/-- 'bedrocklaw12.LayoutApart': WHATEVER THE INPUT: true; the input reads as it did. -/
def layoutApartSpec : ChangeSpec := { name := "layoutApart", fn := fun _ => fun
  | [d1, d2, d3] => { results := [.lit (.bool true)], args := [d1, d2, d3] }
  | _ => none }
def layoutApartRow : OpenClaim := { program := "ytlkffmmgcoiniaadoor", sum := "040c47fd8073db87aab2170634511e11db284091b36f7531aacac796cdda9871", func := "bedrock/bedrocklaw12.LayoutApart", spec := "layoutApart", inPlace := ["internal/abi.NoEscape"], named := ["bedrock/layout.widths", "bedrock/layout.typeNames", "internal/strconv.uint64pow10", "math/bits.deBruijn32tab", "math/bits.deBruijn64tab"], apart := false, laid := [("math/bits.deBruijn32tab", laid_math_bits_deBruijn32tab), ("math/bits.deBruijn64tab", laid_math_bits_deBruijn64tab), ("internal/strconv.uint64pow10", laid_internal_strconv_uint64pow10), ("bedrock/layout.widths", laid_bedrock_layout_widths), ("bedrock/layout.typeNames", laid_bedrock_layout_typeNames)] }
def LayoutApartSaid : Prop := layoutApartRow.holds Tryd.pinned (OpenSpec.ofChange layoutApartSpec)

/-- ITS FALSE NEIGHBOUR: 'it returns false'. Refute it at one input. -/
def layoutApartWrong : ChangeSpec := { name := "layoutApart", fn := fun _ => fun
  | [d1, d2, d3] => { results := [.lit (.bool false)], args := [d1, d2, d3] }
  | _ => none }
def LayoutApartWrongFalsely : Prop := layoutApartRow.holds Tryd.pinned (OpenSpec.ofChange layoutApartWrong)

/-- 'bedrocklaw12.LayoutSets': WHATEVER THE INPUT: true; the input reads as it did. -/
def layoutSetsSpec : ChangeSpec := { name := "layoutSets", fn := fun _ => fun
  | [d1, d2, d3] => { results := [.lit (.bool true)], args := [d1, d2, d3] }
  | _ => none }
def layoutSetsRow : OpenClaim := { program := "ytlkffmmgcoiniaadoor", sum := "040c47fd8073db87aab2170634511e11db284091b36f7531aacac796cdda9871", func := "bedrock/bedrocklaw12.LayoutSets", spec := "layoutSets", inPlace := ["internal/abi.NoEscape"], named := ["bedrock/layout.widths", "bedrock/layout.typeNames", "internal/strconv.uint64pow10", "math/bits.deBruijn32tab", "math/bits.deBruijn64tab"], apart := false, laid := [("math/bits.deBruijn32tab", laid_math_bits_deBruijn32tab), ("math/bits.deBruijn64tab", laid_math_bits_deBruijn64tab), ("internal/strconv.uint64pow10", laid_internal_strconv_uint64pow10), ("bedrock/layout.widths", laid_bedrock_layout_widths), ("bedrock/layout.typeNames", laid_bedrock_layout_typeNames)] }
def LayoutSetsSaid : Prop := layoutSetsRow.holds Tryd.pinned (OpenSpec.ofChange layoutSetsSpec)

/-- ITS FALSE NEIGHBOUR: 'it returns false'. Refute it at one input. -/
def layoutSetsWrong : ChangeSpec := { name := "layoutSets", fn := fun _ => fun
  | [d1, d2, d3] => { results := [.lit (.bool false)], args := [d1, d2, d3] }
  | _ => none }
def LayoutSetsWrongFalsely : Prop := layoutSetsRow.holds Tryd.pinned (OpenSpec.ofChange layoutSetsWrong)

/-- 'bedrocklaw12.LayoutBack': WHATEVER THE INPUT: true; the input reads as it did. -/
def layoutBackSpec : ChangeSpec := { name := "layoutBack", fn := fun _ => fun
  | [d1, d2] => { results := [.lit (.bool true)], args := [d1, d2] }
  | _ => none }
def layoutBackRow : OpenClaim := { program := "ytlkffmmgcoiniaadoor", sum := "040c47fd8073db87aab2170634511e11db284091b36f7531aacac796cdda9871", func := "bedrock/bedrocklaw12.LayoutBack", spec := "layoutBack", inPlace := ["internal/abi.NoEscape"], named := ["bedrock/layout.widths", "bedrock/layout.typeNames", "internal/strconv.uint64pow10", "math/bits.deBruijn32tab", "math/bits.deBruijn64tab"], apart := false, laid := [("math/bits.deBruijn32tab", laid_math_bits_deBruijn32tab), ("math/bits.deBruijn64tab", laid_math_bits_deBruijn64tab), ("internal/strconv.uint64pow10", laid_internal_strconv_uint64pow10), ("bedrock/layout.widths", laid_bedrock_layout_widths), ("bedrock/layout.typeNames", laid_bedrock_layout_typeNames)] }
def LayoutBackSaid : Prop := layoutBackRow.holds Tryd.pinned (OpenSpec.ofChange layoutBackSpec)

/-- ITS FALSE NEIGHBOUR: 'it returns false'. Refute it at one input. -/
def layoutBackWrong : ChangeSpec := { name := "layoutBack", fn := fun _ => fun
  | [d1, d2] => { results := [.lit (.bool false)], args := [d1, d2] }
  | _ => none }
def LayoutBackWrongFalsely : Prop := layoutBackRow.holds Tryd.pinned (OpenSpec.ofChange layoutBackWrong)

/-- 'bedrocklaw12.LayoutParses': WHATEVER THE INPUT: true; the input reads as it did. -/
def layoutParsesSpec : ChangeSpec := { name := "layoutParses", fn := fun _ => fun
  | [d1, d2, d3] => { results := [.lit (.bool true)], args := [d1, d2, d3] }
  | _ => none }
def layoutParsesRow : OpenClaim := { program := "ytlkffmmgcoiniaadoor", sum := "040c47fd8073db87aab2170634511e11db284091b36f7531aacac796cdda9871", func := "bedrock/bedrocklaw12.LayoutParses", spec := "layoutParses", inPlace := ["internal/abi.NoEscape", "internal/bytealg.CountString", "internal/bytealg.IndexByteString", "internal/bytealg.IndexString"], named := ["bedrock/layout.widths", "bedrock/layout.typeNames", "internal/strconv.uint64pow10", "math/bits.deBruijn32tab", "math/bits.deBruijn64tab", "unicode/utf8.first", "unicode/utf8.acceptRanges", "internal/bytealg.MaxLen", "strconv.ErrSyntax", "strconv.ErrRange"], apart := false, laid := [("math/bits.deBruijn32tab", laid_math_bits_deBruijn32tab), ("math/bits.deBruijn64tab", laid_math_bits_deBruijn64tab), ("internal/strconv.uint64pow10", laid_internal_strconv_uint64pow10), ("unicode/utf8.acceptRanges", laid_unicode_utf8_acceptRanges), ("strconv.ErrRange", laid_strconv_ErrRange), ("strconv.ErrSyntax", laid_strconv_ErrSyntax), ("bedrock/layout.widths", laid_bedrock_layout_widths), ("bedrock/layout.typeNames", laid_bedrock_layout_typeNames), ("unicode/utf8.first", laid_unicode_utf8_first)] }
def LayoutParsesSaid : Prop := layoutParsesRow.holds Tryd.pinned (OpenSpec.ofChange layoutParsesSpec)

/-- ITS FALSE NEIGHBOUR: 'it returns false'. Refute it at one input. -/
def layoutParsesWrong : ChangeSpec := { name := "layoutParses", fn := fun _ => fun
  | [d1, d2, d3] => { results := [.lit (.bool false)], args := [d1, d2, d3] }
  | _ => none }
def LayoutParsesWrongFalsely : Prop := layoutParsesRow.holds Tryd.pinned (OpenSpec.ofChange layoutParsesWrong)

/-- 'bedrocklaw12.LayoutTexts': WHATEVER THE INPUT: true; the input reads as it did. -/
def layoutTextsSpec : ChangeSpec := { name := "layoutTexts", fn := fun _ => fun
  | [d] => { results := [.lit (.bool true)], args := [d] }
  | _ => none }
def layoutTextsRow : OpenClaim := { program := "ytlkffmmgcoiniaadoor", sum := "040c47fd8073db87aab2170634511e11db284091b36f7531aacac796cdda9871", func := "bedrock/bedrocklaw12.LayoutTexts", spec := "layoutTexts", inPlace := ["internal/abi.NoEscape", "internal/bytealg.CountString", "internal/bytealg.IndexByteString", "internal/bytealg.IndexString"], named := ["bedrock/layout.widths", "bedrock/layout.typeNames", "internal/strconv.uint64pow10", "math/bits.deBruijn32tab", "math/bits.deBruijn64tab", "unicode/utf8.first", "unicode/utf8.acceptRanges", "internal/bytealg.MaxLen", "strconv.ErrSyntax", "strconv.ErrRange"], apart := false, laid := [("math/bits.deBruijn32tab", laid_math_bits_deBruijn32tab), ("math/bits.deBruijn64tab", laid_math_bits_deBruijn64tab), ("internal/strconv.uint64pow10", laid_internal_strconv_uint64pow10), ("unicode/utf8.acceptRanges", laid_unicode_utf8_acceptRanges), ("strconv.ErrRange", laid_strconv_ErrRange), ("strconv.ErrSyntax", laid_strconv_ErrSyntax), ("bedrock/layout.widths", laid_bedrock_layout_widths), ("bedrock/layout.typeNames", laid_bedrock_layout_typeNames), ("unicode/utf8.first", laid_unicode_utf8_first)] }
def LayoutTextsSaid : Prop := layoutTextsRow.holds Tryd.pinned (OpenSpec.ofChange layoutTextsSpec)

/-- ITS FALSE NEIGHBOUR: 'it returns false'. Refute it at one input. -/
def layoutTextsWrong : ChangeSpec := { name := "layoutTexts", fn := fun _ => fun
  | [d] => { results := [.lit (.bool false)], args := [d] }
  | _ => none }
def LayoutTextsWrongFalsely : Prop := layoutTextsRow.holds Tryd.pinned (OpenSpec.ofChange layoutTextsWrong)

/- THE SECOND FORM. 'bulk': how many values and letters a reading holds, each counted each time it is reached (what is shared counts as often as it is met; a slice's spare places count too). A statement '..UptoSaid' is the law's where the arguments, and the package variables that the reading takes, are together of bulk at most 1048576: NARROWER than '..Said'. Prove '..Said' where nothing that the law and all that it calls make is longer than what came in: it says more and counts as full. Else prove '..UptoSaid'. A law counts once. -/
mutual
def uptoBulk {H : Type} : DataW H → Nat
  | .lit (.string bytes) => bytes.length + 1
  | .lit _ => 1
  | .nil => 1
  | .ptr d => uptoBulk d + 1
  | .slice elems spare => uptoBulkAll elems + uptoBulkAll spare + 1
  | .agg parts => uptoBulkAll parts + 1
  | .iface _ d => uptoBulk d + 1
  | .map entries => uptoBulkEntries entries + 1
  | .held _ => 1
def uptoBulkAll {H : Type} : List (DataW H) → Nat
  | [] => 0
  | d :: r => uptoBulk d + uptoBulkAll r
def uptoBulkEntries {H : Type} : List (Lit × DataW H) → Nat
  | [] => 0
  | x :: r => uptoBulkEntry x + uptoBulkEntries r
def uptoBulkEntry {H : Type} : Lit × DataW H → Nat
  | (.string bytes, d) => bytes.length + uptoBulk d + 1
  | (_, d) => uptoBulk d + 1
 end
def uptoSmall : (H : Type) → List (DataW H) → Bool := fun _ ds => decide (uptoBulkAll ds ≤ 1048576)
def OpenSpec.upto (s : _root_.Go.ChangeSpec) : _root_.Go.OpenSpec := { _root_.Go.OpenSpec.ofChange s with cond := some uptoSmall }

/-- 'bedrocklaw12.LayoutPacks', WHERE WHAT IT READS IS OF BULK AT MOST 1048576: true; the input reads as it did. -/
def layoutPacksUptoRow : OpenClaim := { program := "ytlkffmmgcoiniaadoor", sum := "040c47fd8073db87aab2170634511e11db284091b36f7531aacac796cdda9871", func := "bedrock/bedrocklaw12.LayoutPacks", spec := "layoutPacks", inPlace := ["internal/abi.NoEscape"], named := ["bedrock/layout.widths", "bedrock/layout.typeNames", "internal/strconv.uint64pow10", "math/bits.deBruijn32tab", "math/bits.deBruijn64tab"], apart := false, laid := [("math/bits.deBruijn32tab", laid_math_bits_deBruijn32tab), ("math/bits.deBruijn64tab", laid_math_bits_deBruijn64tab), ("internal/strconv.uint64pow10", laid_internal_strconv_uint64pow10), ("bedrock/layout.widths", laid_bedrock_layout_widths), ("bedrock/layout.typeNames", laid_bedrock_layout_typeNames)], narrowed := true }
def LayoutPacksUptoSaid : Prop := layoutPacksUptoRow.holds Tryd.pinned (OpenSpec.upto layoutPacksSpec)

/-- 'bedrocklaw12.LayoutMakes', WHERE WHAT IT READS IS OF BULK AT MOST 1048576: true; the input reads as it did. -/
def layoutMakesUptoRow : OpenClaim := { program := "ytlkffmmgcoiniaadoor", sum := "040c47fd8073db87aab2170634511e11db284091b36f7531aacac796cdda9871", func := "bedrock/bedrocklaw12.LayoutMakes", spec := "layoutMakes", inPlace := ["internal/abi.NoEscape"], named := ["bedrock/layout.widths", "bedrock/layout.typeNames", "internal/strconv.uint64pow10", "math/bits.deBruijn32tab", "math/bits.deBruijn64tab"], apart := false, laid := [("math/bits.deBruijn32tab", laid_math_bits_deBruijn32tab), ("math/bits.deBruijn64tab", laid_math_bits_deBruijn64tab), ("internal/strconv.uint64pow10", laid_internal_strconv_uint64pow10), ("bedrock/layout.widths", laid_bedrock_layout_widths), ("bedrock/layout.typeNames", laid_bedrock_layout_typeNames)], narrowed := true }
def LayoutMakesUptoSaid : Prop := layoutMakesUptoRow.holds Tryd.pinned (OpenSpec.upto layoutMakesSpec)

/-- 'bedrocklaw12.LayoutPointers', WHERE WHAT IT READS IS OF BULK AT MOST 1048576: true; the input reads as it did. -/
def layoutPointersUptoRow : OpenClaim := { program := "ytlkffmmgcoiniaadoor", sum := "040c47fd8073db87aab2170634511e11db284091b36f7531aacac796cdda9871", func := "bedrock/bedrocklaw12.LayoutPointers", spec := "layoutPointers", inPlace := ["internal/abi.NoEscape"], named := ["bedrock/layout.widths", "bedrock/layout.typeNames", "internal/strconv.uint64pow10", "math/bits.deBruijn32tab", "math/bits.deBruijn64tab"], apart := false, laid := [("math/bits.deBruijn32tab", laid_math_bits_deBruijn32tab), ("math/bits.deBruijn64tab", laid_math_bits_deBruijn64tab), ("internal/strconv.uint64pow10", laid_internal_strconv_uint64pow10), ("bedrock/layout.widths", laid_bedrock_layout_widths), ("bedrock/layout.typeNames", laid_bedrock_layout_typeNames)], narrowed := true }
def LayoutPointersUptoSaid : Prop := layoutPointersUptoRow.holds Tryd.pinned (OpenSpec.upto layoutPointersSpec)

/-- 'bedrocklaw12.LayoutConverts', WHERE WHAT IT READS IS OF BULK AT MOST 1048576: true; the input reads as it did. -/
def layoutConvertsUptoRow : OpenClaim := { program := "ytlkffmmgcoiniaadoor", sum := "040c47fd8073db87aab2170634511e11db284091b36f7531aacac796cdda9871", func := "bedrock/bedrocklaw12.LayoutConverts", spec := "layoutConverts", inPlace := ["internal/abi.NoEscape"], named := ["bedrock/layout.widths", "bedrock/layout.typeNames", "internal/strconv.uint64pow10", "math/bits.deBruijn32tab", "math/bits.deBruijn64tab"], apart := false, laid := [("math/bits.deBruijn32tab", laid_math_bits_deBruijn32tab), ("math/bits.deBruijn64tab", laid_math_bits_deBruijn64tab), ("internal/strconv.uint64pow10", laid_internal_strconv_uint64pow10), ("bedrock/layout.widths", laid_bedrock_layout_widths), ("bedrock/layout.typeNames", laid_bedrock_layout_typeNames)], narrowed := true }
def LayoutConvertsUptoSaid : Prop := layoutConvertsUptoRow.holds Tryd.pinned (OpenSpec.upto layoutConvertsSpec)

/-- 'bedrocklaw12.LayoutApart', WHERE WHAT IT READS IS OF BULK AT MOST 1048576: true; the input reads as it did. -/
def layoutApartUptoRow : OpenClaim := { program := "ytlkffmmgcoiniaadoor", sum := "040c47fd8073db87aab2170634511e11db284091b36f7531aacac796cdda9871", func := "bedrock/bedrocklaw12.LayoutApart", spec := "layoutApart", inPlace := ["internal/abi.NoEscape"], named := ["bedrock/layout.widths", "bedrock/layout.typeNames", "internal/strconv.uint64pow10", "math/bits.deBruijn32tab", "math/bits.deBruijn64tab"], apart := false, laid := [("math/bits.deBruijn32tab", laid_math_bits_deBruijn32tab), ("math/bits.deBruijn64tab", laid_math_bits_deBruijn64tab), ("internal/strconv.uint64pow10", laid_internal_strconv_uint64pow10), ("bedrock/layout.widths", laid_bedrock_layout_widths), ("bedrock/layout.typeNames", laid_bedrock_layout_typeNames)], narrowed := true }
def LayoutApartUptoSaid : Prop := layoutApartUptoRow.holds Tryd.pinned (OpenSpec.upto layoutApartSpec)

/-- 'bedrocklaw12.LayoutSets', WHERE WHAT IT READS IS OF BULK AT MOST 1048576: true; the input reads as it did. -/
def layoutSetsUptoRow : OpenClaim := { program := "ytlkffmmgcoiniaadoor", sum := "040c47fd8073db87aab2170634511e11db284091b36f7531aacac796cdda9871", func := "bedrock/bedrocklaw12.LayoutSets", spec := "layoutSets", inPlace := ["internal/abi.NoEscape"], named := ["bedrock/layout.widths", "bedrock/layout.typeNames", "internal/strconv.uint64pow10", "math/bits.deBruijn32tab", "math/bits.deBruijn64tab"], apart := false, laid := [("math/bits.deBruijn32tab", laid_math_bits_deBruijn32tab), ("math/bits.deBruijn64tab", laid_math_bits_deBruijn64tab), ("internal/strconv.uint64pow10", laid_internal_strconv_uint64pow10), ("bedrock/layout.widths", laid_bedrock_layout_widths), ("bedrock/layout.typeNames", laid_bedrock_layout_typeNames)], narrowed := true }
def LayoutSetsUptoSaid : Prop := layoutSetsUptoRow.holds Tryd.pinned (OpenSpec.upto layoutSetsSpec)

/-- 'bedrocklaw12.LayoutBack', WHERE WHAT IT READS IS OF BULK AT MOST 1048576: true; the input reads as it did. -/
def layoutBackUptoRow : OpenClaim := { program := "ytlkffmmgcoiniaadoor", sum := "040c47fd8073db87aab2170634511e11db284091b36f7531aacac796cdda9871", func := "bedrock/bedrocklaw12.LayoutBack", spec := "layoutBack", inPlace := ["internal/abi.NoEscape"], named := ["bedrock/layout.widths", "bedrock/layout.typeNames", "internal/strconv.uint64pow10", "math/bits.deBruijn32tab", "math/bits.deBruijn64tab"], apart := false, laid := [("math/bits.deBruijn32tab", laid_math_bits_deBruijn32tab), ("math/bits.deBruijn64tab", laid_math_bits_deBruijn64tab), ("internal/strconv.uint64pow10", laid_internal_strconv_uint64pow10), ("bedrock/layout.widths", laid_bedrock_layout_widths), ("bedrock/layout.typeNames", laid_bedrock_layout_typeNames)], narrowed := true }
def LayoutBackUptoSaid : Prop := layoutBackUptoRow.holds Tryd.pinned (OpenSpec.upto layoutBackSpec)

/-- 'bedrocklaw12.LayoutParses', WHERE WHAT IT READS IS OF BULK AT MOST 1048576: true; the input reads as it did. -/
def layoutParsesUptoRow : OpenClaim := { program := "ytlkffmmgcoiniaadoor", sum := "040c47fd8073db87aab2170634511e11db284091b36f7531aacac796cdda9871", func := "bedrock/bedrocklaw12.LayoutParses", spec := "layoutParses", inPlace := ["internal/abi.NoEscape", "internal/bytealg.CountString", "internal/bytealg.IndexByteString", "internal/bytealg.IndexString"], named := ["bedrock/layout.widths", "bedrock/layout.typeNames", "internal/strconv.uint64pow10", "math/bits.deBruijn32tab", "math/bits.deBruijn64tab", "unicode/utf8.first", "unicode/utf8.acceptRanges", "internal/bytealg.MaxLen", "strconv.ErrSyntax", "strconv.ErrRange"], apart := false, laid := [("math/bits.deBruijn32tab", laid_math_bits_deBruijn32tab), ("math/bits.deBruijn64tab", laid_math_bits_deBruijn64tab), ("internal/strconv.uint64pow10", laid_internal_strconv_uint64pow10), ("unicode/utf8.acceptRanges", laid_unicode_utf8_acceptRanges), ("strconv.ErrRange", laid_strconv_ErrRange), ("strconv.ErrSyntax", laid_strconv_ErrSyntax), ("bedrock/layout.widths", laid_bedrock_layout_widths), ("bedrock/layout.typeNames", laid_bedrock_layout_typeNames), ("unicode/utf8.first", laid_unicode_utf8_first)], narrowed := true }
def LayoutParsesUptoSaid : Prop := layoutParsesUptoRow.holds Tryd.pinned (OpenSpec.upto layoutParsesSpec)

/-- 'bedrocklaw12.LayoutTexts', WHERE WHAT IT READS IS OF BULK AT MOST 1048576: true; the input reads as it did. -/
def layoutTextsUptoRow : OpenClaim := { program := "ytlkffmmgcoiniaadoor", sum := "040c47fd8073db87aab2170634511e11db284091b36f7531aacac796cdda9871", func := "bedrock/bedrocklaw12.LayoutTexts", spec := "layoutTexts", inPlace := ["internal/abi.NoEscape", "internal/bytealg.CountString", "internal/bytealg.IndexByteString", "internal/bytealg.IndexString"], named := ["bedrock/layout.widths", "bedrock/layout.typeNames", "internal/strconv.uint64pow10", "math/bits.deBruijn32tab", "math/bits.deBruijn64tab", "unicode/utf8.first", "unicode/utf8.acceptRanges", "internal/bytealg.MaxLen", "strconv.ErrSyntax", "strconv.ErrRange"], apart := false, laid := [("math/bits.deBruijn32tab", laid_math_bits_deBruijn32tab), ("math/bits.deBruijn64tab", laid_math_bits_deBruijn64tab), ("internal/strconv.uint64pow10", laid_internal_strconv_uint64pow10), ("unicode/utf8.acceptRanges", laid_unicode_utf8_acceptRanges), ("strconv.ErrRange", laid_strconv_ErrRange), ("strconv.ErrSyntax", laid_strconv_ErrSyntax), ("bedrock/layout.widths", laid_bedrock_layout_widths), ("bedrock/layout.typeNames", laid_bedrock_layout_typeNames), ("unicode/utf8.first", laid_unicode_utf8_first)], narrowed := true }
def LayoutTextsUptoSaid : Prop := layoutTextsUptoRow.holds Tryd.pinned (OpenSpec.upto layoutTextsSpec)

end Rows
end Go.Proofs.YtlkffmmgcoiniaaDoor
