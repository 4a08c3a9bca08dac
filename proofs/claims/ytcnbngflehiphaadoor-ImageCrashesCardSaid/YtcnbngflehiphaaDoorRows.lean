/-
  NARROWER THAN 'FOR EVERY INPUT', by the rows' own cells (each row's printed sentence says how): ImageBytes: laid · ImageResizes: laid · ImageDiffers: laid · ImageWords: laid · ImageZero: laid · ImageSums: laid · ImageDevices: laid · ImageParses: laid · ImageTexts: laid · ImageCrashes: laid.
  DERIVED. THE GIVEN ROWS OF THIS SEAT. 10 by the template 'for every input the law returns true; each argument reads behind the call as it read before'; 0 by the template 'total and deterministic' (their statements: YtcnbngflehiphaaDoorTotals.lean).
  GIVEN WITH THE SEED: the statements are not yours to turn. If you find one false, say at which input.
  Laid BY PROGRAM, IN A SANDBOX (cutbox-rows.mjs): the forced cells as the released guide's own fill.sh prints them over the translation 098cd48707c1a9e6… (all of the seat's roots in one cut). By AI agents, Wed Nov 11 2026. No macro, syntax, notation, axiom, sorry.
-/
import Derived.Test.YtcnbngflehiphaaDoorChecked
import GoSem.PinnedTables
import GoSem.Claim
import GoSem.ClaimJoined
import GoSem.ClaimMapViews
import Derived.JoinedTies
import Derived.KernelRfl
namespace Go.Proofs.YtcnbngflehiphaaDoor
/- THE CELL 'sum', in the pinned program and in every row, IS THE sha256 OF THE DUMP (.gsa) THAT YtcnbngflehiphaaDoorProg.lean LOADS. Nothing in Lean hashes anything: it is a label: what it is worth is what the hold of that sum in a sandbox is worth. -/
noncomputable def Tryd.pinned : Pinned := { name := "ytcnbngflehiphaadoor", sum := "098cd48707c1a9e69b0ceb7dfd4bb0bcc4c8a4d158365a4c46ea9854cc722248", checked := Tryd.checked }
namespace Rows
def none {H : Type} : Left H := { results := [], args := [] }

/- WHAT THE LISTED PACKAGE-LEVEL VARIABLES READ AS WHEN THE CALL BEGINS. Each datum BY PROGRAM (the guide's laid-datum.mjs) off the statement by which the dump's own 'gosem.cut.vars' lays the variable. In a bare row this is a premise. The card (YtcnbngflehiphaaDoorCards.lean) ties it to the program's text. -/
def laid_math_bits_deBruijn32tab {H : Type} : DataW H := .agg [.lit (.int .u8 0), .lit (.int .u8 1), .lit (.int .u8 28), .lit (.int .u8 2), .lit (.int .u8 29), .lit (.int .u8 14), .lit (.int .u8 24), .lit (.int .u8 3), .lit (.int .u8 30), .lit (.int .u8 22), .lit (.int .u8 20), .lit (.int .u8 15), .lit (.int .u8 25), .lit (.int .u8 17), .lit (.int .u8 4), .lit (.int .u8 8), .lit (.int .u8 31), .lit (.int .u8 27), .lit (.int .u8 13), .lit (.int .u8 23), .lit (.int .u8 21), .lit (.int .u8 19), .lit (.int .u8 16), .lit (.int .u8 7), .lit (.int .u8 26), .lit (.int .u8 12), .lit (.int .u8 18), .lit (.int .u8 6), .lit (.int .u8 11), .lit (.int .u8 5), .lit (.int .u8 10), .lit (.int .u8 9)]
def laid_math_bits_deBruijn64tab {H : Type} : DataW H := .agg [.lit (.int .u8 0), .lit (.int .u8 1), .lit (.int .u8 56), .lit (.int .u8 2), .lit (.int .u8 57), .lit (.int .u8 49), .lit (.int .u8 28), .lit (.int .u8 3), .lit (.int .u8 61), .lit (.int .u8 58), .lit (.int .u8 42), .lit (.int .u8 50), .lit (.int .u8 38), .lit (.int .u8 29), .lit (.int .u8 17), .lit (.int .u8 4), .lit (.int .u8 62), .lit (.int .u8 47), .lit (.int .u8 59), .lit (.int .u8 36), .lit (.int .u8 45), .lit (.int .u8 43), .lit (.int .u8 51), .lit (.int .u8 22), .lit (.int .u8 53), .lit (.int .u8 39), .lit (.int .u8 33), .lit (.int .u8 30), .lit (.int .u8 24), .lit (.int .u8 18), .lit (.int .u8 12), .lit (.int .u8 5), .lit (.int .u8 63), .lit (.int .u8 55), .lit (.int .u8 48), .lit (.int .u8 27), .lit (.int .u8 60), .lit (.int .u8 41), .lit (.int .u8 37), .lit (.int .u8 16), .lit (.int .u8 46), .lit (.int .u8 35), .lit (.int .u8 44), .lit (.int .u8 21), .lit (.int .u8 52), .lit (.int .u8 32), .lit (.int .u8 23), .lit (.int .u8 11), .lit (.int .u8 54), .lit (.int .u8 26), .lit (.int .u8 40), .lit (.int .u8 15), .lit (.int .u8 34), .lit (.int .u8 20), .lit (.int .u8 31), .lit (.int .u8 10), .lit (.int .u8 25), .lit (.int .u8 14), .lit (.int .u8 19), .lit (.int .u8 9), .lit (.int .u8 13), .lit (.int .u8 8), .lit (.int .u8 7), .lit (.int .u8 6)]
def laid_internal_strconv_uint64pow10 {H : Type} : DataW H := .agg [.lit (.int .u64 1), .lit (.int .u64 10), .lit (.int .u64 100), .lit (.int .u64 1000), .lit (.int .u64 10000), .lit (.int .u64 100000), .lit (.int .u64 1000000), .lit (.int .u64 10000000), .lit (.int .u64 100000000), .lit (.int .u64 1000000000), .lit (.int .u64 10000000000), .lit (.int .u64 100000000000), .lit (.int .u64 1000000000000), .lit (.int .u64 10000000000000), .lit (.int .u64 100000000000000), .lit (.int .u64 1000000000000000), .lit (.int .u64 10000000000000000), .lit (.int .u64 100000000000000000), .lit (.int .u64 1000000000000000000), .lit (.int .u64 10000000000000000000)]
def laid_unicode_utf8_acceptRanges {H : Type} : DataW H := .agg [.agg [.lit (.int .u8 128), .lit (.int .u8 191)], .agg [.lit (.int .u8 160), .lit (.int .u8 191)], .agg [.lit (.int .u8 128), .lit (.int .u8 159)], .agg [.lit (.int .u8 144), .lit (.int .u8 191)], .agg [.lit (.int .u8 128), .lit (.int .u8 143)], .agg [.lit (.int .u8 0), .lit (.int .u8 0)], .agg [.lit (.int .u8 0), .lit (.int .u8 0)], .agg [.lit (.int .u8 0), .lit (.int .u8 0)], .agg [.lit (.int .u8 0), .lit (.int .u8 0)], .agg [.lit (.int .u8 0), .lit (.int .u8 0)], .agg [.lit (.int .u8 0), .lit (.int .u8 0)], .agg [.lit (.int .u8 0), .lit (.int .u8 0)], .agg [.lit (.int .u8 0), .lit (.int .u8 0)], .agg [.lit (.int .u8 0), .lit (.int .u8 0)], .agg [.lit (.int .u8 0), .lit (.int .u8 0)], .agg [.lit (.int .u8 0), .lit (.int .u8 0)]]
/-- One of Go's own tables, pinned by name: the form's constant. -/
def laid_unicode_utf8_first : DataW Unit := Go.Pinned.utf8First
def laid_bedrock_crc_nibbles {H : Type} : DataW H := .agg [.lit (.int .u32 0), .lit (.int .u32 274646895), .lit (.int .u32 549293790), .lit (.int .u32 820201905), .lit (.int .u32 1098587580), .lit (.int .u32 1361435347), .lit (.int .u32 1640403810), .lit (.int .u32 1905808397), .lit (.int .u32 2197175160), .lit (.int .u32 2460548119), .lit (.int .u32 2722870694), .lit (.int .u32 2987750089), .lit (.int .u32 3280807620), .lit (.int .u32 3553878443), .lit (.int .u32 3811616794), .lit (.int .u32 4084100981)]

/-- 'bedrocklaw04.ImageBytes': WHATEVER THE INPUT: true; the input reads as it did. -/
def imageBytesSpec : ChangeSpec := { name := "imageBytes", fn := fun _ => fun
  | [d] => { results := [.lit (.bool true)], args := [d] }
  | _ => none }
def imageBytesRow : OpenClaim := { program := "ytcnbngflehiphaadoor", sum := "098cd48707c1a9e69b0ceb7dfd4bb0bcc4c8a4d158365a4c46ea9854cc722248", func := "bedrock/bedrocklaw04.ImageBytes", spec := "imageBytes", inPlace := ["internal/abi.NoEscape", "internal/bytealg.IndexByteString", "internal/bytealg.IndexString"], named := ["internal/strconv.uint64pow10", "math/bits.deBruijn32tab", "math/bits.deBruijn64tab", "unicode/utf8.first", "unicode/utf8.acceptRanges", "internal/bytealg.MaxLen"], apart := false, laid := [("math/bits.deBruijn32tab", laid_math_bits_deBruijn32tab), ("math/bits.deBruijn64tab", laid_math_bits_deBruijn64tab), ("internal/strconv.uint64pow10", laid_internal_strconv_uint64pow10), ("unicode/utf8.acceptRanges", laid_unicode_utf8_acceptRanges), ("unicode/utf8.first", laid_unicode_utf8_first)] }
def ImageBytesSaid : Prop := imageBytesRow.holds Tryd.pinned (OpenSpec.ofChange imageBytesSpec)

/-- ITS FALSE NEIGHBOUR: 'it returns false'. Refute it at one input. -/
def imageBytesWrong : ChangeSpec := { name := "imageBytes", fn := fun _ => fun
  | [d] => { results := [.lit (.bool false)], args := [d] }
  | _ => none }
def ImageBytesWrongFalsely : Prop := imageBytesRow.holds Tryd.pinned (OpenSpec.ofChange imageBytesWrong)

/-- 'bedrocklaw04.ImageResizes': WHATEVER THE INPUT: true; the input reads as it did. -/
def imageResizesSpec : ChangeSpec := { name := "imageResizes", fn := fun _ => fun
  | [d1, d2] => { results := [.lit (.bool true)], args := [d1, d2] }
  | _ => none }
def imageResizesRow : OpenClaim := { program := "ytcnbngflehiphaadoor", sum := "098cd48707c1a9e69b0ceb7dfd4bb0bcc4c8a4d158365a4c46ea9854cc722248", func := "bedrock/bedrocklaw04.ImageResizes", spec := "imageResizes", inPlace := ["internal/abi.NoEscape", "internal/bytealg.IndexByteString", "internal/bytealg.IndexString"], named := ["internal/strconv.uint64pow10", "math/bits.deBruijn32tab", "math/bits.deBruijn64tab", "unicode/utf8.first", "unicode/utf8.acceptRanges", "internal/bytealg.MaxLen"], apart := false, laid := [("math/bits.deBruijn32tab", laid_math_bits_deBruijn32tab), ("math/bits.deBruijn64tab", laid_math_bits_deBruijn64tab), ("internal/strconv.uint64pow10", laid_internal_strconv_uint64pow10), ("unicode/utf8.acceptRanges", laid_unicode_utf8_acceptRanges), ("unicode/utf8.first", laid_unicode_utf8_first)] }
def ImageResizesSaid : Prop := imageResizesRow.holds Tryd.pinned (OpenSpec.ofChange imageResizesSpec)

/-- ITS FALSE NEIGHBOUR: 'it returns false'. Refute it at one input. -/
def imageResizesWrong : ChangeSpec := { name := "imageResizes", fn := fun _ => fun
  | [d1, d2] => { results := [.lit (.bool false)], args := [d1, d2] }
  | _ => none }
def ImageResizesWrongFalsely : Prop := imageResizesRow.holds Tryd.pinned (OpenSpec.ofChange imageResizesWrong)

/-- 'bedrocklaw04.ImageDiffers': WHATEVER THE INPUT: true; the input reads as it did. -/
def imageDiffersSpec : ChangeSpec := { name := "imageDiffers", fn := fun _ => fun
  | [d1, d2, d3] => { results := [.lit (.bool true)], args := [d1, d2, d3] }
  | _ => none }
def imageDiffersRow : OpenClaim := { program := "ytcnbngflehiphaadoor", sum := "098cd48707c1a9e69b0ceb7dfd4bb0bcc4c8a4d158365a4c46ea9854cc722248", func := "bedrock/bedrocklaw04.ImageDiffers", spec := "imageDiffers", inPlace := ["internal/abi.NoEscape", "internal/bytealg.IndexByteString", "internal/bytealg.IndexString"], named := ["internal/strconv.uint64pow10", "math/bits.deBruijn32tab", "math/bits.deBruijn64tab", "unicode/utf8.first", "unicode/utf8.acceptRanges", "internal/bytealg.MaxLen"], apart := false, laid := [("math/bits.deBruijn32tab", laid_math_bits_deBruijn32tab), ("math/bits.deBruijn64tab", laid_math_bits_deBruijn64tab), ("internal/strconv.uint64pow10", laid_internal_strconv_uint64pow10), ("unicode/utf8.acceptRanges", laid_unicode_utf8_acceptRanges), ("unicode/utf8.first", laid_unicode_utf8_first)] }
def ImageDiffersSaid : Prop := imageDiffersRow.holds Tryd.pinned (OpenSpec.ofChange imageDiffersSpec)

/-- ITS FALSE NEIGHBOUR: 'it returns false'. Refute it at one input. -/
def imageDiffersWrong : ChangeSpec := { name := "imageDiffers", fn := fun _ => fun
  | [d1, d2, d3] => { results := [.lit (.bool false)], args := [d1, d2, d3] }
  | _ => none }
def ImageDiffersWrongFalsely : Prop := imageDiffersRow.holds Tryd.pinned (OpenSpec.ofChange imageDiffersWrong)

/-- 'bedrocklaw04.ImageWords': WHATEVER THE INPUT: true; the input reads as it did. -/
def imageWordsSpec : ChangeSpec := { name := "imageWords", fn := fun _ => fun
  | [d1, d2, d3] => { results := [.lit (.bool true)], args := [d1, d2, d3] }
  | _ => none }
def imageWordsRow : OpenClaim := { program := "ytcnbngflehiphaadoor", sum := "098cd48707c1a9e69b0ceb7dfd4bb0bcc4c8a4d158365a4c46ea9854cc722248", func := "bedrock/bedrocklaw04.ImageWords", spec := "imageWords", inPlace := ["internal/abi.NoEscape", "internal/bytealg.IndexByteString", "internal/bytealg.IndexString"], named := ["internal/strconv.uint64pow10", "math/bits.deBruijn32tab", "math/bits.deBruijn64tab", "unicode/utf8.first", "unicode/utf8.acceptRanges", "internal/bytealg.MaxLen"], apart := false, laid := [("math/bits.deBruijn32tab", laid_math_bits_deBruijn32tab), ("math/bits.deBruijn64tab", laid_math_bits_deBruijn64tab), ("internal/strconv.uint64pow10", laid_internal_strconv_uint64pow10), ("unicode/utf8.acceptRanges", laid_unicode_utf8_acceptRanges), ("unicode/utf8.first", laid_unicode_utf8_first)] }
def ImageWordsSaid : Prop := imageWordsRow.holds Tryd.pinned (OpenSpec.ofChange imageWordsSpec)

/-- ITS FALSE NEIGHBOUR: 'it returns false'. Refute it at one input. -/
def imageWordsWrong : ChangeSpec := { name := "imageWords", fn := fun _ => fun
  | [d1, d2, d3] => { results := [.lit (.bool false)], args := [d1, d2, d3] }
  | _ => none }
def ImageWordsWrongFalsely : Prop := imageWordsRow.holds Tryd.pinned (OpenSpec.ofChange imageWordsWrong)

/-- 'bedrocklaw04.ImageZero': WHATEVER THE INPUT: true; the input reads as it did. -/
def imageZeroSpec : ChangeSpec := { name := "imageZero", fn := fun _ => fun
  | [d1, d2] => { results := [.lit (.bool true)], args := [d1, d2] }
  | _ => none }
def imageZeroRow : OpenClaim := { program := "ytcnbngflehiphaadoor", sum := "098cd48707c1a9e69b0ceb7dfd4bb0bcc4c8a4d158365a4c46ea9854cc722248", func := "bedrock/bedrocklaw04.ImageZero", spec := "imageZero", inPlace := ["internal/abi.NoEscape", "internal/bytealg.IndexByteString", "internal/bytealg.IndexString"], named := ["internal/strconv.uint64pow10", "math/bits.deBruijn32tab", "math/bits.deBruijn64tab", "unicode/utf8.first", "unicode/utf8.acceptRanges", "internal/bytealg.MaxLen"], apart := false, laid := [("math/bits.deBruijn32tab", laid_math_bits_deBruijn32tab), ("math/bits.deBruijn64tab", laid_math_bits_deBruijn64tab), ("internal/strconv.uint64pow10", laid_internal_strconv_uint64pow10), ("unicode/utf8.acceptRanges", laid_unicode_utf8_acceptRanges), ("unicode/utf8.first", laid_unicode_utf8_first)] }
def ImageZeroSaid : Prop := imageZeroRow.holds Tryd.pinned (OpenSpec.ofChange imageZeroSpec)

/-- ITS FALSE NEIGHBOUR: 'it returns false'. Refute it at one input. -/
def imageZeroWrong : ChangeSpec := { name := "imageZero", fn := fun _ => fun
  | [d1, d2] => { results := [.lit (.bool false)], args := [d1, d2] }
  | _ => none }
def ImageZeroWrongFalsely : Prop := imageZeroRow.holds Tryd.pinned (OpenSpec.ofChange imageZeroWrong)

/-- 'bedrocklaw04.ImageSums': WHATEVER THE INPUT: true; the input reads as it did. -/
def imageSumsSpec : ChangeSpec := { name := "imageSums", fn := fun _ => fun
  | [d1, d2, d3] => { results := [.lit (.bool true)], args := [d1, d2, d3] }
  | _ => none }
def imageSumsRow : OpenClaim := { program := "ytcnbngflehiphaadoor", sum := "098cd48707c1a9e69b0ceb7dfd4bb0bcc4c8a4d158365a4c46ea9854cc722248", func := "bedrock/bedrocklaw04.ImageSums", spec := "imageSums", inPlace := ["internal/abi.NoEscape", "internal/bytealg.IndexByteString", "internal/bytealg.IndexString"], named := ["internal/strconv.uint64pow10", "math/bits.deBruijn32tab", "math/bits.deBruijn64tab", "unicode/utf8.first", "unicode/utf8.acceptRanges", "bedrock/crc.nibbles", "internal/bytealg.MaxLen"], apart := false, laid := [("bedrock/crc.nibbles", laid_bedrock_crc_nibbles), ("math/bits.deBruijn32tab", laid_math_bits_deBruijn32tab), ("math/bits.deBruijn64tab", laid_math_bits_deBruijn64tab), ("internal/strconv.uint64pow10", laid_internal_strconv_uint64pow10), ("unicode/utf8.acceptRanges", laid_unicode_utf8_acceptRanges), ("unicode/utf8.first", laid_unicode_utf8_first)] }
def ImageSumsSaid : Prop := imageSumsRow.holds Tryd.pinned (OpenSpec.ofChange imageSumsSpec)

/-- ITS FALSE NEIGHBOUR: 'it returns false'. Refute it at one input. -/
def imageSumsWrong : ChangeSpec := { name := "imageSums", fn := fun _ => fun
  | [d1, d2, d3] => { results := [.lit (.bool false)], args := [d1, d2, d3] }
  | _ => none }
def ImageSumsWrongFalsely : Prop := imageSumsRow.holds Tryd.pinned (OpenSpec.ofChange imageSumsWrong)

/-- 'bedrocklaw04.ImageDevices': WHATEVER THE INPUT: true; the input reads as it did. -/
def imageDevicesSpec : ChangeSpec := { name := "imageDevices", fn := fun _ => fun
  | [d] => { results := [.lit (.bool true)], args := [d] }
  | _ => none }
def imageDevicesRow : OpenClaim := { program := "ytcnbngflehiphaadoor", sum := "098cd48707c1a9e69b0ceb7dfd4bb0bcc4c8a4d158365a4c46ea9854cc722248", func := "bedrock/bedrocklaw04.ImageDevices", spec := "imageDevices", inPlace := ["internal/abi.NoEscape", "internal/bytealg.IndexByteString", "internal/bytealg.IndexString"], named := ["internal/strconv.uint64pow10", "math/bits.deBruijn32tab", "math/bits.deBruijn64tab", "unicode/utf8.first", "unicode/utf8.acceptRanges", "internal/bytealg.MaxLen"], apart := false, laid := [("math/bits.deBruijn32tab", laid_math_bits_deBruijn32tab), ("math/bits.deBruijn64tab", laid_math_bits_deBruijn64tab), ("internal/strconv.uint64pow10", laid_internal_strconv_uint64pow10), ("unicode/utf8.acceptRanges", laid_unicode_utf8_acceptRanges), ("unicode/utf8.first", laid_unicode_utf8_first)] }
def ImageDevicesSaid : Prop := imageDevicesRow.holds Tryd.pinned (OpenSpec.ofChange imageDevicesSpec)

/-- ITS FALSE NEIGHBOUR: 'it returns false'. Refute it at one input. -/
def imageDevicesWrong : ChangeSpec := { name := "imageDevices", fn := fun _ => fun
  | [d] => { results := [.lit (.bool false)], args := [d] }
  | _ => none }
def ImageDevicesWrongFalsely : Prop := imageDevicesRow.holds Tryd.pinned (OpenSpec.ofChange imageDevicesWrong)

/-- 'bedrocklaw04.ImageParses': WHATEVER THE INPUT: true; the input reads as it did. -/
def imageParsesSpec : ChangeSpec := { name := "imageParses", fn := fun _ => fun
  | [d1, d2, d3] => { results := [.lit (.bool true)], args := [d1, d2, d3] }
  | _ => none }
def imageParsesRow : OpenClaim := { program := "ytcnbngflehiphaadoor", sum := "098cd48707c1a9e69b0ceb7dfd4bb0bcc4c8a4d158365a4c46ea9854cc722248", func := "bedrock/bedrocklaw04.ImageParses", spec := "imageParses", inPlace := ["internal/abi.NoEscape", "internal/bytealg.IndexByteString", "internal/bytealg.IndexString"], named := ["internal/strconv.uint64pow10", "math/bits.deBruijn32tab", "math/bits.deBruijn64tab", "unicode/utf8.first", "unicode/utf8.acceptRanges", "internal/bytealg.MaxLen"], apart := false, laid := [("math/bits.deBruijn32tab", laid_math_bits_deBruijn32tab), ("math/bits.deBruijn64tab", laid_math_bits_deBruijn64tab), ("internal/strconv.uint64pow10", laid_internal_strconv_uint64pow10), ("unicode/utf8.acceptRanges", laid_unicode_utf8_acceptRanges), ("unicode/utf8.first", laid_unicode_utf8_first)] }
def ImageParsesSaid : Prop := imageParsesRow.holds Tryd.pinned (OpenSpec.ofChange imageParsesSpec)

/-- ITS FALSE NEIGHBOUR: 'it returns false'. Refute it at one input. -/
def imageParsesWrong : ChangeSpec := { name := "imageParses", fn := fun _ => fun
  | [d1, d2, d3] => { results := [.lit (.bool false)], args := [d1, d2, d3] }
  | _ => none }
def ImageParsesWrongFalsely : Prop := imageParsesRow.holds Tryd.pinned (OpenSpec.ofChange imageParsesWrong)

/-- 'bedrocklaw04.ImageTexts': WHATEVER THE INPUT: true; the input reads as it did. -/
def imageTextsSpec : ChangeSpec := { name := "imageTexts", fn := fun _ => fun
  | [d1, d2] => { results := [.lit (.bool true)], args := [d1, d2] }
  | _ => none }
def imageTextsRow : OpenClaim := { program := "ytcnbngflehiphaadoor", sum := "098cd48707c1a9e69b0ceb7dfd4bb0bcc4c8a4d158365a4c46ea9854cc722248", func := "bedrock/bedrocklaw04.ImageTexts", spec := "imageTexts", inPlace := ["internal/abi.NoEscape", "internal/bytealg.IndexByteString", "internal/bytealg.IndexString"], named := ["internal/strconv.uint64pow10", "math/bits.deBruijn32tab", "math/bits.deBruijn64tab", "unicode/utf8.first", "unicode/utf8.acceptRanges", "internal/bytealg.MaxLen"], apart := false, laid := [("math/bits.deBruijn32tab", laid_math_bits_deBruijn32tab), ("math/bits.deBruijn64tab", laid_math_bits_deBruijn64tab), ("internal/strconv.uint64pow10", laid_internal_strconv_uint64pow10), ("unicode/utf8.acceptRanges", laid_unicode_utf8_acceptRanges), ("unicode/utf8.first", laid_unicode_utf8_first)] }
def ImageTextsSaid : Prop := imageTextsRow.holds Tryd.pinned (OpenSpec.ofChange imageTextsSpec)

/-- ITS FALSE NEIGHBOUR: 'it returns false'. Refute it at one input. -/
def imageTextsWrong : ChangeSpec := { name := "imageTexts", fn := fun _ => fun
  | [d1, d2] => { results := [.lit (.bool false)], args := [d1, d2] }
  | _ => none }
def ImageTextsWrongFalsely : Prop := imageTextsRow.holds Tryd.pinned (OpenSpec.ofChange imageTextsWrong)

/-- 'bedrocklaw04.ImageCrashes': WHATEVER THE INPUT: true; the input reads as it did. -/
def imageCrashesSpec : ChangeSpec := { name := "imageCrashes", fn := fun _ => fun
  | [d1, d2, d3] => { results := [.lit (.bool true)], args := [d1, d2, d3] }
  | _ => none }
def imageCrashesRow : OpenClaim := { program := "ytcnbngflehiphaadoor", sum := "098cd48707c1a9e69b0ceb7dfd4bb0bcc4c8a4d158365a4c46ea9854cc722248", func := "bedrock/bedrocklaw04.ImageCrashes", spec := "imageCrashes", inPlace := ["internal/abi.NoEscape", "internal/bytealg.IndexByteString", "internal/bytealg.IndexString"], named := ["internal/strconv.uint64pow10", "math/bits.deBruijn32tab", "math/bits.deBruijn64tab", "unicode/utf8.first", "unicode/utf8.acceptRanges", "internal/bytealg.MaxLen"], apart := false, laid := [("math/bits.deBruijn32tab", laid_math_bits_deBruijn32tab), ("math/bits.deBruijn64tab", laid_math_bits_deBruijn64tab), ("internal/strconv.uint64pow10", laid_internal_strconv_uint64pow10), ("unicode/utf8.acceptRanges", laid_unicode_utf8_acceptRanges), ("unicode/utf8.first", laid_unicode_utf8_first)] }
def ImageCrashesSaid : Prop := imageCrashesRow.holds Tryd.pinned (OpenSpec.ofChange imageCrashesSpec)

/-- ITS FALSE NEIGHBOUR: 'it returns false'. Refute it at one input. -/
def imageCrashesWrong : ChangeSpec := { name := "imageCrashes", fn := fun _ => fun
  | [d1, d2, d3] => { results := [.lit (.bool false)], args := [d1, d2, d3] }
  | _ => none }
def ImageCrashesWrongFalsely : Prop := imageCrashesRow.holds Tryd.pinned (OpenSpec.ofChange imageCrashesWrong)

/- THE SECOND FORM. 'bulk': how many values and letters a reading holds, each counted each time it is reached (what is shared counts as often as it is met; a slice's spare places count too). A statement '..UptoSaid' is the law's where the arguments, and the package variables that the reading takes, are together of bulk at most 1048576: NARROWER than '..Said'. Prove '..Said' where nothing that the law and all that it calls make is longer than what came in: it says more and counts as full. Else prove '..UptoSaid'. A law counts once. -/
mutual
def uptoBulk {H : Type} : DataW H → Nat
  | .lit (.string bytes) => bytes.length + 1
  | .lit _ => 1
  | .nil => 1
  | .ptr d => uptoBulk d + 1
  | .slice elems spare => uptoBulkAll elems + uptoBulkAll spare + 1
  | .agg parts => uptoBulkAll parts + 1
  | .iface _ d => uptoBulk d + 1
  | .map entries => uptoBulkEntries entries + 1
  | .held _ => 1
def uptoBulkAll {H : Type} : List (DataW H) → Nat
  | [] => 0
  | d :: r => uptoBulk d + uptoBulkAll r
def uptoBulkEntries {H : Type} : List (Lit × DataW H) → Nat
  | [] => 0
  | x :: r => uptoBulkEntry x + uptoBulkEntries r
def uptoBulkEntry {H : Type} : Lit × DataW H → Nat
  | (.string bytes, d) => bytes.length + uptoBulk d + 1
  | (_, d) => uptoBulk d + 1
 end
def uptoSmall : (H : Type) → List (DataW H) → Bool := fun _ ds => decide (uptoBulkAll ds ≤ 1048576)
def OpenSpec.upto (s : _root_.Go.ChangeSpec) : _root_.Go.OpenSpec := { _root_.Go.OpenSpec.ofChange s with cond := some uptoSmall }

/-- 'bedrocklaw04.ImageBytes', WHERE WHAT IT READS IS OF BULK AT MOST 1048576: true; the input reads as it did. -/
def imageBytesUptoRow : OpenClaim := { program := "ytcnbngflehiphaadoor", sum := "098cd48707c1a9e69b0ceb7dfd4bb0bcc4c8a4d158365a4c46ea9854cc722248", func := "bedrock/bedrocklaw04.ImageBytes", spec := "imageBytes", inPlace := ["internal/abi.NoEscape", "internal/bytealg.IndexByteString", "internal/bytealg.IndexString"], named := ["internal/strconv.uint64pow10", "math/bits.deBruijn32tab", "math/bits.deBruijn64tab", "unicode/utf8.first", "unicode/utf8.acceptRanges", "internal/bytealg.MaxLen"], apart := false, laid := [("math/bits.deBruijn32tab", laid_math_bits_deBruijn32tab), ("math/bits.deBruijn64tab", laid_math_bits_deBruijn64tab), ("internal/strconv.uint64pow10", laid_internal_strconv_uint64pow10), ("unicode/utf8.acceptRanges", laid_unicode_utf8_acceptRanges), ("unicode/utf8.first", laid_unicode_utf8_first)], narrowed := true }
def ImageBytesUptoSaid : Prop := imageBytesUptoRow.holds Tryd.pinned (OpenSpec.upto imageBytesSpec)

/-- 'bedrocklaw04.ImageResizes', WHERE WHAT IT READS IS OF BULK AT MOST 1048576: true; the input reads as it did. -/
def imageResizesUptoRow : OpenClaim := { program := "ytcnbngflehiphaadoor", sum := "098cd48707c1a9e69b0ceb7dfd4bb0bcc4c8a4d158365a4c46ea9854cc722248", func := "bedrock/bedrocklaw04.ImageResizes", spec := "imageResizes", inPlace := ["internal/abi.NoEscape", "internal/bytealg.IndexByteString", "internal/bytealg.IndexString"], named := ["internal/strconv.uint64pow10", "math/bits.deBruijn32tab", "math/bits.deBruijn64tab", "unicode/utf8.first", "unicode/utf8.acceptRanges", "internal/bytealg.MaxLen"], apart := false, laid := [("math/bits.deBruijn32tab", laid_math_bits_deBruijn32tab), ("math/bits.deBruijn64tab", laid_math_bits_deBruijn64tab), ("internal/strconv.uint64pow10", laid_internal_strconv_uint64pow10), ("unicode/utf8.acceptRanges", laid_unicode_utf8_acceptRanges), ("unicode/utf8.first", laid_unicode_utf8_first)], narrowed := true }
def ImageResizesUptoSaid : Prop := imageResizesUptoRow.holds Tryd.pinned (OpenSpec.upto imageResizesSpec)

/-- 'bedrocklaw04.ImageDiffers', WHERE WHAT IT READS IS OF BULK AT MOST 1048576: true; the input reads as it did. -/
def imageDiffersUptoRow : OpenClaim := { program := "ytcnbngflehiphaadoor", sum := "098cd48707c1a9e69b0ceb7dfd4bb0bcc4c8a4d158365a4c46ea9854cc722248", func := "bedrock/bedrocklaw04.ImageDiffers", spec := "imageDiffers", inPlace := ["internal/abi.NoEscape", "internal/bytealg.IndexByteString", "internal/bytealg.IndexString"], named := ["internal/strconv.uint64pow10", "math/bits.deBruijn32tab", "math/bits.deBruijn64tab", "unicode/utf8.first", "unicode/utf8.acceptRanges", "internal/bytealg.MaxLen"], apart := false, laid := [("math/bits.deBruijn32tab", laid_math_bits_deBruijn32tab), ("math/bits.deBruijn64tab", laid_math_bits_deBruijn64tab), ("internal/strconv.uint64pow10", laid_internal_strconv_uint64pow10), ("unicode/utf8.acceptRanges", laid_unicode_utf8_acceptRanges), ("unicode/utf8.first", laid_unicode_utf8_first)], narrowed := true }
def ImageDiffersUptoSaid : Prop := imageDiffersUptoRow.holds Tryd.pinned (OpenSpec.upto imageDiffersSpec)

/-- 'bedrocklaw04.ImageWords', WHERE WHAT IT READS IS OF BULK AT MOST 1048576: true; the input reads as it did. -/
def imageWordsUptoRow : OpenClaim := { program := "ytcnbngflehiphaadoor", sum := "098cd48707c1a9e69b0ceb7dfd4bb0bcc4c8a4d158365a4c46ea9854cc722248", func := "bedrock/bedrocklaw04.ImageWords", spec := "imageWords", inPlace := ["internal/abi.NoEscape", "internal/bytealg.IndexByteString", "internal/bytealg.IndexString"], named := ["internal/strconv.uint64pow10", "math/bits.deBruijn32tab", "math/bits.deBruijn64tab", "unicode/utf8.first", "unicode/utf8.acceptRanges", "internal/bytealg.MaxLen"], apart := false, laid := [("math/bits.deBruijn32tab", laid_math_bits_deBruijn32tab), ("math/bits.deBruijn64tab", laid_math_bits_deBruijn64tab), ("internal/strconv.uint64pow10", laid_internal_strconv_uint64pow10), ("unicode/utf8.acceptRanges", laid_unicode_utf8_acceptRanges), ("unicode/utf8.first", laid_unicode_utf8_first)], narrowed := true }
def ImageWordsUptoSaid : Prop := imageWordsUptoRow.holds Tryd.pinned (OpenSpec.upto imageWordsSpec)

/-- 'bedrocklaw04.ImageZero', WHERE WHAT IT READS IS OF BULK AT MOST 1048576: true; the input reads as it did. -/
def imageZeroUptoRow : OpenClaim := { program := "ytcnbngflehiphaadoor", sum := "098cd48707c1a9e69b0ceb7dfd4bb0bcc4c8a4d158365a4c46ea9854cc722248", func := "bedrock/bedrocklaw04.ImageZero", spec := "imageZero", inPlace := ["internal/abi.NoEscape", "internal/bytealg.IndexByteString", "internal/bytealg.IndexString"], named := ["internal/strconv.uint64pow10", "math/bits.deBruijn32tab", "math/bits.deBruijn64tab", "unicode/utf8.first", "unicode/utf8.acceptRanges", "internal/bytealg.MaxLen"], apart := false, laid := [("math/bits.deBruijn32tab", laid_math_bits_deBruijn32tab), ("math/bits.deBruijn64tab", laid_math_bits_deBruijn64tab), ("internal/strconv.uint64pow10", laid_internal_strconv_uint64pow10), ("unicode/utf8.acceptRanges", laid_unicode_utf8_acceptRanges), ("unicode/utf8.first", laid_unicode_utf8_first)], narrowed := true }
def ImageZeroUptoSaid : Prop := imageZeroUptoRow.holds Tryd.pinned (OpenSpec.upto imageZeroSpec)

/-- 'bedrocklaw04.ImageSums', WHERE WHAT IT READS IS OF BULK AT MOST 1048576: true; the input reads as it did. -/
def imageSumsUptoRow : OpenClaim := { program := "ytcnbngflehiphaadoor", sum := "098cd48707c1a9e69b0ceb7dfd4bb0bcc4c8a4d158365a4c46ea9854cc722248", func := "bedrock/bedrocklaw04.ImageSums", spec := "imageSums", inPlace := ["internal/abi.NoEscape", "internal/bytealg.IndexByteString", "internal/bytealg.IndexString"], named := ["internal/strconv.uint64pow10", "math/bits.deBruijn32tab", "math/bits.deBruijn64tab", "unicode/utf8.first", "unicode/utf8.acceptRanges", "bedrock/crc.nibbles", "internal/bytealg.MaxLen"], apart := false, laid := [("bedrock/crc.nibbles", laid_bedrock_crc_nibbles), ("math/bits.deBruijn32tab", laid_math_bits_deBruijn32tab), ("math/bits.deBruijn64tab", laid_math_bits_deBruijn64tab), ("internal/strconv.uint64pow10", laid_internal_strconv_uint64pow10), ("unicode/utf8.acceptRanges", laid_unicode_utf8_acceptRanges), ("unicode/utf8.first", laid_unicode_utf8_first)], narrowed := true }
def ImageSumsUptoSaid : Prop := imageSumsUptoRow.holds Tryd.pinned (OpenSpec.upto imageSumsSpec)

/-- 'bedrocklaw04.ImageDevices', WHERE WHAT IT READS IS OF BULK AT MOST 1048576: true; the input reads as it did. -/
def imageDevicesUptoRow : OpenClaim := { program := "ytcnbngflehiphaadoor", sum := "098cd48707c1a9e69b0ceb7dfd4bb0bcc4c8a4d158365a4c46ea9854cc722248", func := "bedrock/bedrocklaw04.ImageDevices", spec := "imageDevices", inPlace := ["internal/abi.NoEscape", "internal/bytealg.IndexByteString", "internal/bytealg.IndexString"], named := ["internal/strconv.uint64pow10", "math/bits.deBruijn32tab", "math/bits.deBruijn64tab", "unicode/utf8.first", "unicode/utf8.acceptRanges", "internal/bytealg.MaxLen"], apart := false, laid := [("math/bits.deBruijn32tab", laid_math_bits_deBruijn32tab), ("math/bits.deBruijn64tab", laid_math_bits_deBruijn64tab), ("internal/strconv.uint64pow10", laid_internal_strconv_uint64pow10), ("unicode/utf8.acceptRanges", laid_unicode_utf8_acceptRanges), ("unicode/utf8.first", laid_unicode_utf8_first)], narrowed := true }
def ImageDevicesUptoSaid : Prop := imageDevicesUptoRow.holds Tryd.pinned (OpenSpec.upto imageDevicesSpec)

/-- 'bedrocklaw04.ImageParses', WHERE WHAT IT READS IS OF BULK AT MOST 1048576: true; the input reads as it did. -/
def imageParsesUptoRow : OpenClaim := { program := "ytcnbngflehiphaadoor", sum := "098cd48707c1a9e69b0ceb7dfd4bb0bcc4c8a4d158365a4c46ea9854cc722248", func := "bedrock/bedrocklaw04.ImageParses", spec := "imageParses", inPlace := ["internal/abi.NoEscape", "internal/bytealg.IndexByteString", "internal/bytealg.IndexString"], named := ["internal/strconv.uint64pow10", "math/bits.deBruijn32tab", "math/bits.deBruijn64tab", "unicode/utf8.first", "unicode/utf8.acceptRanges", "internal/bytealg.MaxLen"], apart := false, laid := [("math/bits.deBruijn32tab", laid_math_bits_deBruijn32tab), ("math/bits.deBruijn64tab", laid_math_bits_deBruijn64tab), ("internal/strconv.uint64pow10", laid_internal_strconv_uint64pow10), ("unicode/utf8.acceptRanges", laid_unicode_utf8_acceptRanges), ("unicode/utf8.first", laid_unicode_utf8_first)], narrowed := true }
def ImageParsesUptoSaid : Prop := imageParsesUptoRow.holds Tryd.pinned (OpenSpec.upto imageParsesSpec)

/-- 'bedrocklaw04.ImageTexts', WHERE WHAT IT READS IS OF BULK AT MOST 1048576: true; the input reads as it did. -/
def imageTextsUptoRow : OpenClaim := { program := "ytcnbngflehiphaadoor", sum := "098cd48707c1a9e69b0ceb7dfd4bb0bcc4c8a4d158365a4c46ea9854cc722248", func := "bedrock/bedrocklaw04.ImageTexts", spec := "imageTexts", inPlace := ["internal/abi.NoEscape", "internal/bytealg.IndexByteString", "internal/bytealg.IndexString"], named := ["internal/strconv.uint64pow10", "math/bits.deBruijn32tab", "math/bits.deBruijn64tab", "unicode/utf8.first", "unicode/utf8.acceptRanges", "internal/bytealg.MaxLen"], apart := false, laid := [("math/bits.deBruijn32tab", laid_math_bits_deBruijn32tab), ("math/bits.deBruijn64tab", laid_math_bits_deBruijn64tab), ("internal/strconv.uint64pow10", laid_internal_strconv_uint64pow10), ("unicode/utf8.acceptRanges", laid_unicode_utf8_acceptRanges), ("unicode/utf8.first", laid_unicode_utf8_first)], narrowed := true }
def ImageTextsUptoSaid : Prop := imageTextsUptoRow.holds Tryd.pinned (OpenSpec.upto imageTextsSpec)

/-- 'bedrocklaw04.ImageCrashes', WHERE WHAT IT READS IS OF BULK AT MOST 1048576: true; the input reads as it did. -/
def imageCrashesUptoRow : OpenClaim := { program := "ytcnbngflehiphaadoor", sum := "098cd48707c1a9e69b0ceb7dfd4bb0bcc4c8a4d158365a4c46ea9854cc722248", func := "bedrock/bedrocklaw04.ImageCrashes", spec := "imageCrashes", inPlace := ["internal/abi.NoEscape", "internal/bytealg.IndexByteString", "internal/bytealg.IndexString"], named := ["internal/strconv.uint64pow10", "math/bits.deBruijn32tab", "math/bits.deBruijn64tab", "unicode/utf8.first", "unicode/utf8.acceptRanges", "internal/bytealg.MaxLen"], apart := false, laid := [("math/bits.deBruijn32tab", laid_math_bits_deBruijn32tab), ("math/bits.deBruijn64tab", laid_math_bits_deBruijn64tab), ("internal/strconv.uint64pow10", laid_internal_strconv_uint64pow10), ("unicode/utf8.acceptRanges", laid_unicode_utf8_acceptRanges), ("unicode/utf8.first", laid_unicode_utf8_first)], narrowed := true }
def ImageCrashesUptoSaid : Prop := imageCrashesUptoRow.holds Tryd.pinned (OpenSpec.upto imageCrashesSpec)

end Rows
end Go.Proofs.YtcnbngflehiphaaDoor
