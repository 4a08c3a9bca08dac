/-
 DERIVED: THE SHELF's CONTRACTS AT THIS DUMP, IN PLAIN WORDS (tools/lay-plain.mjs out of 'TrydShelf.lean', which tools/lay-shelf.mjs wrote): THE SAME DECLARATIONS UNDER THE SAME NAMES: 'import', 'namespace', 'open', 'def', 'theorem' AND NOTHING ELSE: no command of the shelf's: FOR A HAND-IN. Each laying: the table of numbers ('.._ren') and one theorem, a field a fact of the dump's own or the kernel's comparison; each contract: ONE APPLICATION.
-/
import Derived.Shelf.Strings.Builder1
import Derived.Shelf.Strings.Trim
import Derived.Shelf.Small.Utf8
import Derived.Shelf.Small.Strs
import Derived.Shelf.Small.Wraps
import Derived.Shelf.Strings.BuilderF
import Derived.Shelf.Strings.BuilderK
import Derived.Shelf.Strconv.Itoa0
import Derived.Shelf.Strconv.Itoa1
import Derived.Shelf.LaysM
import Derived.Shelf.Strconv.Itoa2
import Derived.Shelf.Strconv.Itoa3
import Derived.Shelf.Strings.Search1
import Derived.Shelf.Strings.Search2
import Derived.Shelf.Strings.Cut
import Derived.Shelf.Strings.Shaped
import Derived.Shelf.Strings.Prefix
import Derived.Shelf.Unicode.Decode
import Derived.Shelf.Strings.Runes
import Derived.Shelf.Strings.AsciiSet
import Derived.Shelf.Unicode.DecodeSlow
import Derived.Shelf.Unicode.DecodeAny
import Derived.Shelf.Unicode.DecodeLast
import Derived.Shelf.SlicesE.Clone
import Derived.Test.YtcnbngflehiphaaDoorProg
namespace Go.Proofs
open Go.Shelf
def Tryd.lays169_ren : Go.Shelf.Ren := ⟨fun | 169 => 57 | n => n, fun | 70 => 89 | 9 => 9 | 0 => 0 | 72 => 91 | 37 => 22 | 127 => 140 | 3 => 3 | 5 => 5 | n => n, fun | n => n⟩
theorem Tryd.lays169 : Go.Proofs.Lays.n169 Tryd.prog Tryd.lays169_ren := {
 mixed := by kernel_rfl
 f169 := Tryd.func57.trans (congrArg some (by kernel_rfl))
 t0 := Tryd.underlying0
 a0 := Tryd.isAgg0
 z0 := Tryd.sizeOf0
 v0 := Tryd.zeroValue0
 t3 := Tryd.underlying3
 a3 := Tryd.isAgg3
 z3 := Tryd.sizeOf3
 v3 := Tryd.zeroValue3
 t9 := Tryd.underlying9
 a9 := Tryd.isAgg9
 z9 := Tryd.sizeOf9
 v9 := Tryd.zeroValue9
 t37 := Tryd.underlying22
 a37 := Tryd.isAgg22
 z37 := Tryd.sizeOf22
 v37 := Tryd.zeroValue22
 t70 := Tryd.underlying89
 a70 := Tryd.isAgg89
 z70 := Tryd.sizeOf89
 v70 := Tryd.zeroValue89
 t72 := Tryd.underlying91
 a72 := Tryd.isAgg91
 z72 := Tryd.sizeOf91
 v72 := Tryd.zeroValue91
 t127 := Tryd.underlying140
 a127 := Tryd.isAgg140
 z127 := Tryd.sizeOf140
 v127 := Tryd.zeroValue140 }
theorem Tryd.Builder_Extra_169 : Builder.Extra Tryd.prog Tryd.lays169_ren := {
 sizeBuilder := by kernel_rfl
 liesBuilder := by kernel_rfl
 t5 := Tryd.underlying5
 a5 := Tryd.isAgg5
 z5 := Tryd.sizeOf5
 v5 := Tryd.zeroValue5
 infoByte := by kernel_rfl
 cellsByte := by kernel_rfl
 sizeByte := by kernel_rfl
 neB5 := by decide }
def Tryd.lays231_ren : Go.Shelf.Ren := ⟨fun | 231 => 79 | n => n, fun | 9 => 9 | 5 => 5 | 3 => 3 | 4 => 4 | n => n, fun | n => n⟩
def Tryd.lays232_ren : Go.Shelf.Ren := ⟨fun | 232 => 80 | n => n, fun | 9 => 9 | 5 => 5 | 3 => 3 | 4 => 4 | n => n, fun | n => n⟩
def Tryd.lays160_ren : Go.Shelf.Ren := ⟨fun | 160 => 56 | 232 => 80 | 231 => 79 | 227 => 81 | 234 => 83 | 233 => 82 | 236 => 85 | 235 => 84 | 228 => 94 | 271 => 97 | 151 => 96 | 197 => 95 | 120 => 107 | 152 => 106 | 260 => 105 | 137 => 100 | 119 => 117 | 224 => 110 | 225 => 109 | 217 => 108 | 266 => 118 | n => n, fun | 9 => 9 | 4 => 4 | 3 => 3 | 5 => 5 | 117 => 136 | 116 => 135 | 0 => 0 | 124 => 139 | 21 => 21 | 105 => 149 | 46 => 88 | 119 => 168 | 139 => 171 | 138 => 170 | n => n, fun | 3 => 3 | 4 => 4 | n => n⟩
theorem Tryd.lays160 : Go.Proofs.Lays.n160 Tryd.prog Tryd.lays160_ren := {
 mixed := by kernel_rfl
 f119 := Tryd.func117.trans (congrArg some (by kernel_rfl))
 f120 := Tryd.func107.trans (congrArg some (by kernel_rfl))
 f137 := Tryd.func100.trans (congrArg some (by kernel_rfl))
 f151 := Tryd.func96.trans (congrArg some (by kernel_rfl))
 f152 := Tryd.func106.trans (congrArg some (by kernel_rfl))
 f160 := Tryd.func56.trans (congrArg some (by kernel_rfl))
 f197 := Tryd.func95.trans (congrArg some (by kernel_rfl))
 f217 := Tryd.func108.trans (congrArg some (by kernel_rfl))
 f224 := Tryd.func110.trans (congrArg some (by kernel_rfl))
 f225 := Tryd.func109.trans (congrArg some (by kernel_rfl))
 f227 := Tryd.func81.trans (congrArg some (by kernel_rfl))
 f228 := Tryd.func94.trans (congrArg some (by kernel_rfl))
 f231 := Tryd.func79.trans (congrArg some (by kernel_rfl))
 f232 := Tryd.func80.trans (congrArg some (by kernel_rfl))
 f233 := Tryd.func82.trans (congrArg some (by kernel_rfl))
 f234 := Tryd.func83.trans (congrArg some (by kernel_rfl))
 f235 := Tryd.func84.trans (congrArg some (by kernel_rfl))
 f236 := Tryd.func85.trans (congrArg some (by kernel_rfl))
 f260 := Tryd.func105.trans (congrArg some (by kernel_rfl))
 f266 := Tryd.func118.trans (congrArg some (by kernel_rfl))
 f271 := Tryd.func97.trans (congrArg some (by kernel_rfl))
 t0 := Tryd.underlying0
 a0 := Tryd.isAgg0
 z0 := Tryd.sizeOf0
 v0 := Tryd.zeroValue0
 t3 := Tryd.underlying3
 a3 := Tryd.isAgg3
 z3 := Tryd.sizeOf3
 v3 := Tryd.zeroValue3
 t4 := Tryd.underlying4
 a4 := Tryd.isAgg4
 z4 := Tryd.sizeOf4
 v4 := Tryd.zeroValue4
 t5 := Tryd.underlying5
 a5 := Tryd.isAgg5
 z5 := Tryd.sizeOf5
 v5 := Tryd.zeroValue5
 t9 := Tryd.underlying9
 a9 := Tryd.isAgg9
 z9 := Tryd.sizeOf9
 v9 := Tryd.zeroValue9
 t21 := Tryd.underlying21
 a21 := Tryd.isAgg21
 z21 := Tryd.sizeOf21
 v21 := Tryd.zeroValue21
 t46 := Tryd.underlying88
 a46 := Tryd.isAgg88
 z46 := Tryd.sizeOf88
 v46 := Tryd.zeroValue88
 t105 := Tryd.underlying149
 a105 := Tryd.isAgg149
 z105 := Tryd.sizeOf149
 v105 := Tryd.zeroValue149
 t116 := Tryd.underlying135
 a116 := Tryd.isAgg135
 z116 := Tryd.sizeOf135
 t117 := Tryd.underlying136
 a117 := Tryd.isAgg136
 z117 := Tryd.sizeOf136
 v117 := Tryd.zeroValue136
 t119 := Tryd.underlying168
 a119 := Tryd.isAgg168
 z119 := Tryd.sizeOf168
 t124 := Tryd.underlying139
 a124 := Tryd.isAgg139
 z124 := Tryd.sizeOf139
 v124 := Tryd.zeroValue139
 t138 := Tryd.underlying170
 a138 := Tryd.isAgg170
 z138 := Tryd.sizeOf170
 v138 := Tryd.zeroValue170
 t139 := Tryd.underlying171
 a139 := Tryd.isAgg171
 z139 := Tryd.sizeOf171
 v139 := Tryd.zeroValue171
 g3 := by kernel_rfl
 g4 := by kernel_rfl }
open Go.RowKit in
theorem Tryd.strings_Trim_one (s : ByteArray) (c : UInt8) (hc : c.toNat < 128) (w : World) (hs : s.size ≤ 9223372036854775807) :
  Calls Tryd.prog 56 #[.string s, .string ⟨#[c]⟩] w fun e w' => e = .returned (.string ⟨(Lib.trimB s.data.toList c).toArray⟩) ∧ (w' = w ∨ w' = w.drew) := Any.strings_Trim_one Tryd.lays160 s c hc w hs
def Tryd.lays119_ren : Go.Shelf.Ren := ⟨fun | 119 => 117 | n => n, fun | 21 => 21 | 4 => 4 | n => n, fun | n => n⟩
def Tryd.lays120_ren : Go.Shelf.Ren := ⟨fun | 120 => 107 | n => n, fun | 5 => 5 | 4 => 4 | n => n, fun | n => n⟩
def Tryd.lays137_ren : Go.Shelf.Ren := ⟨fun | 137 => 100 | 217 => 108 | 266 => 118 | n => n, fun | 9 => 9 | 5 => 5 | 3 => 3 | n => n, fun | n => n⟩
def Tryd.lays210_ren : Go.Shelf.Ren := ⟨fun | 210 => 88 | 206 => 99 | n => n, fun | 9 => 9 | 4 => 4 | 3 => 3 | n => n, fun | n => n⟩
def Tryd.lays103_ren : Go.Shelf.Ren := ⟨fun | 103 => 64 | 210 => 88 | 206 => 99 | n => n, fun | 9 => 9 | 4 => 4 | 24 => 111 | 3 => 3 | n => n, fun | n => n⟩
def Tryd.lays129_ren : Go.Shelf.Ren := ⟨fun | 129 => 113 | n => n, fun | 53 => 42 | 3 => 3 | 4 => 4 | 46 => 88 | 5 => 5 | 9 => 9 | n => n, fun | n => n⟩
def Tryd.lays317_ren : Go.Shelf.Ren := ⟨fun | 317 => 112 | n => n, fun | 3 => 3 | 46 => 88 | n => n, fun | n => n⟩
def Tryd.lays318_ren : Go.Shelf.Ren := ⟨fun | 318 => 114 | n => n, fun | 3 => 3 | 4 => 4 | n => n, fun | n => n⟩
def Tryd.lays283_ren : Go.Shelf.Ren := ⟨fun | 283 => 101 | n => n, fun | 3 => 3 | 9 => 9 | 4 => 4 | n => n, fun | n => n⟩
def Tryd.laysM284_ren : Go.Shelf.Ren := ⟨fun | 284 => 102 | 129 => 113 | 317 => 112 | 318 => 114 | n => n, fun | 53 => 42 | 3 => 3 | 212 => 164 | 0 => 0 | 4 => 4 | 46 => 88 | 5 => 5 | 9 => 9 | n => n, fun | 17 => 2 | n => n⟩
def Tryd.lays285_ren : Go.Shelf.Ren := ⟨fun | 285 => 103 | n => n, fun | 37 => 22 | 53 => 42 | 3 => 3 | 4 => 4 | 51 => 53 | 9 => 9 | 5 => 5 | 0 => 0 | n => n, fun | n => n⟩
def Tryd.laysM246_ren : Go.Shelf.Ren := ⟨fun | 246 => 93 | 283 => 101 | 284 => 102 | 285 => 103 | 286 => 104 | 129 => 113 | 317 => 112 | 318 => 114 | 319 => 115 | 320 => 116 | 337 => 120 | 338 => 121 | n => n, fun | 2 => 2 | 3 => 3 | 9 => 9 | 4 => 4 | 171 => 156 | 0 => 0 | 53 => 42 | 37 => 22 | 5 => 5 | 173 => 159 | 212 => 164 | 51 => 53 | 20 => 20 | 213 => 165 | 46 => 88 | 232 => 176 | 233 => 177 | n => n, fun | 17 => 2 | 18 => 5 | 19 => 6 | n => n⟩
def Tryd.lays246_ren : Go.Shelf.Ren := ⟨fun | 246 => 93 | 283 => 101 | 284 => 102 | 285 => 103 | 286 => 104 | 129 => 113 | 317 => 112 | 318 => 114 | 319 => 115 | 320 => 116 | 337 => 120 | 338 => 121 | n => n, fun | 2 => 2 | 3 => 3 | 9 => 9 | 4 => 4 | 171 => 156 | 0 => 0 | 53 => 42 | 37 => 22 | 5 => 5 | 173 => 159 | 212 => 164 | 51 => 53 | 20 => 20 | 213 => 165 | 46 => 88 | 232 => 176 | 233 => 177 | n => n, fun | 17 => 2 | 18 => 5 | 19 => 6 | n => n⟩
def Tryd.laysM243_ren : Go.Shelf.Ren := ⟨fun | 243 => 78 | 246 => 93 | 283 => 101 | 284 => 102 | 285 => 103 | 286 => 104 | 129 => 113 | 317 => 112 | 318 => 114 | 319 => 115 | 320 => 116 | 337 => 120 | 338 => 121 | n => n, fun | 3 => 3 | 9 => 9 | 2 => 2 | 4 => 4 | 171 => 156 | 0 => 0 | 53 => 42 | 37 => 22 | 5 => 5 | 173 => 159 | 212 => 164 | 51 => 53 | 20 => 20 | 213 => 165 | 46 => 88 | 232 => 176 | 233 => 177 | n => n, fun | 17 => 2 | 18 => 5 | 19 => 6 | n => n⟩
def Tryd.lays243_ren : Go.Shelf.Ren := ⟨fun | 243 => 78 | 246 => 93 | 283 => 101 | 284 => 102 | 285 => 103 | 286 => 104 | 129 => 113 | 317 => 112 | 318 => 114 | 319 => 115 | 320 => 116 | 337 => 120 | 338 => 121 | n => n, fun | 3 => 3 | 9 => 9 | 2 => 2 | 4 => 4 | 171 => 156 | 0 => 0 | 53 => 42 | 37 => 22 | 5 => 5 | 173 => 159 | 212 => 164 | 51 => 53 | 20 => 20 | 213 => 165 | 46 => 88 | 232 => 176 | 233 => 177 | n => n, fun | 17 => 2 | 18 => 5 | 19 => 6 | n => n⟩
def Tryd.laysM171_ren : Go.Shelf.Ren := ⟨fun | 171 => 54 | 243 => 78 | 246 => 93 | 283 => 101 | 284 => 102 | 285 => 103 | 286 => 104 | 129 => 113 | 317 => 112 | 318 => 114 | 319 => 115 | 320 => 116 | 337 => 120 | 338 => 121 | n => n, fun | 3 => 3 | 9 => 9 | 2 => 2 | 4 => 4 | 171 => 156 | 0 => 0 | 53 => 42 | 37 => 22 | 5 => 5 | 173 => 159 | 212 => 164 | 51 => 53 | 20 => 20 | 213 => 165 | 46 => 88 | 232 => 176 | 233 => 177 | n => n, fun | 17 => 2 | 18 => 5 | 19 => 6 | n => n⟩
theorem Tryd.laysM171 : Go.Proofs.LaysM.n171 Tryd.prog Tryd.laysM171_ren := {
 mixed := by kernel_rfl
 f129 := Tryd.func113.trans (congrArg some (by kernel_rfl))
 f171 := Tryd.func54.trans (congrArg some (by kernel_rfl))
 f243 := Tryd.func78.trans (congrArg some (by kernel_rfl))
 f246 := Tryd.func93.trans (congrArg some (by kernel_rfl))
 f283 := Tryd.func101.trans (congrArg some (by kernel_rfl))
 f284 := Tryd.func102.trans (congrArg some (by kernel_rfl))
 f285 := Tryd.func103.trans (congrArg some (by kernel_rfl))
 f286 := Tryd.func104.trans (congrArg some (by kernel_rfl))
 f317 := Tryd.func112.trans (congrArg some (by kernel_rfl))
 f318 := Tryd.func114.trans (congrArg some (by kernel_rfl))
 f319 := Tryd.func115.trans (congrArg some (by kernel_rfl))
 f320 := Tryd.func116.trans (congrArg some (by kernel_rfl))
 f337 := Tryd.func120.trans (congrArg some (by kernel_rfl))
 f338 := Tryd.func121.trans (congrArg some (by kernel_rfl))
 t0 := Tryd.underlying0
 a0 := Tryd.isAgg0
 z0 := Tryd.sizeOf0
 v0 := Tryd.zeroValue0
 t2 := Tryd.underlying2
 a2 := Tryd.isAgg2
 z2 := Tryd.sizeOf2
 v2 := Tryd.zeroValue2
 t3 := Tryd.underlying3
 a3 := Tryd.isAgg3
 z3 := Tryd.sizeOf3
 v3 := Tryd.zeroValue3
 t4 := Tryd.underlying4
 a4 := Tryd.isAgg4
 z4 := Tryd.sizeOf4
 v4 := Tryd.zeroValue4
 t5 := Tryd.underlying5
 a5 := Tryd.isAgg5
 z5 := Tryd.sizeOf5
 v5 := Tryd.zeroValue5
 t9 := Tryd.underlying9
 a9 := Tryd.isAgg9
 z9 := Tryd.sizeOf9
 v9 := Tryd.zeroValue9
 t20 := Tryd.underlying20
 a20 := Tryd.isAgg20
 z20 := Tryd.sizeOf20
 v20 := Tryd.zeroValue20
 t37 := Tryd.underlying22
 a37 := Tryd.isAgg22
 z37 := Tryd.sizeOf22
 v37 := Tryd.zeroValue22
 t46 := Tryd.underlying88
 a46 := Tryd.isAgg88
 z46 := Tryd.sizeOf88
 v46 := Tryd.zeroValue88
 t51 := Tryd.underlying53
 a51 := Tryd.isAgg53
 z51 := Tryd.sizeOf53
 v51 := Tryd.zeroValue53
 t53 := Tryd.underlying42
 a53 := Tryd.isAgg42
 z53 := Tryd.sizeOf42
 v53 := Tryd.zeroValue42
 t171 := Tryd.underlying156
 a171 := Tryd.isAgg156
 z171 := Tryd.sizeOf156
 v171 := Tryd.zeroValue156
 t173 := Tryd.underlying159
 a173 := Tryd.isAgg159
 z173 := Tryd.sizeOf159
 v173 := Tryd.zeroValue159
 t212 := Tryd.underlying164
 a212 := Tryd.isAgg164
 z212 := Tryd.sizeOf164
 v212 := Tryd.zeroValue164
 t213 := Tryd.underlying165
 a213 := Tryd.isAgg165
 z213 := Tryd.sizeOf165
 t232 := Tryd.underlying176
 a232 := Tryd.isAgg176
 z232 := Tryd.sizeOf176
 v232 := Tryd.zeroValue176
 t233 := Tryd.underlying177
 a233 := Tryd.isAgg177
 z233 := Tryd.sizeOf177
 v233 := Tryd.zeroValue177
 g17 := by kernel_rfl
 g18 := by kernel_rfl
 g19 := by kernel_rfl
 i0 := by kernel_rfl
 i2 := by kernel_rfl
 i3 := by kernel_rfl
 i4 := by kernel_rfl
 i5 := by kernel_rfl
 i9 := by kernel_rfl
 i20 := by kernel_rfl
 i37 := by kernel_rfl
 i46 := by kernel_rfl
 i51 := by kernel_rfl
 i53 := by kernel_rfl
 i171 := by kernel_rfl
 i173 := by kernel_rfl
 i212 := by kernel_rfl
 i232 := by kernel_rfl
 i233 := by kernel_rfl
 m17 := by kernel_rfl
 m18 := by kernel_rfl
 m19 := by kernel_rfl }
open Go.RowKit Go.Sort Go.Lib in
theorem Tryd.strconv_Itoa (n : Int) (h0 : -9223372036854775808 ≤ n) (h1 : n ≤ 9223372036854775807) (w : World) (htab : Lib.TabIs Tryd.prog w "internal/strconv.uint64pow10" .u64 Lib.pow10Tab) :
  Calls Tryd.prog 54 #[.int .i64 n] w fun e w' => e = .returned (.string ⟨(Lib.itoa n).toArray⟩) ∧ ∃ k os, w' = grow (w.drewN k) os := Any.strconv_Itoa Tryd.laysM171 n h0 h1 w htab
def Tryd.lays171_ren : Go.Shelf.Ren := ⟨fun | 171 => 54 | 243 => 78 | 246 => 93 | 283 => 101 | 284 => 102 | 285 => 103 | 286 => 104 | 129 => 113 | 317 => 112 | 318 => 114 | 319 => 115 | 320 => 116 | 337 => 120 | 338 => 121 | n => n, fun | 3 => 3 | 9 => 9 | 2 => 2 | 4 => 4 | 171 => 156 | 0 => 0 | 53 => 42 | 37 => 22 | 5 => 5 | 173 => 159 | 212 => 164 | 51 => 53 | 20 => 20 | 213 => 165 | 46 => 88 | 232 => 176 | 233 => 177 | n => n, fun | 17 => 2 | 18 => 5 | 19 => 6 | n => n⟩
def Tryd.lays217_ren : Go.Shelf.Ren := ⟨fun | 217 => 108 | 266 => 118 | n => n, fun | 9 => 9 | 5 => 5 | 3 => 3 | n => n, fun | n => n⟩
def Tryd.lays224_ren : Go.Shelf.Ren := ⟨fun | 224 => 110 | n => n, fun | 3 => 3 | n => n, fun | n => n⟩
def Tryd.lays314_ren : Go.Shelf.Ren := ⟨fun | 314 => 119 | n => n, fun | 9 => 9 | 51 => 53 | 3 => 3 | 4 => 4 | 5 => 5 | 46 => 88 | n => n, fun | n => n⟩
def Tryd.lays267_ren : Go.Shelf.Ren := ⟨fun | 267 => 111 | 314 => 119 | n => n, fun | 9 => 9 | 3 => 3 | 146 => 173 | 51 => 53 | 4 => 4 | 5 => 5 | 46 => 88 | n => n, fun | n => n⟩
def Tryd.lays219_ren : Go.Shelf.Ren := ⟨fun | 219 => 98 | 217 => 108 | 225 => 109 | 224 => 110 | 267 => 111 | 266 => 118 | 314 => 119 | n => n, fun | 9 => 9 | 3 => 3 | 4 => 4 | 5 => 5 | 46 => 88 | 146 => 173 | 51 => 53 | n => n, fun | 1 => 1 | n => n⟩
def Tryd.lays220_ren : Go.Shelf.Ren := ⟨fun | 220 => 87 | 219 => 98 | 217 => 108 | 225 => 109 | 224 => 110 | 267 => 111 | 266 => 118 | 314 => 119 | n => n, fun | 9 => 9 | 4 => 4 | 3 => 3 | 5 => 5 | 46 => 88 | 146 => 173 | 51 => 53 | n => n, fun | 1 => 1 | n => n⟩
def Tryd.lays145_ren : Go.Shelf.Ren := ⟨fun | 145 => 63 | 220 => 87 | 219 => 98 | 217 => 108 | 225 => 109 | 224 => 110 | 267 => 111 | 266 => 118 | 314 => 119 | n => n, fun | 9 => 9 | 4 => 4 | 59 => 109 | 3 => 3 | 5 => 5 | 46 => 88 | 146 => 173 | 51 => 53 | n => n, fun | 1 => 1 | n => n⟩
def Tryd.laysM219_ren : Go.Shelf.Ren := ⟨fun | 219 => 98 | 217 => 108 | 225 => 109 | 224 => 110 | 267 => 111 | 266 => 118 | 314 => 119 | n => n, fun | 9 => 9 | 3 => 3 | 4 => 4 | 5 => 5 | 46 => 88 | 146 => 173 | 51 => 53 | n => n, fun | 1 => 1 | n => n⟩
def Tryd.laysM220_ren : Go.Shelf.Ren := ⟨fun | 220 => 87 | 219 => 98 | 217 => 108 | 225 => 109 | 224 => 110 | 267 => 111 | 266 => 118 | 314 => 119 | n => n, fun | 9 => 9 | 4 => 4 | 3 => 3 | 5 => 5 | 46 => 88 | 146 => 173 | 51 => 53 | n => n, fun | 1 => 1 | n => n⟩
def Tryd.laysM145_ren : Go.Shelf.Ren := ⟨fun | 145 => 63 | 220 => 87 | 219 => 98 | 217 => 108 | 225 => 109 | 224 => 110 | 267 => 111 | 266 => 118 | 314 => 119 | n => n, fun | 9 => 9 | 4 => 4 | 59 => 109 | 3 => 3 | 5 => 5 | 46 => 88 | 146 => 173 | 51 => 53 | n => n, fun | 1 => 1 | n => n⟩
def Tryd.lays206_ren : Go.Shelf.Ren := ⟨fun | 206 => 99 | n => n, fun | 9 => 9 | 4 => 4 | 3 => 3 | n => n, fun | n => n⟩
def Tryd.lays197_ren : Go.Shelf.Ren := ⟨fun | 197 => 95 | 260 => 105 | n => n, fun | 9 => 9 | 21 => 21 | 3 => 3 | 4 => 4 | 5 => 5 | 105 => 149 | 119 => 168 | 0 => 0 | 46 => 88 | 139 => 171 | 138 => 170 | n => n, fun | 3 => 3 | 4 => 4 | n => n⟩
def Tryd.lays152_ren : Go.Shelf.Ren := ⟨fun | 152 => 106 | 137 => 100 | 119 => 117 | 224 => 110 | 225 => 109 | 217 => 108 | 266 => 118 | n => n, fun | 9 => 9 | 21 => 21 | 3 => 3 | 4 => 4 | 5 => 5 | 0 => 0 | 46 => 88 | n => n, fun | n => n⟩
def Tryd.lays151_ren : Go.Shelf.Ren := ⟨fun | 151 => 96 | 152 => 106 | 137 => 100 | 119 => 117 | 224 => 110 | 225 => 109 | 217 => 108 | 266 => 118 | n => n, fun | 9 => 9 | 21 => 21 | 4 => 4 | 3 => 3 | 5 => 5 | 0 => 0 | 46 => 88 | n => n, fun | n => n⟩
def Tryd.lays227_ren : Go.Shelf.Ren := ⟨fun | 227 => 81 | n => n, fun | 9 => 9 | 116 => 135 | 4 => 4 | 0 => 0 | 3 => 3 | 5 => 5 | n => n, fun | n => n⟩
def Tryd.lays228_ren : Go.Shelf.Ren := ⟨fun | 228 => 94 | n => n, fun | 124 => 139 | 5 => 5 | 4 => 4 | 0 => 0 | 116 => 135 | n => n, fun | n => n⟩
def Tryd.lays260_ren : Go.Shelf.Ren := ⟨fun | 260 => 105 | n => n, fun | 9 => 9 | 21 => 21 | 3 => 3 | 4 => 4 | 5 => 5 | 119 => 168 | 0 => 0 | 46 => 88 | 139 => 171 | 138 => 170 | n => n, fun | 3 => 3 | 4 => 4 | n => n⟩
def Tryd.lays271_ren : Go.Shelf.Ren := ⟨fun | 271 => 97 | 120 => 107 | 197 => 95 | 260 => 105 | n => n, fun | 9 => 9 | 21 => 21 | 3 => 3 | 4 => 4 | 5 => 5 | 105 => 149 | 119 => 168 | 0 => 0 | 46 => 88 | 139 => 171 | 138 => 170 | n => n, fun | 3 => 3 | 4 => 4 | n => n⟩
def Tryd.laysSlE041_f75_ren : Go.Shelf.Ren := ⟨fun | 41 => 75 | n => n, fun | 22 => 99 | 23 => 42 | 4 => 4 | n => n, fun | n => n⟩
end Go.Proofs