/-
 DERIVED: THE SHELF's CONTRACTS AT THIS DUMP, IN PLAIN WORDS (tools/lay-plain.mjs out of 'TrydShelf.lean', which tools/lay-shelf.mjs wrote): THE SAME DECLARATIONS UNDER THE SAME NAMES: 'import', 'namespace', 'open', 'def', 'theorem' AND NOTHING ELSE: no command of the shelf's: FOR A HAND-IN. Each laying: the table of numbers ('.._ren') and one theorem, a field a fact of the dump's own or the kernel's comparison; each contract: ONE APPLICATION.
-/
import Derived.Shelf.Small.Strs
import Derived.Shelf.Utf8.RuneCount
import Derived.Shelf.Strconv.Itoa0
import Derived.Shelf.Strconv.Itoa1
import Derived.Shelf.LaysM
import Derived.Shelf.Strconv.Itoa2
import Derived.Shelf.Strconv.Itoa3
import Derived.Shelf.Strconv.Clone
import Derived.Shelf.Strconv.SyntaxError
import Derived.Shelf.LaysC
import Derived.Shelf.Strconv.ToError
import Derived.Shelf.Strconv.Lower
import Derived.Shelf.Strconv.ParseUint10
import Derived.Shelf.Strconv.ParseUint10Empty
import Derived.Shelf.Strconv.ParseUint10Any
import Derived.Shelf.Strconv.RangeError
import Derived.Shelf.Strconv.ToErrorRange
import Derived.Shelf.Strconv.ParseUintEmpty
import Derived.Shelf.Strconv.ParseUint10b64
import Derived.Shelf.Strconv.ParseUint10b32
import Derived.Shelf.Strconv.ParseUint10b16
import Derived.Shelf.Strconv.ParseUint10b8
import Derived.Shelf.Strconv.ParseUint10At
import Derived.Shelf.Pu.ParseUintPublic10
import Derived.Shelf.Pu.ErrVarParseUint
import Derived.Shelf.Strings.Search1
import Derived.Shelf.Strings.Search2
import Derived.Shelf.Strings.Search3
import Derived.Shelf.Strings.Cut
import Derived.Shelf.Strings.Count
import Derived.Shelf.Strings.Shaped
import Derived.Shelf.Strconv.AppendUint10
import Derived.Shelf.Strconv.AppendInt10
import Derived.Shelf.Strings.Split
import Derived.Shelf.Strings.SplitShaped
import Derived.Shelf.Unicode.Decode
import Derived.Shelf.Strings.RuneCount
import Derived.Shelf.Strings.Explode
import Derived.Shelf.Unicode.DecodeSlow
import Derived.Shelf.Unicode.DecodeAny
import Derived.Shelf.SlicesE.Clone
import Derived.Test.YtckhjklcfagkoaaDoorProg
namespace Go.Proofs
open Go.Shelf
def Tryd.lays137_ren : Go.Shelf.Ren := ⟨fun | 137 => 51 | 217 => 63 | 266 => 81 | n => n, fun | 9 => 9 | 5 => 5 | 3 => 3 | n => n, fun | n => n⟩
theorem Tryd.lays137 : Go.Proofs.Lays.n137 Tryd.prog Tryd.lays137_ren := {
 mixed := by kernel_rfl
 f137 := Tryd.func51.trans (congrArg some (by kernel_rfl))
 f217 := Tryd.func63.trans (congrArg some (by kernel_rfl))
 f266 := Tryd.func81.trans (congrArg some (by kernel_rfl))
 t3 := Tryd.underlying3
 a3 := Tryd.isAgg3
 z3 := Tryd.sizeOf3
 v3 := Tryd.zeroValue3
 t5 := Tryd.underlying5
 a5 := Tryd.isAgg5
 z5 := Tryd.sizeOf5
 v5 := Tryd.zeroValue5
 t9 := Tryd.underlying9
 a9 := Tryd.isAgg9
 z9 := Tryd.sizeOf9
 v9 := Tryd.zeroValue9 }
open Go.RowKit in
theorem Tryd.strings_IndexByte (s : ByteArray) (c : Int) (w : World) :
  Calls Tryd.prog 51 #[.string s, .int .u8 c] w fun e w' => e = .returned (.int .i64 (Lib.indexByte s.data.toList c.toNat.toUInt8)) ∧ w' = w := Any.strings_IndexByte Tryd.lays137 s c w
def Tryd.lays129_ren : Go.Shelf.Ren := ⟨fun | 129 => 77 | n => n, fun | 53 => 22 | 3 => 3 | 4 => 4 | 46 => 46 | 5 => 5 | 9 => 9 | n => n, fun | n => n⟩
def Tryd.lays283_ren : Go.Shelf.Ren := ⟨fun | 283 => 59 | n => n, fun | 3 => 3 | 9 => 9 | 4 => 4 | n => n, fun | n => n⟩
theorem Tryd.lays283 : Go.Proofs.Lays.n283 Tryd.prog Tryd.lays283_ren := {
 mixed := by kernel_rfl
 f283 := Tryd.func59.trans (congrArg some (by kernel_rfl))
 t3 := Tryd.underlying3
 a3 := Tryd.isAgg3
 z3 := Tryd.sizeOf3
 v3 := Tryd.zeroValue3
 t4 := Tryd.underlying4
 a4 := Tryd.isAgg4
 z4 := Tryd.sizeOf4
 v4 := Tryd.zeroValue4
 t9 := Tryd.underlying9
 a9 := Tryd.isAgg9
 z9 := Tryd.sizeOf9
 v9 := Tryd.zeroValue9 }
open Go.Lib in
theorem Tryd.internal_strconv_small (i : Nat) (h : i < 100) (w : World) :
  Calls Tryd.prog 59 #[.int .i64 i] w fun e w' => e = .returned (.string ⟨(Lib.decDigits i).toArray⟩) ∧ w' = w := Any.internal_strconv_small Tryd.lays283 i h w
def Tryd.laysM284_ren : Go.Shelf.Ren := ⟨fun | 284 => 60 | 129 => 77 | 317 => 76 | 318 => 78 | n => n, fun | 53 => 22 | 3 => 3 | 212 => 116 | 0 => 0 | 4 => 4 | 46 => 46 | 5 => 5 | 9 => 9 | n => n, fun | 17 => 1 | n => n⟩
theorem Tryd.laysM284 : Go.Proofs.LaysM.n284 Tryd.prog Tryd.laysM284_ren := {
 mixed := by kernel_rfl
 f129 := Tryd.func77.trans (congrArg some (by kernel_rfl))
 f284 := Tryd.func60.trans (congrArg some (by kernel_rfl))
 f317 := Tryd.func76.trans (congrArg some (by kernel_rfl))
 f318 := Tryd.func78.trans (congrArg some (by kernel_rfl))
 t0 := Tryd.underlying0
 a0 := Tryd.isAgg0
 z0 := Tryd.sizeOf0
 v0 := Tryd.zeroValue0
 t3 := Tryd.underlying3
 a3 := Tryd.isAgg3
 z3 := Tryd.sizeOf3
 v3 := Tryd.zeroValue3
 t4 := Tryd.underlying4
 a4 := Tryd.isAgg4
 z4 := Tryd.sizeOf4
 v4 := Tryd.zeroValue4
 t5 := Tryd.underlying5
 a5 := Tryd.isAgg5
 z5 := Tryd.sizeOf5
 v5 := Tryd.zeroValue5
 t9 := Tryd.underlying9
 a9 := Tryd.isAgg9
 z9 := Tryd.sizeOf9
 v9 := Tryd.zeroValue9
 t46 := Tryd.underlying46
 a46 := Tryd.isAgg46
 z46 := Tryd.sizeOf46
 v46 := Tryd.zeroValue46
 t53 := Tryd.underlying22
 a53 := Tryd.isAgg22
 z53 := Tryd.sizeOf22
 v53 := Tryd.zeroValue22
 t212 := Tryd.underlying116
 a212 := Tryd.isAgg116
 z212 := Tryd.sizeOf116
 v212 := Tryd.zeroValue116
 g17 := by kernel_rfl
 i0 := by kernel_rfl
 i3 := by kernel_rfl
 i4 := by kernel_rfl
 i5 := by kernel_rfl
 i9 := by kernel_rfl
 i46 := by kernel_rfl
 i53 := by kernel_rfl
 i212 := by kernel_rfl
 m17 := by kernel_rfl }
open Go.Lib in
theorem Tryd.internal_strconv_numDigits (u : Nat) (h1 : 1 ≤ u) (h2 : u < 18446744073709551616) (w : World) (htab : Lib.TabIs Tryd.prog w "internal/strconv.uint64pow10" .u64 Lib.pow10Tab) :
  Calls Tryd.prog 60 #[.int .u64 u] w fun e w' => e = .returned (.int .i64 (Lib.nDigits u)) ∧ w' = w := Any.internal_strconv_numDigits Tryd.laysM284 u h1 h2 w htab
def Tryd.lays285_ren : Go.Shelf.Ren := ⟨fun | 285 => 61 | n => n, fun | 37 => 23 | 53 => 22 | 3 => 3 | 4 => 4 | 51 => 117 | 9 => 9 | 5 => 5 | 0 => 0 | n => n, fun | n => n⟩
theorem Tryd.lays285 : Go.Proofs.Lays.n285 Tryd.prog Tryd.lays285_ren := {
 mixed := by kernel_rfl
 f285 := Tryd.func61.trans (congrArg some (by kernel_rfl))
 t0 := Tryd.underlying0
 a0 := Tryd.isAgg0
 z0 := Tryd.sizeOf0
 v0 := Tryd.zeroValue0
 t3 := Tryd.underlying3
 a3 := Tryd.isAgg3
 z3 := Tryd.sizeOf3
 v3 := Tryd.zeroValue3
 t4 := Tryd.underlying4
 a4 := Tryd.isAgg4
 z4 := Tryd.sizeOf4
 v4 := Tryd.zeroValue4
 t5 := Tryd.underlying5
 a5 := Tryd.isAgg5
 z5 := Tryd.sizeOf5
 v5 := Tryd.zeroValue5
 t9 := Tryd.underlying9
 a9 := Tryd.isAgg9
 z9 := Tryd.sizeOf9
 v9 := Tryd.zeroValue9
 t37 := Tryd.underlying23
 a37 := Tryd.isAgg23
 z37 := Tryd.sizeOf23
 v37 := Tryd.zeroValue23
 t51 := Tryd.underlying117
 a51 := Tryd.isAgg117
 z51 := Tryd.sizeOf117
 v51 := Tryd.zeroValue117
 t53 := Tryd.underlying22
 a53 := Tryd.isAgg22
 z53 := Tryd.sizeOf22
 v53 := Tryd.zeroValue22 }
open Go.RowKit Go.Sort Go.Lib in
theorem Tryd.internal_strconv_formatBase10 (blk off cap : Nat) (u : Nat) (d : Array UInt8) (w : World) (hH : Holds (fun (b : UInt8) => Value.int .u8 (b.toNat : Int)) w blk off d) (hu : u < 10 ^ d.size) (hu64 : u < 18446744073709551616) (hsz : d.size < 4611686018427387904) :
  Calls Tryd.prog 61 #[.slice (some ⟨blk, off, none⟩) d.size cap, .int .u64 u] w fun e w' =>
   e = .returned (.tuple #[]) ∧ ∃ (n v' : Nat) (dk : Array UInt8), w' = (putRow (fun (b : UInt8) => Value.int .u8 (b.toNat : Int)) w blk off dk).drewN n ∧ FmtInv d.size u 0 v' dk := Any.internal_strconv_formatBase10 Tryd.lays285 blk off cap u d w hH hu hu64 hsz
def Tryd.lays246_ren : Go.Shelf.Ren := ⟨fun | 246 => 47 | 283 => 59 | 284 => 60 | 285 => 61 | 286 => 62 | 129 => 77 | 317 => 76 | 318 => 78 | 319 => 79 | 320 => 80 | 337 => 92 | 338 => 93 | n => n, fun | 2 => 2 | 3 => 3 | 9 => 9 | 4 => 4 | 171 => 101 | 0 => 0 | 53 => 22 | 37 => 23 | 5 => 5 | 173 => 104 | 212 => 116 | 51 => 117 | 20 => 20 | 213 => 118 | 46 => 46 | 232 => 137 | 233 => 138 | n => n, fun | 17 => 1 | 18 => 4 | 19 => 5 | n => n⟩
def Tryd.laysM243_ren : Go.Shelf.Ren := ⟨fun | 243 => 27 | 246 => 47 | 283 => 59 | 284 => 60 | 285 => 61 | 286 => 62 | 129 => 77 | 317 => 76 | 318 => 78 | 319 => 79 | 320 => 80 | 337 => 92 | 338 => 93 | n => n, fun | 3 => 3 | 9 => 9 | 2 => 2 | 4 => 4 | 171 => 101 | 0 => 0 | 53 => 22 | 37 => 23 | 5 => 5 | 173 => 104 | 212 => 116 | 51 => 117 | 20 => 20 | 213 => 118 | 46 => 46 | 232 => 137 | 233 => 138 | n => n, fun | 17 => 1 | 18 => 4 | 19 => 5 | n => n⟩
def Tryd.lays243_ren : Go.Shelf.Ren := ⟨fun | 243 => 27 | 246 => 47 | 283 => 59 | 284 => 60 | 285 => 61 | 286 => 62 | 129 => 77 | 317 => 76 | 318 => 78 | 319 => 79 | 320 => 80 | 337 => 92 | 338 => 93 | n => n, fun | 3 => 3 | 9 => 9 | 2 => 2 | 4 => 4 | 171 => 101 | 0 => 0 | 53 => 22 | 37 => 23 | 5 => 5 | 173 => 104 | 212 => 116 | 51 => 117 | 20 => 20 | 213 => 118 | 46 => 46 | 232 => 137 | 233 => 138 | n => n, fun | 17 => 1 | 18 => 4 | 19 => 5 | n => n⟩
def Tryd.laysM171_ren : Go.Shelf.Ren := ⟨fun | 171 => 16 | 243 => 27 | 246 => 47 | 283 => 59 | 284 => 60 | 285 => 61 | 286 => 62 | 129 => 77 | 317 => 76 | 318 => 78 | 319 => 79 | 320 => 80 | 337 => 92 | 338 => 93 | n => n, fun | 3 => 3 | 9 => 9 | 2 => 2 | 4 => 4 | 171 => 101 | 0 => 0 | 53 => 22 | 37 => 23 | 5 => 5 | 173 => 104 | 212 => 116 | 51 => 117 | 20 => 20 | 213 => 118 | 46 => 46 | 232 => 137 | 233 => 138 | n => n, fun | 17 => 1 | 18 => 4 | 19 => 5 | n => n⟩
theorem Tryd.laysM171 : Go.Proofs.LaysM.n171 Tryd.prog Tryd.laysM171_ren := {
 mixed := by kernel_rfl
 f129 := Tryd.func77.trans (congrArg some (by kernel_rfl))
 f171 := Tryd.func16.trans (congrArg some (by kernel_rfl))
 f243 := Tryd.func27.trans (congrArg some (by kernel_rfl))
 f246 := Tryd.func47.trans (congrArg some (by kernel_rfl))
 f283 := Tryd.func59.trans (congrArg some (by kernel_rfl))
 f284 := Tryd.func60.trans (congrArg some (by kernel_rfl))
 f285 := Tryd.func61.trans (congrArg some (by kernel_rfl))
 f286 := Tryd.func62.trans (congrArg some (by kernel_rfl))
 f317 := Tryd.func76.trans (congrArg some (by kernel_rfl))
 f318 := Tryd.func78.trans (congrArg some (by kernel_rfl))
 f319 := Tryd.func79.trans (congrArg some (by kernel_rfl))
 f320 := Tryd.func80.trans (congrArg some (by kernel_rfl))
 f337 := Tryd.func92.trans (congrArg some (by kernel_rfl))
 f338 := Tryd.func93.trans (congrArg some (by kernel_rfl))
 t0 := Tryd.underlying0
 a0 := Tryd.isAgg0
 z0 := Tryd.sizeOf0
 v0 := Tryd.zeroValue0
 t2 := Tryd.underlying2
 a2 := Tryd.isAgg2
 z2 := Tryd.sizeOf2
 v2 := Tryd.zeroValue2
 t3 := Tryd.underlying3
 a3 := Tryd.isAgg3
 z3 := Tryd.sizeOf3
 v3 := Tryd.zeroValue3
 t4 := Tryd.underlying4
 a4 := Tryd.isAgg4
 z4 := Tryd.sizeOf4
 v4 := Tryd.zeroValue4
 t5 := Tryd.underlying5
 a5 := Tryd.isAgg5
 z5 := Tryd.sizeOf5
 v5 := Tryd.zeroValue5
 t9 := Tryd.underlying9
 a9 := Tryd.isAgg9
 z9 := Tryd.sizeOf9
 v9 := Tryd.zeroValue9
 t20 := Tryd.underlying20
 a20 := Tryd.isAgg20
 z20 := Tryd.sizeOf20
 v20 := Tryd.zeroValue20
 t37 := Tryd.underlying23
 a37 := Tryd.isAgg23
 z37 := Tryd.sizeOf23
 v37 := Tryd.zeroValue23
 t46 := Tryd.underlying46
 a46 := Tryd.isAgg46
 z46 := Tryd.sizeOf46
 v46 := Tryd.zeroValue46
 t51 := Tryd.underlying117
 a51 := Tryd.isAgg117
 z51 := Tryd.sizeOf117
 v51 := Tryd.zeroValue117
 t53 := Tryd.underlying22
 a53 := Tryd.isAgg22
 z53 := Tryd.sizeOf22
 v53 := Tryd.zeroValue22
 t171 := Tryd.underlying101
 a171 := Tryd.isAgg101
 z171 := Tryd.sizeOf101
 v171 := Tryd.zeroValue101
 t173 := Tryd.underlying104
 a173 := Tryd.isAgg104
 z173 := Tryd.sizeOf104
 v173 := Tryd.zeroValue104
 t212 := Tryd.underlying116
 a212 := Tryd.isAgg116
 z212 := Tryd.sizeOf116
 v212 := Tryd.zeroValue116
 t213 := Tryd.underlying118
 a213 := Tryd.isAgg118
 z213 := Tryd.sizeOf118
 t232 := Tryd.underlying137
 a232 := Tryd.isAgg137
 z232 := Tryd.sizeOf137
 v232 := Tryd.zeroValue137
 t233 := Tryd.underlying138
 a233 := Tryd.isAgg138
 z233 := Tryd.sizeOf138
 v233 := Tryd.zeroValue138
 g17 := by kernel_rfl
 g18 := by kernel_rfl
 g19 := by kernel_rfl
 i0 := by kernel_rfl
 i2 := by kernel_rfl
 i3 := by kernel_rfl
 i4 := by kernel_rfl
 i5 := by kernel_rfl
 i9 := by kernel_rfl
 i20 := by kernel_rfl
 i37 := by kernel_rfl
 i46 := by kernel_rfl
 i51 := by kernel_rfl
 i53 := by kernel_rfl
 i171 := by kernel_rfl
 i173 := by kernel_rfl
 i212 := by kernel_rfl
 i232 := by kernel_rfl
 i233 := by kernel_rfl
 m17 := by kernel_rfl
 m18 := by kernel_rfl
 m19 := by kernel_rfl }
open Go.RowKit Go.Sort Go.Lib in
theorem Tryd.strconv_Itoa (n : Int) (h0 : -9223372036854775808 ≤ n) (h1 : n ≤ 9223372036854775807) (w : World) (htab : Lib.TabIs Tryd.prog w "internal/strconv.uint64pow10" .u64 Lib.pow10Tab) :
  Calls Tryd.prog 16 #[.int .i64 n] w fun e w' => e = .returned (.string ⟨(Lib.itoa n).toArray⟩) ∧ ∃ k os, w' = grow (w.drewN k) os := Any.strconv_Itoa Tryd.laysM171 n h0 h1 w htab
def Tryd.lays171_ren : Go.Shelf.Ren := ⟨fun | 171 => 16 | 243 => 27 | 246 => 47 | 283 => 59 | 284 => 60 | 285 => 61 | 286 => 62 | 129 => 77 | 317 => 76 | 318 => 78 | 319 => 79 | 320 => 80 | 337 => 92 | 338 => 93 | n => n, fun | 3 => 3 | 9 => 9 | 2 => 2 | 4 => 4 | 171 => 101 | 0 => 0 | 53 => 22 | 37 => 23 | 5 => 5 | 173 => 104 | 212 => 116 | 51 => 117 | 20 => 20 | 213 => 118 | 46 => 46 | 232 => 137 | 233 => 138 | n => n, fun | 17 => 1 | 18 => 4 | 19 => 5 | n => n⟩
def Tryd.laysPu14_ren : Go.Shelf.Ren := ⟨fun | 14 => 50 | 16 => 70 | 17 => 71 | 19 => 86 | 20 => 87 | 21 => 88 | 22 => 89 | 23 => 90 | 24 => 91 | 25 => 95 | 27 => 16 | 26 => 96 | 28 => 27 | 29 => 47 | 30 => 59 | 31 => 60 | 32 => 61 | 33 => 62 | 35 => 77 | 34 => 76 | 36 => 78 | 37 => 79 | 38 => 80 | 39 => 92 | 40 => 93 | n => n, fun | 9 => 9 | 3 => 3 | 22 => 22 | 24 => 88 | 25 => 89 | 4 => 4 | 34 => 126 | 5 => 5 | 36 => 46 | 37 => 23 | 0 => 0 | 39 => 129 | 21 => 21 | 44 => 135 | 47 => 143 | 50 => 146 | 48 => 144 | 2 => 2 | 52 => 101 | 55 => 104 | 59 => 116 | 60 => 117 | 20 => 20 | 61 => 118 | 65 => 137 | 66 => 138 | 67 => 33 | n => n, fun | 0 => 2 | 1 => 3 | 2 => 1 | 3 => 4 | 4 => 5 | n => n⟩
theorem Tryd.laysPu14 : Go.Proofs.LaysPu.n14 Tryd.prog Tryd.laysPu14_ren := {
 mixed := by kernel_rfl
 f14 := Tryd.func50.trans (congrArg some (by kernel_rfl))
 f16 := Tryd.func70.trans (congrArg some (by kernel_rfl))
 f17 := Tryd.func71.trans (congrArg some (by kernel_rfl))
 f19 := Tryd.func86.trans (congrArg some (by kernel_rfl))
 f20 := Tryd.func87.trans (congrArg some (by kernel_rfl))
 f21 := Tryd.func88.trans (congrArg some (by kernel_rfl))
 f22 := Tryd.func89.trans (congrArg some (by kernel_rfl))
 f23 := Tryd.func90.trans (congrArg some (by kernel_rfl))
 f24 := Tryd.func91.trans (congrArg some (by kernel_rfl))
 f25 := Tryd.func95.trans (congrArg some (by kernel_rfl))
 f26 := Tryd.func96.trans (congrArg some (by kernel_rfl))
 f27 := Tryd.func16.trans (congrArg some (by kernel_rfl))
 f28 := Tryd.func27.trans (congrArg some (by kernel_rfl))
 f29 := Tryd.func47.trans (congrArg some (by kernel_rfl))
 f30 := Tryd.func59.trans (congrArg some (by kernel_rfl))
 f31 := Tryd.func60.trans (congrArg some (by kernel_rfl))
 f32 := Tryd.func61.trans (congrArg some (by kernel_rfl))
 f33 := Tryd.func62.trans (congrArg some (by kernel_rfl))
 f34 := Tryd.func76.trans (congrArg some (by kernel_rfl))
 f35 := Tryd.func77.trans (congrArg some (by kernel_rfl))
 f36 := Tryd.func78.trans (congrArg some (by kernel_rfl))
 f37 := Tryd.func79.trans (congrArg some (by kernel_rfl))
 f38 := Tryd.func80.trans (congrArg some (by kernel_rfl))
 f39 := Tryd.func92.trans (congrArg some (by kernel_rfl))
 f40 := Tryd.func93.trans (congrArg some (by kernel_rfl))
 t0 := Tryd.underlying0
 a0 := Tryd.isAgg0
 z0 := Tryd.sizeOf0
 v0 := Tryd.zeroValue0
 i0 := by kernel_rfl
 t2 := Tryd.underlying2
 a2 := Tryd.isAgg2
 z2 := Tryd.sizeOf2
 v2 := Tryd.zeroValue2
 i2 := by kernel_rfl
 t3 := Tryd.underlying3
 a3 := Tryd.isAgg3
 z3 := Tryd.sizeOf3
 v3 := Tryd.zeroValue3
 i3 := by kernel_rfl
 t4 := Tryd.underlying4
 a4 := Tryd.isAgg4
 z4 := Tryd.sizeOf4
 v4 := Tryd.zeroValue4
 i4 := by kernel_rfl
 t5 := Tryd.underlying5
 a5 := Tryd.isAgg5
 z5 := Tryd.sizeOf5
 v5 := Tryd.zeroValue5
 i5 := by kernel_rfl
 t9 := Tryd.underlying9
 a9 := Tryd.isAgg9
 z9 := Tryd.sizeOf9
 v9 := Tryd.zeroValue9
 i9 := by kernel_rfl
 t20 := Tryd.underlying20
 a20 := Tryd.isAgg20
 z20 := Tryd.sizeOf20
 v20 := Tryd.zeroValue20
 i20 := by kernel_rfl
 t21 := Tryd.underlying21
 a21 := Tryd.isAgg21
 z21 := Tryd.sizeOf21
 v21 := Tryd.zeroValue21
 i21 := by kernel_rfl
 t22 := Tryd.underlying22
 a22 := Tryd.isAgg22
 z22 := Tryd.sizeOf22
 v22 := Tryd.zeroValue22
 i22 := by kernel_rfl
 t24 := Tryd.underlying88
 a24 := Tryd.isAgg88
 z24 := Tryd.sizeOf88
 v24 := Tryd.zeroValue88
 i24 := by kernel_rfl
 t25 := Tryd.underlying89
 a25 := Tryd.isAgg89
 z25 := Tryd.sizeOf89
 v25 := Tryd.zeroValue89
 i25 := by kernel_rfl
 t34 := Tryd.underlying126
 a34 := Tryd.isAgg126
 z34 := Tryd.sizeOf126
 v34 := Tryd.zeroValue126
 i34 := by kernel_rfl
 c34 := by kernel_rfl
 t36 := Tryd.underlying46
 a36 := Tryd.isAgg46
 z36 := Tryd.sizeOf46
 v36 := Tryd.zeroValue46
 i36 := by kernel_rfl
 t37 := Tryd.underlying23
 a37 := Tryd.isAgg23
 z37 := Tryd.sizeOf23
 v37 := Tryd.zeroValue23
 i37 := by kernel_rfl
 t39 := Tryd.underlying129
 a39 := Tryd.isAgg129
 z39 := Tryd.sizeOf129
 v39 := Tryd.zeroValue129
 i39 := by kernel_rfl
 t44 := Tryd.underlying135
 a44 := Tryd.isAgg135
 z44 := Tryd.sizeOf135
 v44 := Tryd.zeroValue135
 i44 := by kernel_rfl
 t47 := Tryd.underlying143
 a47 := Tryd.isAgg143
 z47 := Tryd.sizeOf143
 v47 := Tryd.zeroValue143
 i47 := by kernel_rfl
 t48 := Tryd.underlying144
 a48 := Tryd.isAgg144
 z48 := Tryd.sizeOf144
 v48 := Tryd.zeroValue144
 i48 := by kernel_rfl
 t50 := Tryd.underlying146
 a50 := Tryd.isAgg146
 z50 := Tryd.sizeOf146
 v50 := Tryd.zeroValue146
 i50 := by kernel_rfl
 t52 := Tryd.underlying101
 a52 := Tryd.isAgg101
 z52 := Tryd.sizeOf101
 v52 := Tryd.zeroValue101
 i52 := by kernel_rfl
 t55 := Tryd.underlying104
 a55 := Tryd.isAgg104
 z55 := Tryd.sizeOf104
 v55 := Tryd.zeroValue104
 i55 := by kernel_rfl
 t59 := Tryd.underlying116
 a59 := Tryd.isAgg116
 z59 := Tryd.sizeOf116
 v59 := Tryd.zeroValue116
 i59 := by kernel_rfl
 t60 := Tryd.underlying117
 a60 := Tryd.isAgg117
 z60 := Tryd.sizeOf117
 v60 := Tryd.zeroValue117
 i60 := by kernel_rfl
 t61 := Tryd.underlying118
 a61 := Tryd.isAgg118
 z61 := Tryd.sizeOf118
 t65 := Tryd.underlying137
 a65 := Tryd.isAgg137
 z65 := Tryd.sizeOf137
 v65 := Tryd.zeroValue137
 i65 := by kernel_rfl
 t66 := Tryd.underlying138
 a66 := Tryd.isAgg138
 z66 := Tryd.sizeOf138
 v66 := Tryd.zeroValue138
 i66 := by kernel_rfl
 t67 := Tryd.underlying33
 a67 := Tryd.isAgg33
 z67 := Tryd.sizeOf33
 v67 := Tryd.zeroValue33
 i67 := by kernel_rfl
 g0 := by kernel_rfl
 m0 := by kernel_rfl
 g1 := by kernel_rfl
 m1 := by kernel_rfl
 g2 := by kernel_rfl
 m2 := by kernel_rfl
 g3 := by kernel_rfl
 m3 := by kernel_rfl
 g4 := by kernel_rfl
 m4 := by kernel_rfl }
open Go.RowKit in
theorem Tryd.strconv_ParseUint_10_at64_ok (s : ByteArray) (hmax : s.size ≤ 9223372036854775806) (u : Nat) (h : Lib.parseUintB 64 s.data.toList = .ok u) (w : World) :
  Calls Tryd.prog 50 #[.string s, .int .i64 10, .int .i64 64] w fun e w' => e = .returned (.tuple #[.int .u64 u, .nilIface]) ∧ (w' = w ∨ w' = Lib.bytesWorld w 5 s) := Any.strconv_ParseUint_10_at64_ok Tryd.laysPu14 s hmax u h w
def Tryd.lays145_ren : Go.Shelf.Ren := ⟨fun | 145 => 21 | 220 => 28 | 219 => 48 | 217 => 63 | 225 => 64 | 224 => 65 | 267 => 66 | 266 => 81 | 314 => 82 | n => n, fun | 9 => 9 | 4 => 4 | 59 => 49 | 3 => 3 | 5 => 5 | 46 => 46 | 146 => 121 | 51 => 117 | n => n, fun | 1 => 0 | n => n⟩
theorem Tryd.lays145 : Go.Proofs.Lays.n145 Tryd.prog Tryd.lays145_ren := {
 mixed := by kernel_rfl
 f145 := Tryd.func21.trans (congrArg some (by kernel_rfl))
 f217 := Tryd.func63.trans (congrArg some (by kernel_rfl))
 f219 := Tryd.func48.trans (congrArg some (by kernel_rfl))
 f220 := Tryd.func28.trans (congrArg some (by kernel_rfl))
 f224 := Tryd.func65.trans (congrArg some (by kernel_rfl))
 f225 := Tryd.func64.trans (congrArg some (by kernel_rfl))
 f266 := Tryd.func81.trans (congrArg some (by kernel_rfl))
 f267 := Tryd.func66.trans (congrArg some (by kernel_rfl))
 f314 := Tryd.func82.trans (congrArg some (by kernel_rfl))
 t3 := Tryd.underlying3
 a3 := Tryd.isAgg3
 z3 := Tryd.sizeOf3
 v3 := Tryd.zeroValue3
 t4 := Tryd.underlying4
 a4 := Tryd.isAgg4
 z4 := Tryd.sizeOf4
 v4 := Tryd.zeroValue4
 t5 := Tryd.underlying5
 a5 := Tryd.isAgg5
 z5 := Tryd.sizeOf5
 v5 := Tryd.zeroValue5
 t9 := Tryd.underlying9
 a9 := Tryd.isAgg9
 z9 := Tryd.sizeOf9
 v9 := Tryd.zeroValue9
 t46 := Tryd.underlying46
 a46 := Tryd.isAgg46
 z46 := Tryd.sizeOf46
 v46 := Tryd.zeroValue46
 t51 := Tryd.underlying117
 a51 := Tryd.isAgg117
 z51 := Tryd.sizeOf117
 v51 := Tryd.zeroValue117
 t59 := Tryd.underlying49
 a59 := Tryd.isAgg49
 z59 := Tryd.sizeOf49
 v59 := Tryd.zeroValue49
 t146 := Tryd.underlying121
 a146 := Tryd.isAgg121
 z146 := Tryd.sizeOf121
 v146 := Tryd.zeroValue121
 g1 := by kernel_rfl }
open Go.RowKit Go.Lib in
theorem Tryd.strings_Cut (s sep : ByteArray) (m : Int) (w : World) (hs : s.size < 4294967281) (hm : w.cell? ⟨0, 0, none⟩ = some (.int .i64 m)) :
  Calls Tryd.prog 21 #[.string s, .string sep] w fun e w' => e = .returned (.tuple #[.string ⟨(Lib.cut s.data.toList sep.data.toList).1.toArray⟩, .string ⟨(Lib.cut s.data.toList sep.data.toList).2.1.toArray⟩, .bool (Lib.cut s.data.toList sep.data.toList).2.2]) ∧ ∃ n, w' = w.drewN n := Any.strings_Cut Tryd.lays145 s sep m w hs hm
def Tryd.laysM288_ren : Go.Shelf.Ren := ⟨fun | 288 => 46 | 283 => 59 | 284 => 60 | 285 => 61 | 286 => 62 | 129 => 77 | 317 => 76 | 318 => 78 | 319 => 79 | 320 => 80 | 337 => 92 | 338 => 93 | n => n, fun | 37 => 23 | 53 => 22 | 3 => 3 | 4 => 4 | 9 => 9 | 171 => 101 | 0 => 0 | 173 => 104 | 212 => 116 | 51 => 117 | 5 => 5 | 20 => 20 | 213 => 118 | 46 => 46 | 232 => 137 | 233 => 138 | n => n, fun | 17 => 1 | 18 => 4 | 19 => 5 | n => n⟩
open Go.RowKit Go.Sort Go.Lib in
def Tryd.lays147_ren : Go.Shelf.Ren := ⟨fun | 147 => 29 | 221 => 49 | 268 => 67 | 138 => 68 | 143 => 69 | 195 => 83 | 197 => 84 | 218 => 85 | 219 => 48 | 260 => 94 | 217 => 63 | 225 => 64 | 224 => 65 | 267 => 66 | 266 => 81 | 314 => 82 | n => n, fun | 9 => 9 | 3 => 3 | 31 => 64 | 4 => 4 | 0 => 0 | 105 => 124 | 21 => 21 | 5 => 5 | 46 => 46 | 119 => 139 | 139 => 142 | 138 => 141 | 146 => 121 | 51 => 117 | n => n, fun | 1 => 0 | 3 => 6 | 4 => 7 | n => n⟩
theorem Tryd.lays147 : Go.Proofs.Lays.n147 Tryd.prog Tryd.lays147_ren := {
 mixed := by kernel_rfl
 f138 := Tryd.func68.trans (congrArg some (by kernel_rfl))
 f143 := Tryd.func69.trans (congrArg some (by kernel_rfl))
 f147 := Tryd.func29.trans (congrArg some (by kernel_rfl))
 f195 := Tryd.func83.trans (congrArg some (by kernel_rfl))
 f197 := Tryd.func84.trans (congrArg some (by kernel_rfl))
 f217 := Tryd.func63.trans (congrArg some (by kernel_rfl))
 f218 := Tryd.func85.trans (congrArg some (by kernel_rfl))
 f219 := Tryd.func48.trans (congrArg some (by kernel_rfl))
 f221 := Tryd.func49.trans (congrArg some (by kernel_rfl))
 f224 := Tryd.func65.trans (congrArg some (by kernel_rfl))
 f225 := Tryd.func64.trans (congrArg some (by kernel_rfl))
 f260 := Tryd.func94.trans (congrArg some (by kernel_rfl))
 f266 := Tryd.func81.trans (congrArg some (by kernel_rfl))
 f267 := Tryd.func66.trans (congrArg some (by kernel_rfl))
 f268 := Tryd.func67.trans (congrArg some (by kernel_rfl))
 f314 := Tryd.func82.trans (congrArg some (by kernel_rfl))
 t0 := Tryd.underlying0
 a0 := Tryd.isAgg0
 z0 := Tryd.sizeOf0
 v0 := Tryd.zeroValue0
 t3 := Tryd.underlying3
 a3 := Tryd.isAgg3
 z3 := Tryd.sizeOf3
 v3 := Tryd.zeroValue3
 t4 := Tryd.underlying4
 a4 := Tryd.isAgg4
 z4 := Tryd.sizeOf4
 v4 := Tryd.zeroValue4
 t5 := Tryd.underlying5
 a5 := Tryd.isAgg5
 z5 := Tryd.sizeOf5
 v5 := Tryd.zeroValue5
 t9 := Tryd.underlying9
 a9 := Tryd.isAgg9
 z9 := Tryd.sizeOf9
 v9 := Tryd.zeroValue9
 t21 := Tryd.underlying21
 a21 := Tryd.isAgg21
 z21 := Tryd.sizeOf21
 v21 := Tryd.zeroValue21
 t31 := Tryd.underlying64
 a31 := Tryd.isAgg64
 z31 := Tryd.sizeOf64
 v31 := Tryd.zeroValue64
 t46 := Tryd.underlying46
 a46 := Tryd.isAgg46
 z46 := Tryd.sizeOf46
 v46 := Tryd.zeroValue46
 t51 := Tryd.underlying117
 a51 := Tryd.isAgg117
 z51 := Tryd.sizeOf117
 v51 := Tryd.zeroValue117
 t105 := Tryd.underlying124
 a105 := Tryd.isAgg124
 z105 := Tryd.sizeOf124
 v105 := Tryd.zeroValue124
 t119 := Tryd.underlying139
 a119 := Tryd.isAgg139
 z119 := Tryd.sizeOf139
 t138 := Tryd.underlying141
 a138 := Tryd.isAgg141
 z138 := Tryd.sizeOf141
 v138 := Tryd.zeroValue141
 t139 := Tryd.underlying142
 a139 := Tryd.isAgg142
 z139 := Tryd.sizeOf142
 v139 := Tryd.zeroValue142
 t146 := Tryd.underlying121
 a146 := Tryd.isAgg121
 z146 := Tryd.sizeOf121
 v146 := Tryd.zeroValue121
 g1 := by kernel_rfl
 g3 := by kernel_rfl
 g4 := by kernel_rfl }
open Go.RowKit Go.Lib in
theorem Tryd.strings_SplitN (s sep : ByteArray) (n : Nat) (m : Int) (w : World) (hs : s.size < 4294967281) (hm : w.cell? ⟨0, 0, none⟩ = some (.int .i64 m)) (h1 : 1 ≤ sep.size) (hn : 1 ≤ n) (hn63 : n ≤ 9223372036854775807) :
  Calls Tryd.prog 29 #[.string s, .string sep, .int .i64 n] w fun e w' =>
   e = .returned (.slice (some ⟨w.heap.size, 0, none⟩) (Lib.splitB sep 0 (min n (s.size + 1) - 1) s).length (min n (s.size + 1))) ∧ w' = w.alloc (.cells (Lib.cellsOf (Lib.splitB sep 0 (min n (s.size + 1) - 1) s) (min n (s.size + 1))) 9) := Any.strings_SplitN Tryd.lays147 (by kernel_rfl) s sep n m w hs hm h1 hn hn63
end Go.Proofs