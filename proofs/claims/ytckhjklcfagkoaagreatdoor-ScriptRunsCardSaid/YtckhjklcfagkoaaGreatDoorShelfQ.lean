/-
 DERIVED: THE SHELF's CONTRACTS AT THIS DUMP, IN PLAIN WORDS (tools/lay-plain.mjs out of 'TryzShelf.lean', which tools/lay-shelf.mjs wrote): THE SAME DECLARATIONS UNDER THE SAME NAMES: 'import', 'namespace', 'open', 'def', 'theorem' AND NOTHING ELSE: no command of the shelf's: FOR A HAND-IN. Each laying: the table of numbers ('.._ren') and one theorem, a field a fact of the dump's own or the kernel's comparison; each contract: ONE APPLICATION.
-/
import Derived.Shelf.Strings.Builder1
import Derived.Shelf.Small.Strs
import Derived.Shelf.Strings.BuilderF
import Derived.Shelf.Strings.BuilderK
import Derived.Shelf.Utf8.RuneCount
import Derived.Shelf.Strconv.Itoa0
import Derived.Shelf.Strconv.Itoa1
import Derived.Shelf.LaysM
import Derived.Shelf.Strconv.Itoa2
import Derived.Shelf.Strconv.Itoa3
import Derived.Shelf.Strconv.Clone
import Derived.Shelf.Strconv.SyntaxError
import Derived.Shelf.LaysC
import Derived.Shelf.Strconv.ToError
import Derived.Shelf.Strconv.Lower
import Derived.Shelf.Strconv.ParseUint10
import Derived.Shelf.Strconv.ParseUint10Empty
import Derived.Shelf.Strconv.ParseUint10Any
import Derived.Shelf.Strconv.RangeError
import Derived.Shelf.Strconv.ToErrorRange
import Derived.Shelf.Strconv.ParseUintEmpty
import Derived.Shelf.Strconv.ParseUint10b64
import Derived.Shelf.Strconv.ParseUint10b32
import Derived.Shelf.Strconv.ParseUint10b16
import Derived.Shelf.Strconv.ParseUint10b8
import Derived.Shelf.Strconv.ParseUint10At
import Derived.Shelf.Pu.ParseUintPublic10
import Derived.Shelf.Pu.ErrVarParseUint
import Derived.Shelf.Strings.Search1
import Derived.Shelf.Strings.Search2
import Derived.Shelf.Strings.Search3
import Derived.Shelf.Strings.Cut
import Derived.Shelf.Strings.Count
import Derived.Shelf.Strings.Shaped
import Derived.Shelf.Strconv.AppendUint10
import Derived.Shelf.Strconv.AppendInt10
import Derived.Shelf.Strings.Split
import Derived.Shelf.Strings.SplitShaped
import Derived.Shelf.Unicode.Decode
import Derived.Shelf.Strings.RuneCount
import Derived.Shelf.Strings.Explode
import Derived.Shelf.Unicode.DecodeSlow
import Derived.Shelf.Unicode.DecodeAny
import Derived.Shelf.Strings.BuilderCap
import Derived.Shelf.SlicesE.Clone
import Derived.Test.YtckhjklcfagkoaaGreatDoorProg
namespace Go.Proofs
open Go.Shelf
def Tryz.lays169_ren : Go.Shelf.Ren := ⟨fun | 169 => 74 | n => n, fun | 70 => 128 | 9 => 9 | 0 => 0 | 72 => 130 | 37 => 33 | 127 => 164 | 3 => 3 | 5 => 5 | n => n, fun | n => n⟩
def Tryz.lays137_ren : Go.Shelf.Ren := ⟨fun | 137 => 113 | 217 => 116 | 266 => 129 | n => n, fun | 9 => 9 | 5 => 5 | 3 => 3 | n => n, fun | n => n⟩
theorem Tryz.lays137 : Go.Proofs.Lays.n137 Tryz.prog Tryz.lays137_ren := {
 mixed := by kernel_rfl
 f137 := Tryz.func113.trans (congrArg some (by kernel_rfl))
 f217 := Tryz.func116.trans (congrArg some (by kernel_rfl))
 f266 := Tryz.func129.trans (congrArg some (by kernel_rfl))
 t3 := Tryz.underlying3
 a3 := Tryz.isAgg3
 z3 := Tryz.sizeOf3
 v3 := Tryz.zeroValue3
 t5 := Tryz.underlying5
 a5 := Tryz.isAgg5
 z5 := Tryz.sizeOf5
 v5 := Tryz.zeroValue5
 t9 := Tryz.underlying9
 a9 := Tryz.isAgg9
 z9 := Tryz.sizeOf9
 v9 := Tryz.zeroValue9 }
open Go.RowKit in
theorem Tryz.strings_IndexByte (s : ByteArray) (c : Int) (w : World) :
  Calls Tryz.prog 113 #[.string s, .int .u8 c] w fun e w' => e = .returned (.int .i64 (Lib.indexByte s.data.toList c.toNat.toUInt8)) ∧ w' = w := Any.strings_IndexByte Tryz.lays137 s c w
def Tryz.lays129_ren : Go.Shelf.Ren := ⟨fun | 129 => 141 | n => n, fun | 53 => 32 | 3 => 3 | 4 => 4 | 46 => 161 | 5 => 5 | 9 => 9 | n => n, fun | n => n⟩
def Tryz.lays283_ren : Go.Shelf.Ren := ⟨fun | 283 => 125 | n => n, fun | 3 => 3 | 9 => 9 | 4 => 4 | n => n, fun | n => n⟩
def Tryz.laysM284_ren : Go.Shelf.Ren := ⟨fun | 284 => 126 | 129 => 141 | 317 => 140 | 318 => 142 | n => n, fun | 53 => 32 | 3 => 3 | 212 => 202 | 0 => 0 | 4 => 4 | 46 => 161 | 5 => 5 | 9 => 9 | n => n, fun | 17 => 1 | n => n⟩
def Tryz.lays285_ren : Go.Shelf.Ren := ⟨fun | 285 => 127 | n => n, fun | 37 => 33 | 53 => 32 | 3 => 3 | 4 => 4 | 51 => 189 | 9 => 9 | 5 => 5 | 0 => 0 | n => n, fun | n => n⟩
def Tryz.lays246_ren : Go.Shelf.Ren := ⟨fun | 246 => 115 | 283 => 125 | 284 => 126 | 285 => 127 | 286 => 128 | 129 => 141 | 317 => 140 | 318 => 142 | 319 => 143 | 320 => 144 | 337 => 148 | 338 => 149 | n => n, fun | 2 => 2 | 3 => 3 | 9 => 9 | 4 => 4 | 171 => 184 | 0 => 0 | 53 => 32 | 37 => 33 | 5 => 5 | 173 => 187 | 212 => 202 | 51 => 189 | 20 => 20 | 213 => 203 | 46 => 161 | 232 => 218 | 233 => 219 | n => n, fun | 17 => 1 | 18 => 6 | 19 => 7 | n => n⟩
def Tryz.laysM243_ren : Go.Shelf.Ren := ⟨fun | 243 => 109 | 246 => 115 | 283 => 125 | 284 => 126 | 285 => 127 | 286 => 128 | 129 => 141 | 317 => 140 | 318 => 142 | 319 => 143 | 320 => 144 | 337 => 148 | 338 => 149 | n => n, fun | 3 => 3 | 9 => 9 | 2 => 2 | 4 => 4 | 171 => 184 | 0 => 0 | 53 => 32 | 37 => 33 | 5 => 5 | 173 => 187 | 212 => 202 | 51 => 189 | 20 => 20 | 213 => 203 | 46 => 161 | 232 => 218 | 233 => 219 | n => n, fun | 17 => 1 | 18 => 6 | 19 => 7 | n => n⟩
def Tryz.lays243_ren : Go.Shelf.Ren := ⟨fun | 243 => 109 | 246 => 115 | 283 => 125 | 284 => 126 | 285 => 127 | 286 => 128 | 129 => 141 | 317 => 140 | 318 => 142 | 319 => 143 | 320 => 144 | 337 => 148 | 338 => 149 | n => n, fun | 3 => 3 | 9 => 9 | 2 => 2 | 4 => 4 | 171 => 184 | 0 => 0 | 53 => 32 | 37 => 33 | 5 => 5 | 173 => 187 | 212 => 202 | 51 => 189 | 20 => 20 | 213 => 203 | 46 => 161 | 232 => 218 | 233 => 219 | n => n, fun | 17 => 1 | 18 => 6 | 19 => 7 | n => n⟩
def Tryz.laysM171_ren : Go.Shelf.Ren := ⟨fun | 171 => 95 | 243 => 109 | 246 => 115 | 283 => 125 | 284 => 126 | 285 => 127 | 286 => 128 | 129 => 141 | 317 => 140 | 318 => 142 | 319 => 143 | 320 => 144 | 337 => 148 | 338 => 149 | n => n, fun | 3 => 3 | 9 => 9 | 2 => 2 | 4 => 4 | 171 => 184 | 0 => 0 | 53 => 32 | 37 => 33 | 5 => 5 | 173 => 187 | 212 => 202 | 51 => 189 | 20 => 20 | 213 => 203 | 46 => 161 | 232 => 218 | 233 => 219 | n => n, fun | 17 => 1 | 18 => 6 | 19 => 7 | n => n⟩
def Tryz.lays171_ren : Go.Shelf.Ren := ⟨fun | 171 => 95 | 243 => 109 | 246 => 115 | 283 => 125 | 284 => 126 | 285 => 127 | 286 => 128 | 129 => 141 | 317 => 140 | 318 => 142 | 319 => 143 | 320 => 144 | 337 => 148 | 338 => 149 | n => n, fun | 3 => 3 | 9 => 9 | 2 => 2 | 4 => 4 | 171 => 184 | 0 => 0 | 53 => 32 | 37 => 33 | 5 => 5 | 173 => 187 | 212 => 202 | 51 => 189 | 20 => 20 | 213 => 203 | 46 => 161 | 232 => 218 | 233 => 219 | n => n, fun | 17 => 1 | 18 => 6 | 19 => 7 | n => n⟩
def Tryz.laysPu14_ren : Go.Shelf.Ren := ⟨fun | 14 => 112 | 16 => 123 | 17 => 124 | 19 => 134 | 20 => 135 | 21 => 136 | 22 => 137 | 23 => 138 | 24 => 139 | 25 => 146 | 27 => 95 | 26 => 147 | 28 => 109 | 29 => 115 | 30 => 125 | 31 => 126 | 32 => 127 | 33 => 128 | 35 => 141 | 34 => 140 | 36 => 142 | 37 => 143 | 38 => 144 | 39 => 148 | 40 => 149 | n => n, fun | 9 => 9 | 3 => 3 | 22 => 32 | 24 => 132 | 25 => 177 | 4 => 4 | 34 => 195 | 5 => 5 | 36 => 161 | 37 => 33 | 0 => 0 | 39 => 198 | 21 => 21 | 44 => 208 | 47 => 164 | 50 => 217 | 48 => 215 | 2 => 2 | 52 => 184 | 55 => 187 | 59 => 202 | 60 => 189 | 20 => 20 | 61 => 203 | 65 => 218 | 66 => 219 | 67 => 135 | n => n, fun | 0 => 2 | 1 => 3 | 2 => 1 | 3 => 6 | 4 => 7 | n => n⟩
theorem Tryz.laysPu14 : Go.Proofs.LaysPu.n14 Tryz.prog Tryz.laysPu14_ren := {
 mixed := by kernel_rfl
 f14 := Tryz.func112.trans (congrArg some (by kernel_rfl))
 f16 := Tryz.func123.trans (congrArg some (by kernel_rfl))
 f17 := Tryz.func124.trans (congrArg some (by kernel_rfl))
 f19 := Tryz.func134.trans (congrArg some (by kernel_rfl))
 f20 := Tryz.func135.trans (congrArg some (by kernel_rfl))
 f21 := Tryz.func136.trans (congrArg some (by kernel_rfl))
 f22 := Tryz.func137.trans (congrArg some (by kernel_rfl))
 f23 := Tryz.func138.trans (congrArg some (by kernel_rfl))
 f24 := Tryz.func139.trans (congrArg some (by kernel_rfl))
 f25 := Tryz.func146.trans (congrArg some (by kernel_rfl))
 f26 := Tryz.func147.trans (congrArg some (by kernel_rfl))
 f27 := Tryz.func95.trans (congrArg some (by kernel_rfl))
 f28 := Tryz.func109.trans (congrArg some (by kernel_rfl))
 f29 := Tryz.func115.trans (congrArg some (by kernel_rfl))
 f30 := Tryz.func125.trans (congrArg some (by kernel_rfl))
 f31 := Tryz.func126.trans (congrArg some (by kernel_rfl))
 f32 := Tryz.func127.trans (congrArg some (by kernel_rfl))
 f33 := Tryz.func128.trans (congrArg some (by kernel_rfl))
 f34 := Tryz.func140.trans (congrArg some (by kernel_rfl))
 f35 := Tryz.func141.trans (congrArg some (by kernel_rfl))
 f36 := Tryz.func142.trans (congrArg some (by kernel_rfl))
 f37 := Tryz.func143.trans (congrArg some (by kernel_rfl))
 f38 := Tryz.func144.trans (congrArg some (by kernel_rfl))
 f39 := Tryz.func148.trans (congrArg some (by kernel_rfl))
 f40 := Tryz.func149.trans (congrArg some (by kernel_rfl))
 t0 := Tryz.underlying0
 a0 := Tryz.isAgg0
 z0 := Tryz.sizeOf0
 v0 := Tryz.zeroValue0
 i0 := by kernel_rfl
 t2 := Tryz.underlying2
 a2 := Tryz.isAgg2
 z2 := Tryz.sizeOf2
 v2 := Tryz.zeroValue2
 i2 := by kernel_rfl
 t3 := Tryz.underlying3
 a3 := Tryz.isAgg3
 z3 := Tryz.sizeOf3
 v3 := Tryz.zeroValue3
 i3 := by kernel_rfl
 t4 := Tryz.underlying4
 a4 := Tryz.isAgg4
 z4 := Tryz.sizeOf4
 v4 := Tryz.zeroValue4
 i4 := by kernel_rfl
 t5 := Tryz.underlying5
 a5 := Tryz.isAgg5
 z5 := Tryz.sizeOf5
 v5 := Tryz.zeroValue5
 i5 := by kernel_rfl
 t9 := Tryz.underlying9
 a9 := Tryz.isAgg9
 z9 := Tryz.sizeOf9
 v9 := Tryz.zeroValue9
 i9 := by kernel_rfl
 t20 := Tryz.underlying20
 a20 := Tryz.isAgg20
 z20 := Tryz.sizeOf20
 v20 := Tryz.zeroValue20
 i20 := by kernel_rfl
 t21 := Tryz.underlying21
 a21 := Tryz.isAgg21
 z21 := Tryz.sizeOf21
 v21 := Tryz.zeroValue21
 i21 := by kernel_rfl
 t22 := Tryz.underlying32
 a22 := Tryz.isAgg32
 z22 := Tryz.sizeOf32
 v22 := Tryz.zeroValue32
 i22 := by kernel_rfl
 t24 := Tryz.underlying132
 a24 := Tryz.isAgg132
 z24 := Tryz.sizeOf132
 v24 := Tryz.zeroValue132
 i24 := by kernel_rfl
 t25 := Tryz.underlying177
 a25 := Tryz.isAgg177
 z25 := Tryz.sizeOf177
 v25 := Tryz.zeroValue177
 i25 := by kernel_rfl
 t34 := Tryz.underlying195
 a34 := Tryz.isAgg195
 z34 := Tryz.sizeOf195
 v34 := Tryz.zeroValue195
 i34 := by kernel_rfl
 c34 := by kernel_rfl
 t36 := Tryz.underlying161
 a36 := Tryz.isAgg161
 z36 := Tryz.sizeOf161
 v36 := Tryz.zeroValue161
 i36 := by kernel_rfl
 t37 := Tryz.underlying33
 a37 := Tryz.isAgg33
 z37 := Tryz.sizeOf33
 v37 := Tryz.zeroValue33
 i37 := by kernel_rfl
 t39 := Tryz.underlying198
 a39 := Tryz.isAgg198
 z39 := Tryz.sizeOf198
 v39 := Tryz.zeroValue198
 i39 := by kernel_rfl
 t44 := Tryz.underlying208
 a44 := Tryz.isAgg208
 z44 := Tryz.sizeOf208
 v44 := Tryz.zeroValue208
 i44 := by kernel_rfl
 t47 := Tryz.underlying164
 a47 := Tryz.isAgg164
 z47 := Tryz.sizeOf164
 v47 := Tryz.zeroValue164
 i47 := by kernel_rfl
 t48 := Tryz.underlying215
 a48 := Tryz.isAgg215
 z48 := Tryz.sizeOf215
 v48 := Tryz.zeroValue215
 i48 := by kernel_rfl
 t50 := Tryz.underlying217
 a50 := Tryz.isAgg217
 z50 := Tryz.sizeOf217
 v50 := Tryz.zeroValue217
 i50 := by kernel_rfl
 t52 := Tryz.underlying184
 a52 := Tryz.isAgg184
 z52 := Tryz.sizeOf184
 v52 := Tryz.zeroValue184
 i52 := by kernel_rfl
 t55 := Tryz.underlying187
 a55 := Tryz.isAgg187
 z55 := Tryz.sizeOf187
 v55 := Tryz.zeroValue187
 i55 := by kernel_rfl
 t59 := Tryz.underlying202
 a59 := Tryz.isAgg202
 z59 := Tryz.sizeOf202
 v59 := Tryz.zeroValue202
 i59 := by kernel_rfl
 t60 := Tryz.underlying189
 a60 := Tryz.isAgg189
 z60 := Tryz.sizeOf189
 v60 := Tryz.zeroValue189
 i60 := by kernel_rfl
 t61 := Tryz.underlying203
 a61 := Tryz.isAgg203
 z61 := Tryz.sizeOf203
 t65 := Tryz.underlying218
 a65 := Tryz.isAgg218
 z65 := Tryz.sizeOf218
 v65 := Tryz.zeroValue218
 i65 := by kernel_rfl
 t66 := Tryz.underlying219
 a66 := Tryz.isAgg219
 z66 := Tryz.sizeOf219
 v66 := Tryz.zeroValue219
 i66 := by kernel_rfl
 t67 := Tryz.underlying135
 a67 := Tryz.isAgg135
 z67 := Tryz.sizeOf135
 v67 := Tryz.zeroValue135
 i67 := by kernel_rfl
 g0 := by kernel_rfl
 m0 := by kernel_rfl
 g1 := by kernel_rfl
 m1 := by kernel_rfl
 g2 := by kernel_rfl
 m2 := by kernel_rfl
 g3 := by kernel_rfl
 m3 := by kernel_rfl
 g4 := by kernel_rfl
 m4 := by kernel_rfl }
open Go.RowKit in
theorem Tryz.strconv_ParseUint_10_at64_ok (s : ByteArray) (hmax : s.size ≤ 9223372036854775806) (u : Nat) (h : Lib.parseUintB 64 s.data.toList = .ok u) (w : World) :
  Calls Tryz.prog 112 #[.string s, .int .i64 10, .int .i64 64] w fun e w' => e = .returned (.tuple #[.int .u64 u, .nilIface]) ∧ (w' = w ∨ w' = Lib.bytesWorld w 5 s) := Any.strconv_ParseUint_10_at64_ok Tryz.laysPu14 s hmax u h w
def Tryz.lays145_ren : Go.Shelf.Ren := ⟨fun | 145 => 75 | 220 => 96 | 219 => 110 | 217 => 116 | 225 => 117 | 224 => 118 | 267 => 119 | 266 => 129 | 314 => 130 | n => n, fun | 9 => 9 | 4 => 4 | 59 => 137 | 3 => 3 | 5 => 5 | 46 => 161 | 146 => 190 | 51 => 189 | n => n, fun | 1 => 0 | n => n⟩
theorem Tryz.lays145 : Go.Proofs.Lays.n145 Tryz.prog Tryz.lays145_ren := {
 mixed := by kernel_rfl
 f145 := Tryz.func75.trans (congrArg some (by kernel_rfl))
 f217 := Tryz.func116.trans (congrArg some (by kernel_rfl))
 f219 := Tryz.func110.trans (congrArg some (by kernel_rfl))
 f220 := Tryz.func96.trans (congrArg some (by kernel_rfl))
 f224 := Tryz.func118.trans (congrArg some (by kernel_rfl))
 f225 := Tryz.func117.trans (congrArg some (by kernel_rfl))
 f266 := Tryz.func129.trans (congrArg some (by kernel_rfl))
 f267 := Tryz.func119.trans (congrArg some (by kernel_rfl))
 f314 := Tryz.func130.trans (congrArg some (by kernel_rfl))
 t3 := Tryz.underlying3
 a3 := Tryz.isAgg3
 z3 := Tryz.sizeOf3
 v3 := Tryz.zeroValue3
 t4 := Tryz.underlying4
 a4 := Tryz.isAgg4
 z4 := Tryz.sizeOf4
 v4 := Tryz.zeroValue4
 t5 := Tryz.underlying5
 a5 := Tryz.isAgg5
 z5 := Tryz.sizeOf5
 v5 := Tryz.zeroValue5
 t9 := Tryz.underlying9
 a9 := Tryz.isAgg9
 z9 := Tryz.sizeOf9
 v9 := Tryz.zeroValue9
 t46 := Tryz.underlying161
 a46 := Tryz.isAgg161
 z46 := Tryz.sizeOf161
 v46 := Tryz.zeroValue161
 t51 := Tryz.underlying189
 a51 := Tryz.isAgg189
 z51 := Tryz.sizeOf189
 v51 := Tryz.zeroValue189
 t59 := Tryz.underlying137
 a59 := Tryz.isAgg137
 z59 := Tryz.sizeOf137
 v59 := Tryz.zeroValue137
 t146 := Tryz.underlying190
 a146 := Tryz.isAgg190
 z146 := Tryz.sizeOf190
 v146 := Tryz.zeroValue190
 g1 := by kernel_rfl }
open Go.RowKit Go.Lib in
theorem Tryz.strings_Cut (s sep : ByteArray) (m : Int) (w : World) (hs : s.size < 4294967281) (hm : w.cell? ⟨0, 0, none⟩ = some (.int .i64 m)) :
  Calls Tryz.prog 75 #[.string s, .string sep] w fun e w' => e = .returned (.tuple #[.string ⟨(Lib.cut s.data.toList sep.data.toList).1.toArray⟩, .string ⟨(Lib.cut s.data.toList sep.data.toList).2.1.toArray⟩, .bool (Lib.cut s.data.toList sep.data.toList).2.2]) ∧ ∃ n, w' = w.drewN n := Any.strings_Cut Tryz.lays145 s sep m w hs hm
def Tryz.laysM288_ren : Go.Shelf.Ren := ⟨fun | 288 => 114 | 283 => 125 | 284 => 126 | 285 => 127 | 286 => 128 | 129 => 141 | 317 => 140 | 318 => 142 | 319 => 143 | 320 => 144 | 337 => 148 | 338 => 149 | n => n, fun | 37 => 33 | 53 => 32 | 3 => 3 | 4 => 4 | 9 => 9 | 171 => 184 | 0 => 0 | 173 => 187 | 212 => 202 | 51 => 189 | 5 => 5 | 20 => 20 | 213 => 203 | 46 => 161 | 232 => 218 | 233 => 219 | n => n, fun | 17 => 1 | 18 => 6 | 19 => 7 | n => n⟩
open Go.RowKit Go.Sort Go.Lib in
def Tryz.lays147_ren : Go.Shelf.Ren := ⟨fun | 147 => 97 | 221 => 111 | 268 => 120 | 138 => 121 | 143 => 122 | 195 => 131 | 197 => 132 | 218 => 133 | 219 => 110 | 260 => 145 | 217 => 116 | 225 => 117 | 224 => 118 | 267 => 119 | 266 => 129 | 314 => 130 | n => n, fun | 9 => 9 | 3 => 3 | 31 => 162 | 4 => 4 | 0 => 0 | 105 => 193 | 21 => 21 | 5 => 5 | 46 => 161 | 119 => 211 | 139 => 214 | 138 => 213 | 146 => 190 | 51 => 189 | n => n, fun | 1 => 0 | 3 => 4 | 4 => 5 | n => n⟩
theorem Tryz.lays147 : Go.Proofs.Lays.n147 Tryz.prog Tryz.lays147_ren := {
 mixed := by kernel_rfl
 f138 := Tryz.func121.trans (congrArg some (by kernel_rfl))
 f143 := Tryz.func122.trans (congrArg some (by kernel_rfl))
 f147 := Tryz.func97.trans (congrArg some (by kernel_rfl))
 f195 := Tryz.func131.trans (congrArg some (by kernel_rfl))
 f197 := Tryz.func132.trans (congrArg some (by kernel_rfl))
 f217 := Tryz.func116.trans (congrArg some (by kernel_rfl))
 f218 := Tryz.func133.trans (congrArg some (by kernel_rfl))
 f219 := Tryz.func110.trans (congrArg some (by kernel_rfl))
 f221 := Tryz.func111.trans (congrArg some (by kernel_rfl))
 f224 := Tryz.func118.trans (congrArg some (by kernel_rfl))
 f225 := Tryz.func117.trans (congrArg some (by kernel_rfl))
 f260 := Tryz.func145.trans (congrArg some (by kernel_rfl))
 f266 := Tryz.func129.trans (congrArg some (by kernel_rfl))
 f267 := Tryz.func119.trans (congrArg some (by kernel_rfl))
 f268 := Tryz.func120.trans (congrArg some (by kernel_rfl))
 f314 := Tryz.func130.trans (congrArg some (by kernel_rfl))
 t0 := Tryz.underlying0
 a0 := Tryz.isAgg0
 z0 := Tryz.sizeOf0
 v0 := Tryz.zeroValue0
 t3 := Tryz.underlying3
 a3 := Tryz.isAgg3
 z3 := Tryz.sizeOf3
 v3 := Tryz.zeroValue3
 t4 := Tryz.underlying4
 a4 := Tryz.isAgg4
 z4 := Tryz.sizeOf4
 v4 := Tryz.zeroValue4
 t5 := Tryz.underlying5
 a5 := Tryz.isAgg5
 z5 := Tryz.sizeOf5
 v5 := Tryz.zeroValue5
 t9 := Tryz.underlying9
 a9 := Tryz.isAgg9
 z9 := Tryz.sizeOf9
 v9 := Tryz.zeroValue9
 t21 := Tryz.underlying21
 a21 := Tryz.isAgg21
 z21 := Tryz.sizeOf21
 v21 := Tryz.zeroValue21
 t31 := Tryz.underlying162
 a31 := Tryz.isAgg162
 z31 := Tryz.sizeOf162
 v31 := Tryz.zeroValue162
 t46 := Tryz.underlying161
 a46 := Tryz.isAgg161
 z46 := Tryz.sizeOf161
 v46 := Tryz.zeroValue161
 t51 := Tryz.underlying189
 a51 := Tryz.isAgg189
 z51 := Tryz.sizeOf189
 v51 := Tryz.zeroValue189
 t105 := Tryz.underlying193
 a105 := Tryz.isAgg193
 z105 := Tryz.sizeOf193
 v105 := Tryz.zeroValue193
 t119 := Tryz.underlying211
 a119 := Tryz.isAgg211
 z119 := Tryz.sizeOf211
 t138 := Tryz.underlying213
 a138 := Tryz.isAgg213
 z138 := Tryz.sizeOf213
 v138 := Tryz.zeroValue213
 t139 := Tryz.underlying214
 a139 := Tryz.isAgg214
 z139 := Tryz.sizeOf214
 v139 := Tryz.zeroValue214
 t146 := Tryz.underlying190
 a146 := Tryz.isAgg190
 z146 := Tryz.sizeOf190
 v146 := Tryz.zeroValue190
 g1 := by kernel_rfl
 g3 := by kernel_rfl
 g4 := by kernel_rfl }
open Go.RowKit Go.Lib in
theorem Tryz.strings_SplitN (s sep : ByteArray) (n : Nat) (m : Int) (w : World) (hs : s.size < 4294967281) (hm : w.cell? ⟨0, 0, none⟩ = some (.int .i64 m)) (h1 : 1 ≤ sep.size) (hn : 1 ≤ n) (hn63 : n ≤ 9223372036854775807) :
  Calls Tryz.prog 97 #[.string s, .string sep, .int .i64 n] w fun e w' =>
   e = .returned (.slice (some ⟨w.heap.size, 0, none⟩) (Lib.splitB sep 0 (min n (s.size + 1) - 1) s).length (min n (s.size + 1))) ∧ w' = w.alloc (.cells (Lib.cellsOf (Lib.splitB sep 0 (min n (s.size + 1) - 1) s) (min n (s.size + 1))) 9) := Any.strings_SplitN Tryz.lays147 (by kernel_rfl) s sep n m w hs hm h1 hn hn63
end Go.Proofs
