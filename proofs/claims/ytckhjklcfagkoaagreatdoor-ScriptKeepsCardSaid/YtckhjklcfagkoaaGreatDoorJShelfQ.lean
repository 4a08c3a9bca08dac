/-
 DERIVED: THE SHELF's CONTRACTS AT THIS DUMP, IN PLAIN WORDS (tools/lay-plain.mjs out of 'TryzShelf.lean', which tools/lay-shelf.mjs wrote): THE SAME DECLARATIONS UNDER THE SAME NAMES: 'import', 'namespace', 'open', 'def', 'theorem' AND NOTHING ELSE: no command of the shelf's: FOR A HAND-IN. Each laying: the table of numbers ('.._ren') and one theorem, a field a fact of the dump's own or the kernel's comparison; each contract: ONE APPLICATION.
-/
import Derived.Shelf.Strings.Builder1
import Derived.Shelf.Small.Strs
import Derived.Shelf.Strings.BuilderF
import Derived.Shelf.Strings.BuilderK
import Derived.Shelf.Utf8.RuneCount
import Derived.Shelf.Strconv.Itoa0
import Derived.Shelf.Strconv.Itoa1
import Derived.Shelf.LaysM
import Derived.Shelf.Strconv.Itoa2
import Derived.Shelf.Strconv.Itoa3
import Derived.Shelf.Strconv.Clone
import Derived.Shelf.Strconv.SyntaxError
import Derived.Shelf.LaysC
import Derived.Shelf.Strconv.ToError
import Derived.Shelf.Strconv.Lower
import Derived.Shelf.Strconv.ParseUint10
import Derived.Shelf.Strconv.ParseUint10Empty
import Derived.Shelf.Strconv.ParseUint10Any
import Derived.Shelf.Strconv.RangeError
import Derived.Shelf.Strconv.ToErrorRange
import Derived.Shelf.Strconv.ParseUintEmpty
import Derived.Shelf.Strconv.ParseUint10b64
import Derived.Shelf.Strconv.ParseUint10b32
import Derived.Shelf.Strconv.ParseUint10b16
import Derived.Shelf.Strconv.ParseUint10b8
import Derived.Shelf.Strconv.ParseUint10At
import Derived.Shelf.Pu.ParseUintPublic10
import Derived.Shelf.Pu.ErrVarParseUint
import Derived.Shelf.Strings.Search1
import Derived.Shelf.Strings.Search2
import Derived.Shelf.Strings.Search3
import Derived.Shelf.Strings.Cut
import Derived.Shelf.Strings.Count
import Derived.Shelf.Strings.Shaped
import Derived.Shelf.Strconv.AppendUint10
import Derived.Shelf.Strconv.AppendInt10
import Derived.Shelf.Strings.Split
import Derived.Shelf.Strings.SplitShaped
import Derived.Shelf.Unicode.Decode
import Derived.Shelf.Strings.RuneCount
import Derived.Shelf.Strings.Explode
import Derived.Shelf.Unicode.DecodeSlow
import Derived.Shelf.Unicode.DecodeAny
import Derived.Shelf.Strings.BuilderCap
import Derived.Shelf.SlicesE.Clone
import Derived.Test.YtckhjklcfagkoaaGreatDoorProg
import Derived.Test.YtckhjklcfagkoaaGreatDoorJDvAQ
import Derived.Lib.AtoiErrMem
namespace Go.Proofs
open Go.Shelf
def Tryz.lays169_ren:Go.Shelf.Ren:=⟨fun | 169=>74 | n=>n,fun | 70=>128 | 9=>9 | 0=>0 | 72=>130 | 37=>33 | 127=>164 | 3=>3 | 5=>5 | n=>n,fun | n=>n⟩
theorem Tryz.lays169:Go.Proofs.Lays.n169 Tryz.prog Tryz.lays169_ren:={
 mixed:=by kernel_rfl
 f169:=Tryz.func74.trans (congrArg some (by kernel_rfl))
 t0:=Tryz.underlying0
 a0:=Tryz.isAgg0
 z0:=Tryz.sizeOf0
 v0:=Tryz.zeroValue0
 t3:=Tryz.underlying3
 a3:=Tryz.isAgg3
 z3:=Tryz.sizeOf3
 v3:=Tryz.zeroValue3
 t9:=Tryz.underlying9
 a9:=Tryz.isAgg9
 z9:=Tryz.sizeOf9
 v9:=Tryz.zeroValue9
 t37:=Tryz.underlying33
 a37:=Tryz.isAgg33
 z37:=Tryz.sizeOf33
 v37:=Tryz.zeroValue33
 t70:=Tryz.underlying128
 a70:=Tryz.isAgg128
 z70:=Tryz.sizeOf128
 v70:=Tryz.zeroValue128
 t72:=Tryz.underlying130
 a72:=Tryz.isAgg130
 z72:=Tryz.sizeOf130
 v72:=Tryz.zeroValue130
 t127:=Tryz.underlying164
 a127:=Tryz.isAgg164
 z127:=Tryz.sizeOf164
 v127:=Tryz.zeroValue164 }
theorem Tryz.Builder_Extra_169:Builder.Extra Tryz.prog Tryz.lays169_ren:={
 sizeBuilder:=by kernel_rfl
 liesBuilder:=by kernel_rfl
 t5:=Tryz.underlying5
 a5:=Tryz.isAgg5
 z5:=Tryz.sizeOf5
 v5:=Tryz.zeroValue5
 infoByte:=by kernel_rfl
 cellsByte:=by kernel_rfl
 sizeByte:=by kernel_rfl
 neB5:=by decide }
def Tryz.lays137_ren:Go.Shelf.Ren:=⟨fun | 137=>113 | 217=>116 | 266=>129 | n=>n,fun | 9=>9 | 5=>5 | 3=>3 | n=>n,fun | n=>n⟩
theorem Tryz.lays137:Go.Proofs.Lays.n137 Tryz.prog Tryz.lays137_ren:={
 mixed:=by kernel_rfl
 f137:=Tryz.func113.trans (congrArg some (by kernel_rfl))
 f217:=Tryz.func116.trans (congrArg some (by kernel_rfl))
 f266:=Tryz.func129.trans (congrArg some (by kernel_rfl))
 t3:=Tryz.underlying3
 a3:=Tryz.isAgg3
 z3:=Tryz.sizeOf3
 v3:=Tryz.zeroValue3
 t5:=Tryz.underlying5
 a5:=Tryz.isAgg5
 z5:=Tryz.sizeOf5
 v5:=Tryz.zeroValue5
 t9:=Tryz.underlying9
 a9:=Tryz.isAgg9
 z9:=Tryz.sizeOf9
 v9:=Tryz.zeroValue9 }
open Go.RowKit in
theorem Tryz.strings_IndexByte (s:ByteArray) (c:Int) (w:World) :
  Calls Tryz.prog 113 #[.string s,.int .u8 c] w fun e w'=>e=.returned (.int .i64 (Lib.indexByte s.data.toList c.toNat.toUInt8))∧w'=w:=Any.strings_IndexByte Tryz.lays137 s c w
def Tryz.lays129_ren:Go.Shelf.Ren:=⟨fun | 129=>141 | n=>n,fun | 53=>32 | 3=>3 | 4=>4 | 46=>161 | 5=>5 | 9=>9 | n=>n,fun | n=>n⟩
def Tryz.lays283_ren:Go.Shelf.Ren:=⟨fun | 283=>125 | n=>n,fun | 3=>3 | 9=>9 | 4=>4 | n=>n,fun | n=>n⟩
theorem Tryz.lays283:Go.Proofs.Lays.n283 Tryz.prog Tryz.lays283_ren:={
 mixed:=by kernel_rfl
 f283:=Tryz.func125.trans (congrArg some (by kernel_rfl))
 t3:=Tryz.underlying3
 a3:=Tryz.isAgg3
 z3:=Tryz.sizeOf3
 v3:=Tryz.zeroValue3
 t4:=Tryz.underlying4
 a4:=Tryz.isAgg4
 z4:=Tryz.sizeOf4
 v4:=Tryz.zeroValue4
 t9:=Tryz.underlying9
 a9:=Tryz.isAgg9
 z9:=Tryz.sizeOf9
 v9:=Tryz.zeroValue9 }
open Go.Lib in
theorem Tryz.internal_strconv_small (i:Nat) (h:i<100) (w:World) :
  Calls Tryz.prog 125 #[.int .i64 i] w fun e w'=>e=.returned (.string ⟨(Lib.decDigits i).toArray⟩)∧w'=w:=Any.internal_strconv_small Tryz.lays283 i h w
def Tryz.laysM284_ren:Go.Shelf.Ren:=⟨fun | 284=>126 | 129=>141 | 317=>140 | 318=>142 | n=>n,fun | 53=>32 | 3=>3 | 212=>202 | 0=>0 | 4=>4 | 46=>161 | 5=>5 | 9=>9 | n=>n,fun | 17=>1 | n=>n⟩
theorem Tryz.laysM284:Go.Proofs.LaysM.n284 Tryz.prog Tryz.laysM284_ren:={
 mixed:=by kernel_rfl
 f129:=Tryz.func141.trans (congrArg some (by kernel_rfl))
 f284:=Tryz.func126.trans (congrArg some (by kernel_rfl))
 f317:=Tryz.func140.trans (congrArg some (by kernel_rfl))
 f318:=Tryz.func142.trans (congrArg some (by kernel_rfl))
 t0:=Tryz.underlying0
 a0:=Tryz.isAgg0
 z0:=Tryz.sizeOf0
 v0:=Tryz.zeroValue0
 t3:=Tryz.underlying3
 a3:=Tryz.isAgg3
 z3:=Tryz.sizeOf3
 v3:=Tryz.zeroValue3
 t4:=Tryz.underlying4
 a4:=Tryz.isAgg4
 z4:=Tryz.sizeOf4
 v4:=Tryz.zeroValue4
 t5:=Tryz.underlying5
 a5:=Tryz.isAgg5
 z5:=Tryz.sizeOf5
 v5:=Tryz.zeroValue5
 t9:=Tryz.underlying9
 a9:=Tryz.isAgg9
 z9:=Tryz.sizeOf9
 v9:=Tryz.zeroValue9
 t46:=Tryz.underlying161
 a46:=Tryz.isAgg161
 z46:=Tryz.sizeOf161
 v46:=Tryz.zeroValue161
 t53:=Tryz.underlying32
 a53:=Tryz.isAgg32
 z53:=Tryz.sizeOf32
 v53:=Tryz.zeroValue32
 t212:=Tryz.underlying202
 a212:=Tryz.isAgg202
 z212:=Tryz.sizeOf202
 v212:=Tryz.zeroValue202
 g17:=by kernel_rfl
 i0:=by kernel_rfl
 i3:=by kernel_rfl
 i4:=by kernel_rfl
 i5:=by kernel_rfl
 i9:=by kernel_rfl
 i46:=by kernel_rfl
 i53:=by kernel_rfl
 i212:=by kernel_rfl
 m17:=by kernel_rfl }
open Go.Lib in
theorem Tryz.internal_strconv_numDigits (u:Nat) (h1:1≤u) (h2:u<18446744073709551616) (w:World) (htab:Lib.TabIs Tryz.prog w "internal/strconv.uint64pow10" .u64 Lib.pow10Tab) :
  Calls Tryz.prog 126 #[.int .u64 u] w fun e w'=>e=.returned (.int .i64 (Lib.nDigits u))∧w'=w:=Any.internal_strconv_numDigits Tryz.laysM284 u h1 h2 w htab
def Tryz.lays285_ren:Go.Shelf.Ren:=⟨fun | 285=>127 | n=>n,fun | 37=>33 | 53=>32 | 3=>3 | 4=>4 | 51=>189 | 9=>9 | 5=>5 | 0=>0 | n=>n,fun | n=>n⟩
theorem Tryz.lays285:Go.Proofs.Lays.n285 Tryz.prog Tryz.lays285_ren:={
 mixed:=by kernel_rfl
 f285:=Tryz.func127.trans (congrArg some (by kernel_rfl))
 t0:=Tryz.underlying0
 a0:=Tryz.isAgg0
 z0:=Tryz.sizeOf0
 v0:=Tryz.zeroValue0
 t3:=Tryz.underlying3
 a3:=Tryz.isAgg3
 z3:=Tryz.sizeOf3
 v3:=Tryz.zeroValue3
 t4:=Tryz.underlying4
 a4:=Tryz.isAgg4
 z4:=Tryz.sizeOf4
 v4:=Tryz.zeroValue4
 t5:=Tryz.underlying5
 a5:=Tryz.isAgg5
 z5:=Tryz.sizeOf5
 v5:=Tryz.zeroValue5
 t9:=Tryz.underlying9
 a9:=Tryz.isAgg9
 z9:=Tryz.sizeOf9
 v9:=Tryz.zeroValue9
 t37:=Tryz.underlying33
 a37:=Tryz.isAgg33
 z37:=Tryz.sizeOf33
 v37:=Tryz.zeroValue33
 t51:=Tryz.underlying189
 a51:=Tryz.isAgg189
 z51:=Tryz.sizeOf189
 v51:=Tryz.zeroValue189
 t53:=Tryz.underlying32
 a53:=Tryz.isAgg32
 z53:=Tryz.sizeOf32
 v53:=Tryz.zeroValue32 }
open Go.RowKit Go.Sort Go.Lib in
theorem Tryz.internal_strconv_formatBase10 (blk off cap:Nat) (u:Nat) (d:Array UInt8) (w:World) (hH:Holds (fun (b:UInt8)=>Value.int .u8 (b.toNat:Int)) w blk off d) (hu:u<10 ^ d.size) (hu64:u<18446744073709551616) (hsz:d.size<4611686018427387904) :
  Calls Tryz.prog 127 #[.slice (some ⟨blk,off,none⟩) d.size cap,.int .u64 u] w fun e w' =>
   e=.returned (.tuple #[])∧∃ (n v':Nat) (dk:Array UInt8),w'=(putRow (fun (b:UInt8)=>Value.int .u8 (b.toNat:Int)) w blk off dk).drewN n∧FmtInv d.size u 0 v' dk:=Any.internal_strconv_formatBase10 Tryz.lays285 blk off cap u d w hH hu hu64 hsz
def Tryz.lays246_ren:Go.Shelf.Ren:=⟨fun | 246=>115 | 283=>125 | 284=>126 | 285=>127 | 286=>128 | 129=>141 | 317=>140 | 318=>142 | 319=>143 | 320=>144 | 337=>148 | 338=>149 | n=>n,fun | 2=>2 | 3=>3 | 9=>9 | 4=>4 | 171=>184 | 0=>0 | 53=>32 | 37=>33 | 5=>5 | 173=>187 | 212=>202 | 51=>189 | 20=>20 | 213=>203 | 46=>161 | 232=>218 | 233=>219 | n=>n,fun | 17=>1 | 18=>6 | 19=>7 | n=>n⟩
def Tryz.laysM243_ren:Go.Shelf.Ren:=⟨fun | 243=>109 | 246=>115 | 283=>125 | 284=>126 | 285=>127 | 286=>128 | 129=>141 | 317=>140 | 318=>142 | 319=>143 | 320=>144 | 337=>148 | 338=>149 | n=>n,fun | 3=>3 | 9=>9 | 2=>2 | 4=>4 | 171=>184 | 0=>0 | 53=>32 | 37=>33 | 5=>5 | 173=>187 | 212=>202 | 51=>189 | 20=>20 | 213=>203 | 46=>161 | 232=>218 | 233=>219 | n=>n,fun | 17=>1 | 18=>6 | 19=>7 | n=>n⟩
def Tryz.lays243_ren:Go.Shelf.Ren:=⟨fun | 243=>109 | 246=>115 | 283=>125 | 284=>126 | 285=>127 | 286=>128 | 129=>141 | 317=>140 | 318=>142 | 319=>143 | 320=>144 | 337=>148 | 338=>149 | n=>n,fun | 3=>3 | 9=>9 | 2=>2 | 4=>4 | 171=>184 | 0=>0 | 53=>32 | 37=>33 | 5=>5 | 173=>187 | 212=>202 | 51=>189 | 20=>20 | 213=>203 | 46=>161 | 232=>218 | 233=>219 | n=>n,fun | 17=>1 | 18=>6 | 19=>7 | n=>n⟩
def Tryz.laysM171_ren:Go.Shelf.Ren:=⟨fun | 171=>95 | 243=>109 | 246=>115 | 283=>125 | 284=>126 | 285=>127 | 286=>128 | 129=>141 | 317=>140 | 318=>142 | 319=>143 | 320=>144 | 337=>148 | 338=>149 | n=>n,fun | 3=>3 | 9=>9 | 2=>2 | 4=>4 | 171=>184 | 0=>0 | 53=>32 | 37=>33 | 5=>5 | 173=>187 | 212=>202 | 51=>189 | 20=>20 | 213=>203 | 46=>161 | 232=>218 | 233=>219 | n=>n,fun | 17=>1 | 18=>6 | 19=>7 | n=>n⟩
theorem Tryz.laysM171:Go.Proofs.LaysM.n171 Tryz.prog Tryz.laysM171_ren:={
 mixed:=by kernel_rfl
 f129:=Tryz.func141.trans (congrArg some (by kernel_rfl))
 f171:=Tryz.func95.trans (congrArg some (by kernel_rfl))
 f243:=Tryz.func109.trans (congrArg some (by kernel_rfl))
 f246:=Tryz.func115.trans (congrArg some (by kernel_rfl))
 f283:=Tryz.func125.trans (congrArg some (by kernel_rfl))
 f284:=Tryz.func126.trans (congrArg some (by kernel_rfl))
 f285:=Tryz.func127.trans (congrArg some (by kernel_rfl))
 f286:=Tryz.func128.trans (congrArg some (by kernel_rfl))
 f317:=Tryz.func140.trans (congrArg some (by kernel_rfl))
 f318:=Tryz.func142.trans (congrArg some (by kernel_rfl))
 f319:=Tryz.func143.trans (congrArg some (by kernel_rfl))
 f320:=Tryz.func144.trans (congrArg some (by kernel_rfl))
 f337:=Tryz.func148.trans (congrArg some (by kernel_rfl))
 f338:=Tryz.func149.trans (congrArg some (by kernel_rfl))
 t0:=Tryz.underlying0
 a0:=Tryz.isAgg0
 z0:=Tryz.sizeOf0
 v0:=Tryz.zeroValue0
 t2:=Tryz.underlying2
 a2:=Tryz.isAgg2
 z2:=Tryz.sizeOf2
 v2:=Tryz.zeroValue2
 t3:=Tryz.underlying3
 a3:=Tryz.isAgg3
 z3:=Tryz.sizeOf3
 v3:=Tryz.zeroValue3
 t4:=Tryz.underlying4
 a4:=Tryz.isAgg4
 z4:=Tryz.sizeOf4
 v4:=Tryz.zeroValue4
 t5:=Tryz.underlying5
 a5:=Tryz.isAgg5
 z5:=Tryz.sizeOf5
 v5:=Tryz.zeroValue5
 t9:=Tryz.underlying9
 a9:=Tryz.isAgg9
 z9:=Tryz.sizeOf9
 v9:=Tryz.zeroValue9
 t20:=Tryz.underlying20
 a20:=Tryz.isAgg20
 z20:=Tryz.sizeOf20
 v20:=Tryz.zeroValue20
 t37:=Tryz.underlying33
 a37:=Tryz.isAgg33
 z37:=Tryz.sizeOf33
 v37:=Tryz.zeroValue33
 t46:=Tryz.underlying161
 a46:=Tryz.isAgg161
 z46:=Tryz.sizeOf161
 v46:=Tryz.zeroValue161
 t51:=Tryz.underlying189
 a51:=Tryz.isAgg189
 z51:=Tryz.sizeOf189
 v51:=Tryz.zeroValue189
 t53:=Tryz.underlying32
 a53:=Tryz.isAgg32
 z53:=Tryz.sizeOf32
 v53:=Tryz.zeroValue32
 t171:=Tryz.underlying184
 a171:=Tryz.isAgg184
 z171:=Tryz.sizeOf184
 v171:=Tryz.zeroValue184
 t173:=Tryz.underlying187
 a173:=Tryz.isAgg187
 z173:=Tryz.sizeOf187
 v173:=Tryz.zeroValue187
 t212:=Tryz.underlying202
 a212:=Tryz.isAgg202
 z212:=Tryz.sizeOf202
 v212:=Tryz.zeroValue202
 t213:=Tryz.underlying203
 a213:=Tryz.isAgg203
 z213:=Tryz.sizeOf203
 t232:=Tryz.underlying218
 a232:=Tryz.isAgg218
 z232:=Tryz.sizeOf218
 v232:=Tryz.zeroValue218
 t233:=Tryz.underlying219
 a233:=Tryz.isAgg219
 z233:=Tryz.sizeOf219
 v233:=Tryz.zeroValue219
 g17:=by kernel_rfl
 g18:=by kernel_rfl
 g19:=by kernel_rfl
 i0:=by kernel_rfl
 i2:=by kernel_rfl
 i3:=by kernel_rfl
 i4:=by kernel_rfl
 i5:=by kernel_rfl
 i9:=by kernel_rfl
 i20:=by kernel_rfl
 i37:=by kernel_rfl
 i46:=by kernel_rfl
 i51:=by kernel_rfl
 i53:=by kernel_rfl
 i171:=by kernel_rfl
 i173:=by kernel_rfl
 i212:=by kernel_rfl
 i232:=by kernel_rfl
 i233:=by kernel_rfl
 m17:=by kernel_rfl
 m18:=by kernel_rfl
 m19:=by kernel_rfl }
open Go.RowKit Go.Sort Go.Lib in
theorem Tryz.strconv_Itoa (n:Int) (h0:-9223372036854775808≤n) (h1:n≤9223372036854775807) (w:World) (htab:Lib.TabIs Tryz.prog w "internal/strconv.uint64pow10" .u64 Lib.pow10Tab) :
  Calls Tryz.prog 95 #[.int .i64 n] w fun e w'=>e=.returned (.string ⟨(Lib.itoa n).toArray⟩)∧∃ k os,w'=grow (w.drewN k) os:=Any.strconv_Itoa Tryz.laysM171 n h0 h1 w htab
def Tryz.lays171_ren:Go.Shelf.Ren:=⟨fun | 171=>95 | 243=>109 | 246=>115 | 283=>125 | 284=>126 | 285=>127 | 286=>128 | 129=>141 | 317=>140 | 318=>142 | 319=>143 | 320=>144 | 337=>148 | 338=>149 | n=>n,fun | 3=>3 | 9=>9 | 2=>2 | 4=>4 | 171=>184 | 0=>0 | 53=>32 | 37=>33 | 5=>5 | 173=>187 | 212=>202 | 51=>189 | 20=>20 | 213=>203 | 46=>161 | 232=>218 | 233=>219 | n=>n,fun | 17=>1 | 18=>6 | 19=>7 | n=>n⟩
def Tryz.laysPu14_ren:Go.Shelf.Ren:=⟨fun | 14=>112 | 16=>123 | 17=>124 | 19=>134 | 20=>135 | 21=>136 | 22=>137 | 23=>138 | 24=>139 | 25=>146 | 27=>95 | 26=>147 | 28=>109 | 29=>115 | 30=>125 | 31=>126 | 32=>127 | 33=>128 | 35=>141 | 34=>140 | 36=>142 | 37=>143 | 38=>144 | 39=>148 | 40=>149 | n=>n,fun | 9=>9 | 3=>3 | 22=>32 | 24=>132 | 25=>177 | 4=>4 | 34=>195 | 5=>5 | 36=>161 | 37=>33 | 0=>0 | 39=>198 | 21=>21 | 44=>208 | 47=>164 | 50=>217 | 48=>215 | 2=>2 | 52=>184 | 55=>187 | 59=>202 | 60=>189 | 20=>20 | 61=>203 | 65=>218 | 66=>219 | 67=>135 | n=>n,fun | 0=>2 | 1=>3 | 2=>1 | 3=>6 | 4=>7 | n=>n⟩
theorem Tryz.laysPu14:Go.Proofs.LaysPu.n14 Tryz.prog Tryz.laysPu14_ren:={
 mixed:=by kernel_rfl
 f14:=Tryz.func112.trans (congrArg some (by kernel_rfl))
 f16:=Tryz.func123.trans (congrArg some (by kernel_rfl))
 f17:=Tryz.func124.trans (congrArg some (by kernel_rfl))
 f19:=Tryz.func134.trans (congrArg some (by kernel_rfl))
 f20:=Tryz.func135.trans (congrArg some (by kernel_rfl))
 f21:=Tryz.func136.trans (congrArg some (by kernel_rfl))
 f22:=Tryz.func137.trans (congrArg some (by kernel_rfl))
 f23:=Tryz.func138.trans (congrArg some (by kernel_rfl))
 f24:=Tryz.func139.trans (congrArg some (by kernel_rfl))
 f25:=Tryz.func146.trans (congrArg some (by kernel_rfl))
 f26:=Tryz.func147.trans (congrArg some (by kernel_rfl))
 f27:=Tryz.func95.trans (congrArg some (by kernel_rfl))
 f28:=Tryz.func109.trans (congrArg some (by kernel_rfl))
 f29:=Tryz.func115.trans (congrArg some (by kernel_rfl))
 f30:=Tryz.func125.trans (congrArg some (by kernel_rfl))
 f31:=Tryz.func126.trans (congrArg some (by kernel_rfl))
 f32:=Tryz.func127.trans (congrArg some (by kernel_rfl))
 f33:=Tryz.func128.trans (congrArg some (by kernel_rfl))
 f34:=Tryz.func140.trans (congrArg some (by kernel_rfl))
 f35:=Tryz.func141.trans (congrArg some (by kernel_rfl))
 f36:=Tryz.func142.trans (congrArg some (by kernel_rfl))
 f37:=Tryz.func143.trans (congrArg some (by kernel_rfl))
 f38:=Tryz.func144.trans (congrArg some (by kernel_rfl))
 f39:=Tryz.func148.trans (congrArg some (by kernel_rfl))
 f40:=Tryz.func149.trans (congrArg some (by kernel_rfl))
 t0:=Tryz.underlying0
 a0:=Tryz.isAgg0
 z0:=Tryz.sizeOf0
 v0:=Tryz.zeroValue0
 i0:=by kernel_rfl
 t2:=Tryz.underlying2
 a2:=Tryz.isAgg2
 z2:=Tryz.sizeOf2
 v2:=Tryz.zeroValue2
 i2:=by kernel_rfl
 t3:=Tryz.underlying3
 a3:=Tryz.isAgg3
 z3:=Tryz.sizeOf3
 v3:=Tryz.zeroValue3
 i3:=by kernel_rfl
 t4:=Tryz.underlying4
 a4:=Tryz.isAgg4
 z4:=Tryz.sizeOf4
 v4:=Tryz.zeroValue4
 i4:=by kernel_rfl
 t5:=Tryz.underlying5
 a5:=Tryz.isAgg5
 z5:=Tryz.sizeOf5
 v5:=Tryz.zeroValue5
 i5:=by kernel_rfl
 t9:=Tryz.underlying9
 a9:=Tryz.isAgg9
 z9:=Tryz.sizeOf9
 v9:=Tryz.zeroValue9
 i9:=by kernel_rfl
 t20:=Tryz.underlying20
 a20:=Tryz.isAgg20
 z20:=Tryz.sizeOf20
 v20:=Tryz.zeroValue20
 i20:=by kernel_rfl
 t21:=Tryz.underlying21
 a21:=Tryz.isAgg21
 z21:=Tryz.sizeOf21
 v21:=Tryz.zeroValue21
 i21:=by kernel_rfl
 t22:=Tryz.underlying32
 a22:=Tryz.isAgg32
 z22:=Tryz.sizeOf32
 v22:=Tryz.zeroValue32
 i22:=by kernel_rfl
 t24:=Tryz.underlying132
 a24:=Tryz.isAgg132
 z24:=Tryz.sizeOf132
 v24:=Tryz.zeroValue132
 i24:=by kernel_rfl
 t25:=Tryz.underlying177
 a25:=Tryz.isAgg177
 z25:=Tryz.sizeOf177
 v25:=Tryz.zeroValue177
 i25:=by kernel_rfl
 t34:=Tryz.underlying195
 a34:=Tryz.isAgg195
 z34:=Tryz.sizeOf195
 v34:=Tryz.zeroValue195
 i34:=by kernel_rfl
 c34:=by kernel_rfl
 t36:=Tryz.underlying161
 a36:=Tryz.isAgg161
 z36:=Tryz.sizeOf161
 v36:=Tryz.zeroValue161
 i36:=by kernel_rfl
 t37:=Tryz.underlying33
 a37:=Tryz.isAgg33
 z37:=Tryz.sizeOf33
 v37:=Tryz.zeroValue33
 i37:=by kernel_rfl
 t39:=Tryz.underlying198
 a39:=Tryz.isAgg198
 z39:=Tryz.sizeOf198
 v39:=Tryz.zeroValue198
 i39:=by kernel_rfl
 t44:=Tryz.underlying208
 a44:=Tryz.isAgg208
 z44:=Tryz.sizeOf208
 v44:=Tryz.zeroValue208
 i44:=by kernel_rfl
 t47:=Tryz.underlying164
 a47:=Tryz.isAgg164
 z47:=Tryz.sizeOf164
 v47:=Tryz.zeroValue164
 i47:=by kernel_rfl
 t48:=Tryz.underlying215
 a48:=Tryz.isAgg215
 z48:=Tryz.sizeOf215
 v48:=Tryz.zeroValue215
 i48:=by kernel_rfl
 t50:=Tryz.underlying217
 a50:=Tryz.isAgg217
 z50:=Tryz.sizeOf217
 v50:=Tryz.zeroValue217
 i50:=by kernel_rfl
 t52:=Tryz.underlying184
 a52:=Tryz.isAgg184
 z52:=Tryz.sizeOf184
 v52:=Tryz.zeroValue184
 i52:=by kernel_rfl
 t55:=Tryz.underlying187
 a55:=Tryz.isAgg187
 z55:=Tryz.sizeOf187
 v55:=Tryz.zeroValue187
 i55:=by kernel_rfl
 t59:=Tryz.underlying202
 a59:=Tryz.isAgg202
 z59:=Tryz.sizeOf202
 v59:=Tryz.zeroValue202
 i59:=by kernel_rfl
 t60:=Tryz.underlying189
 a60:=Tryz.isAgg189
 z60:=Tryz.sizeOf189
 v60:=Tryz.zeroValue189
 i60:=by kernel_rfl
 t61:=Tryz.underlying203
 a61:=Tryz.isAgg203
 z61:=Tryz.sizeOf203
 t65:=Tryz.underlying218
 a65:=Tryz.isAgg218
 z65:=Tryz.sizeOf218
 v65:=Tryz.zeroValue218
 i65:=by kernel_rfl
 t66:=Tryz.underlying219
 a66:=Tryz.isAgg219
 z66:=Tryz.sizeOf219
 v66:=Tryz.zeroValue219
 i66:=by kernel_rfl
 t67:=Tryz.underlying135
 a67:=Tryz.isAgg135
 z67:=Tryz.sizeOf135
 v67:=Tryz.zeroValue135
 i67:=by kernel_rfl
 g0:=by kernel_rfl
 m0:=by kernel_rfl
 g1:=by kernel_rfl
 m1:=by kernel_rfl
 g2:=by kernel_rfl
 m2:=by kernel_rfl
 g3:=by kernel_rfl
 m3:=by kernel_rfl
 g4:=by kernel_rfl
 m4:=by kernel_rfl }
open Go.RowKit in
theorem Tryz.strconv_ParseUint_10_at64_ok (s:ByteArray) (hmax:s.size≤9223372036854775806) (u:Nat) (h:Lib.parseUintB 64 s.data.toList=.ok u) (w:World) :
  Calls Tryz.prog 112 #[.string s,.int .i64 10,.int .i64 64] w fun e w'=>e=.returned (.tuple #[.int .u64 u,.nilIface])∧(w'=w∨w'=Lib.bytesWorld w 5 s):=Any.strconv_ParseUint_10_at64_ok Tryz.laysPu14 s hmax u h w
def Tryz.lays145_ren:Go.Shelf.Ren:=⟨fun | 145=>75 | 220=>96 | 219=>110 | 217=>116 | 225=>117 | 224=>118 | 267=>119 | 266=>129 | 314=>130 | n=>n,fun | 9=>9 | 4=>4 | 59=>137 | 3=>3 | 5=>5 | 46=>161 | 146=>190 | 51=>189 | n=>n,fun | 1=>0 | n=>n⟩
theorem Tryz.lays145:Go.Proofs.Lays.n145 Tryz.prog Tryz.lays145_ren:={
 mixed:=by kernel_rfl
 f145:=Tryz.func75.trans (congrArg some (by kernel_rfl))
 f217:=Tryz.func116.trans (congrArg some (by kernel_rfl))
 f219:=Tryz.func110.trans (congrArg some (by kernel_rfl))
 f220:=Tryz.func96.trans (congrArg some (by kernel_rfl))
 f224:=Tryz.func118.trans (congrArg some (by kernel_rfl))
 f225:=Tryz.func117.trans (congrArg some (by kernel_rfl))
 f266:=Tryz.func129.trans (congrArg some (by kernel_rfl))
 f267:=Tryz.func119.trans (congrArg some (by kernel_rfl))
 f314:=Tryz.func130.trans (congrArg some (by kernel_rfl))
 t3:=Tryz.underlying3
 a3:=Tryz.isAgg3
 z3:=Tryz.sizeOf3
 v3:=Tryz.zeroValue3
 t4:=Tryz.underlying4
 a4:=Tryz.isAgg4
 z4:=Tryz.sizeOf4
 v4:=Tryz.zeroValue4
 t5:=Tryz.underlying5
 a5:=Tryz.isAgg5
 z5:=Tryz.sizeOf5
 v5:=Tryz.zeroValue5
 t9:=Tryz.underlying9
 a9:=Tryz.isAgg9
 z9:=Tryz.sizeOf9
 v9:=Tryz.zeroValue9
 t46:=Tryz.underlying161
 a46:=Tryz.isAgg161
 z46:=Tryz.sizeOf161
 v46:=Tryz.zeroValue161
 t51:=Tryz.underlying189
 a51:=Tryz.isAgg189
 z51:=Tryz.sizeOf189
 v51:=Tryz.zeroValue189
 t59:=Tryz.underlying137
 a59:=Tryz.isAgg137
 z59:=Tryz.sizeOf137
 v59:=Tryz.zeroValue137
 t146:=Tryz.underlying190
 a146:=Tryz.isAgg190
 z146:=Tryz.sizeOf190
 v146:=Tryz.zeroValue190
 g1:=by kernel_rfl }
open Go.RowKit Go.Lib in
theorem Tryz.strings_Cut (s sep:ByteArray) (m:Int) (w:World) (hs:s.size<4294967281) (hm:w.cell? ⟨0,0,none⟩=some (.int .i64 m)) :
  Calls Tryz.prog 75 #[.string s,.string sep] w fun e w'=>e=.returned (.tuple #[.string ⟨(Lib.cut s.data.toList sep.data.toList).1.toArray⟩,.string ⟨(Lib.cut s.data.toList sep.data.toList).2.1.toArray⟩,.bool (Lib.cut s.data.toList sep.data.toList).2.2])∧∃ n,w'=w.drewN n:=Any.strings_Cut Tryz.lays145 s sep m w hs hm
def Tryz.laysM288_ren:Go.Shelf.Ren:=⟨fun | 288=>114 | 283=>125 | 284=>126 | 285=>127 | 286=>128 | 129=>141 | 317=>140 | 318=>142 | 319=>143 | 320=>144 | 337=>148 | 338=>149 | n=>n,fun | 37=>33 | 53=>32 | 3=>3 | 4=>4 | 9=>9 | 171=>184 | 0=>0 | 173=>187 | 212=>202 | 51=>189 | 5=>5 | 20=>20 | 213=>203 | 46=>161 | 232=>218 | 233=>219 | n=>n,fun | 17=>1 | 18=>6 | 19=>7 | n=>n⟩
open Go.RowKit Go.Sort Go.Lib in
def Tryz.lays147_ren:Go.Shelf.Ren:=⟨fun | 147=>97 | 221=>111 | 268=>120 | 138=>121 | 143=>122 | 195=>131 | 197=>132 | 218=>133 | 219=>110 | 260=>145 | 217=>116 | 225=>117 | 224=>118 | 267=>119 | 266=>129 | 314=>130 | n=>n,fun | 9=>9 | 3=>3 | 31=>162 | 4=>4 | 0=>0 | 105=>193 | 21=>21 | 5=>5 | 46=>161 | 119=>211 | 139=>214 | 138=>213 | 146=>190 | 51=>189 | n=>n,fun | 1=>0 | 3=>4 | 4=>5 | n=>n⟩
theorem Tryz.lays147:Go.Proofs.Lays.n147 Tryz.prog Tryz.lays147_ren:={
 mixed:=by kernel_rfl
 f138:=Tryz.func121.trans (congrArg some (by kernel_rfl))
 f143:=Tryz.func122.trans (congrArg some (by kernel_rfl))
 f147:=Tryz.func97.trans (congrArg some (by kernel_rfl))
 f195:=Tryz.func131.trans (congrArg some (by kernel_rfl))
 f197:=Tryz.func132.trans (congrArg some (by kernel_rfl))
 f217:=Tryz.func116.trans (congrArg some (by kernel_rfl))
 f218:=Tryz.func133.trans (congrArg some (by kernel_rfl))
 f219:=Tryz.func110.trans (congrArg some (by kernel_rfl))
 f221:=Tryz.func111.trans (congrArg some (by kernel_rfl))
 f224:=Tryz.func118.trans (congrArg some (by kernel_rfl))
 f225:=Tryz.func117.trans (congrArg some (by kernel_rfl))
 f260:=Tryz.func145.trans (congrArg some (by kernel_rfl))
 f266:=Tryz.func129.trans (congrArg some (by kernel_rfl))
 f267:=Tryz.func119.trans (congrArg some (by kernel_rfl))
 f268:=Tryz.func120.trans (congrArg some (by kernel_rfl))
 f314:=Tryz.func130.trans (congrArg some (by kernel_rfl))
 t0:=Tryz.underlying0
 a0:=Tryz.isAgg0
 z0:=Tryz.sizeOf0
 v0:=Tryz.zeroValue0
 t3:=Tryz.underlying3
 a3:=Tryz.isAgg3
 z3:=Tryz.sizeOf3
 v3:=Tryz.zeroValue3
 t4:=Tryz.underlying4
 a4:=Tryz.isAgg4
 z4:=Tryz.sizeOf4
 v4:=Tryz.zeroValue4
 t5:=Tryz.underlying5
 a5:=Tryz.isAgg5
 z5:=Tryz.sizeOf5
 v5:=Tryz.zeroValue5
 t9:=Tryz.underlying9
 a9:=Tryz.isAgg9
 z9:=Tryz.sizeOf9
 v9:=Tryz.zeroValue9
 t21:=Tryz.underlying21
 a21:=Tryz.isAgg21
 z21:=Tryz.sizeOf21
 v21:=Tryz.zeroValue21
 t31:=Tryz.underlying162
 a31:=Tryz.isAgg162
 z31:=Tryz.sizeOf162
 v31:=Tryz.zeroValue162
 t46:=Tryz.underlying161
 a46:=Tryz.isAgg161
 z46:=Tryz.sizeOf161
 v46:=Tryz.zeroValue161
 t51:=Tryz.underlying189
 a51:=Tryz.isAgg189
 z51:=Tryz.sizeOf189
 v51:=Tryz.zeroValue189
 t105:=Tryz.underlying193
 a105:=Tryz.isAgg193
 z105:=Tryz.sizeOf193
 v105:=Tryz.zeroValue193
 t119:=Tryz.underlying211
 a119:=Tryz.isAgg211
 z119:=Tryz.sizeOf211
 t138:=Tryz.underlying213
 a138:=Tryz.isAgg213
 z138:=Tryz.sizeOf213
 v138:=Tryz.zeroValue213
 t139:=Tryz.underlying214
 a139:=Tryz.isAgg214
 z139:=Tryz.sizeOf214
 v139:=Tryz.zeroValue214
 t146:=Tryz.underlying190
 a146:=Tryz.isAgg190
 z146:=Tryz.sizeOf190
 v146:=Tryz.zeroValue190
 g1:=by kernel_rfl
 g3:=by kernel_rfl
 g4:=by kernel_rfl }
open Go.RowKit Go.Lib in
theorem Tryz.strings_SplitN (s sep:ByteArray) (n:Nat) (m:Int) (w:World) (hs:s.size<4294967281) (hm:w.cell? ⟨0,0,none⟩=some (.int .i64 m)) (h1:1≤sep.size) (hn:1≤n) (hn63:n≤9223372036854775807) :
  Calls Tryz.prog 97 #[.string s,.string sep,.int .i64 n] w fun e w' =>
   e=.returned (.slice (some ⟨w.heap.size,0,none⟩) (Lib.splitB sep 0 (min n (s.size+1) - 1) s).length (min n (s.size+1)))∧w'=w.alloc (.cells (Lib.cellsOf (Lib.splitB sep 0 (min n (s.size+1) - 1) s) (min n (s.size+1))) 9):=Any.strings_SplitN Tryz.lays147 (by kernel_rfl) s sep n m w hs hm h1 hn hn63
end Go.Proofs
set_option linter.unusedSimpArgs false
set_option linter.unusedVariables false
namespace Go.Proofs.YtckhjklcfagkoaaGreatDoor
open Go Go.Ab
attribute [local irreducible] callK callF loopQ vstep vskip pickE hideP
open Go.RowKit
set_option maxRecDepth 100000
theorem below_grow (w:World) (k:Nat) (os:Array Obj):Below w.heap.size w (Go.Sort.grow (w.drewN k) os):=by
 have e:(w.drewN k).heap=w.heap:=by simp
 refine ⟨rfl,rfl,rfl,by simp [Go.Sort.grow,e],fun j hj=>?_⟩
 simp only [Go.Sort.grow,e]
 exact Array.getElem?_append_left hj
theorem idx_hit (x:UInt8):∀ (a b:List UInt8),x ∉ a→Lib.index (a++x::b) [x]=a.length
 | [],b,_=>by simp [Lib.index,List.isPrefixOf]
 | y::a,b,h=>by
  have h1:x≠y:=fun e=>h (by simp [e])
  have h2:=idx_hit x a b (fun hm=>h (List.mem_cons_of_mem _ hm))
  show Lib.index (y::(a++x::b)) [x]=_
  rw [Lib.index,if_neg (by simp [List.isPrefixOf,h1]),h2,if_neg (by simp<;>omega)]
  simp
theorem idx_miss (x:UInt8):∀ s:List UInt8,x ∉ s→Lib.index s [x]=-1
 | [],_=>by simp [Lib.index]
 | y::s,h=>by
  have h1:x≠y:=fun e=>h (by simp [e])
  have h2:=idx_miss x s (fun hm=>h (List.mem_cons_of_mem _ hm))
  rw [Lib.index,if_neg (by simp [List.isPrefixOf,h1]),h2,if_pos (by decide)]
theorem cut_hit (x:UInt8) (a b:List UInt8) (h:x ∉ a):Lib.cut (a++x::b) [x]=(a,b,true):=by
 unfold Lib.cut
 rw [idx_hit x a b h,if_pos (by omega)]
 simp
theorem cut_miss (x:UInt8) (s:List UInt8) (h:x ∉ s):Lib.cut s [x]=(s,[],false):=by
 unfold Lib.cut
 rw [idx_miss x s h,if_neg (by decide)]
theorem splitN_join (x:UInt8):∀ (ws:List (List UInt8)) (K:Nat),ws≠[]→(∀ w,w∈ws→x ∉ w)→ws.length - 1≤K→Lib.splitK [x] 0 K (joinL x ws)=ws
 | [],_,h,_,_=>absurd rfl h
 | [w],0,_,_,_=>rfl
 | [w],K+1,_,h,_=>by
  rw [joinL,Lib.splitK,idx_miss x w (h w (by simp)),if_pos (by decide)]
 | w::v::ws,0,_,_,hk=>by simp at hk
 | w::v::ws,K+1,_,h,hk=>by
  have ih:=splitN_join x (v::ws) K (by simp) (fun u hu=>h u (List.mem_cons_of_mem _ hu)) (by simp at hk ⊢;omega)
  rw [joinL,Lib.splitK,idx_hit x w _ (h w (by simp)),if_neg (by simp<;>omega)]
  rw [show (w++x::joinL x (v::ws)).drop (((w.length:Int)).toNat+[x].length)=joinL x (v::ws) by simp,ih]
  simp
theorem splitN_bs (x:UInt8) (ws:List (List UInt8)) (K:Nat) (hne:ws≠[]) (h:∀ w,w∈ws→x ∉ w) (hk:ws.length - 1≤K):Lib.splitB ⟨#[x]⟩ 0 K (bs (joinL x ws))=ws.map bs:=by
 have h1:=Lib.splitB_data ⟨#[x]⟩ 0 K (bs (joinL x ws))
 rw [show (ByteArray.mk #[x]).data.toList=[x] from rfl,show (bs (joinL x ws)).data.toList=joinL x ws from rfl,splitN_join x ws K hne h hk] at h1
 have h2:=congrArg (List.map bs) h1
 rw [List.map_map] at h2
 rw [← h2]
 conv=>lhs;rw [← List.map_id (Lib.splitB ⟨#[x]⟩ 0 K (bs (joinL x ws)))]
 refine List.map_congr_left fun b _=>?_
 show b=⟨b.data.toList.toArray⟩
 simp
theorem parse_dec {M:Nat} (hM:M≤18446744073709551615) (u:Nat):∀ r,u≤M→Lib.parseUintM M 0 (Lib.decDigits u++r)=Lib.parseUintM M u r:=by
 induction u using Nat.strongRecOn with
 | _ u ih =>
  intro r hu
  by_cases h:u<10
  ·rw [Lib.decDigits,dif_pos h,List.singleton_append,Lib.parseUintM]
   have e:(UInt8.ofNat (48+u)).toNat=48+u:=by simp;omega
   rw [e,if_pos (by omega),if_neg (by omega),if_neg (by omega)]
   congr 1;omega
  ·rw [Lib.decDigits,dif_neg h,List.append_assoc,ih (u / 10) (by omega) _ (by omega),List.singleton_append,Lib.parseUintM]
   have e:(UInt8.ofNat (48+u % 10)).toNat=48+u % 10:=by simp;omega
   rw [e,if_pos (by omega),if_neg (by omega),if_neg (by omega)]
   congr 1;omega
theorem dec_ne (u:Nat):Lib.decDigits u≠[]:=fun h=>by have:=congrArg List.length h;rw [Lib.decDigits_length] at this;have:=Lib.nDigits_pos u;simp at *;omega
theorem parseU {n:Int} (h:0≤n∧n≤18446744073709551615):Lib.parseUintB 64 (numL n)=.ok n.toNat:=by
 rw [numL_pos h.1,Lib.parseUintB,if_neg (dec_ne _)]
 have:=parse_dec (M:=2 ^ 64 - 1) (by decide) n.toNat [] (by omega)
 rw [List.append_nil] at this
 rw [this];rfl
theorem num_z {n:Int} (h:0≤n):1<(numL n).length→¬ ((numL n).getD 0 0).toNat=48:=by
 rw [numL_pos h]
 generalize n.toNat=u
 induction u using Nat.strongRecOn with
 | _ u ih =>
  intro h1 h2
  by_cases hu:u<10
  ·rw [Lib.decDigits,dif_pos hu] at h1;simp at h1
  ·rw [Lib.decDigits,dif_neg hu] at h2
   by_cases h3:u / 10<10
   ·rw [Lib.decDigits,dif_pos h3] at h2
    simp at h2;omega
   ·have h4:=ih (u / 10) (by omega) (by rw [Lib.decDigits_length,Lib.nDigits_big h3];have:=Lib.nDigits_pos (u / 10 / 10);omega)
    refine h4 ?_
    cases hd:Lib.decDigits (u / 10) with
    | nil=>exact absurd hd (dec_ne _)
    | cons c r=>rw [hd] at h2;exact h2
theorem lCut (s:List UInt8) (x:UInt8) (hl:s.length≤100000000) {a b:List UInt8} {c:Bool} (hc:Lib.cut s [x]=(a,b,c)):PCalls Tryz.prog 75 [.v (.string (bs s)),.v (.string ⟨#[x]⟩)] (.tup [.v (.string (bs a)),.v (.string (bs b)),.v (.bool c)]):=by
 refine pcalls_val ⟨_,rfl,rfl,by decide⟩ (u:=.tuple #[.string (bs a),.string (bs b),.bool c]) (fun Z w=>by simp only [Rep,Reps];exact ⟨_,⟨_,_,rfl,⟨rfl,rfl⟩,_,_,rfl,⟨rfl,rfl⟩,_,_,rfl,⟨rfl,rfl⟩,rfl⟩,rfl⟩) fun Z w vals hz hv=>?_
 have e:vals=[.string (bs s),.string ⟨#[x]⟩]:=by
  simp only [Reps,Rep] at hv
  obtain ⟨_,_,rfl,⟨rfl,_⟩,_,_,rfl,⟨rfl,_⟩,rfl⟩:=hv
  rfl
 subst e
 obtain ⟨m,hm⟩:=hz.gl.2.2
 have:=Tryz.strings_Cut (bs s) ⟨#[x]⟩ m w (by rw [bs_size];omega) hm
 rw [show (bs s).data.toList=s from rfl,show (ByteArray.mk #[x]).data.toList=[x] from rfl,hc] at this
 exact this.mono fun e w' ⟨he,n,hw⟩=>⟨he,by rw [hw];exact ⟨rfl,rfl,rfl,by simp,fun k hk=>by simp⟩⟩
theorem lCutH (a b:List UInt8) (x:UInt8) (h:x ∉ a) (hl:a.length+b.length≤10000000):PCalls Tryz.prog 75 [.v (.string (bs (a++x::b))),.v (.string ⟨#[x]⟩)] (.tup [.v (.string (bs a)),.v (.string (bs b)),.v (.bool true)]) :=
 lCut _ x (by simp;omega) (cut_hit x a b h)
theorem lCutM (s:List UInt8) (x:UInt8) (h:x ∉ s) (hl:s.length≤10000000):PCalls Tryz.prog 75 [.v (.string (bs s)),.v (.string ⟨#[x]⟩)] (.tup [.v (.string (bs s)),.v (.string (bs [])),.v (.bool false)]) :=
 lCut _ x (by omega) (cut_miss x s h)
theorem lItoa (n:Int) (h:-9223372036854775808≤n∧n≤9223372036854775807):PCalls Tryz.prog 95 [.v (.int .i64 n)] (.v (.string (bs (numL n)))):=by
 refine pcalls_val ⟨_,rfl,rfl,by decide⟩ (u:=.string (bs (numL n))) (fun Z w=>by simp [Rep,oneB]) fun Z w vals hz hv=>?_
 have e:vals=[.int .i64 n]:=by
  simp only [Reps,Rep] at hv
  obtain ⟨_,_,rfl,⟨rfl,_⟩,rfl⟩:=hv
  rfl
 subst e
 exact (Tryz.strconv_Itoa n h.1 h.2 w hz.gl.2.1).mono fun e w' ⟨he,k,os,hw⟩=>⟨he,by rw [hw];exact below_grow w k os⟩
theorem lParseU (n:Int) (h:0≤n∧n≤18446744073709551615):PCalls Tryz.prog 112 [.v (.string (bs (numL n))),.v (.int .i64 10),.v (.int .i64 64)] (.tup [.v (.int .u64 n),.v .nilIface]):=by
 refine pcalls_val ⟨_,rfl,rfl,by decide⟩ (u:=.tuple #[.int .u64 n,.nilIface]) (fun Z w=>by simp only [Rep,Reps];exact ⟨_,⟨_,_,rfl,⟨rfl,rfl⟩,_,_,rfl,⟨rfl,rfl⟩,rfl⟩,rfl⟩) fun Z w vals hz hv=>?_
 have e:vals=[.string (bs (numL n)),.int .i64 10,.int .i64 64]:=by
  simp only [Reps,Rep] at hv
  obtain ⟨_,_,rfl,⟨rfl,_⟩,_,_,rfl,⟨rfl,_⟩,_,_,rfl,⟨rfl,_⟩,rfl⟩:=hv
  rfl
 subst e
 have hl:=numL_len (n:=n) (by omega)
 have:=Tryz.strconv_ParseUint_10_at64_ok (bs (numL n)) (by rw [bs_size];omega) n.toNat (parseU h) w
 rw [show ((n.toNat:Nat):Int)=n by omega] at this
 refine this.mono fun e w' ⟨he,hw⟩=>⟨he,?_⟩
 rcases hw with rfl | rfl
 ·exact Below.refl _ _
 ·exact Lib.bytesWorld_below _ _ _
theorem lSplitN (ws:List (List UInt8)) (hne:ws≠[]) (h:∀ w,w∈ws→(32:UInt8) ∉ w) (h5:ws.length≤5) (hl:(joinL 32 ws).length≤1000000) (hl5:5≤(joinL 32 ws).length):PCalls Tryz.prog 97 [.v (.string (bs (joinL 32 ws))),.v (.string ⟨#[32]⟩),.v (.int .i64 6)] (.view 1 (ws.map eT)):=by
 refine pcalls_new ⟨_,rfl,rfl,by decide⟩ fun Z w vals hz hv=>?_
 have e:vals=[.string (bs (joinL 32 ws)),.string ⟨#[32]⟩,.int .i64 6]:=by
  simp only [Reps,Rep] at hv
  obtain ⟨_,_,rfl,⟨rfl,_⟩,_,_,rfl,⟨rfl,_⟩,_,_,rfl,⟨rfl,_⟩,rfl⟩:=hv
  rfl
 subst e
 obtain ⟨m,hm⟩:=hz.gl.2.2
 have:=Tryz.strings_SplitN (bs (joinL 32 ws)) ⟨#[32]⟩ 6 m w (by rw [bs_size];omega) hm (by decide) (by decide) (by decide)
 rw [show min 6 ((bs (joinL 32 ws)).size+1)=6 by rw [bs_size];omega,splitN_bs 32 ws (6 - 1) hne h (by omega)] at this
 refine this.mono fun e w' ⟨he,hw⟩=>⟨_,he,?_,?_⟩
 ·rw [hw];exact ⟨rfl,rfl,rfl,by simp,fun k hk=>alloc_heap_old hk⟩
 ·simp only [Rep]
  refine ⟨ws.map fun l=>Value.string (bs l),some ⟨w.heap.size,0,none⟩,6,?_,by simp,by decide,?_,by simp [big];omega,?_⟩
  ·have:∀ l:List (List UInt8),Reps (fun b=>Z b∨(w.heap.size≤b∧b<w'.heap.size)) w' (l.map eT) (l.map fun l=>Value.string (bs l)):=by
    intro l
    induction l with
    | nil=>rfl
    | cons y l ih=>simp only [List.map_cons,Reps,eT,Rep];exact ⟨_,_,rfl,⟨rfl,rfl⟩,ih⟩
   exact this ws
  ·intro x hx
   obtain ⟨l,_,rfl⟩:=List.mem_map.1 hx
   exact ⟨rfl,fun y hy=>by simp [vcells,Value.cells] at hy;subst hy;rfl⟩
  ·refine ⟨by simp;omega,.inr ⟨rfl,.inr ⟨Nat.le_refl _,by rw [hw];simp⟩,fun k u hk i v hi=>?_⟩⟩
   rw [List.getElem?_map] at hk
   cases hkw:ws[k]? with
   | none=>simp [hkw] at hk
   | some y =>
    simp only [hkw,Option.map_some,Option.some.injEq] at hk
    subst hk
    have hkl:k<ws.length:=(List.getElem?_eq_some_iff.1 hkw).1
    cases i with
    | succ i=>simp [vcells,Value.cells] at hi
    | zero =>
     simp [vcells,Value.cells] at hi
     subst hi
     rw [hw]
     simp only [World.cell?,Nat.mul_one,Nat.add_zero,Nat.zero_add]
     rw [alloc_heap_new]
     simp only [Lib.cellsOf]
     simp
     rw [List.getElem?_append_left (by simpa using hkl)]
     simp [hkw]
end Go.Proofs.YtckhjklcfagkoaaGreatDoor
