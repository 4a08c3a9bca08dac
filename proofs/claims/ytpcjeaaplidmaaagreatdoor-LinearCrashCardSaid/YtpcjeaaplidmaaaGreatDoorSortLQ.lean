/-
 DERIVED: THE SHELF's CONTRACTS AT THIS DUMP, IN PLAIN WORDS (tools/lay-plain.mjs out of 'TryzSort.lean', which tools/lay-shelf.mjs wrote): THE SAME DECLARATIONS UNDER THE SAME NAMES: 'import', 'namespace', 'open', 'def', 'theorem' AND NOTHING ELSE: no command of the shelf's: FOR A HAND-IN. Each laying: the table of numbers ('.._ren') and one theorem, a field a fact of the dump's own or the kernel's comparison; each contract: ONE APPLICATION.
-/
import Derived.Shelf.SlGeneric
import Derived.Shelf.SlSortCmp.Whole1
import Derived.Test.YtpcjeaaplidmaaaGreatDoorProg
namespace Go.Proofs
open Go.Shelf
def Tryz.sortL_ren : Go.Shelf.Ren := ⟨fun | 6 => 36 | 15 => 56 | 14 => 55 | 28 => 85 | 29 => 86 | 20 => 77 | 21 => 78 | 22 => 79 | 23 => 80 | 24 => 81 | 25 => 82 | 26 => 83 | 27 => 84 | 46 => 98 | 47 => 99 | 48 => 100 | 49 => 101 | 50 => 102 | 57 => 110 | n => n, fun | 22 => 35 | 24 => 43 | 25 => 99 | 3 => 3 | 39 => 92 | 0 => 0 | 53 => 164 | 55 => 48 | 4 => 4 | 46 => 157 | 45 => 156 | 50 => 161 | 5 => 5 | 9 => 9 | 66 => 178 | 70 => 182 | 76 => 193 | 77 => 194 | n => n, fun | n => n⟩
theorem Tryz.sortL : Go.Proofs.SlLaysF.n6 Tryz.prog Tryz.sortL_ren := {
 mixed := by kernel_rfl
 f6 := ⟨Tryz.f36.name, by decide, Tryz.func36.trans (congrArg some (by kernel_rfl))⟩
 f14 := ⟨Tryz.f55.name, by decide, Tryz.func55.trans (congrArg some (by kernel_rfl))⟩
 f15 := Tryz.func56.trans (congrArg some (by kernel_rfl))
 f20 := ⟨Tryz.f77.name, by decide, Tryz.func77.trans (congrArg some (by kernel_rfl))⟩
 f21 := ⟨Tryz.f78.name, by decide, Tryz.func78.trans (congrArg some (by kernel_rfl))⟩
 f22 := ⟨Tryz.f79.name, by decide, Tryz.func79.trans (congrArg some (by kernel_rfl))⟩
 f23 := ⟨Tryz.f80.name, by decide, Tryz.func80.trans (congrArg some (by kernel_rfl))⟩
 f24 := ⟨Tryz.f81.name, by decide, Tryz.func81.trans (congrArg some (by kernel_rfl))⟩
 f25 := ⟨Tryz.f82.name, by decide, Tryz.func82.trans (congrArg some (by kernel_rfl))⟩
 f26 := ⟨Tryz.f83.name, by decide, Tryz.func83.trans (congrArg some (by kernel_rfl))⟩
 f27 := ⟨Tryz.f84.name, by decide, Tryz.func84.trans (congrArg some (by kernel_rfl))⟩
 f28 := Tryz.func85.trans (congrArg some (by kernel_rfl))
 f29 := Tryz.func86.trans (congrArg some (by kernel_rfl))
 f46 := ⟨Tryz.f98.name, by decide, Tryz.func98.trans (congrArg some (by kernel_rfl))⟩
 f47 := Tryz.func99.trans (congrArg some (by kernel_rfl))
 f48 := Tryz.func100.trans (congrArg some (by kernel_rfl))
 f49 := ⟨Tryz.f101.name, by decide, Tryz.func101.trans (congrArg some (by kernel_rfl))⟩
 f50 := ⟨Tryz.f102.name, by decide, Tryz.func102.trans (congrArg some (by kernel_rfl))⟩
 f57 := ⟨Tryz.f110.name, by decide, Tryz.func110.trans (congrArg some (by kernel_rfl))⟩
 t0 := Tryz.underlying0
 a0 := Tryz.isAgg0
 z0 := Tryz.sizeOf0
 v0 := Tryz.zeroValue0
 t3 := Tryz.underlying3
 a3 := Tryz.isAgg3
 z3 := Tryz.sizeOf3
 v3 := Tryz.zeroValue3
 t4 := Tryz.underlying4
 a4 := Tryz.isAgg4
 z4 := Tryz.sizeOf4
 v4 := Tryz.zeroValue4
 t5 := Tryz.underlying5
 a5 := Tryz.isAgg5
 z5 := Tryz.sizeOf5
 v5 := Tryz.zeroValue5
 t9 := Tryz.underlying9
 a9 := Tryz.isAgg9
 z9 := Tryz.sizeOf9
 v9 := Tryz.zeroValue9
 t22 := Tryz.underlying35
 a22 := Tryz.isAgg35
 z22 := Tryz.sizeOf35
 v22 := Tryz.zeroValue35
 a24 := Tryz.isAgg43
 z24 := Tryz.sizeOf43
 t25 := Tryz.underlying99
 a25 := Tryz.isAgg99
 z25 := Tryz.sizeOf99
 v25 := Tryz.zeroValue99
 t39 := Tryz.underlying92
 a39 := Tryz.isAgg92
 z39 := Tryz.sizeOf92
 v39 := Tryz.zeroValue92
 t45 := Tryz.underlying156
 a45 := Tryz.isAgg156
 z45 := Tryz.sizeOf156
 v45 := Tryz.zeroValue156
 t46 := Tryz.underlying157
 a46 := Tryz.isAgg157
 z46 := Tryz.sizeOf157
 v46 := Tryz.zeroValue157
 t50 := Tryz.underlying161
 a50 := Tryz.isAgg161
 z50 := Tryz.sizeOf161
 v50 := Tryz.zeroValue161
 t53 := Tryz.underlying164
 a53 := Tryz.isAgg164
 z53 := Tryz.sizeOf164
 v53 := Tryz.zeroValue164
 t55 := Tryz.underlying48
 a55 := Tryz.isAgg48
 z55 := Tryz.sizeOf48
 v55 := Tryz.zeroValue48
 t66 := Tryz.underlying178
 a66 := Tryz.isAgg178
 z66 := Tryz.sizeOf178
 v66 := Tryz.zeroValue178
 t70 := Tryz.underlying182
 a70 := Tryz.isAgg182
 z70 := Tryz.sizeOf182
 v70 := Tryz.zeroValue182
 t76 := Tryz.underlying193
 a76 := Tryz.isAgg193
 z76 := Tryz.sizeOf193
 v76 := Tryz.zeroValue193
 t77 := Tryz.underlying194
 a77 := Tryz.isAgg194
 z77 := Tryz.sizeOf194
 v77 := Tryz.zeroValue194 }
end Go.Proofs