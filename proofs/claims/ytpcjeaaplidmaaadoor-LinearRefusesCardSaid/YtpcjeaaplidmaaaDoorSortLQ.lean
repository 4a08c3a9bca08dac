/-
 DERIVED: THE SHELF's CONTRACTS AT THIS DUMP, IN PLAIN WORDS (tools/lay-plain.mjs out of 'TrydSort.lean', which tools/lay-shelf.mjs wrote): THE SAME DECLARATIONS UNDER THE SAME NAMES: 'import', 'namespace', 'open', 'def', 'theorem' AND NOTHING ELSE: no command of the shelf's: FOR A HAND-IN. Each laying: the table of numbers ('.._ren') and one theorem, a field a fact of the dump's own or the kernel's comparison; each contract: ONE APPLICATION.
-/
import Derived.Shelf.SlGeneric
import Derived.Shelf.SlSortCmp.Whole1
import Derived.Test.YtpcjeaaplidmaaaDoorProg
namespace Go.Proofs
open Go.Shelf
def Tryd.sortL_ren : Go.Shelf.Ren := ⟨fun | 6 => 37 | 15 => 56 | 14 => 55 | 28 => 75 | 29 => 76 | 20 => 67 | 21 => 68 | 22 => 69 | 23 => 70 | 24 => 71 | 25 => 72 | 26 => 73 | 27 => 74 | 46 => 83 | 47 => 84 | 48 => 85 | 49 => 86 | 50 => 87 | 57 => 93 | n => n, fun | 22 => 73 | 24 => 29 | 25 => 107 | 3 => 3 | 39 => 95 | 0 => 0 | 53 => 152 | 55 => 25 | 4 => 4 | 46 => 146 | 45 => 145 | 50 => 109 | 5 => 5 | 9 => 9 | 66 => 161 | 70 => 165 | 76 => 173 | 77 => 174 | n => n, fun | n => n⟩
theorem Tryd.sortL : Go.Proofs.SlLaysF.n6 Tryd.prog Tryd.sortL_ren := {
 mixed := by kernel_rfl
 f6 := ⟨Tryd.f37.name, by decide, Tryd.func37.trans (congrArg some (by kernel_rfl))⟩
 f14 := ⟨Tryd.f55.name, by decide, Tryd.func55.trans (congrArg some (by kernel_rfl))⟩
 f15 := Tryd.func56.trans (congrArg some (by kernel_rfl))
 f20 := ⟨Tryd.f67.name, by decide, Tryd.func67.trans (congrArg some (by kernel_rfl))⟩
 f21 := ⟨Tryd.f68.name, by decide, Tryd.func68.trans (congrArg some (by kernel_rfl))⟩
 f22 := ⟨Tryd.f69.name, by decide, Tryd.func69.trans (congrArg some (by kernel_rfl))⟩
 f23 := ⟨Tryd.f70.name, by decide, Tryd.func70.trans (congrArg some (by kernel_rfl))⟩
 f24 := ⟨Tryd.f71.name, by decide, Tryd.func71.trans (congrArg some (by kernel_rfl))⟩
 f25 := ⟨Tryd.f72.name, by decide, Tryd.func72.trans (congrArg some (by kernel_rfl))⟩
 f26 := ⟨Tryd.f73.name, by decide, Tryd.func73.trans (congrArg some (by kernel_rfl))⟩
 f27 := ⟨Tryd.f74.name, by decide, Tryd.func74.trans (congrArg some (by kernel_rfl))⟩
 f28 := Tryd.func75.trans (congrArg some (by kernel_rfl))
 f29 := Tryd.func76.trans (congrArg some (by kernel_rfl))
 f46 := ⟨Tryd.f83.name, by decide, Tryd.func83.trans (congrArg some (by kernel_rfl))⟩
 f47 := Tryd.func84.trans (congrArg some (by kernel_rfl))
 f48 := Tryd.func85.trans (congrArg some (by kernel_rfl))
 f49 := ⟨Tryd.f86.name, by decide, Tryd.func86.trans (congrArg some (by kernel_rfl))⟩
 f50 := ⟨Tryd.f87.name, by decide, Tryd.func87.trans (congrArg some (by kernel_rfl))⟩
 f57 := ⟨Tryd.f93.name, by decide, Tryd.func93.trans (congrArg some (by kernel_rfl))⟩
 t0 := Tryd.underlying0
 a0 := Tryd.isAgg0
 z0 := Tryd.sizeOf0
 v0 := Tryd.zeroValue0
 t3 := Tryd.underlying3
 a3 := Tryd.isAgg3
 z3 := Tryd.sizeOf3
 v3 := Tryd.zeroValue3
 t4 := Tryd.underlying4
 a4 := Tryd.isAgg4
 z4 := Tryd.sizeOf4
 v4 := Tryd.zeroValue4
 t5 := Tryd.underlying5
 a5 := Tryd.isAgg5
 z5 := Tryd.sizeOf5
 v5 := Tryd.zeroValue5
 t9 := Tryd.underlying9
 a9 := Tryd.isAgg9
 z9 := Tryd.sizeOf9
 v9 := Tryd.zeroValue9
 t22 := Tryd.underlying73
 a22 := Tryd.isAgg73
 z22 := Tryd.sizeOf73
 v22 := Tryd.zeroValue73
 a24 := Tryd.isAgg29
 z24 := Tryd.sizeOf29
 t25 := Tryd.underlying107
 a25 := Tryd.isAgg107
 z25 := Tryd.sizeOf107
 v25 := Tryd.zeroValue107
 t39 := Tryd.underlying95
 a39 := Tryd.isAgg95
 z39 := Tryd.sizeOf95
 v39 := Tryd.zeroValue95
 t45 := Tryd.underlying145
 a45 := Tryd.isAgg145
 z45 := Tryd.sizeOf145
 v45 := Tryd.zeroValue145
 t46 := Tryd.underlying146
 a46 := Tryd.isAgg146
 z46 := Tryd.sizeOf146
 v46 := Tryd.zeroValue146
 t50 := Tryd.underlying109
 a50 := Tryd.isAgg109
 z50 := Tryd.sizeOf109
 v50 := Tryd.zeroValue109
 t53 := Tryd.underlying152
 a53 := Tryd.isAgg152
 z53 := Tryd.sizeOf152
 v53 := Tryd.zeroValue152
 t55 := Tryd.underlying25
 a55 := Tryd.isAgg25
 z55 := Tryd.sizeOf25
 v55 := Tryd.zeroValue25
 t66 := Tryd.underlying161
 a66 := Tryd.isAgg161
 z66 := Tryd.sizeOf161
 v66 := Tryd.zeroValue161
 t70 := Tryd.underlying165
 a70 := Tryd.isAgg165
 z70 := Tryd.sizeOf165
 v70 := Tryd.zeroValue165
 t76 := Tryd.underlying173
 a76 := Tryd.isAgg173
 z76 := Tryd.sizeOf173
 v76 := Tryd.zeroValue173
 t77 := Tryd.underlying174
 a77 := Tryd.isAgg174
 z77 := Tryd.sizeOf174
 v77 := Tryd.zeroValue174 }
end Go.Proofs