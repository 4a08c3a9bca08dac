/- The types of this program, as tables, and what is known of its package-level variables. No conditions. -/
import Derived.Test.YtegekpjkbedngaaGreatAc4
import Derived.Test.YtegekpjkbedngaaGreatProg
import Derived.KernelRfl
set_option linter.unusedVariables false
set_option linter.unusedSimpArgs false
set_option linter.unusedSectionVars false
namespace Go.Proofs.YtegekpjkbedngaaGreat
open Go Go.Ab
noncomputable instance : Glob where
 G := fun _ _ => True
 mono := fun _ _ _ => trivial
 tab := []
 bld := 0
 slots := slotOf [(21, 27), (4, 28), (48, 28), (20, 28), (117, 8), (114, 8), (112, 8), (108, 8), (29, 8), (9, 8), (16, 8), (32, 2), (19, 2), (40, 2)]
 islots := fun n => if n == "Fence" then 8 else if n == "Store" then 8 else 0
 ok := fun _ h => by simp [gfind] at h
instance : Quick := ⟨fun h => h⟩
@[go_sem] theorem bldE : (Glob.bld : TypeId) = 0 := rfl
@[go_sem] theorem slotsE (g : Nat) : Glob.slots g = slotOf [(21, 27), (4, 28), (48, 28), (20, 28), (117, 8), (114, 8), (112, 8), (108, 8), (29, 8), (9, 8), (16, 8), (32, 2), (19, 2), (40, 2)] g := rfl
def u2 : TyI := TyI.mk (TK.int .i64) 1 8 ((Value.int .i64 0) :: []) false false
def u3 : TyI := TyI.mk (TK.int .i64) 1 8 ((Value.int .i64 0) :: []) false false
def u4 : TyI := TyI.mk TK.bool 1 1 ((Value.bool false) :: []) false false
def u5 : TyI := TyI.mk (TK.int .u8) 1 1 ((Value.int .u8 0) :: []) false false
def u6 : TyI := TyI.mk (TK.int .u8) 1 1 ((Value.int .u8 0) :: []) false false
def u7 : TyI := TyI.mk (TK.struct (⟨0, 1, 2, true, false⟩ :: (⟨1, 1, 3, true, false⟩ :: (⟨2, 1, 4, true, false⟩ :: (⟨3, 1, 6, true, false⟩ :: []))))) 4 24 ((Value.int .i64 0) :: ((Value.int .i64 0) :: ((Value.bool false) :: ((Value.int .u8 0) :: [])))) false false
def u8 : TyI := TyI.mk (TK.struct (⟨0, 1, 2, true, false⟩ :: (⟨1, 1, 3, true, false⟩ :: (⟨2, 1, 4, true, false⟩ :: (⟨3, 1, 6, true, false⟩ :: []))))) 4 24 ((Value.int .i64 0) :: ((Value.int .i64 0) :: ((Value.bool false) :: ((Value.int .u8 0) :: [])))) false false
def u9 : TyI := TyI.mk TK.str 1 16 ((Value.string (ByteArray.mk (Array.mk []))) :: []) false false
def u10 : TyI := TyI.mk TK.str 1 16 ((Value.string (ByteArray.mk (Array.mk []))) :: []) false false
def u11 : TyI := TyI.mk TK.str 1 16 ((Value.string (ByteArray.mk (Array.mk []))) :: []) false false
def u12 : TyI := TyI.mk (TK.int .u64) 1 8 ((Value.int .u64 0) :: []) false false
def u13 : TyI := TyI.mk (TK.struct (⟨0, 1, 9, true, false⟩ :: (⟨1, 1, 12, true, false⟩ :: []))) 2 24 ((Value.string (ByteArray.mk (Array.mk []))) :: ((Value.int .u64 0) :: [])) true false
def u14 : TyI := TyI.mk (TK.struct (⟨0, 1, 9, true, false⟩ :: (⟨1, 1, 12, true, false⟩ :: []))) 2 24 ((Value.string (ByteArray.mk (Array.mk []))) :: ((Value.int .u64 0) :: [])) true false
def u15 : TyI := TyI.mk (TK.ptr 163) 1 8 ((Value.pointer none) :: []) false false
def u16 : TyI := TyI.mk (TK.ptr 166) 1 8 ((Value.pointer none) :: []) false false
def u17 : TyI := TyI.mk (TK.ptr 175) 1 8 ((Value.pointer none) :: []) false false
def u18 : TyI := TyI.mk (TK.struct (⟨0, 1, 17, true, false⟩ :: [])) 1 8 ((Value.pointer none) :: []) true false
def u19 : TyI := TyI.mk (TK.struct (⟨0, 1, 17, true, false⟩ :: [])) 1 8 ((Value.pointer none) :: []) true false
def u22 : TyI := TyI.mk (TK.slice 54 3 24 (Value.agg (Array.mk ((Value.bool false) :: ((Value.int .u64 0) :: ((Value.int .u64 0) :: [])))))) 1 24 ((Value.slice none 0 0) :: []) false false
def u23 : TyI := TyI.mk (TK.ptr 89) 1 8 ((Value.pointer none) :: []) false false
def u24 : TyI := TyI.mk (TK.int .i64) 1 8 ((Value.int .i64 0) :: []) false false
def u25 : TyI := TyI.mk TK.other 1 0 ((Value.tuple (Array.mk ((Value.pointer none) :: ((Value.int .i64 0) :: [])))) :: []) false false
def u27 : TyI := TyI.mk (TK.int .u64) 1 8 ((Value.int .u64 0) :: []) false false
def u28 : TyI := TyI.mk (TK.int .u64) 1 8 ((Value.int .u64 0) :: []) false false
def u29 : TyI := TyI.mk TK.other 1 0 ((Value.tuple (Array.mk ((Value.int .u64 0) :: ((Value.int .i64 0) :: [])))) :: []) false false
def u30 : TyI := TyI.mk TK.func 1 8 (Value.nilFunc :: []) false false
def u31 : TyI := TyI.mk (TK.int .u16) 1 2 ((Value.int .u16 0) :: []) false false
def u32 : TyI := TyI.mk (TK.slice 27 1 8 (Value.int .u64 0)) 1 24 ((Value.slice none 0 0) :: []) false false
def u33 : TyI := TyI.mk TK.other 1 0 ((Value.tuple (Array.mk ((Value.slice none 0 0) :: ((Value.int .i64 0) :: [])))) :: []) false false
def u35 : TyI := TyI.mk (TK.slice 38 2 16 (Value.agg (Array.mk ((Value.int .u64 0) :: ((Value.int .u64 0) :: []))))) 1 24 ((Value.slice none 0 0) :: []) false false
def u37 : TyI := TyI.mk (TK.struct (⟨0, 1, 27, true, false⟩ :: (⟨1, 1, 27, true, false⟩ :: []))) 2 16 ((Value.int .u64 0) :: ((Value.int .u64 0) :: [])) false false
def u38 : TyI := TyI.mk (TK.struct (⟨0, 1, 27, true, false⟩ :: (⟨1, 1, 27, true, false⟩ :: []))) 2 16 ((Value.int .u64 0) :: ((Value.int .u64 0) :: [])) false false
def u40 : TyI := TyI.mk (TK.slice 80 3 24 (Value.agg (Array.mk ((Value.int .u8 0) :: ((Value.int .u64 0) :: ((Value.int .u64 0) :: [])))))) 1 24 ((Value.slice none 0 0) :: []) false false
def u41 : TyI := TyI.mk TK.func 1 8 (Value.nilFunc :: []) false false
def u43 : TyI := TyI.mk (TK.ptr 122) 1 8 ((Value.pointer none) :: []) false false
def u46 : TyI := TyI.mk (TK.iface false) 1 16 (Value.nilIface :: []) false true
def u47 : TyI := TyI.mk (TK.struct (⟨0, 1, 46, true, false⟩ :: (⟨1, 1, 28, true, false⟩ :: []))) 2 24 (Value.nilIface :: ((Value.int .u64 0) :: [])) false true
def u48 : TyI := TyI.mk (TK.struct (⟨0, 1, 46, true, false⟩ :: (⟨1, 1, 28, true, false⟩ :: []))) 2 24 (Value.nilIface :: ((Value.int .u64 0) :: [])) false true
def u49 : TyI := TyI.mk TK.func 1 8 (Value.nilFunc :: []) false false
def u51 : TyI := TyI.mk (TK.struct (⟨0, 1, 27, true, false⟩ :: (⟨1, 1, 27, true, false⟩ :: []))) 2 16 ((Value.int .u64 0) :: ((Value.int .u64 0) :: [])) false false
def u52 : TyI := TyI.mk (TK.slice 51 2 16 (Value.agg (Array.mk ((Value.int .u64 0) :: ((Value.int .u64 0) :: []))))) 1 24 ((Value.slice none 0 0) :: []) false false
def u54 : TyI := TyI.mk (TK.struct (⟨0, 1, 4, true, false⟩ :: (⟨1, 1, 27, true, false⟩ :: (⟨2, 1, 27, true, false⟩ :: [])))) 3 24 ((Value.bool false) :: ((Value.int .u64 0) :: ((Value.int .u64 0) :: []))) false false
def u55 : TyI := TyI.mk TK.other 1 0 ((Value.tuple (Array.mk ((Value.slice none 0 0) :: ((Value.int .i64 0) :: [])))) :: []) false false
def u56 : TyI := TyI.mk TK.func 1 8 (Value.nilFunc :: []) false false
def u57 : TyI := TyI.mk TK.other 1 0 ((Value.tuple (Array.mk ((Value.slice none 0 0) :: ((Value.int .i64 0) :: [])))) :: []) false false
def u60 : TyI := TyI.mk (TK.ptr 104) 1 8 ((Value.pointer none) :: []) false false
def u61 : TyI := TyI.mk TK.func 1 8 (Value.nilFunc :: []) false false
def u63 : TyI := TyI.mk TK.other 1 0 ((Value.tuple (Array.mk ((Value.slice none 0 0) :: ((Value.bool false) :: [])))) :: []) false false
def u64 : TyI := TyI.mk TK.func 1 8 (Value.nilFunc :: []) false false
def u65 : TyI := TyI.mk TK.func 1 8 (Value.nilFunc :: []) false false
def u66 : TyI := TyI.mk TK.func 1 8 (Value.nilFunc :: []) false false
def u67 : TyI := TyI.mk TK.func 1 8 (Value.nilFunc :: []) false false
def u70 : TyI := TyI.mk (TK.struct (⟨0, 1, 9, true, false⟩ :: [])) 1 16 ((Value.string (ByteArray.mk (Array.mk []))) :: []) false false
def u72 : TyI := TyI.mk TK.func 1 8 (Value.nilFunc :: []) false false
def u74 : TyI := TyI.mk (TK.int .u64) 1 8 ((Value.int .u64 0) :: []) false false
def u75 : TyI := TyI.mk (TK.slice 3 1 8 (Value.int .i64 0)) 1 24 ((Value.slice none 0 0) :: []) false false
def u78 : TyI := TyI.mk (TK.int .u8) 1 1 ((Value.int .u8 0) :: []) false false
def u80 : TyI := TyI.mk (TK.struct (⟨0, 1, 78, true, false⟩ :: (⟨1, 1, 27, true, false⟩ :: (⟨2, 1, 27, true, false⟩ :: [])))) 3 24 ((Value.int .u8 0) :: ((Value.int .u64 0) :: ((Value.int .u64 0) :: []))) false false
def u82 : TyI := TyI.mk TK.func 1 8 (Value.nilFunc :: []) false false
def u86 : TyI := TyI.mk (TK.slice 149 2 32 (Value.agg (Array.mk ((Value.int .u64 0) :: ((Value.slice none 0 0) :: []))))) 1 24 ((Value.slice none 0 0) :: []) false false
def u87 : TyI := TyI.mk (TK.arr 8 43 1 false) 8 64 ((Value.pointer none) :: ((Value.pointer none) :: ((Value.pointer none) :: ((Value.pointer none) :: ((Value.pointer none) :: ((Value.pointer none) :: ((Value.pointer none) :: ((Value.pointer none) :: [])))))))) false false
def u88 : TyI := TyI.mk (TK.struct (⟨0, 1, 32, true, false⟩ :: (⟨1, 1, 32, true, false⟩ :: (⟨2, 1, 86, true, false⟩ :: (⟨3, 8, 87, true, true⟩ :: (⟨11, 1, 4, true, false⟩ :: (⟨12, 1, 4, true, false⟩ :: (⟨13, 1, 3, true, false⟩ :: (⟨14, 1, 27, true, false⟩ :: []))))))))) 15 160 ((Value.slice none 0 0) :: ((Value.slice none 0 0) :: ((Value.slice none 0 0) :: ((Value.pointer none) :: ((Value.pointer none) :: ((Value.pointer none) :: ((Value.pointer none) :: ((Value.pointer none) :: ((Value.pointer none) :: ((Value.pointer none) :: ((Value.pointer none) :: ((Value.bool false) :: ((Value.bool false) :: ((Value.int .i64 0) :: ((Value.int .u64 0) :: []))))))))))))))) false false
def u89 : TyI := TyI.mk (TK.struct (⟨0, 1, 32, true, false⟩ :: (⟨1, 1, 32, true, false⟩ :: (⟨2, 1, 86, true, false⟩ :: (⟨3, 8, 87, true, true⟩ :: (⟨11, 1, 4, true, false⟩ :: (⟨12, 1, 4, true, false⟩ :: (⟨13, 1, 3, true, false⟩ :: (⟨14, 1, 27, true, false⟩ :: []))))))))) 15 160 ((Value.slice none 0 0) :: ((Value.slice none 0 0) :: ((Value.slice none 0 0) :: ((Value.pointer none) :: ((Value.pointer none) :: ((Value.pointer none) :: ((Value.pointer none) :: ((Value.pointer none) :: ((Value.pointer none) :: ((Value.pointer none) :: ((Value.pointer none) :: ((Value.bool false) :: ((Value.bool false) :: ((Value.int .i64 0) :: ((Value.int .u64 0) :: []))))))))))))))) false false
def u92 : TyI := TyI.mk (TK.ptr 97) 1 8 ((Value.pointer none) :: []) false false
def u93 : TyI := TyI.mk TK.other 1 0 ((Value.tuple (Array.mk ((Value.pointer none) :: ((Value.int .i64 0) :: [])))) :: []) false false
def u95 : TyI := TyI.mk (TK.arr 28 27 1 false) 28 224 ((Value.int .u64 0) :: ((Value.int .u64 0) :: ((Value.int .u64 0) :: ((Value.int .u64 0) :: ((Value.int .u64 0) :: ((Value.int .u64 0) :: ((Value.int .u64 0) :: ((Value.int .u64 0) :: ((Value.int .u64 0) :: ((Value.int .u64 0) :: ((Value.int .u64 0) :: ((Value.int .u64 0) :: ((Value.int .u64 0) :: ((Value.int .u64 0) :: ((Value.int .u64 0) :: ((Value.int .u64 0) :: ((Value.int .u64 0) :: ((Value.int .u64 0) :: ((Value.int .u64 0) :: ((Value.int .u64 0) :: ((Value.int .u64 0) :: ((Value.int .u64 0) :: ((Value.int .u64 0) :: ((Value.int .u64 0) :: ((Value.int .u64 0) :: ((Value.int .u64 0) :: ((Value.int .u64 0) :: ((Value.int .u64 0) :: [])))))))))))))))))))))))))))) false false
def u96 : TyI := TyI.mk (TK.struct (⟨0, 28, 95, true, true⟩ :: (⟨28, 1, 75, true, false⟩ :: (⟨29, 1, 27, true, false⟩ :: [])))) 30 256 ((Value.int .u64 0) :: ((Value.int .u64 0) :: ((Value.int .u64 0) :: ((Value.int .u64 0) :: ((Value.int .u64 0) :: ((Value.int .u64 0) :: ((Value.int .u64 0) :: ((Value.int .u64 0) :: ((Value.int .u64 0) :: ((Value.int .u64 0) :: ((Value.int .u64 0) :: ((Value.int .u64 0) :: ((Value.int .u64 0) :: ((Value.int .u64 0) :: ((Value.int .u64 0) :: ((Value.int .u64 0) :: ((Value.int .u64 0) :: ((Value.int .u64 0) :: ((Value.int .u64 0) :: ((Value.int .u64 0) :: ((Value.int .u64 0) :: ((Value.int .u64 0) :: ((Value.int .u64 0) :: ((Value.int .u64 0) :: ((Value.int .u64 0) :: ((Value.int .u64 0) :: ((Value.int .u64 0) :: ((Value.int .u64 0) :: ((Value.slice none 0 0) :: ((Value.int .u64 0) :: [])))))))))))))))))))))))))))))) false false
def u97 : TyI := TyI.mk (TK.struct (⟨0, 28, 95, true, true⟩ :: (⟨28, 1, 75, true, false⟩ :: (⟨29, 1, 27, true, false⟩ :: [])))) 30 256 ((Value.int .u64 0) :: ((Value.int .u64 0) :: ((Value.int .u64 0) :: ((Value.int .u64 0) :: ((Value.int .u64 0) :: ((Value.int .u64 0) :: ((Value.int .u64 0) :: ((Value.int .u64 0) :: ((Value.int .u64 0) :: ((Value.int .u64 0) :: ((Value.int .u64 0) :: ((Value.int .u64 0) :: ((Value.int .u64 0) :: ((Value.int .u64 0) :: ((Value.int .u64 0) :: ((Value.int .u64 0) :: ((Value.int .u64 0) :: ((Value.int .u64 0) :: ((Value.int .u64 0) :: ((Value.int .u64 0) :: ((Value.int .u64 0) :: ((Value.int .u64 0) :: ((Value.int .u64 0) :: ((Value.int .u64 0) :: ((Value.int .u64 0) :: ((Value.int .u64 0) :: ((Value.int .u64 0) :: ((Value.int .u64 0) :: ((Value.slice none 0 0) :: ((Value.int .u64 0) :: [])))))))))))))))))))))))))))))) false false
def u98 : TyI := TyI.mk TK.other 1 0 ((Value.tuple (Array.mk ((Value.int .i64 0) :: ((Value.bool false) :: [])))) :: []) false false
def u104 : TyI := TyI.mk (TK.struct (⟨0, 1, 46, true, false⟩ :: (⟨1, 1, 40, true, false⟩ :: []))) 2 40 (Value.nilIface :: ((Value.slice none 0 0) :: [])) false true
def u106 : TyI := TyI.mk TK.func 1 8 (Value.nilFunc :: []) false false
def u107 : TyI := TyI.mk TK.func 1 8 (Value.nilFunc :: []) false false
def u108 : TyI := TyI.mk TK.func 1 8 (Value.nilFunc :: []) false false
def u111 : TyI := TyI.mk (TK.slice 5 1 1 (Value.int .u8 0)) 1 24 ((Value.slice none 0 0) :: []) false false
def u112 : TyI := TyI.mk (TK.slice 35 1 24 (Value.slice none 0 0)) 1 24 ((Value.slice none 0 0) :: []) false false
def u114 : TyI := TyI.mk (TK.struct (⟨0, 1, 111, true, false⟩ :: (⟨1, 1, 75, true, false⟩ :: (⟨2, 1, 112, true, false⟩ :: [])))) 3 72 ((Value.slice none 0 0) :: ((Value.slice none 0 0) :: ((Value.slice none 0 0) :: []))) false false
def u115 : TyI := TyI.mk TK.func 1 8 (Value.nilFunc :: []) false false
def u119 : TyI := TyI.mk TK.func 1 8 (Value.nilFunc :: []) false false
def u120 : TyI := TyI.mk (TK.map 3 27 (Value.int .u64 0)) 1 8 ((Value.map none) :: []) false false
def u122 : TyI := TyI.mk (TK.struct (⟨0, 1, 23, true, false⟩ :: (⟨1, 1, 3, true, false⟩ :: (⟨2, 1, 24, true, false⟩ :: (⟨3, 1, 120, true, false⟩ :: []))))) 4 32 ((Value.pointer none) :: ((Value.int .i64 0) :: ((Value.int .i64 0) :: ((Value.map none) :: [])))) false false
def u123 : TyI := TyI.mk (TK.int .u32) 1 4 ((Value.int .u32 0) :: []) false false
def u128 : TyI := TyI.mk TK.other 1 0 ((Value.tuple (Array.mk ((Value.slice none 0 0) :: ((Value.bool false) :: [])))) :: []) false false
def u131 : TyI := TyI.mk (TK.arr 13 4 1 false) 13 13 ((Value.bool false) :: ((Value.bool false) :: ((Value.bool false) :: ((Value.bool false) :: ((Value.bool false) :: ((Value.bool false) :: ((Value.bool false) :: ((Value.bool false) :: ((Value.bool false) :: ((Value.bool false) :: ((Value.bool false) :: ((Value.bool false) :: ((Value.bool false) :: []))))))))))))) false false
def u135 : TyI := TyI.mk TK.other 1 0 ((Value.tuple (Array.mk ((Value.agg (Array.mk ((Value.string (ByteArray.mk (Array.mk []))) :: []))) :: ((Value.int .i64 0) :: [])))) :: []) false false
def u138 : TyI := TyI.mk (TK.int .i64) 1 8 ((Value.int .i64 0) :: []) false false
def u139 : TyI := TyI.mk TK.other 1 0 ((Value.tuple (Array.mk ((Value.int .i64 0) :: ((Value.int .i64 0) :: [])))) :: []) false false
def u140 : TyI := TyI.mk TK.func 1 8 (Value.nilFunc :: []) false false
def u144 : TyI := TyI.mk TK.func 1 8 (Value.nilFunc :: []) false false
def u146 : TyI := TyI.mk (TK.arr 16 4 1 false) 16 16 ((Value.bool false) :: ((Value.bool false) :: ((Value.bool false) :: ((Value.bool false) :: ((Value.bool false) :: ((Value.bool false) :: ((Value.bool false) :: ((Value.bool false) :: ((Value.bool false) :: ((Value.bool false) :: ((Value.bool false) :: ((Value.bool false) :: ((Value.bool false) :: ((Value.bool false) :: ((Value.bool false) :: ((Value.bool false) :: [])))))))))))))))) false false
def u147 : TyI := TyI.mk TK.func 1 8 (Value.nilFunc :: []) false false
def u149 : TyI := TyI.mk (TK.struct (⟨0, 1, 27, true, false⟩ :: (⟨1, 1, 35, true, false⟩ :: []))) 2 32 ((Value.int .u64 0) :: ((Value.slice none 0 0) :: [])) false false
def u154 : TyI := TyI.mk (TK.ptr 3) 1 8 ((Value.pointer none) :: []) false false
def u157 : TyI := TyI.mk TK.other 1 0 ((Value.tuple (Array.mk ((Value.int .i64 0) :: ((Value.int .i64 0) :: [])))) :: []) false false
def u158 : TyI := TyI.mk TK.func 1 8 (Value.nilFunc :: []) false false
def u160 : TyI := TyI.mk TK.func 1 8 (Value.nilFunc :: []) false false
def u161 : TyI := TyI.mk TK.func 1 8 (Value.nilFunc :: []) false false
def u163 : TyI := TyI.mk (TK.struct (⟨0, 1, 17, true, false⟩ :: (⟨1, 1, 17, true, false⟩ :: (⟨2, 1, 17, true, false⟩ :: (⟨3, 1, 9, true, false⟩ :: []))))) 4 40 ((Value.pointer none) :: ((Value.pointer none) :: ((Value.pointer none) :: ((Value.string (ByteArray.mk (Array.mk []))) :: [])))) true false
def u164 : TyI := TyI.mk (TK.arr 0 16 1 false) 0 0 [] false false
def u166 : TyI := TyI.mk (TK.struct (⟨0, 0, 164, false, true⟩ :: [])) 0 0 [] true false
def u168 : TyI := TyI.mk (TK.int .u8) 1 1 ((Value.int .u8 0) :: []) false false
def u169 : TyI := TyI.mk (TK.int .u8) 1 1 ((Value.int .u8 0) :: []) false false
def u170 : TyI := TyI.mk TK.func 1 8 (Value.nilFunc :: []) false false
def u171 : TyI := TyI.mk (TK.ptr 5) 1 8 ((Value.pointer none) :: []) false false
def u172 : TyI := TyI.mk (TK.int .i32) 1 4 ((Value.int .i32 0) :: []) false false
def u173 : TyI := TyI.mk (TK.int .i32) 1 4 ((Value.int .i32 0) :: []) false false
def u175 : TyI := TyI.mk (TK.struct (⟨0, 1, 12, true, false⟩ :: (⟨1, 1, 12, true, false⟩ :: (⟨2, 1, 123, true, false⟩ :: (⟨3, 1, 168, true, false⟩ :: (⟨4, 1, 5, true, false⟩ :: (⟨5, 1, 5, true, false⟩ :: (⟨6, 1, 169, true, false⟩ :: (⟨7, 1, 170, true, false⟩ :: (⟨8, 1, 171, true, false⟩ :: (⟨9, 1, 172, true, false⟩ :: (⟨10, 1, 173, true, false⟩ :: [])))))))))))) 11 48 ((Value.int .u64 0) :: ((Value.int .u64 0) :: ((Value.int .u32 0) :: ((Value.int .u8 0) :: ((Value.int .u8 0) :: ((Value.int .u8 0) :: ((Value.int .u8 0) :: (Value.nilFunc :: ((Value.pointer none) :: ((Value.int .i32 0) :: ((Value.int .i32 0) :: []))))))))))) true false
def u176 : TyI := TyI.mk TK.func 1 8 (Value.nilFunc :: []) false false
def u179 : TyI := TyI.mk (TK.ptr 149) 1 8 ((Value.pointer none) :: []) false false
def u181 : TyI := TyI.mk TK.func 1 8 (Value.nilFunc :: []) false false
attribute [go_sem] u2 u3 u4 u5 u6 u7 u8 u9 u10 u11 u12 u13 u14 u15 u16 u17 u18 u19 u22 u23 u24 u25 u27 u28 u29 u30 u31 u32 u33 u35 u37 u38 u40 u41 u43 u46 u47 u48 u49 u51 u52 u54 u55 u56 u57 u60 u61 u63 u64 u65 u66 u67 u70 u72 u74 u75 u78 u80 u82 u86 u87 u88 u89 u92 u93 u95 u96 u97 u98 u104 u106 u107 u108 u111 u112 u114 u115 u119 u120 u122 u123 u128 u131 u135 u138 u139 u140 u144 u146 u147 u149 u154 u157 u158 u160 u161 u163 u164 u166 u168 u169 u170 u171 u172 u173 u175 u176 u179 u181
noncomputable def tys : List (TypeId × TyI) := [
 (2, u2),
 (3, u3),
 (4, u4),
 (5, u5),
 (6, u6),
 (7, u7),
 (8, u8),
 (9, u9),
 (10, u10),
 (11, u11),
 (12, u12),
 (13, u13),
 (14, u14),
 (15, u15),
 (16, u16),
 (17, u17),
 (18, u18),
 (19, u19),
 (22, u22),
 (23, u23),
 (24, u24),
 (25, u25),
 (27, u27),
 (28, u28),
 (29, u29),
 (30, u30),
 (31, u31),
 (32, u32),
 (33, u33),
 (35, u35),
 (37, u37),
 (38, u38),
 (40, u40),
 (41, u41),
 (43, u43),
 (46, u46),
 (47, u47),
 (48, u48),
 (49, u49),
 (51, u51),
 (52, u52),
 (54, u54),
 (55, u55),
 (56, u56),
 (57, u57),
 (60, u60),
 (61, u61),
 (63, u63),
 (64, u64),
 (65, u65),
 (66, u66),
 (67, u67),
 (70, u70),
 (72, u72),
 (74, u74),
 (75, u75),
 (78, u78),
 (80, u80),
 (82, u82),
 (86, u86),
 (87, u87),
 (88, u88),
 (89, u89),
 (92, u92),
 (93, u93),
 (95, u95),
 (96, u96),
 (97, u97),
 (98, u98),
 (104, u104),
 (106, u106),
 (107, u107),
 (108, u108),
 (111, u111),
 (112, u112),
 (114, u114),
 (115, u115),
 (119, u119),
 (120, u120),
 (122, u122),
 (123, u123),
 (128, u128),
 (131, u131),
 (135, u135),
 (138, u138),
 (139, u139),
 (140, u140),
 (144, u144),
 (146, u146),
 (147, u147),
 (149, u149),
 (154, u154),
 (157, u157),
 (158, u158),
 (160, u160),
 (161, u161),
 (163, u163),
 (164, u164),
 (166, u166),
 (168, u168),
 (169, u169),
 (170, u170),
 (171, u171),
 (172, u172),
 (173, u173),
 (175, u175),
 (176, u176),
 (179, u179),
 (181, u181)
]
theorem tysOk : tys.map (fun p => tyOf Tryz.prog p.1) = tys.map (fun p => some p.2) := by kernel_rfl
theorem mixed : Tryz.prog.follows .mixedOrders = true := by kernel_rfl
noncomputable def meths : List (TypeId × List (String × FuncId)) := [(43, [("Err", 107), ("Fence", 108), ("Flush", 109), ("Load", 110), ("Size", 111), ("Store", 112)])]
theorem mok : (meths.all fun p => p.2.all fun q => methB Tryz.prog p.1 q.1 q.2) = true := by kernel_rfl
noncomputable def E : Env := ⟨Tryz.prog, tys, tfind_ok tysOk, mixed, meths, mok⟩
@[go_sem] theorem ty2 : tfind E.tys 2 = some u2 := rfl
@[go_sem] theorem ty3 : tfind E.tys 3 = some u3 := rfl
@[go_sem] theorem ty4 : tfind E.tys 4 = some u4 := rfl
@[go_sem] theorem ty5 : tfind E.tys 5 = some u5 := rfl
@[go_sem] theorem ty6 : tfind E.tys 6 = some u6 := rfl
@[go_sem] theorem ty7 : tfind E.tys 7 = some u7 := rfl
@[go_sem] theorem ty8 : tfind E.tys 8 = some u8 := rfl
@[go_sem] theorem ty9 : tfind E.tys 9 = some u9 := rfl
@[go_sem] theorem ty10 : tfind E.tys 10 = some u10 := rfl
@[go_sem] theorem ty11 : tfind E.tys 11 = some u11 := rfl
@[go_sem] theorem ty12 : tfind E.tys 12 = some u12 := rfl
@[go_sem] theorem ty13 : tfind E.tys 13 = some u13 := rfl
@[go_sem] theorem ty14 : tfind E.tys 14 = some u14 := rfl
@[go_sem] theorem ty18 : tfind E.tys 18 = some u18 := rfl
@[go_sem] theorem ty19 : tfind E.tys 19 = some u19 := rfl
@[go_sem] theorem ty22 : tfind E.tys 22 = some u22 := rfl
@[go_sem] theorem ty24 : tfind E.tys 24 = some u24 := rfl
@[go_sem] theorem ty27 : tfind E.tys 27 = some u27 := rfl
@[go_sem] theorem ty28 : tfind E.tys 28 = some u28 := rfl
@[go_sem] theorem ty31 : tfind E.tys 31 = some u31 := rfl
@[go_sem] theorem ty32 : tfind E.tys 32 = some u32 := rfl
@[go_sem] theorem ty35 : tfind E.tys 35 = some u35 := rfl
@[go_sem] theorem ty37 : tfind E.tys 37 = some u37 := rfl
@[go_sem] theorem ty38 : tfind E.tys 38 = some u38 := rfl
@[go_sem] theorem ty40 : tfind E.tys 40 = some u40 := rfl
@[go_sem] theorem ty46 : tfind E.tys 46 = some u46 := rfl
@[go_sem] theorem ty47 : tfind E.tys 47 = some u47 := rfl
@[go_sem] theorem ty48 : tfind E.tys 48 = some u48 := rfl
@[go_sem] theorem ty51 : tfind E.tys 51 = some u51 := rfl
@[go_sem] theorem ty52 : tfind E.tys 52 = some u52 := rfl
@[go_sem] theorem ty54 : tfind E.tys 54 = some u54 := rfl
@[go_sem] theorem ty70 : tfind E.tys 70 = some u70 := rfl
@[go_sem] theorem ty74 : tfind E.tys 74 = some u74 := rfl
@[go_sem] theorem ty75 : tfind E.tys 75 = some u75 := rfl
@[go_sem] theorem ty78 : tfind E.tys 78 = some u78 := rfl
@[go_sem] theorem ty80 : tfind E.tys 80 = some u80 := rfl
@[go_sem] theorem ty86 : tfind E.tys 86 = some u86 := rfl
@[go_sem] theorem ty87 : tfind E.tys 87 = some u87 := rfl
@[go_sem] theorem ty88 : tfind E.tys 88 = some u88 := rfl
@[go_sem] theorem ty89 : tfind E.tys 89 = some u89 := rfl
@[go_sem] theorem ty95 : tfind E.tys 95 = some u95 := rfl
@[go_sem] theorem ty96 : tfind E.tys 96 = some u96 := rfl
@[go_sem] theorem ty97 : tfind E.tys 97 = some u97 := rfl
@[go_sem] theorem ty104 : tfind E.tys 104 = some u104 := rfl
@[go_sem] theorem ty111 : tfind E.tys 111 = some u111 := rfl
@[go_sem] theorem ty112 : tfind E.tys 112 = some u112 := rfl
@[go_sem] theorem ty114 : tfind E.tys 114 = some u114 := rfl
@[go_sem] theorem ty120 : tfind E.tys 120 = some u120 := rfl
@[go_sem] theorem ty122 : tfind E.tys 122 = some u122 := rfl
@[go_sem] theorem ty123 : tfind E.tys 123 = some u123 := rfl
@[go_sem] theorem ty131 : tfind E.tys 131 = some u131 := rfl
@[go_sem] theorem ty138 : tfind E.tys 138 = some u138 := rfl
@[go_sem] theorem ty146 : tfind E.tys 146 = some u146 := rfl
@[go_sem] theorem ty149 : tfind E.tys 149 = some u149 := rfl
@[go_sem] theorem ty163 : tfind E.tys 163 = some u163 := rfl
@[go_sem] theorem ty164 : tfind E.tys 164 = some u164 := rfl
@[go_sem] theorem ty166 : tfind E.tys 166 = some u166 := rfl
@[go_sem] theorem ty168 : tfind E.tys 168 = some u168 := rfl
@[go_sem] theorem ty169 : tfind E.tys 169 = some u169 := rfl
@[go_sem] theorem ty172 : tfind E.tys 172 = some u172 := rfl
@[go_sem] theorem ty173 : tfind E.tys 173 = some u173 := rfl
@[go_sem] theorem ty175 : tfind E.tys 175 = some u175 := rfl
@[go_sem ↓] theorem wt2 (k : TyI → Prop) : withTy E 2 k = k u2 := rfl
@[go_sem ↓] theorem wt3 (k : TyI → Prop) : withTy E 3 k = k u3 := rfl
@[go_sem ↓] theorem wt4 (k : TyI → Prop) : withTy E 4 k = k u4 := rfl
@[go_sem ↓] theorem wt5 (k : TyI → Prop) : withTy E 5 k = k u5 := rfl
@[go_sem ↓] theorem wt6 (k : TyI → Prop) : withTy E 6 k = k u6 := rfl
@[go_sem ↓] theorem wt7 (k : TyI → Prop) : withTy E 7 k = k u7 := rfl
@[go_sem ↓] theorem wt8 (k : TyI → Prop) : withTy E 8 k = k u8 := rfl
@[go_sem ↓] theorem wt9 (k : TyI → Prop) : withTy E 9 k = k u9 := rfl
@[go_sem ↓] theorem wt10 (k : TyI → Prop) : withTy E 10 k = k u10 := rfl
@[go_sem ↓] theorem wt11 (k : TyI → Prop) : withTy E 11 k = k u11 := rfl
@[go_sem ↓] theorem wt12 (k : TyI → Prop) : withTy E 12 k = k u12 := rfl
@[go_sem ↓] theorem wt13 (k : TyI → Prop) : withTy E 13 k = k u13 := rfl
@[go_sem ↓] theorem wt14 (k : TyI → Prop) : withTy E 14 k = k u14 := rfl
@[go_sem ↓] theorem wt15 (k : TyI → Prop) : withTy E 15 k = k u15 := rfl
@[go_sem ↓] theorem wt16 (k : TyI → Prop) : withTy E 16 k = k u16 := rfl
@[go_sem ↓] theorem wt17 (k : TyI → Prop) : withTy E 17 k = k u17 := rfl
@[go_sem ↓] theorem wt18 (k : TyI → Prop) : withTy E 18 k = k u18 := rfl
@[go_sem ↓] theorem wt19 (k : TyI → Prop) : withTy E 19 k = k u19 := rfl
@[go_sem ↓] theorem wt22 (k : TyI → Prop) : withTy E 22 k = k u22 := rfl
@[go_sem ↓] theorem wt23 (k : TyI → Prop) : withTy E 23 k = k u23 := rfl
@[go_sem ↓] theorem wt24 (k : TyI → Prop) : withTy E 24 k = k u24 := rfl
@[go_sem ↓] theorem wt25 (k : TyI → Prop) : withTy E 25 k = k u25 := rfl
@[go_sem ↓] theorem wt27 (k : TyI → Prop) : withTy E 27 k = k u27 := rfl
@[go_sem ↓] theorem wt28 (k : TyI → Prop) : withTy E 28 k = k u28 := rfl
@[go_sem ↓] theorem wt29 (k : TyI → Prop) : withTy E 29 k = k u29 := rfl
@[go_sem ↓] theorem wt30 (k : TyI → Prop) : withTy E 30 k = k u30 := rfl
@[go_sem ↓] theorem wt31 (k : TyI → Prop) : withTy E 31 k = k u31 := rfl
@[go_sem ↓] theorem wt32 (k : TyI → Prop) : withTy E 32 k = k u32 := rfl
@[go_sem ↓] theorem wt33 (k : TyI → Prop) : withTy E 33 k = k u33 := rfl
@[go_sem ↓] theorem wt35 (k : TyI → Prop) : withTy E 35 k = k u35 := rfl
@[go_sem ↓] theorem wt37 (k : TyI → Prop) : withTy E 37 k = k u37 := rfl
@[go_sem ↓] theorem wt38 (k : TyI → Prop) : withTy E 38 k = k u38 := rfl
@[go_sem ↓] theorem wt40 (k : TyI → Prop) : withTy E 40 k = k u40 := rfl
@[go_sem ↓] theorem wt41 (k : TyI → Prop) : withTy E 41 k = k u41 := rfl
@[go_sem ↓] theorem wt43 (k : TyI → Prop) : withTy E 43 k = k u43 := rfl
@[go_sem ↓] theorem wt46 (k : TyI → Prop) : withTy E 46 k = k u46 := rfl
@[go_sem ↓] theorem wt47 (k : TyI → Prop) : withTy E 47 k = k u47 := rfl
@[go_sem ↓] theorem wt48 (k : TyI → Prop) : withTy E 48 k = k u48 := rfl
@[go_sem ↓] theorem wt49 (k : TyI → Prop) : withTy E 49 k = k u49 := rfl
@[go_sem ↓] theorem wt51 (k : TyI → Prop) : withTy E 51 k = k u51 := rfl
@[go_sem ↓] theorem wt52 (k : TyI → Prop) : withTy E 52 k = k u52 := rfl
@[go_sem ↓] theorem wt54 (k : TyI → Prop) : withTy E 54 k = k u54 := rfl
@[go_sem ↓] theorem wt55 (k : TyI → Prop) : withTy E 55 k = k u55 := rfl
@[go_sem ↓] theorem wt56 (k : TyI → Prop) : withTy E 56 k = k u56 := rfl
@[go_sem ↓] theorem wt57 (k : TyI → Prop) : withTy E 57 k = k u57 := rfl
@[go_sem ↓] theorem wt60 (k : TyI → Prop) : withTy E 60 k = k u60 := rfl
@[go_sem ↓] theorem wt61 (k : TyI → Prop) : withTy E 61 k = k u61 := rfl
@[go_sem ↓] theorem wt63 (k : TyI → Prop) : withTy E 63 k = k u63 := rfl
@[go_sem ↓] theorem wt64 (k : TyI → Prop) : withTy E 64 k = k u64 := rfl
@[go_sem ↓] theorem wt65 (k : TyI → Prop) : withTy E 65 k = k u65 := rfl
@[go_sem ↓] theorem wt66 (k : TyI → Prop) : withTy E 66 k = k u66 := rfl
@[go_sem ↓] theorem wt67 (k : TyI → Prop) : withTy E 67 k = k u67 := rfl
@[go_sem ↓] theorem wt70 (k : TyI → Prop) : withTy E 70 k = k u70 := rfl
@[go_sem ↓] theorem wt72 (k : TyI → Prop) : withTy E 72 k = k u72 := rfl
@[go_sem ↓] theorem wt74 (k : TyI → Prop) : withTy E 74 k = k u74 := rfl
@[go_sem ↓] theorem wt75 (k : TyI → Prop) : withTy E 75 k = k u75 := rfl
@[go_sem ↓] theorem wt78 (k : TyI → Prop) : withTy E 78 k = k u78 := rfl
@[go_sem ↓] theorem wt80 (k : TyI → Prop) : withTy E 80 k = k u80 := rfl
@[go_sem ↓] theorem wt82 (k : TyI → Prop) : withTy E 82 k = k u82 := rfl
@[go_sem ↓] theorem wt86 (k : TyI → Prop) : withTy E 86 k = k u86 := rfl
@[go_sem ↓] theorem wt87 (k : TyI → Prop) : withTy E 87 k = k u87 := rfl
@[go_sem ↓] theorem wt88 (k : TyI → Prop) : withTy E 88 k = k u88 := rfl
@[go_sem ↓] theorem wt89 (k : TyI → Prop) : withTy E 89 k = k u89 := rfl
@[go_sem ↓] theorem wt92 (k : TyI → Prop) : withTy E 92 k = k u92 := rfl
@[go_sem ↓] theorem wt93 (k : TyI → Prop) : withTy E 93 k = k u93 := rfl
@[go_sem ↓] theorem wt95 (k : TyI → Prop) : withTy E 95 k = k u95 := rfl
@[go_sem ↓] theorem wt96 (k : TyI → Prop) : withTy E 96 k = k u96 := rfl
@[go_sem ↓] theorem wt97 (k : TyI → Prop) : withTy E 97 k = k u97 := rfl
@[go_sem ↓] theorem wt98 (k : TyI → Prop) : withTy E 98 k = k u98 := rfl
@[go_sem ↓] theorem wt104 (k : TyI → Prop) : withTy E 104 k = k u104 := rfl
@[go_sem ↓] theorem wt106 (k : TyI → Prop) : withTy E 106 k = k u106 := rfl
@[go_sem ↓] theorem wt107 (k : TyI → Prop) : withTy E 107 k = k u107 := rfl
@[go_sem ↓] theorem wt108 (k : TyI → Prop) : withTy E 108 k = k u108 := rfl
@[go_sem ↓] theorem wt111 (k : TyI → Prop) : withTy E 111 k = k u111 := rfl
@[go_sem ↓] theorem wt112 (k : TyI → Prop) : withTy E 112 k = k u112 := rfl
@[go_sem ↓] theorem wt114 (k : TyI → Prop) : withTy E 114 k = k u114 := rfl
@[go_sem ↓] theorem wt115 (k : TyI → Prop) : withTy E 115 k = k u115 := rfl
@[go_sem ↓] theorem wt119 (k : TyI → Prop) : withTy E 119 k = k u119 := rfl
@[go_sem ↓] theorem wt120 (k : TyI → Prop) : withTy E 120 k = k u120 := rfl
@[go_sem ↓] theorem wt122 (k : TyI → Prop) : withTy E 122 k = k u122 := rfl
@[go_sem ↓] theorem wt123 (k : TyI → Prop) : withTy E 123 k = k u123 := rfl
@[go_sem ↓] theorem wt128 (k : TyI → Prop) : withTy E 128 k = k u128 := rfl
@[go_sem ↓] theorem wt131 (k : TyI → Prop) : withTy E 131 k = k u131 := rfl
@[go_sem ↓] theorem wt135 (k : TyI → Prop) : withTy E 135 k = k u135 := rfl
@[go_sem ↓] theorem wt138 (k : TyI → Prop) : withTy E 138 k = k u138 := rfl
@[go_sem ↓] theorem wt139 (k : TyI → Prop) : withTy E 139 k = k u139 := rfl
@[go_sem ↓] theorem wt140 (k : TyI → Prop) : withTy E 140 k = k u140 := rfl
@[go_sem ↓] theorem wt144 (k : TyI → Prop) : withTy E 144 k = k u144 := rfl
@[go_sem ↓] theorem wt146 (k : TyI → Prop) : withTy E 146 k = k u146 := rfl
@[go_sem ↓] theorem wt147 (k : TyI → Prop) : withTy E 147 k = k u147 := rfl
@[go_sem ↓] theorem wt149 (k : TyI → Prop) : withTy E 149 k = k u149 := rfl
@[go_sem ↓] theorem wt154 (k : TyI → Prop) : withTy E 154 k = k u154 := rfl
@[go_sem ↓] theorem wt157 (k : TyI → Prop) : withTy E 157 k = k u157 := rfl
@[go_sem ↓] theorem wt158 (k : TyI → Prop) : withTy E 158 k = k u158 := rfl
@[go_sem ↓] theorem wt160 (k : TyI → Prop) : withTy E 160 k = k u160 := rfl
@[go_sem ↓] theorem wt161 (k : TyI → Prop) : withTy E 161 k = k u161 := rfl
@[go_sem ↓] theorem wt163 (k : TyI → Prop) : withTy E 163 k = k u163 := rfl
@[go_sem ↓] theorem wt164 (k : TyI → Prop) : withTy E 164 k = k u164 := rfl
@[go_sem ↓] theorem wt166 (k : TyI → Prop) : withTy E 166 k = k u166 := rfl
@[go_sem ↓] theorem wt168 (k : TyI → Prop) : withTy E 168 k = k u168 := rfl
@[go_sem ↓] theorem wt169 (k : TyI → Prop) : withTy E 169 k = k u169 := rfl
@[go_sem ↓] theorem wt170 (k : TyI → Prop) : withTy E 170 k = k u170 := rfl
@[go_sem ↓] theorem wt171 (k : TyI → Prop) : withTy E 171 k = k u171 := rfl
@[go_sem ↓] theorem wt172 (k : TyI → Prop) : withTy E 172 k = k u172 := rfl
@[go_sem ↓] theorem wt173 (k : TyI → Prop) : withTy E 173 k = k u173 := rfl
@[go_sem ↓] theorem wt175 (k : TyI → Prop) : withTy E 175 k = k u175 := rfl
@[go_sem ↓] theorem wt176 (k : TyI → Prop) : withTy E 176 k = k u176 := rfl
@[go_sem ↓] theorem wt179 (k : TyI → Prop) : withTy E 179 k = k u179 := rfl
@[go_sem ↓] theorem wt181 (k : TyI → Prop) : withTy E 181 k = k u181 := rfl
@[go_sem] theorem mf_43Err : mfind E.meths 43 "Err" = some 107 := by kernel_rfl
@[go_sem] theorem isl_43Err : Glob.islots "Err" = 0 := by kernel_rfl
@[go_sem] theorem mf_43Fence : mfind E.meths 43 "Fence" = some 108 := by kernel_rfl
@[go_sem] theorem isl_43Fence : Glob.islots "Fence" = 8 := by kernel_rfl
@[go_sem] theorem mf_43Flush : mfind E.meths 43 "Flush" = some 109 := by kernel_rfl
@[go_sem] theorem isl_43Flush : Glob.islots "Flush" = 0 := by kernel_rfl
@[go_sem] theorem mf_43Load : mfind E.meths 43 "Load" = some 110 := by kernel_rfl
@[go_sem] theorem isl_43Load : Glob.islots "Load" = 0 := by kernel_rfl
@[go_sem] theorem mf_43Size : mfind E.meths 43 "Size" = some 111 := by kernel_rfl
@[go_sem] theorem isl_43Size : Glob.islots "Size" = 0 := by kernel_rfl
@[go_sem] theorem mf_43Store : mfind E.meths 43 "Store" = some 112 := by kernel_rfl
@[go_sem] theorem isl_43Store : Glob.islots "Store" = 8 := by kernel_rfl
attribute [go_sem] Int.reduceToNat Int.reducePow Nat.reducePow Int.reduceAdd Int.reduceMul Int.reduceSub Int.reduceNeg Nat.reduceAdd Nat.reduceMul Nat.reduceSub Nat.reduceEqDiff Nat.reduceLT Nat.reduceLeDiff
end Go.Proofs.YtegekpjkbedngaaGreat
