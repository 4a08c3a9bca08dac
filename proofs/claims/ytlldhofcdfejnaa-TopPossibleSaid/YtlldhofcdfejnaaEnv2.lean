/- The types of this program, as tables, and what is known of its package-level variables. No conditions. -/
import Derived.Test.YtlldhofcdfejnaaAc4
import Derived.Test.YtlldhofcdfejnaaProg
import Derived.KernelRfl
namespace Go.Proofs.Ytlldhofcdfejnaa
open Go Go.Ab
noncomputable instance : Glob where
 G := fun _ _ => True
 mono := fun _ _ _ => trivial
 tab := []
 bld := 0
 slots := slotOf [(28, 25), (13, 26), (33, 6), (18, 6), (16, 6), (31, 6), (17, 6), (4, 26)]
 ok := fun _ h => by simp [gfind] at h
instance : Quick := ⟨fun h => h⟩
@[go_sem] theorem bldE : (Glob.bld : TypeId) = 0 := rfl
@[go_sem] theorem slotsE (g : Nat) : Glob.slots g = slotOf [(28, 25), (13, 26), (33, 6), (18, 6), (16, 6), (31, 6), (17, 6), (4, 26)] g := rfl
noncomputable def tys : List (TypeId × TyI) := [
 (2, (TyI.mk (TK.int .i64) 1 8 ((Value.int .i64 0) :: []) false false)),
 (3, (TyI.mk (TK.int .i64) 1 8 ((Value.int .i64 0) :: []) false false)),
 (4, (TyI.mk TK.bool 1 1 ((Value.bool false) :: []) false false)),
 (5, (TyI.mk (TK.int .u8) 1 1 ((Value.int .u8 0) :: []) false false)),
 (6, (TyI.mk (TK.int .u8) 1 1 ((Value.int .u8 0) :: []) false false)),
 (7, (TyI.mk (TK.struct (⟨0, 1, 2, true, false⟩ :: (⟨1, 1, 3, true, false⟩ :: (⟨2, 1, 4, true, false⟩ :: (⟨3, 1, 6, true, false⟩ :: []))))) 4 24 ((Value.int .i64 0) :: ((Value.int .i64 0) :: ((Value.bool false) :: ((Value.int .u8 0) :: [])))) false false)),
 (8, (TyI.mk (TK.struct (⟨0, 1, 2, true, false⟩ :: (⟨1, 1, 3, true, false⟩ :: (⟨2, 1, 4, true, false⟩ :: (⟨3, 1, 6, true, false⟩ :: []))))) 4 24 ((Value.int .i64 0) :: ((Value.int .i64 0) :: ((Value.bool false) :: ((Value.int .u8 0) :: [])))) false false)),
 (9, (TyI.mk TK.str 1 16 ((Value.string (ByteArray.mk (Array.mk []))) :: []) false false)),
 (10, (TyI.mk TK.str 1 16 ((Value.string (ByteArray.mk (Array.mk []))) :: []) false false)),
 (11, (TyI.mk TK.str 1 16 ((Value.string (ByteArray.mk (Array.mk []))) :: []) false false)),
 (12, (TyI.mk (TK.int .u64) 1 8 ((Value.int .u64 0) :: []) false false)),
 (13, (TyI.mk (TK.struct (⟨0, 1, 9, true, false⟩ :: (⟨1, 1, 12, true, false⟩ :: []))) 2 24 ((Value.string (ByteArray.mk (Array.mk []))) :: ((Value.int .u64 0) :: [])) true false)),
 (14, (TyI.mk (TK.struct (⟨0, 1, 9, true, false⟩ :: (⟨1, 1, 12, true, false⟩ :: []))) 2 24 ((Value.string (ByteArray.mk (Array.mk []))) :: ((Value.int .u64 0) :: [])) true false)),
 (15, (TyI.mk (TK.ptr 104) 1 8 ((Value.pointer none) :: []) false false)),
 (16, (TyI.mk (TK.ptr 107) 1 8 ((Value.pointer none) :: []) false false)),
 (17, (TyI.mk (TK.ptr 116) 1 8 ((Value.pointer none) :: []) false false)),
 (22, (TyI.mk (TK.slice 47 4 16 (Value.agg (Array.mk ((Value.int .u8 0) :: ((Value.int .u8 0) :: ((Value.int .u8 0) :: ((Value.int .u64 0) :: []))))))) 1 24 ((Value.slice none 0 0) :: []) false false)),
 (23, (TyI.mk (TK.int .u64) 1 8 ((Value.int .u64 0) :: []) false false)),
 (24, (TyI.mk (TK.ptr 71) 1 8 ((Value.pointer none) :: []) false false)),
 (26, (TyI.mk TK.other 1 0 ((Value.tuple (Array.mk ((Value.int .u64 0) :: ((Value.bool false) :: [])))) :: []) false false)),
 (28, (TyI.mk (TK.slice 30 1 16 (Value.agg (Array.mk ((Value.string (ByteArray.mk (Array.mk []))) :: [])))) 1 24 ((Value.slice none 0 0) :: []) false false)),
 (30, (TyI.mk (TK.struct (⟨0, 1, 9, true, false⟩ :: [])) 1 16 ((Value.string (ByteArray.mk (Array.mk []))) :: []) false false)),
 (31, (TyI.mk (TK.int .i64) 1 8 ((Value.int .i64 0) :: []) false false)),
 (32, (TyI.mk TK.other 1 0 ((Value.tuple (Array.mk ((Value.agg (Array.mk ((Value.string (ByteArray.mk (Array.mk []))) :: []))) :: ((Value.int .i64 0) :: [])))) :: []) false false)),
 (33, (TyI.mk TK.func 1 8 (Value.nilFunc :: []) false false)),
 (37, (TyI.mk TK.other 1 0 ((Value.tuple (Array.mk ((Value.int .u64 0) :: ((Value.int .i64 0) :: [])))) :: []) false false)),
 (40, (TyI.mk TK.func 1 8 (Value.nilFunc :: []) false false)),
 (41, (TyI.mk TK.func 1 8 (Value.nilFunc :: []) false false)),
 (42, (TyI.mk TK.other 1 0 ((Value.tuple (Array.mk ((Value.pointer none) :: ((Value.int .i64 0) :: [])))) :: []) false false)),
 (44, (TyI.mk (TK.ptr 74) 1 8 ((Value.pointer none) :: []) false false)),
 (46, (TyI.mk (TK.struct (⟨0, 1, 5, true, false⟩ :: (⟨1, 1, 5, true, false⟩ :: (⟨2, 1, 5, true, false⟩ :: (⟨3, 1, 23, true, false⟩ :: []))))) 4 16 ((Value.int .u8 0) :: ((Value.int .u8 0) :: ((Value.int .u8 0) :: ((Value.int .u64 0) :: [])))) false false)),
 (47, (TyI.mk (TK.struct (⟨0, 1, 5, true, false⟩ :: (⟨1, 1, 5, true, false⟩ :: (⟨2, 1, 5, true, false⟩ :: (⟨3, 1, 23, true, false⟩ :: []))))) 4 16 ((Value.int .u8 0) :: ((Value.int .u8 0) :: ((Value.int .u8 0) :: ((Value.int .u64 0) :: [])))) false false)),
 (48, (TyI.mk TK.func 1 8 (Value.nilFunc :: []) false false)),
 (51, (TyI.mk (TK.slice 5 1 1 (Value.int .u8 0)) 1 24 ((Value.slice none 0 0) :: []) false false)),
 (52, (TyI.mk (TK.slice 3 1 8 (Value.int .i64 0)) 1 24 ((Value.slice none 0 0) :: []) false false)),
 (53, (TyI.mk (TK.slice 78 1 24 (Value.slice none 0 0)) 1 24 ((Value.slice none 0 0) :: []) false false)),
 (55, (TyI.mk (TK.struct (⟨0, 1, 51, true, false⟩ :: (⟨1, 1, 52, true, false⟩ :: (⟨2, 1, 53, true, false⟩ :: [])))) 3 72 ((Value.slice none 0 0) :: ((Value.slice none 0 0) :: ((Value.slice none 0 0) :: []))) false false)),
 (57, (TyI.mk TK.func 1 8 (Value.nilFunc :: []) false false)),
 (58, (TyI.mk TK.other 1 0 ((Value.tuple (Array.mk ((Value.slice none 0 0) :: ((Value.bool false) :: [])))) :: []) false false)),
 (61, (TyI.mk TK.func 1 8 (Value.nilFunc :: []) false false)),
 (64, (TyI.mk TK.func 1 8 (Value.nilFunc :: []) false false)),
 (67, (TyI.mk (TK.slice 23 1 8 (Value.int .u64 0)) 1 24 ((Value.slice none 0 0) :: []) false false)),
 (68, (TyI.mk (TK.slice 80 2 32 (Value.agg (Array.mk ((Value.int .u64 0) :: ((Value.slice none 0 0) :: []))))) 1 24 ((Value.slice none 0 0) :: []) false false)),
 (69, (TyI.mk (TK.arr 8 44 1 false) 8 64 ((Value.pointer none) :: ((Value.pointer none) :: ((Value.pointer none) :: ((Value.pointer none) :: ((Value.pointer none) :: ((Value.pointer none) :: ((Value.pointer none) :: ((Value.pointer none) :: [])))))))) false false)),
 (71, (TyI.mk (TK.struct (⟨0, 1, 67, true, false⟩ :: (⟨1, 1, 67, true, false⟩ :: (⟨2, 1, 68, true, false⟩ :: (⟨3, 8, 69, true, true⟩ :: (⟨11, 1, 4, true, false⟩ :: (⟨12, 1, 4, true, false⟩ :: (⟨13, 1, 3, true, false⟩ :: (⟨14, 1, 23, true, false⟩ :: []))))))))) 15 160 ((Value.slice none 0 0) :: ((Value.slice none 0 0) :: ((Value.slice none 0 0) :: ((Value.pointer none) :: ((Value.pointer none) :: ((Value.pointer none) :: ((Value.pointer none) :: ((Value.pointer none) :: ((Value.pointer none) :: ((Value.pointer none) :: ((Value.pointer none) :: ((Value.bool false) :: ((Value.bool false) :: ((Value.int .i64 0) :: ((Value.int .u64 0) :: []))))))))))))))) false false)),
 (72, (TyI.mk (TK.map 3 23 (Value.int .u64 0)) 1 8 ((Value.map none) :: []) false false)),
 (74, (TyI.mk (TK.struct (⟨0, 1, 24, true, false⟩ :: (⟨1, 1, 3, true, false⟩ :: (⟨2, 1, 31, true, false⟩ :: (⟨3, 1, 72, true, false⟩ :: []))))) 4 32 ((Value.pointer none) :: ((Value.int .i64 0) :: ((Value.int .i64 0) :: ((Value.map none) :: [])))) false false)),
 (77, (TyI.mk (TK.ptr 80) 1 8 ((Value.pointer none) :: []) false false)),
 (78, (TyI.mk (TK.slice 88 2 16 (Value.agg (Array.mk ((Value.int .u64 0) :: ((Value.int .u64 0) :: []))))) 1 24 ((Value.slice none 0 0) :: []) false false)),
 (79, (TyI.mk (TK.struct (⟨0, 1, 23, true, false⟩ :: (⟨1, 1, 78, true, false⟩ :: []))) 2 32 ((Value.int .u64 0) :: ((Value.slice none 0 0) :: [])) false false)),
 (80, (TyI.mk (TK.struct (⟨0, 1, 23, true, false⟩ :: (⟨1, 1, 78, true, false⟩ :: []))) 2 32 ((Value.int .u64 0) :: ((Value.slice none 0 0) :: [])) false false)),
 (81, (TyI.mk TK.func 1 8 (Value.nilFunc :: []) false false)),
 (82, (TyI.mk TK.func 1 8 (Value.nilFunc :: []) false false)),
 (85, (TyI.mk TK.other 1 0 ((Value.tuple (Array.mk ((Value.int .u64 0) :: ((Value.int .u64 0) :: [])))) :: []) false false)),
 (86, (TyI.mk TK.func 1 8 (Value.nilFunc :: []) false false)),
 (87, (TyI.mk (TK.struct (⟨0, 1, 23, true, false⟩ :: (⟨1, 1, 23, true, false⟩ :: []))) 2 16 ((Value.int .u64 0) :: ((Value.int .u64 0) :: [])) false false)),
 (88, (TyI.mk (TK.struct (⟨0, 1, 23, true, false⟩ :: (⟨1, 1, 23, true, false⟩ :: []))) 2 16 ((Value.int .u64 0) :: ((Value.int .u64 0) :: [])) false false)),
 (89, (TyI.mk (TK.int .u64) 1 8 ((Value.int .u64 0) :: []) false false)),
 (91, (TyI.mk TK.func 1 8 (Value.nilFunc :: []) false false)),
 (93, (TyI.mk (TK.arr 8 23 1 false) 8 64 ((Value.int .u64 0) :: ((Value.int .u64 0) :: ((Value.int .u64 0) :: ((Value.int .u64 0) :: ((Value.int .u64 0) :: ((Value.int .u64 0) :: ((Value.int .u64 0) :: ((Value.int .u64 0) :: [])))))))) false false)),
 (95, (TyI.mk TK.func 1 8 (Value.nilFunc :: []) false false)),
 (98, (TyI.mk TK.func 1 8 (Value.nilFunc :: []) false false)),
 (101, (TyI.mk (TK.ptr 93) 1 8 ((Value.pointer none) :: []) false false)),
 (102, (TyI.mk TK.func 1 8 (Value.nilFunc :: []) false false)),
 (104, (TyI.mk (TK.struct (⟨0, 1, 17, true, false⟩ :: (⟨1, 1, 17, true, false⟩ :: (⟨2, 1, 17, true, false⟩ :: (⟨3, 1, 9, true, false⟩ :: []))))) 4 40 ((Value.pointer none) :: ((Value.pointer none) :: ((Value.pointer none) :: ((Value.string (ByteArray.mk (Array.mk []))) :: [])))) true false)),
 (105, (TyI.mk (TK.arr 0 16 1 false) 0 0 [] false false)),
 (107, (TyI.mk (TK.struct (⟨0, 0, 105, false, true⟩ :: [])) 0 0 [] true false)),
 (108, (TyI.mk (TK.int .u32) 1 4 ((Value.int .u32 0) :: []) false false)),
 (109, (TyI.mk (TK.int .u8) 1 1 ((Value.int .u8 0) :: []) false false)),
 (110, (TyI.mk (TK.int .u8) 1 1 ((Value.int .u8 0) :: []) false false)),
 (111, (TyI.mk TK.func 1 8 (Value.nilFunc :: []) false false)),
 (112, (TyI.mk (TK.ptr 5) 1 8 ((Value.pointer none) :: []) false false)),
 (113, (TyI.mk (TK.int .i32) 1 4 ((Value.int .i32 0) :: []) false false)),
 (114, (TyI.mk (TK.int .i32) 1 4 ((Value.int .i32 0) :: []) false false)),
 (116, (TyI.mk (TK.struct (⟨0, 1, 12, true, false⟩ :: (⟨1, 1, 12, true, false⟩ :: (⟨2, 1, 108, true, false⟩ :: (⟨3, 1, 109, true, false⟩ :: (⟨4, 1, 5, true, false⟩ :: (⟨5, 1, 5, true, false⟩ :: (⟨6, 1, 110, true, false⟩ :: (⟨7, 1, 111, true, false⟩ :: (⟨8, 1, 112, true, false⟩ :: (⟨9, 1, 113, true, false⟩ :: (⟨10, 1, 114, true, false⟩ :: [])))))))))))) 11 48 ((Value.int .u64 0) :: ((Value.int .u64 0) :: ((Value.int .u32 0) :: ((Value.int .u8 0) :: ((Value.int .u8 0) :: ((Value.int .u8 0) :: ((Value.int .u8 0) :: (Value.nilFunc :: ((Value.pointer none) :: ((Value.int .i32 0) :: ((Value.int .i32 0) :: []))))))))))) true false))
]
theorem tysOk : tys.map (fun p => tyOf Try.prog p.1) = tys.map (fun p => some p.2) := by kernel_rfl
theorem mixed : Try.prog.follows .mixedOrders = true := by kernel_rfl
noncomputable def E : Env := ⟨Try.prog, tys, tfind_ok tysOk, mixed⟩
@[go_sem] theorem ty2 : tfind E.tys 2 = some (TyI.mk (TK.int .i64) 1 8 ((Value.int .i64 0) :: []) false false) := rfl
@[go_sem] theorem ty3 : tfind E.tys 3 = some (TyI.mk (TK.int .i64) 1 8 ((Value.int .i64 0) :: []) false false) := rfl
@[go_sem] theorem ty4 : tfind E.tys 4 = some (TyI.mk TK.bool 1 1 ((Value.bool false) :: []) false false) := rfl
@[go_sem] theorem ty5 : tfind E.tys 5 = some (TyI.mk (TK.int .u8) 1 1 ((Value.int .u8 0) :: []) false false) := rfl
@[go_sem] theorem ty6 : tfind E.tys 6 = some (TyI.mk (TK.int .u8) 1 1 ((Value.int .u8 0) :: []) false false) := rfl
@[go_sem] theorem ty7 : tfind E.tys 7 = some (TyI.mk (TK.struct (⟨0, 1, 2, true, false⟩ :: (⟨1, 1, 3, true, false⟩ :: (⟨2, 1, 4, true, false⟩ :: (⟨3, 1, 6, true, false⟩ :: []))))) 4 24 ((Value.int .i64 0) :: ((Value.int .i64 0) :: ((Value.bool false) :: ((Value.int .u8 0) :: [])))) false false) := rfl
@[go_sem] theorem ty8 : tfind E.tys 8 = some (TyI.mk (TK.struct (⟨0, 1, 2, true, false⟩ :: (⟨1, 1, 3, true, false⟩ :: (⟨2, 1, 4, true, false⟩ :: (⟨3, 1, 6, true, false⟩ :: []))))) 4 24 ((Value.int .i64 0) :: ((Value.int .i64 0) :: ((Value.bool false) :: ((Value.int .u8 0) :: [])))) false false) := rfl
@[go_sem] theorem ty9 : tfind E.tys 9 = some (TyI.mk TK.str 1 16 ((Value.string (ByteArray.mk (Array.mk []))) :: []) false false) := rfl
@[go_sem] theorem ty10 : tfind E.tys 10 = some (TyI.mk TK.str 1 16 ((Value.string (ByteArray.mk (Array.mk []))) :: []) false false) := rfl
@[go_sem] theorem ty11 : tfind E.tys 11 = some (TyI.mk TK.str 1 16 ((Value.string (ByteArray.mk (Array.mk []))) :: []) false false) := rfl
@[go_sem] theorem ty12 : tfind E.tys 12 = some (TyI.mk (TK.int .u64) 1 8 ((Value.int .u64 0) :: []) false false) := rfl
@[go_sem] theorem ty13 : tfind E.tys 13 = some (TyI.mk (TK.struct (⟨0, 1, 9, true, false⟩ :: (⟨1, 1, 12, true, false⟩ :: []))) 2 24 ((Value.string (ByteArray.mk (Array.mk []))) :: ((Value.int .u64 0) :: [])) true false) := rfl
@[go_sem] theorem ty14 : tfind E.tys 14 = some (TyI.mk (TK.struct (⟨0, 1, 9, true, false⟩ :: (⟨1, 1, 12, true, false⟩ :: []))) 2 24 ((Value.string (ByteArray.mk (Array.mk []))) :: ((Value.int .u64 0) :: [])) true false) := rfl
@[go_sem] theorem ty22 : tfind E.tys 22 = some (TyI.mk (TK.slice 47 4 16 (Value.agg (Array.mk ((Value.int .u8 0) :: ((Value.int .u8 0) :: ((Value.int .u8 0) :: ((Value.int .u64 0) :: []))))))) 1 24 ((Value.slice none 0 0) :: []) false false) := rfl
@[go_sem] theorem ty23 : tfind E.tys 23 = some (TyI.mk (TK.int .u64) 1 8 ((Value.int .u64 0) :: []) false false) := rfl
@[go_sem] theorem ty28 : tfind E.tys 28 = some (TyI.mk (TK.slice 30 1 16 (Value.agg (Array.mk ((Value.string (ByteArray.mk (Array.mk []))) :: [])))) 1 24 ((Value.slice none 0 0) :: []) false false) := rfl
@[go_sem] theorem ty30 : tfind E.tys 30 = some (TyI.mk (TK.struct (⟨0, 1, 9, true, false⟩ :: [])) 1 16 ((Value.string (ByteArray.mk (Array.mk []))) :: []) false false) := rfl
@[go_sem] theorem ty31 : tfind E.tys 31 = some (TyI.mk (TK.int .i64) 1 8 ((Value.int .i64 0) :: []) false false) := rfl
@[go_sem] theorem ty46 : tfind E.tys 46 = some (TyI.mk (TK.struct (⟨0, 1, 5, true, false⟩ :: (⟨1, 1, 5, true, false⟩ :: (⟨2, 1, 5, true, false⟩ :: (⟨3, 1, 23, true, false⟩ :: []))))) 4 16 ((Value.int .u8 0) :: ((Value.int .u8 0) :: ((Value.int .u8 0) :: ((Value.int .u64 0) :: [])))) false false) := rfl
@[go_sem] theorem ty47 : tfind E.tys 47 = some (TyI.mk (TK.struct (⟨0, 1, 5, true, false⟩ :: (⟨1, 1, 5, true, false⟩ :: (⟨2, 1, 5, true, false⟩ :: (⟨3, 1, 23, true, false⟩ :: []))))) 4 16 ((Value.int .u8 0) :: ((Value.int .u8 0) :: ((Value.int .u8 0) :: ((Value.int .u64 0) :: [])))) false false) := rfl
@[go_sem] theorem ty51 : tfind E.tys 51 = some (TyI.mk (TK.slice 5 1 1 (Value.int .u8 0)) 1 24 ((Value.slice none 0 0) :: []) false false) := rfl
@[go_sem] theorem ty52 : tfind E.tys 52 = some (TyI.mk (TK.slice 3 1 8 (Value.int .i64 0)) 1 24 ((Value.slice none 0 0) :: []) false false) := rfl
@[go_sem] theorem ty53 : tfind E.tys 53 = some (TyI.mk (TK.slice 78 1 24 (Value.slice none 0 0)) 1 24 ((Value.slice none 0 0) :: []) false false) := rfl
@[go_sem] theorem ty55 : tfind E.tys 55 = some (TyI.mk (TK.struct (⟨0, 1, 51, true, false⟩ :: (⟨1, 1, 52, true, false⟩ :: (⟨2, 1, 53, true, false⟩ :: [])))) 3 72 ((Value.slice none 0 0) :: ((Value.slice none 0 0) :: ((Value.slice none 0 0) :: []))) false false) := rfl
@[go_sem] theorem ty67 : tfind E.tys 67 = some (TyI.mk (TK.slice 23 1 8 (Value.int .u64 0)) 1 24 ((Value.slice none 0 0) :: []) false false) := rfl
@[go_sem] theorem ty68 : tfind E.tys 68 = some (TyI.mk (TK.slice 80 2 32 (Value.agg (Array.mk ((Value.int .u64 0) :: ((Value.slice none 0 0) :: []))))) 1 24 ((Value.slice none 0 0) :: []) false false) := rfl
@[go_sem] theorem ty69 : tfind E.tys 69 = some (TyI.mk (TK.arr 8 44 1 false) 8 64 ((Value.pointer none) :: ((Value.pointer none) :: ((Value.pointer none) :: ((Value.pointer none) :: ((Value.pointer none) :: ((Value.pointer none) :: ((Value.pointer none) :: ((Value.pointer none) :: [])))))))) false false) := rfl
@[go_sem] theorem ty71 : tfind E.tys 71 = some (TyI.mk (TK.struct (⟨0, 1, 67, true, false⟩ :: (⟨1, 1, 67, true, false⟩ :: (⟨2, 1, 68, true, false⟩ :: (⟨3, 8, 69, true, true⟩ :: (⟨11, 1, 4, true, false⟩ :: (⟨12, 1, 4, true, false⟩ :: (⟨13, 1, 3, true, false⟩ :: (⟨14, 1, 23, true, false⟩ :: []))))))))) 15 160 ((Value.slice none 0 0) :: ((Value.slice none 0 0) :: ((Value.slice none 0 0) :: ((Value.pointer none) :: ((Value.pointer none) :: ((Value.pointer none) :: ((Value.pointer none) :: ((Value.pointer none) :: ((Value.pointer none) :: ((Value.pointer none) :: ((Value.pointer none) :: ((Value.bool false) :: ((Value.bool false) :: ((Value.int .i64 0) :: ((Value.int .u64 0) :: []))))))))))))))) false false) := rfl
@[go_sem] theorem ty72 : tfind E.tys 72 = some (TyI.mk (TK.map 3 23 (Value.int .u64 0)) 1 8 ((Value.map none) :: []) false false) := rfl
@[go_sem] theorem ty74 : tfind E.tys 74 = some (TyI.mk (TK.struct (⟨0, 1, 24, true, false⟩ :: (⟨1, 1, 3, true, false⟩ :: (⟨2, 1, 31, true, false⟩ :: (⟨3, 1, 72, true, false⟩ :: []))))) 4 32 ((Value.pointer none) :: ((Value.int .i64 0) :: ((Value.int .i64 0) :: ((Value.map none) :: [])))) false false) := rfl
@[go_sem] theorem ty78 : tfind E.tys 78 = some (TyI.mk (TK.slice 88 2 16 (Value.agg (Array.mk ((Value.int .u64 0) :: ((Value.int .u64 0) :: []))))) 1 24 ((Value.slice none 0 0) :: []) false false) := rfl
@[go_sem] theorem ty79 : tfind E.tys 79 = some (TyI.mk (TK.struct (⟨0, 1, 23, true, false⟩ :: (⟨1, 1, 78, true, false⟩ :: []))) 2 32 ((Value.int .u64 0) :: ((Value.slice none 0 0) :: [])) false false) := rfl
@[go_sem] theorem ty80 : tfind E.tys 80 = some (TyI.mk (TK.struct (⟨0, 1, 23, true, false⟩ :: (⟨1, 1, 78, true, false⟩ :: []))) 2 32 ((Value.int .u64 0) :: ((Value.slice none 0 0) :: [])) false false) := rfl
@[go_sem] theorem ty87 : tfind E.tys 87 = some (TyI.mk (TK.struct (⟨0, 1, 23, true, false⟩ :: (⟨1, 1, 23, true, false⟩ :: []))) 2 16 ((Value.int .u64 0) :: ((Value.int .u64 0) :: [])) false false) := rfl
@[go_sem] theorem ty88 : tfind E.tys 88 = some (TyI.mk (TK.struct (⟨0, 1, 23, true, false⟩ :: (⟨1, 1, 23, true, false⟩ :: []))) 2 16 ((Value.int .u64 0) :: ((Value.int .u64 0) :: [])) false false) := rfl
@[go_sem] theorem ty89 : tfind E.tys 89 = some (TyI.mk (TK.int .u64) 1 8 ((Value.int .u64 0) :: []) false false) := rfl
@[go_sem] theorem ty93 : tfind E.tys 93 = some (TyI.mk (TK.arr 8 23 1 false) 8 64 ((Value.int .u64 0) :: ((Value.int .u64 0) :: ((Value.int .u64 0) :: ((Value.int .u64 0) :: ((Value.int .u64 0) :: ((Value.int .u64 0) :: ((Value.int .u64 0) :: ((Value.int .u64 0) :: [])))))))) false false) := rfl
@[go_sem] theorem ty104 : tfind E.tys 104 = some (TyI.mk (TK.struct (⟨0, 1, 17, true, false⟩ :: (⟨1, 1, 17, true, false⟩ :: (⟨2, 1, 17, true, false⟩ :: (⟨3, 1, 9, true, false⟩ :: []))))) 4 40 ((Value.pointer none) :: ((Value.pointer none) :: ((Value.pointer none) :: ((Value.string (ByteArray.mk (Array.mk []))) :: [])))) true false) := rfl
@[go_sem] theorem ty105 : tfind E.tys 105 = some (TyI.mk (TK.arr 0 16 1 false) 0 0 [] false false) := rfl
@[go_sem] theorem ty107 : tfind E.tys 107 = some (TyI.mk (TK.struct (⟨0, 0, 105, false, true⟩ :: [])) 0 0 [] true false) := rfl
@[go_sem] theorem ty108 : tfind E.tys 108 = some (TyI.mk (TK.int .u32) 1 4 ((Value.int .u32 0) :: []) false false) := rfl
@[go_sem] theorem ty109 : tfind E.tys 109 = some (TyI.mk (TK.int .u8) 1 1 ((Value.int .u8 0) :: []) false false) := rfl
@[go_sem] theorem ty110 : tfind E.tys 110 = some (TyI.mk (TK.int .u8) 1 1 ((Value.int .u8 0) :: []) false false) := rfl
@[go_sem] theorem ty113 : tfind E.tys 113 = some (TyI.mk (TK.int .i32) 1 4 ((Value.int .i32 0) :: []) false false) := rfl
@[go_sem] theorem ty114 : tfind E.tys 114 = some (TyI.mk (TK.int .i32) 1 4 ((Value.int .i32 0) :: []) false false) := rfl
@[go_sem] theorem ty116 : tfind E.tys 116 = some (TyI.mk (TK.struct (⟨0, 1, 12, true, false⟩ :: (⟨1, 1, 12, true, false⟩ :: (⟨2, 1, 108, true, false⟩ :: (⟨3, 1, 109, true, false⟩ :: (⟨4, 1, 5, true, false⟩ :: (⟨5, 1, 5, true, false⟩ :: (⟨6, 1, 110, true, false⟩ :: (⟨7, 1, 111, true, false⟩ :: (⟨8, 1, 112, true, false⟩ :: (⟨9, 1, 113, true, false⟩ :: (⟨10, 1, 114, true, false⟩ :: [])))))))))))) 11 48 ((Value.int .u64 0) :: ((Value.int .u64 0) :: ((Value.int .u32 0) :: ((Value.int .u8 0) :: ((Value.int .u8 0) :: ((Value.int .u8 0) :: ((Value.int .u8 0) :: (Value.nilFunc :: ((Value.pointer none) :: ((Value.int .i32 0) :: ((Value.int .i32 0) :: []))))))))))) true false) := rfl
@[go_sem ↓] theorem wt2 (k : TyI → Prop) : withTy E 2 k = k (TyI.mk (TK.int .i64) 1 8 ((Value.int .i64 0) :: []) false false) := rfl
@[go_sem ↓] theorem wt3 (k : TyI → Prop) : withTy E 3 k = k (TyI.mk (TK.int .i64) 1 8 ((Value.int .i64 0) :: []) false false) := rfl
@[go_sem ↓] theorem wt4 (k : TyI → Prop) : withTy E 4 k = k (TyI.mk TK.bool 1 1 ((Value.bool false) :: []) false false) := rfl
@[go_sem ↓] theorem wt5 (k : TyI → Prop) : withTy E 5 k = k (TyI.mk (TK.int .u8) 1 1 ((Value.int .u8 0) :: []) false false) := rfl
@[go_sem ↓] theorem wt6 (k : TyI → Prop) : withTy E 6 k = k (TyI.mk (TK.int .u8) 1 1 ((Value.int .u8 0) :: []) false false) := rfl
@[go_sem ↓] theorem wt7 (k : TyI → Prop) : withTy E 7 k = k (TyI.mk (TK.struct (⟨0, 1, 2, true, false⟩ :: (⟨1, 1, 3, true, false⟩ :: (⟨2, 1, 4, true, false⟩ :: (⟨3, 1, 6, true, false⟩ :: []))))) 4 24 ((Value.int .i64 0) :: ((Value.int .i64 0) :: ((Value.bool false) :: ((Value.int .u8 0) :: [])))) false false) := rfl
@[go_sem ↓] theorem wt8 (k : TyI → Prop) : withTy E 8 k = k (TyI.mk (TK.struct (⟨0, 1, 2, true, false⟩ :: (⟨1, 1, 3, true, false⟩ :: (⟨2, 1, 4, true, false⟩ :: (⟨3, 1, 6, true, false⟩ :: []))))) 4 24 ((Value.int .i64 0) :: ((Value.int .i64 0) :: ((Value.bool false) :: ((Value.int .u8 0) :: [])))) false false) := rfl
@[go_sem ↓] theorem wt9 (k : TyI → Prop) : withTy E 9 k = k (TyI.mk TK.str 1 16 ((Value.string (ByteArray.mk (Array.mk []))) :: []) false false) := rfl
@[go_sem ↓] theorem wt10 (k : TyI → Prop) : withTy E 10 k = k (TyI.mk TK.str 1 16 ((Value.string (ByteArray.mk (Array.mk []))) :: []) false false) := rfl
@[go_sem ↓] theorem wt11 (k : TyI → Prop) : withTy E 11 k = k (TyI.mk TK.str 1 16 ((Value.string (ByteArray.mk (Array.mk []))) :: []) false false) := rfl
@[go_sem ↓] theorem wt12 (k : TyI → Prop) : withTy E 12 k = k (TyI.mk (TK.int .u64) 1 8 ((Value.int .u64 0) :: []) false false) := rfl
@[go_sem ↓] theorem wt13 (k : TyI → Prop) : withTy E 13 k = k (TyI.mk (TK.struct (⟨0, 1, 9, true, false⟩ :: (⟨1, 1, 12, true, false⟩ :: []))) 2 24 ((Value.string (ByteArray.mk (Array.mk []))) :: ((Value.int .u64 0) :: [])) true false) := rfl
@[go_sem ↓] theorem wt14 (k : TyI → Prop) : withTy E 14 k = k (TyI.mk (TK.struct (⟨0, 1, 9, true, false⟩ :: (⟨1, 1, 12, true, false⟩ :: []))) 2 24 ((Value.string (ByteArray.mk (Array.mk []))) :: ((Value.int .u64 0) :: [])) true false) := rfl
@[go_sem ↓] theorem wt15 (k : TyI → Prop) : withTy E 15 k = k (TyI.mk (TK.ptr 104) 1 8 ((Value.pointer none) :: []) false false) := rfl
@[go_sem ↓] theorem wt16 (k : TyI → Prop) : withTy E 16 k = k (TyI.mk (TK.ptr 107) 1 8 ((Value.pointer none) :: []) false false) := rfl
@[go_sem ↓] theorem wt17 (k : TyI → Prop) : withTy E 17 k = k (TyI.mk (TK.ptr 116) 1 8 ((Value.pointer none) :: []) false false) := rfl
@[go_sem ↓] theorem wt22 (k : TyI → Prop) : withTy E 22 k = k (TyI.mk (TK.slice 47 4 16 (Value.agg (Array.mk ((Value.int .u8 0) :: ((Value.int .u8 0) :: ((Value.int .u8 0) :: ((Value.int .u64 0) :: []))))))) 1 24 ((Value.slice none 0 0) :: []) false false) := rfl
@[go_sem ↓] theorem wt23 (k : TyI → Prop) : withTy E 23 k = k (TyI.mk (TK.int .u64) 1 8 ((Value.int .u64 0) :: []) false false) := rfl
@[go_sem ↓] theorem wt24 (k : TyI → Prop) : withTy E 24 k = k (TyI.mk (TK.ptr 71) 1 8 ((Value.pointer none) :: []) false false) := rfl
@[go_sem ↓] theorem wt26 (k : TyI → Prop) : withTy E 26 k = k (TyI.mk TK.other 1 0 ((Value.tuple (Array.mk ((Value.int .u64 0) :: ((Value.bool false) :: [])))) :: []) false false) := rfl
@[go_sem ↓] theorem wt28 (k : TyI → Prop) : withTy E 28 k = k (TyI.mk (TK.slice 30 1 16 (Value.agg (Array.mk ((Value.string (ByteArray.mk (Array.mk []))) :: [])))) 1 24 ((Value.slice none 0 0) :: []) false false) := rfl
@[go_sem ↓] theorem wt30 (k : TyI → Prop) : withTy E 30 k = k (TyI.mk (TK.struct (⟨0, 1, 9, true, false⟩ :: [])) 1 16 ((Value.string (ByteArray.mk (Array.mk []))) :: []) false false) := rfl
@[go_sem ↓] theorem wt31 (k : TyI → Prop) : withTy E 31 k = k (TyI.mk (TK.int .i64) 1 8 ((Value.int .i64 0) :: []) false false) := rfl
@[go_sem ↓] theorem wt32 (k : TyI → Prop) : withTy E 32 k = k (TyI.mk TK.other 1 0 ((Value.tuple (Array.mk ((Value.agg (Array.mk ((Value.string (ByteArray.mk (Array.mk []))) :: []))) :: ((Value.int .i64 0) :: [])))) :: []) false false) := rfl
@[go_sem ↓] theorem wt33 (k : TyI → Prop) : withTy E 33 k = k (TyI.mk TK.func 1 8 (Value.nilFunc :: []) false false) := rfl
@[go_sem ↓] theorem wt37 (k : TyI → Prop) : withTy E 37 k = k (TyI.mk TK.other 1 0 ((Value.tuple (Array.mk ((Value.int .u64 0) :: ((Value.int .i64 0) :: [])))) :: []) false false) := rfl
@[go_sem ↓] theorem wt40 (k : TyI → Prop) : withTy E 40 k = k (TyI.mk TK.func 1 8 (Value.nilFunc :: []) false false) := rfl
@[go_sem ↓] theorem wt41 (k : TyI → Prop) : withTy E 41 k = k (TyI.mk TK.func 1 8 (Value.nilFunc :: []) false false) := rfl
@[go_sem ↓] theorem wt42 (k : TyI → Prop) : withTy E 42 k = k (TyI.mk TK.other 1 0 ((Value.tuple (Array.mk ((Value.pointer none) :: ((Value.int .i64 0) :: [])))) :: []) false false) := rfl
@[go_sem ↓] theorem wt44 (k : TyI → Prop) : withTy E 44 k = k (TyI.mk (TK.ptr 74) 1 8 ((Value.pointer none) :: []) false false) := rfl
@[go_sem ↓] theorem wt46 (k : TyI → Prop) : withTy E 46 k = k (TyI.mk (TK.struct (⟨0, 1, 5, true, false⟩ :: (⟨1, 1, 5, true, false⟩ :: (⟨2, 1, 5, true, false⟩ :: (⟨3, 1, 23, true, false⟩ :: []))))) 4 16 ((Value.int .u8 0) :: ((Value.int .u8 0) :: ((Value.int .u8 0) :: ((Value.int .u64 0) :: [])))) false false) := rfl
@[go_sem ↓] theorem wt47 (k : TyI → Prop) : withTy E 47 k = k (TyI.mk (TK.struct (⟨0, 1, 5, true, false⟩ :: (⟨1, 1, 5, true, false⟩ :: (⟨2, 1, 5, true, false⟩ :: (⟨3, 1, 23, true, false⟩ :: []))))) 4 16 ((Value.int .u8 0) :: ((Value.int .u8 0) :: ((Value.int .u8 0) :: ((Value.int .u64 0) :: [])))) false false) := rfl
@[go_sem ↓] theorem wt48 (k : TyI → Prop) : withTy E 48 k = k (TyI.mk TK.func 1 8 (Value.nilFunc :: []) false false) := rfl
@[go_sem ↓] theorem wt51 (k : TyI → Prop) : withTy E 51 k = k (TyI.mk (TK.slice 5 1 1 (Value.int .u8 0)) 1 24 ((Value.slice none 0 0) :: []) false false) := rfl
@[go_sem ↓] theorem wt52 (k : TyI → Prop) : withTy E 52 k = k (TyI.mk (TK.slice 3 1 8 (Value.int .i64 0)) 1 24 ((Value.slice none 0 0) :: []) false false) := rfl
@[go_sem ↓] theorem wt53 (k : TyI → Prop) : withTy E 53 k = k (TyI.mk (TK.slice 78 1 24 (Value.slice none 0 0)) 1 24 ((Value.slice none 0 0) :: []) false false) := rfl
@[go_sem ↓] theorem wt55 (k : TyI → Prop) : withTy E 55 k = k (TyI.mk (TK.struct (⟨0, 1, 51, true, false⟩ :: (⟨1, 1, 52, true, false⟩ :: (⟨2, 1, 53, true, false⟩ :: [])))) 3 72 ((Value.slice none 0 0) :: ((Value.slice none 0 0) :: ((Value.slice none 0 0) :: []))) false false) := rfl
@[go_sem ↓] theorem wt57 (k : TyI → Prop) : withTy E 57 k = k (TyI.mk TK.func 1 8 (Value.nilFunc :: []) false false) := rfl
@[go_sem ↓] theorem wt58 (k : TyI → Prop) : withTy E 58 k = k (TyI.mk TK.other 1 0 ((Value.tuple (Array.mk ((Value.slice none 0 0) :: ((Value.bool false) :: [])))) :: []) false false) := rfl
@[go_sem ↓] theorem wt61 (k : TyI → Prop) : withTy E 61 k = k (TyI.mk TK.func 1 8 (Value.nilFunc :: []) false false) := rfl
@[go_sem ↓] theorem wt64 (k : TyI → Prop) : withTy E 64 k = k (TyI.mk TK.func 1 8 (Value.nilFunc :: []) false false) := rfl
@[go_sem ↓] theorem wt67 (k : TyI → Prop) : withTy E 67 k = k (TyI.mk (TK.slice 23 1 8 (Value.int .u64 0)) 1 24 ((Value.slice none 0 0) :: []) false false) := rfl
@[go_sem ↓] theorem wt68 (k : TyI → Prop) : withTy E 68 k = k (TyI.mk (TK.slice 80 2 32 (Value.agg (Array.mk ((Value.int .u64 0) :: ((Value.slice none 0 0) :: []))))) 1 24 ((Value.slice none 0 0) :: []) false false) := rfl
@[go_sem ↓] theorem wt69 (k : TyI → Prop) : withTy E 69 k = k (TyI.mk (TK.arr 8 44 1 false) 8 64 ((Value.pointer none) :: ((Value.pointer none) :: ((Value.pointer none) :: ((Value.pointer none) :: ((Value.pointer none) :: ((Value.pointer none) :: ((Value.pointer none) :: ((Value.pointer none) :: [])))))))) false false) := rfl
@[go_sem ↓] theorem wt71 (k : TyI → Prop) : withTy E 71 k = k (TyI.mk (TK.struct (⟨0, 1, 67, true, false⟩ :: (⟨1, 1, 67, true, false⟩ :: (⟨2, 1, 68, true, false⟩ :: (⟨3, 8, 69, true, true⟩ :: (⟨11, 1, 4, true, false⟩ :: (⟨12, 1, 4, true, false⟩ :: (⟨13, 1, 3, true, false⟩ :: (⟨14, 1, 23, true, false⟩ :: []))))))))) 15 160 ((Value.slice none 0 0) :: ((Value.slice none 0 0) :: ((Value.slice none 0 0) :: ((Value.pointer none) :: ((Value.pointer none) :: ((Value.pointer none) :: ((Value.pointer none) :: ((Value.pointer none) :: ((Value.pointer none) :: ((Value.pointer none) :: ((Value.pointer none) :: ((Value.bool false) :: ((Value.bool false) :: ((Value.int .i64 0) :: ((Value.int .u64 0) :: []))))))))))))))) false false) := rfl
@[go_sem ↓] theorem wt72 (k : TyI → Prop) : withTy E 72 k = k (TyI.mk (TK.map 3 23 (Value.int .u64 0)) 1 8 ((Value.map none) :: []) false false) := rfl
@[go_sem ↓] theorem wt74 (k : TyI → Prop) : withTy E 74 k = k (TyI.mk (TK.struct (⟨0, 1, 24, true, false⟩ :: (⟨1, 1, 3, true, false⟩ :: (⟨2, 1, 31, true, false⟩ :: (⟨3, 1, 72, true, false⟩ :: []))))) 4 32 ((Value.pointer none) :: ((Value.int .i64 0) :: ((Value.int .i64 0) :: ((Value.map none) :: [])))) false false) := rfl
@[go_sem ↓] theorem wt77 (k : TyI → Prop) : withTy E 77 k = k (TyI.mk (TK.ptr 80) 1 8 ((Value.pointer none) :: []) false false) := rfl
@[go_sem ↓] theorem wt78 (k : TyI → Prop) : withTy E 78 k = k (TyI.mk (TK.slice 88 2 16 (Value.agg (Array.mk ((Value.int .u64 0) :: ((Value.int .u64 0) :: []))))) 1 24 ((Value.slice none 0 0) :: []) false false) := rfl
@[go_sem ↓] theorem wt79 (k : TyI → Prop) : withTy E 79 k = k (TyI.mk (TK.struct (⟨0, 1, 23, true, false⟩ :: (⟨1, 1, 78, true, false⟩ :: []))) 2 32 ((Value.int .u64 0) :: ((Value.slice none 0 0) :: [])) false false) := rfl
@[go_sem ↓] theorem wt80 (k : TyI → Prop) : withTy E 80 k = k (TyI.mk (TK.struct (⟨0, 1, 23, true, false⟩ :: (⟨1, 1, 78, true, false⟩ :: []))) 2 32 ((Value.int .u64 0) :: ((Value.slice none 0 0) :: [])) false false) := rfl
@[go_sem ↓] theorem wt81 (k : TyI → Prop) : withTy E 81 k = k (TyI.mk TK.func 1 8 (Value.nilFunc :: []) false false) := rfl
@[go_sem ↓] theorem wt82 (k : TyI → Prop) : withTy E 82 k = k (TyI.mk TK.func 1 8 (Value.nilFunc :: []) false false) := rfl
@[go_sem ↓] theorem wt85 (k : TyI → Prop) : withTy E 85 k = k (TyI.mk TK.other 1 0 ((Value.tuple (Array.mk ((Value.int .u64 0) :: ((Value.int .u64 0) :: [])))) :: []) false false) := rfl
@[go_sem ↓] theorem wt86 (k : TyI → Prop) : withTy E 86 k = k (TyI.mk TK.func 1 8 (Value.nilFunc :: []) false false) := rfl
@[go_sem ↓] theorem wt87 (k : TyI → Prop) : withTy E 87 k = k (TyI.mk (TK.struct (⟨0, 1, 23, true, false⟩ :: (⟨1, 1, 23, true, false⟩ :: []))) 2 16 ((Value.int .u64 0) :: ((Value.int .u64 0) :: [])) false false) := rfl
@[go_sem ↓] theorem wt88 (k : TyI → Prop) : withTy E 88 k = k (TyI.mk (TK.struct (⟨0, 1, 23, true, false⟩ :: (⟨1, 1, 23, true, false⟩ :: []))) 2 16 ((Value.int .u64 0) :: ((Value.int .u64 0) :: [])) false false) := rfl
@[go_sem ↓] theorem wt89 (k : TyI → Prop) : withTy E 89 k = k (TyI.mk (TK.int .u64) 1 8 ((Value.int .u64 0) :: []) false false) := rfl
@[go_sem ↓] theorem wt91 (k : TyI → Prop) : withTy E 91 k = k (TyI.mk TK.func 1 8 (Value.nilFunc :: []) false false) := rfl
@[go_sem ↓] theorem wt93 (k : TyI → Prop) : withTy E 93 k = k (TyI.mk (TK.arr 8 23 1 false) 8 64 ((Value.int .u64 0) :: ((Value.int .u64 0) :: ((Value.int .u64 0) :: ((Value.int .u64 0) :: ((Value.int .u64 0) :: ((Value.int .u64 0) :: ((Value.int .u64 0) :: ((Value.int .u64 0) :: [])))))))) false false) := rfl
@[go_sem ↓] theorem wt95 (k : TyI → Prop) : withTy E 95 k = k (TyI.mk TK.func 1 8 (Value.nilFunc :: []) false false) := rfl
@[go_sem ↓] theorem wt98 (k : TyI → Prop) : withTy E 98 k = k (TyI.mk TK.func 1 8 (Value.nilFunc :: []) false false) := rfl
@[go_sem ↓] theorem wt101 (k : TyI → Prop) : withTy E 101 k = k (TyI.mk (TK.ptr 93) 1 8 ((Value.pointer none) :: []) false false) := rfl
@[go_sem ↓] theorem wt102 (k : TyI → Prop) : withTy E 102 k = k (TyI.mk TK.func 1 8 (Value.nilFunc :: []) false false) := rfl
@[go_sem ↓] theorem wt104 (k : TyI → Prop) : withTy E 104 k = k (TyI.mk (TK.struct (⟨0, 1, 17, true, false⟩ :: (⟨1, 1, 17, true, false⟩ :: (⟨2, 1, 17, true, false⟩ :: (⟨3, 1, 9, true, false⟩ :: []))))) 4 40 ((Value.pointer none) :: ((Value.pointer none) :: ((Value.pointer none) :: ((Value.string (ByteArray.mk (Array.mk []))) :: [])))) true false) := rfl
@[go_sem ↓] theorem wt105 (k : TyI → Prop) : withTy E 105 k = k (TyI.mk (TK.arr 0 16 1 false) 0 0 [] false false) := rfl
@[go_sem ↓] theorem wt107 (k : TyI → Prop) : withTy E 107 k = k (TyI.mk (TK.struct (⟨0, 0, 105, false, true⟩ :: [])) 0 0 [] true false) := rfl
@[go_sem ↓] theorem wt108 (k : TyI → Prop) : withTy E 108 k = k (TyI.mk (TK.int .u32) 1 4 ((Value.int .u32 0) :: []) false false) := rfl
@[go_sem ↓] theorem wt109 (k : TyI → Prop) : withTy E 109 k = k (TyI.mk (TK.int .u8) 1 1 ((Value.int .u8 0) :: []) false false) := rfl
@[go_sem ↓] theorem wt110 (k : TyI → Prop) : withTy E 110 k = k (TyI.mk (TK.int .u8) 1 1 ((Value.int .u8 0) :: []) false false) := rfl
@[go_sem ↓] theorem wt111 (k : TyI → Prop) : withTy E 111 k = k (TyI.mk TK.func 1 8 (Value.nilFunc :: []) false false) := rfl
@[go_sem ↓] theorem wt112 (k : TyI → Prop) : withTy E 112 k = k (TyI.mk (TK.ptr 5) 1 8 ((Value.pointer none) :: []) false false) := rfl
@[go_sem ↓] theorem wt113 (k : TyI → Prop) : withTy E 113 k = k (TyI.mk (TK.int .i32) 1 4 ((Value.int .i32 0) :: []) false false) := rfl
@[go_sem ↓] theorem wt114 (k : TyI → Prop) : withTy E 114 k = k (TyI.mk (TK.int .i32) 1 4 ((Value.int .i32 0) :: []) false false) := rfl
@[go_sem ↓] theorem wt116 (k : TyI → Prop) : withTy E 116 k = k (TyI.mk (TK.struct (⟨0, 1, 12, true, false⟩ :: (⟨1, 1, 12, true, false⟩ :: (⟨2, 1, 108, true, false⟩ :: (⟨3, 1, 109, true, false⟩ :: (⟨4, 1, 5, true, false⟩ :: (⟨5, 1, 5, true, false⟩ :: (⟨6, 1, 110, true, false⟩ :: (⟨7, 1, 111, true, false⟩ :: (⟨8, 1, 112, true, false⟩ :: (⟨9, 1, 113, true, false⟩ :: (⟨10, 1, 114, true, false⟩ :: [])))))))))))) 11 48 ((Value.int .u64 0) :: ((Value.int .u64 0) :: ((Value.int .u32 0) :: ((Value.int .u8 0) :: ((Value.int .u8 0) :: ((Value.int .u8 0) :: ((Value.int .u8 0) :: (Value.nilFunc :: ((Value.pointer none) :: ((Value.int .i32 0) :: ((Value.int .i32 0) :: []))))))))))) true false) := rfl
attribute [go_sem] Int.reduceToNat Int.reducePow Nat.reducePow Int.reduceAdd Int.reduceMul Int.reduceSub Int.reduceNeg Nat.reduceAdd Nat.reduceMul Nat.reduceSub Nat.reduceEqDiff Nat.reduceLT Nat.reduceLeDiff
end Go.Proofs.Ytlldhofcdfejnaa