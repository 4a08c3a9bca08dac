/- The types of this program, as tables, and what is known of its package-level variables. No conditions. -/
import Derived.Test.YtpcjeaaplidmaaaDoorAc4
import Derived.Test.YtpcjeaaplidmaaaDoorProg
import Derived.KernelRfl
namespace Go.Proofs.YtpcjeaaplidmaaaDoor
open Go Go.Ab
theorem gn0 : Tryd.prog.globalNamed "internal/strconv.uint64pow10" = some 0 := by kernel_rfl
def Gl (Z : Nat → Prop) (w : World) : Prop := (Z 0 ∧ Z 0) ∧ Lib.TabIs Tryd.prog w "internal/strconv.uint64pow10" .u64 Lib.pow10Tab
noncomputable instance : Glob where
 G := Gl
 mono := fun hz hk h => ⟨⟨hz _ h.1.1, hz _ h.1.2⟩, tabIs_keep gn0 (hk _ h.1.1) h.2⟩
 tab := []
 bld := 135
 slots := slotOf [(9, 3), (14, 2), (18, 3), (29, 3), (32, 3), (34, 2)]
 ok := fun _ h => by simp [gfind] at h
instance : Quick := ⟨fun h => h⟩
@[go_sem] theorem bldE : (Glob.bld : TypeId) = 135 := rfl
@[go_sem] theorem slotsE (g : Nat) : Glob.slots g = slotOf [(9, 3), (14, 2), (18, 3), (29, 3), (32, 3), (34, 2)] g := rfl
noncomputable def tys : List (TypeId × TyI) := [
 (2, (TyI.mk (TK.int .i64) 1 8 ((Value.int .i64 0) :: []) false false)),
 (3, (TyI.mk (TK.int .i64) 1 8 ((Value.int .i64 0) :: []) false false)),
 (4, (TyI.mk TK.bool 1 1 ((Value.bool false) :: []) false false)),
 (5, (TyI.mk (TK.int .u8) 1 1 ((Value.int .u8 0) :: []) false false)),
 (6, (TyI.mk (TK.int .u8) 1 1 ((Value.int .u8 0) :: []) false false)),
 (7, (TyI.mk (TK.struct (⟨0, 1, 2, true, false⟩ :: (⟨1, 1, 3, true, false⟩ :: (⟨2, 1, 4, true, false⟩ :: (⟨3, 1, 6, true, false⟩ :: []))))) 4 24 ((Value.int .i64 0) :: ((Value.int .i64 0) :: ((Value.bool false) :: ((Value.int .u8 0) :: [])))) false false)),
 (8, (TyI.mk (TK.struct (⟨0, 1, 2, true, false⟩ :: (⟨1, 1, 3, true, false⟩ :: (⟨2, 1, 4, true, false⟩ :: (⟨3, 1, 6, true, false⟩ :: []))))) 4 24 ((Value.int .i64 0) :: ((Value.int .i64 0) :: ((Value.bool false) :: ((Value.int .u8 0) :: [])))) false false)),
 (9, (TyI.mk TK.str 1 16 ((Value.string (ByteArray.mk (Array.mk []))) :: []) false false)),
 (10, (TyI.mk TK.str 1 16 ((Value.string (ByteArray.mk (Array.mk []))) :: []) false false)),
 (11, (TyI.mk TK.str 1 16 ((Value.string (ByteArray.mk (Array.mk []))) :: []) false false)),
 (16, (TyI.mk (TK.ptr 182) 1 8 ((Value.pointer none) :: []) false false)),
 (20, (TyI.mk (TK.iface true) 1 16 (Value.nilIface :: []) false false)),
 (22, (TyI.mk (TK.slice 43 10 80 (Value.agg (Array.mk ((Value.int .i64 0) :: ((Value.int .i64 0) :: ((Value.int .i64 0) :: ((Value.int .i64 0) :: ((Value.int .u64 0) :: ((Value.int .u64 0) :: ((Value.int .u64 0) :: ((Value.int .u64 0) :: ((Value.bool false) :: ((Value.int .i64 0) :: []))))))))))))) 1 24 ((Value.slice none 0 0) :: []) false false)),
 (24, (TyI.mk (TK.struct (⟨0, 1, 3, true, false⟩ :: (⟨1, 1, 22, true, false⟩ :: []))) 2 32 ((Value.int .i64 0) :: ((Value.slice none 0 0) :: [])) false false)),
 (25, (TyI.mk (TK.int .u64) 1 8 ((Value.int .u64 0) :: []) false false)),
 (27, (TyI.mk (TK.int .u8) 1 1 ((Value.int .u8 0) :: []) false false)),
 (29, (TyI.mk (TK.slice 72 2 16 (Value.agg (Array.mk ((Value.int .u64 0) :: ((Value.int .u64 0) :: []))))) 1 24 ((Value.slice none 0 0) :: []) false false)),
 (30, (TyI.mk (TK.slice 25 1 8 (Value.int .u64 0)) 1 24 ((Value.slice none 0 0) :: []) false false)),
 (31, (TyI.mk (TK.struct (⟨0, 1, 27, true, false⟩ :: (⟨1, 1, 25, true, false⟩ :: (⟨2, 1, 29, true, false⟩ :: (⟨3, 1, 30, true, false⟩ :: []))))) 4 64 ((Value.int .u8 0) :: ((Value.int .u64 0) :: ((Value.slice none 0 0) :: ((Value.slice none 0 0) :: [])))) false false)),
 (32, (TyI.mk (TK.struct (⟨0, 1, 27, true, false⟩ :: (⟨1, 1, 25, true, false⟩ :: (⟨2, 1, 29, true, false⟩ :: (⟨3, 1, 30, true, false⟩ :: []))))) 4 64 ((Value.int .u8 0) :: ((Value.int .u64 0) :: ((Value.slice none 0 0) :: ((Value.slice none 0 0) :: [])))) false false)),
 (33, (TyI.mk TK.func 1 8 (Value.nilFunc :: []) false false)),
 (34, (TyI.mk (TK.ptr 80) 1 8 ((Value.pointer none) :: []) false false)),
 (36, (TyI.mk (TK.slice 68 11 88 (Value.agg (Array.mk ((Value.int .i64 0) :: ((Value.int .u8 0) :: ((Value.int .u64 0) :: ((Value.int .u64 0) :: ((Value.int .u64 0) :: ((Value.int .i64 0) :: ((Value.int .i64 0) :: ((Value.int .i64 0) :: ((Value.int .u64 0) :: ((Value.bool false) :: ((Value.int .i64 0) :: [])))))))))))))) 1 24 ((Value.slice none 0 0) :: []) false false)),
 (38, (TyI.mk (TK.struct (⟨0, 1, 3, true, false⟩ :: (⟨1, 1, 25, true, false⟩ :: (⟨2, 1, 25, true, false⟩ :: (⟨3, 1, 25, true, false⟩ :: []))))) 4 32 ((Value.int .i64 0) :: ((Value.int .u64 0) :: ((Value.int .u64 0) :: ((Value.int .u64 0) :: [])))) false false)),
 (39, (TyI.mk (TK.struct (⟨0, 1, 3, true, false⟩ :: (⟨1, 1, 25, true, false⟩ :: (⟨2, 1, 25, true, false⟩ :: (⟨3, 1, 25, true, false⟩ :: []))))) 4 32 ((Value.int .i64 0) :: ((Value.int .u64 0) :: ((Value.int .u64 0) :: ((Value.int .u64 0) :: [])))) false false)),
 (40, (TyI.mk (TK.struct (⟨0, 1, 25, true, false⟩ :: (⟨1, 1, 4, true, false⟩ :: (⟨2, 1, 3, true, false⟩ :: [])))) 3 24 ((Value.int .u64 0) :: ((Value.bool false) :: ((Value.int .i64 0) :: []))) false false)),
 (41, (TyI.mk (TK.struct (⟨0, 1, 25, true, false⟩ :: (⟨1, 1, 4, true, false⟩ :: (⟨2, 1, 3, true, false⟩ :: [])))) 3 24 ((Value.int .u64 0) :: ((Value.bool false) :: ((Value.int .i64 0) :: []))) false false)),
 (43, (TyI.mk (TK.struct (⟨0, 1, 3, true, false⟩ :: (⟨1, 1, 3, true, false⟩ :: (⟨2, 1, 3, true, false⟩ :: (⟨3, 4, 39, true, true⟩ :: (⟨7, 3, 41, true, true⟩ :: [])))))) 10 80 ((Value.int .i64 0) :: ((Value.int .i64 0) :: ((Value.int .i64 0) :: ((Value.int .i64 0) :: ((Value.int .u64 0) :: ((Value.int .u64 0) :: ((Value.int .u64 0) :: ((Value.int .u64 0) :: ((Value.bool false) :: ((Value.int .i64 0) :: [])))))))))) false false)),
 (45, (TyI.mk (TK.int .i64) 1 8 ((Value.int .i64 0) :: []) false false)),
 (47, (TyI.mk (TK.struct (⟨0, 1, 25, true, false⟩ :: (⟨1, 1, 4, true, false⟩ :: (⟨2, 1, 45, true, false⟩ :: [])))) 3 24 ((Value.int .u64 0) :: ((Value.bool false) :: ((Value.int .i64 0) :: []))) false false)),
 (48, (TyI.mk TK.other 1 0 ((Value.tuple (Array.mk ((Value.agg (Array.mk ((Value.int .u8 0) :: ((Value.int .u64 0) :: ((Value.slice none 0 0) :: ((Value.slice none 0 0) :: [])))))) :: ((Value.agg (Array.mk ((Value.int .u64 0) :: ((Value.bool false) :: ((Value.int .i64 0) :: []))))) :: [])))) :: []) false false)),
 (50, (TyI.mk (TK.int .u8) 1 1 ((Value.int .u8 0) :: []) false false)),
 (52, (TyI.mk (TK.struct (⟨0, 1, 50, true, false⟩ :: (⟨1, 1, 25, true, false⟩ :: (⟨2, 1, 25, true, false⟩ :: (⟨3, 1, 25, true, false⟩ :: []))))) 4 32 ((Value.int .u8 0) :: ((Value.int .u64 0) :: ((Value.int .u64 0) :: ((Value.int .u64 0) :: [])))) false false)),
 (56, (TyI.mk (TK.slice 3 1 8 (Value.int .i64 0)) 1 24 ((Value.slice none 0 0) :: []) false false)),
 (57, (TyI.mk TK.other 1 0 ((Value.tuple (Array.mk ((Value.slice none 0 0) :: ((Value.bool false) :: ((Value.int .i64 0) :: []))))) :: []) false false)),
 (59, (TyI.mk TK.func 1 8 (Value.nilFunc :: []) false false)),
 (61, (TyI.mk (TK.slice 142 11 88 (Value.agg (Array.mk ((Value.int .i64 0) :: ((Value.int .i64 0) :: ((Value.int .u64 0) :: ((Value.int .u64 0) :: ((Value.int .u64 0) :: ((Value.int .i64 0) :: ((Value.int .i64 0) :: ((Value.int .i64 0) :: ((Value.int .u64 0) :: ((Value.bool false) :: ((Value.int .i64 0) :: [])))))))))))))) 1 24 ((Value.slice none 0 0) :: []) false false)),
 (63, (TyI.mk (TK.struct (⟨0, 1, 61, true, false⟩ :: (⟨1, 1, 3, true, false⟩ :: (⟨2, 1, 3, true, false⟩ :: [])))) 3 40 ((Value.slice none 0 0) :: ((Value.int .i64 0) :: ((Value.int .i64 0) :: []))) false false)),
 (64, (TyI.mk TK.other 1 0 ((Value.tuple (Array.mk ((Value.pointer none) :: ((Value.agg (Array.mk ((Value.slice none 0 0) :: ((Value.int .i64 0) :: ((Value.int .i64 0) :: []))))) :: [])))) :: []) false false)),
 (65, (TyI.mk TK.func 1 8 (Value.nilFunc :: []) false false)),
 (68, (TyI.mk (TK.struct (⟨0, 1, 3, true, false⟩ :: (⟨1, 4, 52, true, true⟩ :: (⟨5, 1, 3, true, false⟩ :: (⟨6, 1, 3, true, false⟩ :: (⟨7, 1, 3, true, false⟩ :: (⟨8, 3, 47, true, true⟩ :: []))))))) 11 88 ((Value.int .i64 0) :: ((Value.int .u8 0) :: ((Value.int .u64 0) :: ((Value.int .u64 0) :: ((Value.int .u64 0) :: ((Value.int .i64 0) :: ((Value.int .i64 0) :: ((Value.int .i64 0) :: ((Value.int .u64 0) :: ((Value.bool false) :: ((Value.int .i64 0) :: []))))))))))) false false)),
 (72, (TyI.mk (TK.struct (⟨0, 1, 25, true, false⟩ :: (⟨1, 1, 25, true, false⟩ :: []))) 2 16 ((Value.int .u64 0) :: ((Value.int .u64 0) :: [])) false false)),
 (73, (TyI.mk (TK.slice 29 1 24 (Value.slice none 0 0)) 1 24 ((Value.slice none 0 0) :: []) false false)),
 (74, (TyI.mk TK.other 1 0 ((Value.tuple (Array.mk ((Value.slice none 0 0) :: ((Value.int .i64 0) :: [])))) :: []) false false)),
 (77, (TyI.mk (TK.slice 86 2 16 (Value.agg (Array.mk ((Value.int .u8 0) :: ((Value.int .i64 0) :: []))))) 1 24 ((Value.slice none 0 0) :: []) false false)),
 (78, (TyI.mk (TK.arr 8 4 1 false) 8 8 ((Value.bool false) :: ((Value.bool false) :: ((Value.bool false) :: ((Value.bool false) :: ((Value.bool false) :: ((Value.bool false) :: ((Value.bool false) :: ((Value.bool false) :: [])))))))) false false)),
 (80, (TyI.mk (TK.struct (⟨0, 1, 77, true, false⟩ :: (⟨1, 1, 36, true, false⟩ :: (⟨2, 8, 78, true, true⟩ :: (⟨10, 1, 3, true, false⟩ :: []))))) 11 64 ((Value.slice none 0 0) :: ((Value.slice none 0 0) :: ((Value.bool false) :: ((Value.bool false) :: ((Value.bool false) :: ((Value.bool false) :: ((Value.bool false) :: ((Value.bool false) :: ((Value.bool false) :: ((Value.bool false) :: ((Value.int .i64 0) :: []))))))))))) false false)),
 (84, (TyI.mk (TK.int .u8) 1 1 ((Value.int .u8 0) :: []) false false)),
 (86, (TyI.mk (TK.struct (⟨0, 1, 84, true, false⟩ :: (⟨1, 1, 3, true, false⟩ :: []))) 2 16 ((Value.int .u8 0) :: ((Value.int .i64 0) :: [])) false false)),
 (87, (TyI.mk TK.func 1 8 (Value.nilFunc :: []) false false)),
 (88, (TyI.mk (TK.ptr 68) 1 8 ((Value.pointer none) :: []) false false)),
 (89, (TyI.mk (TK.ptr 98) 1 8 ((Value.pointer none) :: []) false false)),
 (90, (TyI.mk TK.other 1 0 ((Value.tuple (Array.mk ((Value.pointer none) :: ((Value.int .i64 0) :: [])))) :: []) false false)),
 (92, (TyI.mk TK.func 1 8 (Value.nilFunc :: []) false false)),
 (93, (TyI.mk TK.func 1 8 (Value.nilFunc :: []) false false)),
 (94, (TyI.mk (TK.slice 95 1 8 (Value.int .u64 0)) 1 24 ((Value.slice none 0 0) :: []) false false)),
 (95, (TyI.mk (TK.int .u64) 1 8 ((Value.int .u64 0) :: []) false false)),
 (96, (TyI.mk (TK.map 9 4 (Value.bool false)) 1 8 ((Value.map none) :: []) false false)),
 (98, (TyI.mk (TK.struct (⟨0, 1, 36, true, false⟩ :: (⟨1, 1, 94, true, false⟩ :: (⟨2, 1, 95, true, false⟩ :: (⟨3, 1, 96, true, false⟩ :: (⟨4, 1, 56, true, false⟩ :: (⟨5, 1, 93, true, false⟩ :: []))))))) 6 96 ((Value.slice none 0 0) :: ((Value.slice none 0 0) :: ((Value.int .u64 0) :: ((Value.map none) :: ((Value.slice none 0 0) :: (Value.nilFunc :: [])))))) false false)),
 (103, (TyI.mk TK.other 1 0 ((Value.tuple (Array.mk ((Value.slice none 0 0) :: ((Value.int .i64 0) :: [])))) :: []) false false)),
 (105, (TyI.mk (TK.slice 4 1 1 (Value.bool false)) 1 24 ((Value.slice none 0 0) :: []) false false)),
 (107, (TyI.mk TK.func 1 8 (Value.nilFunc :: []) false false)),
 (108, (TyI.mk TK.func 1 8 (Value.nilFunc :: []) false false)),
 (109, (TyI.mk TK.other 1 0 ((Value.tuple (Array.mk ((Value.int .i64 0) :: ((Value.bool false) :: [])))) :: []) false false)),
 (112, (TyI.mk TK.func 1 8 (Value.nilFunc :: []) false false)),
 (113, (TyI.mk TK.func 1 8 (Value.nilFunc :: []) false false)),
 (116, (TyI.mk TK.func 1 8 (Value.nilFunc :: []) false false)),
 (117, (TyI.mk TK.other 1 0 ((Value.tuple (Array.mk ((Value.agg (Array.mk ((Value.slice none 0 0) :: ((Value.int .i64 0) :: ((Value.int .i64 0) :: []))))) :: ((Value.int .i64 0) :: [])))) :: []) false false)),
 (121, (TyI.mk TK.func 1 8 (Value.nilFunc :: []) false false)),
 (127, (TyI.mk TK.func 1 8 (Value.nilFunc :: []) false false)),
 (129, (TyI.mk TK.func 1 8 (Value.nilFunc :: []) false false)),
 (130, (TyI.mk (TK.slice 30 1 24 (Value.slice none 0 0)) 1 24 ((Value.slice none 0 0) :: []) false false)),
 (132, (TyI.mk (TK.ptr 135) 1 8 ((Value.pointer none) :: []) false false)),
 (133, (TyI.mk (TK.slice 5 1 1 (Value.int .u8 0)) 1 24 ((Value.slice none 0 0) :: []) false false)),
 (135, (TyI.mk (TK.struct (⟨0, 1, 132, true, false⟩ :: (⟨1, 1, 133, true, false⟩ :: []))) 2 32 ((Value.pointer none) :: ((Value.slice none 0 0) :: [])) false false)),
 (138, (TyI.mk TK.other 1 0 ((Value.tuple (Array.mk ((Value.int .i64 0) :: (Value.nilIface :: [])))) :: []) false false)),
 (139, (TyI.mk TK.func 1 8 (Value.nilFunc :: []) false false)),
 (141, (TyI.mk (TK.struct (⟨0, 1, 3, true, false⟩ :: (⟨1, 4, 39, true, true⟩ :: (⟨5, 1, 3, true, false⟩ :: (⟨6, 1, 3, true, false⟩ :: (⟨7, 1, 3, true, false⟩ :: (⟨8, 3, 41, true, true⟩ :: []))))))) 11 88 ((Value.int .i64 0) :: ((Value.int .i64 0) :: ((Value.int .u64 0) :: ((Value.int .u64 0) :: ((Value.int .u64 0) :: ((Value.int .i64 0) :: ((Value.int .i64 0) :: ((Value.int .i64 0) :: ((Value.int .u64 0) :: ((Value.bool false) :: ((Value.int .i64 0) :: []))))))))))) false false)),
 (142, (TyI.mk (TK.struct (⟨0, 1, 3, true, false⟩ :: (⟨1, 4, 39, true, true⟩ :: (⟨5, 1, 3, true, false⟩ :: (⟨6, 1, 3, true, false⟩ :: (⟨7, 1, 3, true, false⟩ :: (⟨8, 3, 41, true, true⟩ :: []))))))) 11 88 ((Value.int .i64 0) :: ((Value.int .i64 0) :: ((Value.int .u64 0) :: ((Value.int .u64 0) :: ((Value.int .u64 0) :: ((Value.int .i64 0) :: ((Value.int .i64 0) :: ((Value.int .i64 0) :: ((Value.int .u64 0) :: ((Value.bool false) :: ((Value.int .i64 0) :: []))))))))))) false false)),
 (143, (TyI.mk TK.func 1 8 (Value.nilFunc :: []) false false)),
 (145, (TyI.mk (TK.int .i64) 1 8 ((Value.int .i64 0) :: []) false false)),
 (146, (TyI.mk TK.other 1 0 ((Value.tuple (Array.mk ((Value.int .i64 0) :: ((Value.int .i64 0) :: [])))) :: []) false false)),
 (151, (TyI.mk TK.func 1 8 (Value.nilFunc :: []) false false)),
 (152, (TyI.mk (TK.int .u32) 1 4 ((Value.int .u32 0) :: []) false false)),
 (156, (TyI.mk (TK.arr 24 5 1 false) 24 24 ((Value.int .u8 0) :: ((Value.int .u8 0) :: ((Value.int .u8 0) :: ((Value.int .u8 0) :: ((Value.int .u8 0) :: ((Value.int .u8 0) :: ((Value.int .u8 0) :: ((Value.int .u8 0) :: ((Value.int .u8 0) :: ((Value.int .u8 0) :: ((Value.int .u8 0) :: ((Value.int .u8 0) :: ((Value.int .u8 0) :: ((Value.int .u8 0) :: ((Value.int .u8 0) :: ((Value.int .u8 0) :: ((Value.int .u8 0) :: ((Value.int .u8 0) :: ((Value.int .u8 0) :: ((Value.int .u8 0) :: ((Value.int .u8 0) :: ((Value.int .u8 0) :: ((Value.int .u8 0) :: ((Value.int .u8 0) :: [])))))))))))))))))))))))) false false)),
 (161, (TyI.mk (TK.int .u64) 1 8 ((Value.int .u64 0) :: []) false false)),
 (168, (TyI.mk TK.func 1 8 (Value.nilFunc :: []) false false)),
 (173, (TyI.mk (TK.ptr 161) 1 8 ((Value.pointer none) :: []) false false)),
 (174, (TyI.mk TK.other 1 0 ((Value.tuple (Array.mk ((Value.int .i64 0) :: ((Value.int .i64 0) :: [])))) :: []) false false)),
 (180, (TyI.mk (TK.arr 0 16 1 false) 0 0 [] false false)),
 (181, (TyI.mk (TK.struct (⟨0, 0, 180, false, true⟩ :: [])) 0 0 [] true false)),
 (182, (TyI.mk (TK.struct (⟨0, 0, 180, false, true⟩ :: [])) 0 0 [] true false))
]
theorem tysOk : tys.map (fun p => tyOf Tryd.prog p.1) = tys.map (fun p => some p.2) := by kernel_rfl
theorem mixed : Tryd.prog.follows .mixedOrders = true := by kernel_rfl
noncomputable def E : Env := ⟨Tryd.prog, tys, tfind_ok tysOk, mixed⟩
@[go_sem] theorem ty2 : tfind E.tys 2 = some (TyI.mk (TK.int .i64) 1 8 ((Value.int .i64 0) :: []) false false) := rfl
@[go_sem] theorem ty3 : tfind E.tys 3 = some (TyI.mk (TK.int .i64) 1 8 ((Value.int .i64 0) :: []) false false) := rfl
@[go_sem] theorem ty4 : tfind E.tys 4 = some (TyI.mk TK.bool 1 1 ((Value.bool false) :: []) false false) := rfl
@[go_sem] theorem ty5 : tfind E.tys 5 = some (TyI.mk (TK.int .u8) 1 1 ((Value.int .u8 0) :: []) false false) := rfl
@[go_sem] theorem ty6 : tfind E.tys 6 = some (TyI.mk (TK.int .u8) 1 1 ((Value.int .u8 0) :: []) false false) := rfl
@[go_sem] theorem ty7 : tfind E.tys 7 = some (TyI.mk (TK.struct (⟨0, 1, 2, true, false⟩ :: (⟨1, 1, 3, true, false⟩ :: (⟨2, 1, 4, true, false⟩ :: (⟨3, 1, 6, true, false⟩ :: []))))) 4 24 ((Value.int .i64 0) :: ((Value.int .i64 0) :: ((Value.bool false) :: ((Value.int .u8 0) :: [])))) false false) := rfl
@[go_sem] theorem ty8 : tfind E.tys 8 = some (TyI.mk (TK.struct (⟨0, 1, 2, true, false⟩ :: (⟨1, 1, 3, true, false⟩ :: (⟨2, 1, 4, true, false⟩ :: (⟨3, 1, 6, true, false⟩ :: []))))) 4 24 ((Value.int .i64 0) :: ((Value.int .i64 0) :: ((Value.bool false) :: ((Value.int .u8 0) :: [])))) false false) := rfl
@[go_sem] theorem ty9 : tfind E.tys 9 = some (TyI.mk TK.str 1 16 ((Value.string (ByteArray.mk (Array.mk []))) :: []) false false) := rfl
@[go_sem] theorem ty10 : tfind E.tys 10 = some (TyI.mk TK.str 1 16 ((Value.string (ByteArray.mk (Array.mk []))) :: []) false false) := rfl
@[go_sem] theorem ty11 : tfind E.tys 11 = some (TyI.mk TK.str 1 16 ((Value.string (ByteArray.mk (Array.mk []))) :: []) false false) := rfl
@[go_sem] theorem ty20 : tfind E.tys 20 = some (TyI.mk (TK.iface true) 1 16 (Value.nilIface :: []) false false) := rfl
@[go_sem] theorem ty22 : tfind E.tys 22 = some (TyI.mk (TK.slice 43 10 80 (Value.agg (Array.mk ((Value.int .i64 0) :: ((Value.int .i64 0) :: ((Value.int .i64 0) :: ((Value.int .i64 0) :: ((Value.int .u64 0) :: ((Value.int .u64 0) :: ((Value.int .u64 0) :: ((Value.int .u64 0) :: ((Value.bool false) :: ((Value.int .i64 0) :: []))))))))))))) 1 24 ((Value.slice none 0 0) :: []) false false) := rfl
@[go_sem] theorem ty24 : tfind E.tys 24 = some (TyI.mk (TK.struct (⟨0, 1, 3, true, false⟩ :: (⟨1, 1, 22, true, false⟩ :: []))) 2 32 ((Value.int .i64 0) :: ((Value.slice none 0 0) :: [])) false false) := rfl
@[go_sem] theorem ty25 : tfind E.tys 25 = some (TyI.mk (TK.int .u64) 1 8 ((Value.int .u64 0) :: []) false false) := rfl
@[go_sem] theorem ty27 : tfind E.tys 27 = some (TyI.mk (TK.int .u8) 1 1 ((Value.int .u8 0) :: []) false false) := rfl
@[go_sem] theorem ty29 : tfind E.tys 29 = some (TyI.mk (TK.slice 72 2 16 (Value.agg (Array.mk ((Value.int .u64 0) :: ((Value.int .u64 0) :: []))))) 1 24 ((Value.slice none 0 0) :: []) false false) := rfl
@[go_sem] theorem ty30 : tfind E.tys 30 = some (TyI.mk (TK.slice 25 1 8 (Value.int .u64 0)) 1 24 ((Value.slice none 0 0) :: []) false false) := rfl
@[go_sem] theorem ty31 : tfind E.tys 31 = some (TyI.mk (TK.struct (⟨0, 1, 27, true, false⟩ :: (⟨1, 1, 25, true, false⟩ :: (⟨2, 1, 29, true, false⟩ :: (⟨3, 1, 30, true, false⟩ :: []))))) 4 64 ((Value.int .u8 0) :: ((Value.int .u64 0) :: ((Value.slice none 0 0) :: ((Value.slice none 0 0) :: [])))) false false) := rfl
@[go_sem] theorem ty32 : tfind E.tys 32 = some (TyI.mk (TK.struct (⟨0, 1, 27, true, false⟩ :: (⟨1, 1, 25, true, false⟩ :: (⟨2, 1, 29, true, false⟩ :: (⟨3, 1, 30, true, false⟩ :: []))))) 4 64 ((Value.int .u8 0) :: ((Value.int .u64 0) :: ((Value.slice none 0 0) :: ((Value.slice none 0 0) :: [])))) false false) := rfl
@[go_sem] theorem ty36 : tfind E.tys 36 = some (TyI.mk (TK.slice 68 11 88 (Value.agg (Array.mk ((Value.int .i64 0) :: ((Value.int .u8 0) :: ((Value.int .u64 0) :: ((Value.int .u64 0) :: ((Value.int .u64 0) :: ((Value.int .i64 0) :: ((Value.int .i64 0) :: ((Value.int .i64 0) :: ((Value.int .u64 0) :: ((Value.bool false) :: ((Value.int .i64 0) :: [])))))))))))))) 1 24 ((Value.slice none 0 0) :: []) false false) := rfl
@[go_sem] theorem ty38 : tfind E.tys 38 = some (TyI.mk (TK.struct (⟨0, 1, 3, true, false⟩ :: (⟨1, 1, 25, true, false⟩ :: (⟨2, 1, 25, true, false⟩ :: (⟨3, 1, 25, true, false⟩ :: []))))) 4 32 ((Value.int .i64 0) :: ((Value.int .u64 0) :: ((Value.int .u64 0) :: ((Value.int .u64 0) :: [])))) false false) := rfl
@[go_sem] theorem ty39 : tfind E.tys 39 = some (TyI.mk (TK.struct (⟨0, 1, 3, true, false⟩ :: (⟨1, 1, 25, true, false⟩ :: (⟨2, 1, 25, true, false⟩ :: (⟨3, 1, 25, true, false⟩ :: []))))) 4 32 ((Value.int .i64 0) :: ((Value.int .u64 0) :: ((Value.int .u64 0) :: ((Value.int .u64 0) :: [])))) false false) := rfl
@[go_sem] theorem ty40 : tfind E.tys 40 = some (TyI.mk (TK.struct (⟨0, 1, 25, true, false⟩ :: (⟨1, 1, 4, true, false⟩ :: (⟨2, 1, 3, true, false⟩ :: [])))) 3 24 ((Value.int .u64 0) :: ((Value.bool false) :: ((Value.int .i64 0) :: []))) false false) := rfl
@[go_sem] theorem ty41 : tfind E.tys 41 = some (TyI.mk (TK.struct (⟨0, 1, 25, true, false⟩ :: (⟨1, 1, 4, true, false⟩ :: (⟨2, 1, 3, true, false⟩ :: [])))) 3 24 ((Value.int .u64 0) :: ((Value.bool false) :: ((Value.int .i64 0) :: []))) false false) := rfl
@[go_sem] theorem ty43 : tfind E.tys 43 = some (TyI.mk (TK.struct (⟨0, 1, 3, true, false⟩ :: (⟨1, 1, 3, true, false⟩ :: (⟨2, 1, 3, true, false⟩ :: (⟨3, 4, 39, true, true⟩ :: (⟨7, 3, 41, true, true⟩ :: [])))))) 10 80 ((Value.int .i64 0) :: ((Value.int .i64 0) :: ((Value.int .i64 0) :: ((Value.int .i64 0) :: ((Value.int .u64 0) :: ((Value.int .u64 0) :: ((Value.int .u64 0) :: ((Value.int .u64 0) :: ((Value.bool false) :: ((Value.int .i64 0) :: [])))))))))) false false) := rfl
@[go_sem] theorem ty45 : tfind E.tys 45 = some (TyI.mk (TK.int .i64) 1 8 ((Value.int .i64 0) :: []) false false) := rfl
@[go_sem] theorem ty47 : tfind E.tys 47 = some (TyI.mk (TK.struct (⟨0, 1, 25, true, false⟩ :: (⟨1, 1, 4, true, false⟩ :: (⟨2, 1, 45, true, false⟩ :: [])))) 3 24 ((Value.int .u64 0) :: ((Value.bool false) :: ((Value.int .i64 0) :: []))) false false) := rfl
@[go_sem] theorem ty50 : tfind E.tys 50 = some (TyI.mk (TK.int .u8) 1 1 ((Value.int .u8 0) :: []) false false) := rfl
@[go_sem] theorem ty52 : tfind E.tys 52 = some (TyI.mk (TK.struct (⟨0, 1, 50, true, false⟩ :: (⟨1, 1, 25, true, false⟩ :: (⟨2, 1, 25, true, false⟩ :: (⟨3, 1, 25, true, false⟩ :: []))))) 4 32 ((Value.int .u8 0) :: ((Value.int .u64 0) :: ((Value.int .u64 0) :: ((Value.int .u64 0) :: [])))) false false) := rfl
@[go_sem] theorem ty56 : tfind E.tys 56 = some (TyI.mk (TK.slice 3 1 8 (Value.int .i64 0)) 1 24 ((Value.slice none 0 0) :: []) false false) := rfl
@[go_sem] theorem ty61 : tfind E.tys 61 = some (TyI.mk (TK.slice 142 11 88 (Value.agg (Array.mk ((Value.int .i64 0) :: ((Value.int .i64 0) :: ((Value.int .u64 0) :: ((Value.int .u64 0) :: ((Value.int .u64 0) :: ((Value.int .i64 0) :: ((Value.int .i64 0) :: ((Value.int .i64 0) :: ((Value.int .u64 0) :: ((Value.bool false) :: ((Value.int .i64 0) :: [])))))))))))))) 1 24 ((Value.slice none 0 0) :: []) false false) := rfl
@[go_sem] theorem ty63 : tfind E.tys 63 = some (TyI.mk (TK.struct (⟨0, 1, 61, true, false⟩ :: (⟨1, 1, 3, true, false⟩ :: (⟨2, 1, 3, true, false⟩ :: [])))) 3 40 ((Value.slice none 0 0) :: ((Value.int .i64 0) :: ((Value.int .i64 0) :: []))) false false) := rfl
@[go_sem] theorem ty68 : tfind E.tys 68 = some (TyI.mk (TK.struct (⟨0, 1, 3, true, false⟩ :: (⟨1, 4, 52, true, true⟩ :: (⟨5, 1, 3, true, false⟩ :: (⟨6, 1, 3, true, false⟩ :: (⟨7, 1, 3, true, false⟩ :: (⟨8, 3, 47, true, true⟩ :: []))))))) 11 88 ((Value.int .i64 0) :: ((Value.int .u8 0) :: ((Value.int .u64 0) :: ((Value.int .u64 0) :: ((Value.int .u64 0) :: ((Value.int .i64 0) :: ((Value.int .i64 0) :: ((Value.int .i64 0) :: ((Value.int .u64 0) :: ((Value.bool false) :: ((Value.int .i64 0) :: []))))))))))) false false) := rfl
@[go_sem] theorem ty72 : tfind E.tys 72 = some (TyI.mk (TK.struct (⟨0, 1, 25, true, false⟩ :: (⟨1, 1, 25, true, false⟩ :: []))) 2 16 ((Value.int .u64 0) :: ((Value.int .u64 0) :: [])) false false) := rfl
@[go_sem] theorem ty73 : tfind E.tys 73 = some (TyI.mk (TK.slice 29 1 24 (Value.slice none 0 0)) 1 24 ((Value.slice none 0 0) :: []) false false) := rfl
@[go_sem] theorem ty77 : tfind E.tys 77 = some (TyI.mk (TK.slice 86 2 16 (Value.agg (Array.mk ((Value.int .u8 0) :: ((Value.int .i64 0) :: []))))) 1 24 ((Value.slice none 0 0) :: []) false false) := rfl
@[go_sem] theorem ty78 : tfind E.tys 78 = some (TyI.mk (TK.arr 8 4 1 false) 8 8 ((Value.bool false) :: ((Value.bool false) :: ((Value.bool false) :: ((Value.bool false) :: ((Value.bool false) :: ((Value.bool false) :: ((Value.bool false) :: ((Value.bool false) :: [])))))))) false false) := rfl
@[go_sem] theorem ty80 : tfind E.tys 80 = some (TyI.mk (TK.struct (⟨0, 1, 77, true, false⟩ :: (⟨1, 1, 36, true, false⟩ :: (⟨2, 8, 78, true, true⟩ :: (⟨10, 1, 3, true, false⟩ :: []))))) 11 64 ((Value.slice none 0 0) :: ((Value.slice none 0 0) :: ((Value.bool false) :: ((Value.bool false) :: ((Value.bool false) :: ((Value.bool false) :: ((Value.bool false) :: ((Value.bool false) :: ((Value.bool false) :: ((Value.bool false) :: ((Value.int .i64 0) :: []))))))))))) false false) := rfl
@[go_sem] theorem ty84 : tfind E.tys 84 = some (TyI.mk (TK.int .u8) 1 1 ((Value.int .u8 0) :: []) false false) := rfl
@[go_sem] theorem ty86 : tfind E.tys 86 = some (TyI.mk (TK.struct (⟨0, 1, 84, true, false⟩ :: (⟨1, 1, 3, true, false⟩ :: []))) 2 16 ((Value.int .u8 0) :: ((Value.int .i64 0) :: [])) false false) := rfl
@[go_sem] theorem ty94 : tfind E.tys 94 = some (TyI.mk (TK.slice 95 1 8 (Value.int .u64 0)) 1 24 ((Value.slice none 0 0) :: []) false false) := rfl
@[go_sem] theorem ty95 : tfind E.tys 95 = some (TyI.mk (TK.int .u64) 1 8 ((Value.int .u64 0) :: []) false false) := rfl
@[go_sem] theorem ty96 : tfind E.tys 96 = some (TyI.mk (TK.map 9 4 (Value.bool false)) 1 8 ((Value.map none) :: []) false false) := rfl
@[go_sem] theorem ty98 : tfind E.tys 98 = some (TyI.mk (TK.struct (⟨0, 1, 36, true, false⟩ :: (⟨1, 1, 94, true, false⟩ :: (⟨2, 1, 95, true, false⟩ :: (⟨3, 1, 96, true, false⟩ :: (⟨4, 1, 56, true, false⟩ :: (⟨5, 1, 93, true, false⟩ :: []))))))) 6 96 ((Value.slice none 0 0) :: ((Value.slice none 0 0) :: ((Value.int .u64 0) :: ((Value.map none) :: ((Value.slice none 0 0) :: (Value.nilFunc :: [])))))) false false) := rfl
@[go_sem] theorem ty105 : tfind E.tys 105 = some (TyI.mk (TK.slice 4 1 1 (Value.bool false)) 1 24 ((Value.slice none 0 0) :: []) false false) := rfl
@[go_sem] theorem ty130 : tfind E.tys 130 = some (TyI.mk (TK.slice 30 1 24 (Value.slice none 0 0)) 1 24 ((Value.slice none 0 0) :: []) false false) := rfl
@[go_sem] theorem ty133 : tfind E.tys 133 = some (TyI.mk (TK.slice 5 1 1 (Value.int .u8 0)) 1 24 ((Value.slice none 0 0) :: []) false false) := rfl
@[go_sem] theorem ty135 : tfind E.tys 135 = some (TyI.mk (TK.struct (⟨0, 1, 132, true, false⟩ :: (⟨1, 1, 133, true, false⟩ :: []))) 2 32 ((Value.pointer none) :: ((Value.slice none 0 0) :: [])) false false) := rfl
@[go_sem] theorem ty141 : tfind E.tys 141 = some (TyI.mk (TK.struct (⟨0, 1, 3, true, false⟩ :: (⟨1, 4, 39, true, true⟩ :: (⟨5, 1, 3, true, false⟩ :: (⟨6, 1, 3, true, false⟩ :: (⟨7, 1, 3, true, false⟩ :: (⟨8, 3, 41, true, true⟩ :: []))))))) 11 88 ((Value.int .i64 0) :: ((Value.int .i64 0) :: ((Value.int .u64 0) :: ((Value.int .u64 0) :: ((Value.int .u64 0) :: ((Value.int .i64 0) :: ((Value.int .i64 0) :: ((Value.int .i64 0) :: ((Value.int .u64 0) :: ((Value.bool false) :: ((Value.int .i64 0) :: []))))))))))) false false) := rfl
@[go_sem] theorem ty142 : tfind E.tys 142 = some (TyI.mk (TK.struct (⟨0, 1, 3, true, false⟩ :: (⟨1, 4, 39, true, true⟩ :: (⟨5, 1, 3, true, false⟩ :: (⟨6, 1, 3, true, false⟩ :: (⟨7, 1, 3, true, false⟩ :: (⟨8, 3, 41, true, true⟩ :: []))))))) 11 88 ((Value.int .i64 0) :: ((Value.int .i64 0) :: ((Value.int .u64 0) :: ((Value.int .u64 0) :: ((Value.int .u64 0) :: ((Value.int .i64 0) :: ((Value.int .i64 0) :: ((Value.int .i64 0) :: ((Value.int .u64 0) :: ((Value.bool false) :: ((Value.int .i64 0) :: []))))))))))) false false) := rfl
@[go_sem] theorem ty145 : tfind E.tys 145 = some (TyI.mk (TK.int .i64) 1 8 ((Value.int .i64 0) :: []) false false) := rfl
@[go_sem] theorem ty152 : tfind E.tys 152 = some (TyI.mk (TK.int .u32) 1 4 ((Value.int .u32 0) :: []) false false) := rfl
@[go_sem] theorem ty156 : tfind E.tys 156 = some (TyI.mk (TK.arr 24 5 1 false) 24 24 ((Value.int .u8 0) :: ((Value.int .u8 0) :: ((Value.int .u8 0) :: ((Value.int .u8 0) :: ((Value.int .u8 0) :: ((Value.int .u8 0) :: ((Value.int .u8 0) :: ((Value.int .u8 0) :: ((Value.int .u8 0) :: ((Value.int .u8 0) :: ((Value.int .u8 0) :: ((Value.int .u8 0) :: ((Value.int .u8 0) :: ((Value.int .u8 0) :: ((Value.int .u8 0) :: ((Value.int .u8 0) :: ((Value.int .u8 0) :: ((Value.int .u8 0) :: ((Value.int .u8 0) :: ((Value.int .u8 0) :: ((Value.int .u8 0) :: ((Value.int .u8 0) :: ((Value.int .u8 0) :: ((Value.int .u8 0) :: [])))))))))))))))))))))))) false false) := rfl
@[go_sem] theorem ty161 : tfind E.tys 161 = some (TyI.mk (TK.int .u64) 1 8 ((Value.int .u64 0) :: []) false false) := rfl
@[go_sem] theorem ty180 : tfind E.tys 180 = some (TyI.mk (TK.arr 0 16 1 false) 0 0 [] false false) := rfl
@[go_sem] theorem ty181 : tfind E.tys 181 = some (TyI.mk (TK.struct (⟨0, 0, 180, false, true⟩ :: [])) 0 0 [] true false) := rfl
@[go_sem] theorem ty182 : tfind E.tys 182 = some (TyI.mk (TK.struct (⟨0, 0, 180, false, true⟩ :: [])) 0 0 [] true false) := rfl
@[go_sem ↓] theorem wt2 (k : TyI → Prop) : withTy E 2 k = k (TyI.mk (TK.int .i64) 1 8 ((Value.int .i64 0) :: []) false false) := rfl
@[go_sem ↓] theorem wt3 (k : TyI → Prop) : withTy E 3 k = k (TyI.mk (TK.int .i64) 1 8 ((Value.int .i64 0) :: []) false false) := rfl
@[go_sem ↓] theorem wt4 (k : TyI → Prop) : withTy E 4 k = k (TyI.mk TK.bool 1 1 ((Value.bool false) :: []) false false) := rfl
@[go_sem ↓] theorem wt5 (k : TyI → Prop) : withTy E 5 k = k (TyI.mk (TK.int .u8) 1 1 ((Value.int .u8 0) :: []) false false) := rfl
@[go_sem ↓] theorem wt6 (k : TyI → Prop) : withTy E 6 k = k (TyI.mk (TK.int .u8) 1 1 ((Value.int .u8 0) :: []) false false) := rfl
@[go_sem ↓] theorem wt7 (k : TyI → Prop) : withTy E 7 k = k (TyI.mk (TK.struct (⟨0, 1, 2, true, false⟩ :: (⟨1, 1, 3, true, false⟩ :: (⟨2, 1, 4, true, false⟩ :: (⟨3, 1, 6, true, false⟩ :: []))))) 4 24 ((Value.int .i64 0) :: ((Value.int .i64 0) :: ((Value.bool false) :: ((Value.int .u8 0) :: [])))) false false) := rfl
@[go_sem ↓] theorem wt8 (k : TyI → Prop) : withTy E 8 k = k (TyI.mk (TK.struct (⟨0, 1, 2, true, false⟩ :: (⟨1, 1, 3, true, false⟩ :: (⟨2, 1, 4, true, false⟩ :: (⟨3, 1, 6, true, false⟩ :: []))))) 4 24 ((Value.int .i64 0) :: ((Value.int .i64 0) :: ((Value.bool false) :: ((Value.int .u8 0) :: [])))) false false) := rfl
@[go_sem ↓] theorem wt9 (k : TyI → Prop) : withTy E 9 k = k (TyI.mk TK.str 1 16 ((Value.string (ByteArray.mk (Array.mk []))) :: []) false false) := rfl
@[go_sem ↓] theorem wt10 (k : TyI → Prop) : withTy E 10 k = k (TyI.mk TK.str 1 16 ((Value.string (ByteArray.mk (Array.mk []))) :: []) false false) := rfl
@[go_sem ↓] theorem wt11 (k : TyI → Prop) : withTy E 11 k = k (TyI.mk TK.str 1 16 ((Value.string (ByteArray.mk (Array.mk []))) :: []) false false) := rfl
@[go_sem ↓] theorem wt16 (k : TyI → Prop) : withTy E 16 k = k (TyI.mk (TK.ptr 182) 1 8 ((Value.pointer none) :: []) false false) := rfl
@[go_sem ↓] theorem wt20 (k : TyI → Prop) : withTy E 20 k = k (TyI.mk (TK.iface true) 1 16 (Value.nilIface :: []) false false) := rfl
@[go_sem ↓] theorem wt22 (k : TyI → Prop) : withTy E 22 k = k (TyI.mk (TK.slice 43 10 80 (Value.agg (Array.mk ((Value.int .i64 0) :: ((Value.int .i64 0) :: ((Value.int .i64 0) :: ((Value.int .i64 0) :: ((Value.int .u64 0) :: ((Value.int .u64 0) :: ((Value.int .u64 0) :: ((Value.int .u64 0) :: ((Value.bool false) :: ((Value.int .i64 0) :: []))))))))))))) 1 24 ((Value.slice none 0 0) :: []) false false) := rfl
@[go_sem ↓] theorem wt24 (k : TyI → Prop) : withTy E 24 k = k (TyI.mk (TK.struct (⟨0, 1, 3, true, false⟩ :: (⟨1, 1, 22, true, false⟩ :: []))) 2 32 ((Value.int .i64 0) :: ((Value.slice none 0 0) :: [])) false false) := rfl
@[go_sem ↓] theorem wt25 (k : TyI → Prop) : withTy E 25 k = k (TyI.mk (TK.int .u64) 1 8 ((Value.int .u64 0) :: []) false false) := rfl
@[go_sem ↓] theorem wt27 (k : TyI → Prop) : withTy E 27 k = k (TyI.mk (TK.int .u8) 1 1 ((Value.int .u8 0) :: []) false false) := rfl
@[go_sem ↓] theorem wt29 (k : TyI → Prop) : withTy E 29 k = k (TyI.mk (TK.slice 72 2 16 (Value.agg (Array.mk ((Value.int .u64 0) :: ((Value.int .u64 0) :: []))))) 1 24 ((Value.slice none 0 0) :: []) false false) := rfl
@[go_sem ↓] theorem wt30 (k : TyI → Prop) : withTy E 30 k = k (TyI.mk (TK.slice 25 1 8 (Value.int .u64 0)) 1 24 ((Value.slice none 0 0) :: []) false false) := rfl
@[go_sem ↓] theorem wt31 (k : TyI → Prop) : withTy E 31 k = k (TyI.mk (TK.struct (⟨0, 1, 27, true, false⟩ :: (⟨1, 1, 25, true, false⟩ :: (⟨2, 1, 29, true, false⟩ :: (⟨3, 1, 30, true, false⟩ :: []))))) 4 64 ((Value.int .u8 0) :: ((Value.int .u64 0) :: ((Value.slice none 0 0) :: ((Value.slice none 0 0) :: [])))) false false) := rfl
@[go_sem ↓] theorem wt32 (k : TyI → Prop) : withTy E 32 k = k (TyI.mk (TK.struct (⟨0, 1, 27, true, false⟩ :: (⟨1, 1, 25, true, false⟩ :: (⟨2, 1, 29, true, false⟩ :: (⟨3, 1, 30, true, false⟩ :: []))))) 4 64 ((Value.int .u8 0) :: ((Value.int .u64 0) :: ((Value.slice none 0 0) :: ((Value.slice none 0 0) :: [])))) false false) := rfl
@[go_sem ↓] theorem wt33 (k : TyI → Prop) : withTy E 33 k = k (TyI.mk TK.func 1 8 (Value.nilFunc :: []) false false) := rfl
@[go_sem ↓] theorem wt34 (k : TyI → Prop) : withTy E 34 k = k (TyI.mk (TK.ptr 80) 1 8 ((Value.pointer none) :: []) false false) := rfl
@[go_sem ↓] theorem wt36 (k : TyI → Prop) : withTy E 36 k = k (TyI.mk (TK.slice 68 11 88 (Value.agg (Array.mk ((Value.int .i64 0) :: ((Value.int .u8 0) :: ((Value.int .u64 0) :: ((Value.int .u64 0) :: ((Value.int .u64 0) :: ((Value.int .i64 0) :: ((Value.int .i64 0) :: ((Value.int .i64 0) :: ((Value.int .u64 0) :: ((Value.bool false) :: ((Value.int .i64 0) :: [])))))))))))))) 1 24 ((Value.slice none 0 0) :: []) false false) := rfl
@[go_sem ↓] theorem wt38 (k : TyI → Prop) : withTy E 38 k = k (TyI.mk (TK.struct (⟨0, 1, 3, true, false⟩ :: (⟨1, 1, 25, true, false⟩ :: (⟨2, 1, 25, true, false⟩ :: (⟨3, 1, 25, true, false⟩ :: []))))) 4 32 ((Value.int .i64 0) :: ((Value.int .u64 0) :: ((Value.int .u64 0) :: ((Value.int .u64 0) :: [])))) false false) := rfl
@[go_sem ↓] theorem wt39 (k : TyI → Prop) : withTy E 39 k = k (TyI.mk (TK.struct (⟨0, 1, 3, true, false⟩ :: (⟨1, 1, 25, true, false⟩ :: (⟨2, 1, 25, true, false⟩ :: (⟨3, 1, 25, true, false⟩ :: []))))) 4 32 ((Value.int .i64 0) :: ((Value.int .u64 0) :: ((Value.int .u64 0) :: ((Value.int .u64 0) :: [])))) false false) := rfl
@[go_sem ↓] theorem wt40 (k : TyI → Prop) : withTy E 40 k = k (TyI.mk (TK.struct (⟨0, 1, 25, true, false⟩ :: (⟨1, 1, 4, true, false⟩ :: (⟨2, 1, 3, true, false⟩ :: [])))) 3 24 ((Value.int .u64 0) :: ((Value.bool false) :: ((Value.int .i64 0) :: []))) false false) := rfl
@[go_sem ↓] theorem wt41 (k : TyI → Prop) : withTy E 41 k = k (TyI.mk (TK.struct (⟨0, 1, 25, true, false⟩ :: (⟨1, 1, 4, true, false⟩ :: (⟨2, 1, 3, true, false⟩ :: [])))) 3 24 ((Value.int .u64 0) :: ((Value.bool false) :: ((Value.int .i64 0) :: []))) false false) := rfl
@[go_sem ↓] theorem wt43 (k : TyI → Prop) : withTy E 43 k = k (TyI.mk (TK.struct (⟨0, 1, 3, true, false⟩ :: (⟨1, 1, 3, true, false⟩ :: (⟨2, 1, 3, true, false⟩ :: (⟨3, 4, 39, true, true⟩ :: (⟨7, 3, 41, true, true⟩ :: [])))))) 10 80 ((Value.int .i64 0) :: ((Value.int .i64 0) :: ((Value.int .i64 0) :: ((Value.int .i64 0) :: ((Value.int .u64 0) :: ((Value.int .u64 0) :: ((Value.int .u64 0) :: ((Value.int .u64 0) :: ((Value.bool false) :: ((Value.int .i64 0) :: [])))))))))) false false) := rfl
@[go_sem ↓] theorem wt45 (k : TyI → Prop) : withTy E 45 k = k (TyI.mk (TK.int .i64) 1 8 ((Value.int .i64 0) :: []) false false) := rfl
@[go_sem ↓] theorem wt47 (k : TyI → Prop) : withTy E 47 k = k (TyI.mk (TK.struct (⟨0, 1, 25, true, false⟩ :: (⟨1, 1, 4, true, false⟩ :: (⟨2, 1, 45, true, false⟩ :: [])))) 3 24 ((Value.int .u64 0) :: ((Value.bool false) :: ((Value.int .i64 0) :: []))) false false) := rfl
@[go_sem ↓] theorem wt48 (k : TyI → Prop) : withTy E 48 k = k (TyI.mk TK.other 1 0 ((Value.tuple (Array.mk ((Value.agg (Array.mk ((Value.int .u8 0) :: ((Value.int .u64 0) :: ((Value.slice none 0 0) :: ((Value.slice none 0 0) :: [])))))) :: ((Value.agg (Array.mk ((Value.int .u64 0) :: ((Value.bool false) :: ((Value.int .i64 0) :: []))))) :: [])))) :: []) false false) := rfl
@[go_sem ↓] theorem wt50 (k : TyI → Prop) : withTy E 50 k = k (TyI.mk (TK.int .u8) 1 1 ((Value.int .u8 0) :: []) false false) := rfl
@[go_sem ↓] theorem wt52 (k : TyI → Prop) : withTy E 52 k = k (TyI.mk (TK.struct (⟨0, 1, 50, true, false⟩ :: (⟨1, 1, 25, true, false⟩ :: (⟨2, 1, 25, true, false⟩ :: (⟨3, 1, 25, true, false⟩ :: []))))) 4 32 ((Value.int .u8 0) :: ((Value.int .u64 0) :: ((Value.int .u64 0) :: ((Value.int .u64 0) :: [])))) false false) := rfl
@[go_sem ↓] theorem wt56 (k : TyI → Prop) : withTy E 56 k = k (TyI.mk (TK.slice 3 1 8 (Value.int .i64 0)) 1 24 ((Value.slice none 0 0) :: []) false false) := rfl
@[go_sem ↓] theorem wt57 (k : TyI → Prop) : withTy E 57 k = k (TyI.mk TK.other 1 0 ((Value.tuple (Array.mk ((Value.slice none 0 0) :: ((Value.bool false) :: ((Value.int .i64 0) :: []))))) :: []) false false) := rfl
@[go_sem ↓] theorem wt59 (k : TyI → Prop) : withTy E 59 k = k (TyI.mk TK.func 1 8 (Value.nilFunc :: []) false false) := rfl
@[go_sem ↓] theorem wt61 (k : TyI → Prop) : withTy E 61 k = k (TyI.mk (TK.slice 142 11 88 (Value.agg (Array.mk ((Value.int .i64 0) :: ((Value.int .i64 0) :: ((Value.int .u64 0) :: ((Value.int .u64 0) :: ((Value.int .u64 0) :: ((Value.int .i64 0) :: ((Value.int .i64 0) :: ((Value.int .i64 0) :: ((Value.int .u64 0) :: ((Value.bool false) :: ((Value.int .i64 0) :: [])))))))))))))) 1 24 ((Value.slice none 0 0) :: []) false false) := rfl
@[go_sem ↓] theorem wt63 (k : TyI → Prop) : withTy E 63 k = k (TyI.mk (TK.struct (⟨0, 1, 61, true, false⟩ :: (⟨1, 1, 3, true, false⟩ :: (⟨2, 1, 3, true, false⟩ :: [])))) 3 40 ((Value.slice none 0 0) :: ((Value.int .i64 0) :: ((Value.int .i64 0) :: []))) false false) := rfl
@[go_sem ↓] theorem wt64 (k : TyI → Prop) : withTy E 64 k = k (TyI.mk TK.other 1 0 ((Value.tuple (Array.mk ((Value.pointer none) :: ((Value.agg (Array.mk ((Value.slice none 0 0) :: ((Value.int .i64 0) :: ((Value.int .i64 0) :: []))))) :: [])))) :: []) false false) := rfl
@[go_sem ↓] theorem wt65 (k : TyI → Prop) : withTy E 65 k = k (TyI.mk TK.func 1 8 (Value.nilFunc :: []) false false) := rfl
@[go_sem ↓] theorem wt68 (k : TyI → Prop) : withTy E 68 k = k (TyI.mk (TK.struct (⟨0, 1, 3, true, false⟩ :: (⟨1, 4, 52, true, true⟩ :: (⟨5, 1, 3, true, false⟩ :: (⟨6, 1, 3, true, false⟩ :: (⟨7, 1, 3, true, false⟩ :: (⟨8, 3, 47, true, true⟩ :: []))))))) 11 88 ((Value.int .i64 0) :: ((Value.int .u8 0) :: ((Value.int .u64 0) :: ((Value.int .u64 0) :: ((Value.int .u64 0) :: ((Value.int .i64 0) :: ((Value.int .i64 0) :: ((Value.int .i64 0) :: ((Value.int .u64 0) :: ((Value.bool false) :: ((Value.int .i64 0) :: []))))))))))) false false) := rfl
@[go_sem ↓] theorem wt72 (k : TyI → Prop) : withTy E 72 k = k (TyI.mk (TK.struct (⟨0, 1, 25, true, false⟩ :: (⟨1, 1, 25, true, false⟩ :: []))) 2 16 ((Value.int .u64 0) :: ((Value.int .u64 0) :: [])) false false) := rfl
@[go_sem ↓] theorem wt73 (k : TyI → Prop) : withTy E 73 k = k (TyI.mk (TK.slice 29 1 24 (Value.slice none 0 0)) 1 24 ((Value.slice none 0 0) :: []) false false) := rfl
@[go_sem ↓] theorem wt74 (k : TyI → Prop) : withTy E 74 k = k (TyI.mk TK.other 1 0 ((Value.tuple (Array.mk ((Value.slice none 0 0) :: ((Value.int .i64 0) :: [])))) :: []) false false) := rfl
@[go_sem ↓] theorem wt77 (k : TyI → Prop) : withTy E 77 k = k (TyI.mk (TK.slice 86 2 16 (Value.agg (Array.mk ((Value.int .u8 0) :: ((Value.int .i64 0) :: []))))) 1 24 ((Value.slice none 0 0) :: []) false false) := rfl
@[go_sem ↓] theorem wt78 (k : TyI → Prop) : withTy E 78 k = k (TyI.mk (TK.arr 8 4 1 false) 8 8 ((Value.bool false) :: ((Value.bool false) :: ((Value.bool false) :: ((Value.bool false) :: ((Value.bool false) :: ((Value.bool false) :: ((Value.bool false) :: ((Value.bool false) :: [])))))))) false false) := rfl
@[go_sem ↓] theorem wt80 (k : TyI → Prop) : withTy E 80 k = k (TyI.mk (TK.struct (⟨0, 1, 77, true, false⟩ :: (⟨1, 1, 36, true, false⟩ :: (⟨2, 8, 78, true, true⟩ :: (⟨10, 1, 3, true, false⟩ :: []))))) 11 64 ((Value.slice none 0 0) :: ((Value.slice none 0 0) :: ((Value.bool false) :: ((Value.bool false) :: ((Value.bool false) :: ((Value.bool false) :: ((Value.bool false) :: ((Value.bool false) :: ((Value.bool false) :: ((Value.bool false) :: ((Value.int .i64 0) :: []))))))))))) false false) := rfl
@[go_sem ↓] theorem wt84 (k : TyI → Prop) : withTy E 84 k = k (TyI.mk (TK.int .u8) 1 1 ((Value.int .u8 0) :: []) false false) := rfl
@[go_sem ↓] theorem wt86 (k : TyI → Prop) : withTy E 86 k = k (TyI.mk (TK.struct (⟨0, 1, 84, true, false⟩ :: (⟨1, 1, 3, true, false⟩ :: []))) 2 16 ((Value.int .u8 0) :: ((Value.int .i64 0) :: [])) false false) := rfl
@[go_sem ↓] theorem wt87 (k : TyI → Prop) : withTy E 87 k = k (TyI.mk TK.func 1 8 (Value.nilFunc :: []) false false) := rfl
@[go_sem ↓] theorem wt88 (k : TyI → Prop) : withTy E 88 k = k (TyI.mk (TK.ptr 68) 1 8 ((Value.pointer none) :: []) false false) := rfl
@[go_sem ↓] theorem wt89 (k : TyI → Prop) : withTy E 89 k = k (TyI.mk (TK.ptr 98) 1 8 ((Value.pointer none) :: []) false false) := rfl
@[go_sem ↓] theorem wt90 (k : TyI → Prop) : withTy E 90 k = k (TyI.mk TK.other 1 0 ((Value.tuple (Array.mk ((Value.pointer none) :: ((Value.int .i64 0) :: [])))) :: []) false false) := rfl
@[go_sem ↓] theorem wt92 (k : TyI → Prop) : withTy E 92 k = k (TyI.mk TK.func 1 8 (Value.nilFunc :: []) false false) := rfl
@[go_sem ↓] theorem wt93 (k : TyI → Prop) : withTy E 93 k = k (TyI.mk TK.func 1 8 (Value.nilFunc :: []) false false) := rfl
@[go_sem ↓] theorem wt94 (k : TyI → Prop) : withTy E 94 k = k (TyI.mk (TK.slice 95 1 8 (Value.int .u64 0)) 1 24 ((Value.slice none 0 0) :: []) false false) := rfl
@[go_sem ↓] theorem wt95 (k : TyI → Prop) : withTy E 95 k = k (TyI.mk (TK.int .u64) 1 8 ((Value.int .u64 0) :: []) false false) := rfl
@[go_sem ↓] theorem wt96 (k : TyI → Prop) : withTy E 96 k = k (TyI.mk (TK.map 9 4 (Value.bool false)) 1 8 ((Value.map none) :: []) false false) := rfl
@[go_sem ↓] theorem wt98 (k : TyI → Prop) : withTy E 98 k = k (TyI.mk (TK.struct (⟨0, 1, 36, true, false⟩ :: (⟨1, 1, 94, true, false⟩ :: (⟨2, 1, 95, true, false⟩ :: (⟨3, 1, 96, true, false⟩ :: (⟨4, 1, 56, true, false⟩ :: (⟨5, 1, 93, true, false⟩ :: []))))))) 6 96 ((Value.slice none 0 0) :: ((Value.slice none 0 0) :: ((Value.int .u64 0) :: ((Value.map none) :: ((Value.slice none 0 0) :: (Value.nilFunc :: [])))))) false false) := rfl
@[go_sem ↓] theorem wt103 (k : TyI → Prop) : withTy E 103 k = k (TyI.mk TK.other 1 0 ((Value.tuple (Array.mk ((Value.slice none 0 0) :: ((Value.int .i64 0) :: [])))) :: []) false false) := rfl
@[go_sem ↓] theorem wt105 (k : TyI → Prop) : withTy E 105 k = k (TyI.mk (TK.slice 4 1 1 (Value.bool false)) 1 24 ((Value.slice none 0 0) :: []) false false) := rfl
@[go_sem ↓] theorem wt107 (k : TyI → Prop) : withTy E 107 k = k (TyI.mk TK.func 1 8 (Value.nilFunc :: []) false false) := rfl
@[go_sem ↓] theorem wt108 (k : TyI → Prop) : withTy E 108 k = k (TyI.mk TK.func 1 8 (Value.nilFunc :: []) false false) := rfl
@[go_sem ↓] theorem wt109 (k : TyI → Prop) : withTy E 109 k = k (TyI.mk TK.other 1 0 ((Value.tuple (Array.mk ((Value.int .i64 0) :: ((Value.bool false) :: [])))) :: []) false false) := rfl
@[go_sem ↓] theorem wt112 (k : TyI → Prop) : withTy E 112 k = k (TyI.mk TK.func 1 8 (Value.nilFunc :: []) false false) := rfl
@[go_sem ↓] theorem wt113 (k : TyI → Prop) : withTy E 113 k = k (TyI.mk TK.func 1 8 (Value.nilFunc :: []) false false) := rfl
@[go_sem ↓] theorem wt116 (k : TyI → Prop) : withTy E 116 k = k (TyI.mk TK.func 1 8 (Value.nilFunc :: []) false false) := rfl
@[go_sem ↓] theorem wt117 (k : TyI → Prop) : withTy E 117 k = k (TyI.mk TK.other 1 0 ((Value.tuple (Array.mk ((Value.agg (Array.mk ((Value.slice none 0 0) :: ((Value.int .i64 0) :: ((Value.int .i64 0) :: []))))) :: ((Value.int .i64 0) :: [])))) :: []) false false) := rfl
@[go_sem ↓] theorem wt121 (k : TyI → Prop) : withTy E 121 k = k (TyI.mk TK.func 1 8 (Value.nilFunc :: []) false false) := rfl
@[go_sem ↓] theorem wt127 (k : TyI → Prop) : withTy E 127 k = k (TyI.mk TK.func 1 8 (Value.nilFunc :: []) false false) := rfl
@[go_sem ↓] theorem wt129 (k : TyI → Prop) : withTy E 129 k = k (TyI.mk TK.func 1 8 (Value.nilFunc :: []) false false) := rfl
@[go_sem ↓] theorem wt130 (k : TyI → Prop) : withTy E 130 k = k (TyI.mk (TK.slice 30 1 24 (Value.slice none 0 0)) 1 24 ((Value.slice none 0 0) :: []) false false) := rfl
@[go_sem ↓] theorem wt132 (k : TyI → Prop) : withTy E 132 k = k (TyI.mk (TK.ptr 135) 1 8 ((Value.pointer none) :: []) false false) := rfl
@[go_sem ↓] theorem wt133 (k : TyI → Prop) : withTy E 133 k = k (TyI.mk (TK.slice 5 1 1 (Value.int .u8 0)) 1 24 ((Value.slice none 0 0) :: []) false false) := rfl
@[go_sem ↓] theorem wt135 (k : TyI → Prop) : withTy E 135 k = k (TyI.mk (TK.struct (⟨0, 1, 132, true, false⟩ :: (⟨1, 1, 133, true, false⟩ :: []))) 2 32 ((Value.pointer none) :: ((Value.slice none 0 0) :: [])) false false) := rfl
@[go_sem ↓] theorem wt138 (k : TyI → Prop) : withTy E 138 k = k (TyI.mk TK.other 1 0 ((Value.tuple (Array.mk ((Value.int .i64 0) :: (Value.nilIface :: [])))) :: []) false false) := rfl
@[go_sem ↓] theorem wt139 (k : TyI → Prop) : withTy E 139 k = k (TyI.mk TK.func 1 8 (Value.nilFunc :: []) false false) := rfl
@[go_sem ↓] theorem wt141 (k : TyI → Prop) : withTy E 141 k = k (TyI.mk (TK.struct (⟨0, 1, 3, true, false⟩ :: (⟨1, 4, 39, true, true⟩ :: (⟨5, 1, 3, true, false⟩ :: (⟨6, 1, 3, true, false⟩ :: (⟨7, 1, 3, true, false⟩ :: (⟨8, 3, 41, true, true⟩ :: []))))))) 11 88 ((Value.int .i64 0) :: ((Value.int .i64 0) :: ((Value.int .u64 0) :: ((Value.int .u64 0) :: ((Value.int .u64 0) :: ((Value.int .i64 0) :: ((Value.int .i64 0) :: ((Value.int .i64 0) :: ((Value.int .u64 0) :: ((Value.bool false) :: ((Value.int .i64 0) :: []))))))))))) false false) := rfl
@[go_sem ↓] theorem wt142 (k : TyI → Prop) : withTy E 142 k = k (TyI.mk (TK.struct (⟨0, 1, 3, true, false⟩ :: (⟨1, 4, 39, true, true⟩ :: (⟨5, 1, 3, true, false⟩ :: (⟨6, 1, 3, true, false⟩ :: (⟨7, 1, 3, true, false⟩ :: (⟨8, 3, 41, true, true⟩ :: []))))))) 11 88 ((Value.int .i64 0) :: ((Value.int .i64 0) :: ((Value.int .u64 0) :: ((Value.int .u64 0) :: ((Value.int .u64 0) :: ((Value.int .i64 0) :: ((Value.int .i64 0) :: ((Value.int .i64 0) :: ((Value.int .u64 0) :: ((Value.bool false) :: ((Value.int .i64 0) :: []))))))))))) false false) := rfl
@[go_sem ↓] theorem wt143 (k : TyI → Prop) : withTy E 143 k = k (TyI.mk TK.func 1 8 (Value.nilFunc :: []) false false) := rfl
@[go_sem ↓] theorem wt145 (k : TyI → Prop) : withTy E 145 k = k (TyI.mk (TK.int .i64) 1 8 ((Value.int .i64 0) :: []) false false) := rfl
@[go_sem ↓] theorem wt146 (k : TyI → Prop) : withTy E 146 k = k (TyI.mk TK.other 1 0 ((Value.tuple (Array.mk ((Value.int .i64 0) :: ((Value.int .i64 0) :: [])))) :: []) false false) := rfl
@[go_sem ↓] theorem wt151 (k : TyI → Prop) : withTy E 151 k = k (TyI.mk TK.func 1 8 (Value.nilFunc :: []) false false) := rfl
@[go_sem ↓] theorem wt152 (k : TyI → Prop) : withTy E 152 k = k (TyI.mk (TK.int .u32) 1 4 ((Value.int .u32 0) :: []) false false) := rfl
@[go_sem ↓] theorem wt156 (k : TyI → Prop) : withTy E 156 k = k (TyI.mk (TK.arr 24 5 1 false) 24 24 ((Value.int .u8 0) :: ((Value.int .u8 0) :: ((Value.int .u8 0) :: ((Value.int .u8 0) :: ((Value.int .u8 0) :: ((Value.int .u8 0) :: ((Value.int .u8 0) :: ((Value.int .u8 0) :: ((Value.int .u8 0) :: ((Value.int .u8 0) :: ((Value.int .u8 0) :: ((Value.int .u8 0) :: ((Value.int .u8 0) :: ((Value.int .u8 0) :: ((Value.int .u8 0) :: ((Value.int .u8 0) :: ((Value.int .u8 0) :: ((Value.int .u8 0) :: ((Value.int .u8 0) :: ((Value.int .u8 0) :: ((Value.int .u8 0) :: ((Value.int .u8 0) :: ((Value.int .u8 0) :: ((Value.int .u8 0) :: [])))))))))))))))))))))))) false false) := rfl
@[go_sem ↓] theorem wt161 (k : TyI → Prop) : withTy E 161 k = k (TyI.mk (TK.int .u64) 1 8 ((Value.int .u64 0) :: []) false false) := rfl
@[go_sem ↓] theorem wt168 (k : TyI → Prop) : withTy E 168 k = k (TyI.mk TK.func 1 8 (Value.nilFunc :: []) false false) := rfl
@[go_sem ↓] theorem wt173 (k : TyI → Prop) : withTy E 173 k = k (TyI.mk (TK.ptr 161) 1 8 ((Value.pointer none) :: []) false false) := rfl
@[go_sem ↓] theorem wt174 (k : TyI → Prop) : withTy E 174 k = k (TyI.mk TK.other 1 0 ((Value.tuple (Array.mk ((Value.int .i64 0) :: ((Value.int .i64 0) :: [])))) :: []) false false) := rfl
@[go_sem ↓] theorem wt180 (k : TyI → Prop) : withTy E 180 k = k (TyI.mk (TK.arr 0 16 1 false) 0 0 [] false false) := rfl
@[go_sem ↓] theorem wt181 (k : TyI → Prop) : withTy E 181 k = k (TyI.mk (TK.struct (⟨0, 0, 180, false, true⟩ :: [])) 0 0 [] true false) := rfl
@[go_sem ↓] theorem wt182 (k : TyI → Prop) : withTy E 182 k = k (TyI.mk (TK.struct (⟨0, 0, 180, false, true⟩ :: [])) 0 0 [] true false) := rfl
attribute [go_sem] Int.reduceToNat Int.reducePow Nat.reducePow Int.reduceAdd Int.reduceMul Int.reduceSub Int.reduceNeg Nat.reduceAdd Nat.reduceMul Nat.reduceSub Nat.reduceEqDiff Nat.reduceLT Nat.reduceLeDiff
end Go.Proofs.YtpcjeaaplidmaaaDoor