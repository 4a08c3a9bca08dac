/- The types of this program, as tables, and what is known of its package-level variables. No conditions. -/
import Derived.Test.YtpcjeaaplidmaaaGreatDoorAc4
import Derived.Test.YtpcjeaaplidmaaaGreatDoorProg
import Derived.KernelRfl
namespace Go.Proofs.YtpcjeaaplidmaaaGreatDoor
open Go Go.Ab
theorem gn0 : Tryz.prog.globalNamed "internal/strconv.uint64pow10" = some 0 := by kernel_rfl
def Gl (Z : Nat → Prop) (w : World) : Prop := (Z 0 ∧ Z 0) ∧ Lib.TabIs Tryz.prog w "internal/strconv.uint64pow10" .u64 Lib.pow10Tab
noncomputable instance : Glob where
 G := Gl
 mono := fun hz hk h => ⟨⟨hz _ h.1.1, hz _ h.1.2⟩, tabIs_keep gn0 (hk _ h.1.1) h.2⟩
 tab := []
 bld := 149
 slots := slotOf [(25, 3), (19, 2), (7, 3), (31, 3), (34, 3), (26, 2)]
 ok := fun _ h => by simp [gfind] at h
instance : Quick := ⟨fun h => h⟩
@[go_sem] theorem bldE : (Glob.bld : TypeId) = 149 := rfl
@[go_sem] theorem slotsE (g : Nat) : Glob.slots g = slotOf [(25, 3), (19, 2), (7, 3), (31, 3), (34, 3), (26, 2)] g := rfl
noncomputable def tys : List (TypeId × TyI) := [
 (2, (TyI.mk (TK.int .i64) 1 8 ((Value.int .i64 0) :: []) false false)),
 (3, (TyI.mk (TK.int .i64) 1 8 ((Value.int .i64 0) :: []) false false)),
 (4, (TyI.mk TK.bool 1 1 ((Value.bool false) :: []) false false)),
 (5, (TyI.mk (TK.int .u8) 1 1 ((Value.int .u8 0) :: []) false false)),
 (6, (TyI.mk (TK.int .u8) 1 1 ((Value.int .u8 0) :: []) false false)),
 (7, (TyI.mk (TK.struct (⟨0, 1, 2, true, false⟩ :: (⟨1, 1, 3, true, false⟩ :: (⟨2, 1, 4, true, false⟩ :: (⟨3, 1, 6, true, false⟩ :: []))))) 4 24 ((Value.int .i64 0) :: ((Value.int .i64 0) :: ((Value.bool false) :: ((Value.int .u8 0) :: [])))) false false)),
 (8, (TyI.mk (TK.struct (⟨0, 1, 2, true, false⟩ :: (⟨1, 1, 3, true, false⟩ :: (⟨2, 1, 4, true, false⟩ :: (⟨3, 1, 6, true, false⟩ :: []))))) 4 24 ((Value.int .i64 0) :: ((Value.int .i64 0) :: ((Value.bool false) :: ((Value.int .u8 0) :: [])))) false false)),
 (9, (TyI.mk TK.str 1 16 ((Value.string (ByteArray.mk (Array.mk []))) :: []) false false)),
 (10, (TyI.mk TK.str 1 16 ((Value.string (ByteArray.mk (Array.mk []))) :: []) false false)),
 (11, (TyI.mk TK.str 1 16 ((Value.string (ByteArray.mk (Array.mk []))) :: []) false false)),
 (12, (TyI.mk (TK.int .u64) 1 8 ((Value.int .u64 0) :: []) false false)),
 (16, (TyI.mk (TK.ptr 203) 1 8 ((Value.pointer none) :: []) false false)),
 (17, (TyI.mk (TK.ptr 211) 1 8 ((Value.pointer none) :: []) false false)),
 (20, (TyI.mk (TK.iface true) 1 16 (Value.nilIface :: []) false false)),
 (22, (TyI.mk (TK.slice 71 10 80 (Value.agg (Array.mk ((Value.int .i64 0) :: ((Value.int .i64 0) :: ((Value.int .i64 0) :: ((Value.int .i64 0) :: ((Value.int .u64 0) :: ((Value.int .u64 0) :: ((Value.int .u64 0) :: ((Value.int .u64 0) :: ((Value.bool false) :: ((Value.int .i64 0) :: []))))))))))))) 1 24 ((Value.slice none 0 0) :: []) false false)),
 (24, (TyI.mk (TK.struct (⟨0, 1, 3, true, false⟩ :: (⟨1, 1, 22, true, false⟩ :: []))) 2 32 ((Value.int .i64 0) :: ((Value.slice none 0 0) :: [])) false false)),
 (25, (TyI.mk (TK.ptr 106) 1 8 ((Value.pointer none) :: []) false false)),
 (26, (TyI.mk (TK.slice 111 11 88 (Value.agg (Array.mk ((Value.int .i64 0) :: ((Value.int .i64 0) :: ((Value.int .u64 0) :: ((Value.int .u64 0) :: ((Value.int .u64 0) :: ((Value.int .i64 0) :: ((Value.int .i64 0) :: ((Value.int .i64 0) :: ((Value.int .u64 0) :: ((Value.bool false) :: ((Value.int .i64 0) :: [])))))))))))))) 1 24 ((Value.slice none 0 0) :: []) false false)),
 (28, (TyI.mk (TK.struct (⟨0, 1, 26, true, false⟩ :: (⟨1, 1, 3, true, false⟩ :: (⟨2, 1, 3, true, false⟩ :: [])))) 3 40 ((Value.slice none 0 0) :: ((Value.int .i64 0) :: ((Value.int .i64 0) :: []))) false false)),
 (29, (TyI.mk TK.other 1 0 ((Value.tuple (Array.mk ((Value.pointer none) :: ((Value.agg (Array.mk ((Value.slice none 0 0) :: ((Value.int .i64 0) :: ((Value.int .i64 0) :: []))))) :: [])))) :: []) false false)),
 (30, (TyI.mk TK.func 1 8 (Value.nilFunc :: []) false false)),
 (31, (TyI.mk TK.func 1 8 (Value.nilFunc :: []) false false)),
 (32, (TyI.mk TK.func 1 8 (Value.nilFunc :: []) false false)),
 (33, (TyI.mk (TK.slice 41 1 24 (Value.slice none 0 0)) 1 24 ((Value.slice none 0 0) :: []) false false)),
 (35, (TyI.mk (TK.slice 43 1 24 (Value.slice none 0 0)) 1 24 ((Value.slice none 0 0) :: []) false false)),
 (36, (TyI.mk (TK.int .i64) 1 8 ((Value.int .i64 0) :: []) false false)),
 (37, (TyI.mk TK.other 1 0 ((Value.tuple (Array.mk ((Value.slice none 0 0) :: ((Value.int .i64 0) :: [])))) :: []) false false)),
 (38, (TyI.mk TK.func 1 8 (Value.nilFunc :: []) false false)),
 (39, (TyI.mk (TK.int .u8) 1 1 ((Value.int .u8 0) :: []) false false)),
 (40, (TyI.mk TK.func 1 8 (Value.nilFunc :: []) false false)),
 (41, (TyI.mk (TK.slice 102 2 16 (Value.agg (Array.mk ((Value.int .u64 0) :: ((Value.int .u64 0) :: []))))) 1 24 ((Value.slice none 0 0) :: []) false false)),
 (43, (TyI.mk (TK.slice 78 2 16 (Value.agg (Array.mk ((Value.int .u64 0) :: ((Value.int .u64 0) :: []))))) 1 24 ((Value.slice none 0 0) :: []) false false)),
 (44, (TyI.mk (TK.slice 3 1 8 (Value.int .i64 0)) 1 24 ((Value.slice none 0 0) :: []) false false)),
 (45, (TyI.mk TK.other 1 0 ((Value.tuple (Array.mk ((Value.slice none 0 0) :: ((Value.bool false) :: ((Value.int .i64 0) :: []))))) :: []) false false)),
 (46, (TyI.mk TK.func 1 8 (Value.nilFunc :: []) false false)),
 (47, (TyI.mk TK.func 1 8 (Value.nilFunc :: []) false false)),
 (48, (TyI.mk (TK.int .u64) 1 8 ((Value.int .u64 0) :: []) false false)),
 (50, (TyI.mk (TK.struct (⟨0, 1, 3, true, false⟩ :: (⟨1, 1, 48, true, false⟩ :: (⟨2, 1, 48, true, false⟩ :: (⟨3, 1, 48, true, false⟩ :: []))))) 4 32 ((Value.int .i64 0) :: ((Value.int .u64 0) :: ((Value.int .u64 0) :: ((Value.int .u64 0) :: [])))) false false)),
 (53, (TyI.mk TK.other 1 0 ((Value.tuple (Array.mk ((Value.agg (Array.mk ((Value.slice none 0 0) :: ((Value.int .i64 0) :: ((Value.int .i64 0) :: []))))) :: ((Value.int .i64 0) :: [])))) :: []) false false)),
 (56, (TyI.mk (TK.int .u8) 1 1 ((Value.int .u8 0) :: []) false false)),
 (58, (TyI.mk (TK.struct (⟨0, 1, 56, true, false⟩ :: (⟨1, 1, 48, true, false⟩ :: (⟨2, 1, 48, true, false⟩ :: (⟨3, 1, 48, true, false⟩ :: []))))) 4 32 ((Value.int .u8 0) :: ((Value.int .u64 0) :: ((Value.int .u64 0) :: ((Value.int .u64 0) :: [])))) false false)),
 (59, (TyI.mk TK.func 1 8 (Value.nilFunc :: []) false false)),
 (64, (TyI.mk TK.func 1 8 (Value.nilFunc :: []) false false)),
 (65, (TyI.mk TK.func 1 8 (Value.nilFunc :: []) false false)),
 (68, (TyI.mk (TK.struct (⟨0, 1, 48, true, false⟩ :: (⟨1, 1, 4, true, false⟩ :: (⟨2, 1, 3, true, false⟩ :: [])))) 3 24 ((Value.int .u64 0) :: ((Value.bool false) :: ((Value.int .i64 0) :: []))) false false)),
 (69, (TyI.mk (TK.struct (⟨0, 1, 48, true, false⟩ :: (⟨1, 1, 4, true, false⟩ :: (⟨2, 1, 3, true, false⟩ :: [])))) 3 24 ((Value.int .u64 0) :: ((Value.bool false) :: ((Value.int .i64 0) :: []))) false false)),
 (71, (TyI.mk (TK.struct (⟨0, 1, 3, true, false⟩ :: (⟨1, 1, 3, true, false⟩ :: (⟨2, 1, 3, true, false⟩ :: (⟨3, 4, 50, true, true⟩ :: (⟨7, 3, 69, true, true⟩ :: [])))))) 10 80 ((Value.int .i64 0) :: ((Value.int .i64 0) :: ((Value.int .i64 0) :: ((Value.int .i64 0) :: ((Value.int .u64 0) :: ((Value.int .u64 0) :: ((Value.int .u64 0) :: ((Value.int .u64 0) :: ((Value.bool false) :: ((Value.int .i64 0) :: [])))))))))) false false)),
 (72, (TyI.mk TK.other 1 0 ((Value.tuple (Array.mk ((Value.agg (Array.mk ((Value.slice none 0 0) :: ((Value.int .i64 0) :: ((Value.int .i64 0) :: []))))) :: ((Value.bool false) :: [])))) :: []) false false)),
 (74, (TyI.mk TK.func 1 8 (Value.nilFunc :: []) false false)),
 (76, (TyI.mk (TK.struct (⟨0, 1, 48, true, false⟩ :: (⟨1, 1, 4, true, false⟩ :: (⟨2, 1, 36, true, false⟩ :: [])))) 3 24 ((Value.int .u64 0) :: ((Value.bool false) :: ((Value.int .i64 0) :: []))) false false)),
 (77, (TyI.mk (TK.struct (⟨0, 1, 48, true, false⟩ :: (⟨1, 1, 48, true, false⟩ :: []))) 2 16 ((Value.int .u64 0) :: ((Value.int .u64 0) :: [])) false false)),
 (78, (TyI.mk (TK.struct (⟨0, 1, 48, true, false⟩ :: (⟨1, 1, 48, true, false⟩ :: []))) 2 16 ((Value.int .u64 0) :: ((Value.int .u64 0) :: [])) false false)),
 (80, (TyI.mk TK.func 1 8 (Value.nilFunc :: []) false false)),
 (81, (TyI.mk (TK.slice 4 1 1 (Value.bool false)) 1 24 ((Value.slice none 0 0) :: []) false false)),
 (82, (TyI.mk (TK.ptr 95) 1 8 ((Value.pointer none) :: []) false false)),
 (83, (TyI.mk TK.other 1 0 ((Value.tuple (Array.mk ((Value.pointer none) :: ((Value.int .i64 0) :: [])))) :: []) false false)),
 (85, (TyI.mk (TK.slice 48 1 8 (Value.int .u64 0)) 1 24 ((Value.slice none 0 0) :: []) false false)),
 (86, (TyI.mk (TK.struct (⟨0, 1, 39, true, false⟩ :: (⟨1, 1, 48, true, false⟩ :: (⟨2, 1, 43, true, false⟩ :: (⟨3, 1, 85, true, false⟩ :: []))))) 4 64 ((Value.int .u8 0) :: ((Value.int .u64 0) :: ((Value.slice none 0 0) :: ((Value.slice none 0 0) :: [])))) false false)),
 (87, (TyI.mk (TK.struct (⟨0, 1, 39, true, false⟩ :: (⟨1, 1, 48, true, false⟩ :: (⟨2, 1, 43, true, false⟩ :: (⟨3, 1, 85, true, false⟩ :: []))))) 4 64 ((Value.int .u8 0) :: ((Value.int .u64 0) :: ((Value.slice none 0 0) :: ((Value.slice none 0 0) :: [])))) false false)),
 (88, (TyI.mk TK.func 1 8 (Value.nilFunc :: []) false false)),
 (89, (TyI.mk TK.func 1 8 (Value.nilFunc :: []) false false)),
 (90, (TyI.mk (TK.slice 114 11 88 (Value.agg (Array.mk ((Value.int .i64 0) :: ((Value.int .u8 0) :: ((Value.int .u64 0) :: ((Value.int .u64 0) :: ((Value.int .u64 0) :: ((Value.int .i64 0) :: ((Value.int .i64 0) :: ((Value.int .i64 0) :: ((Value.int .u64 0) :: ((Value.bool false) :: ((Value.int .i64 0) :: [])))))))))))))) 1 24 ((Value.slice none 0 0) :: []) false false)),
 (91, (TyI.mk (TK.slice 92 1 8 (Value.int .u64 0)) 1 24 ((Value.slice none 0 0) :: []) false false)),
 (92, (TyI.mk (TK.int .u64) 1 8 ((Value.int .u64 0) :: []) false false)),
 (93, (TyI.mk (TK.map 9 4 (Value.bool false)) 1 8 ((Value.map none) :: []) false false)),
 (95, (TyI.mk (TK.struct (⟨0, 1, 90, true, false⟩ :: (⟨1, 1, 91, true, false⟩ :: (⟨2, 1, 92, true, false⟩ :: (⟨3, 1, 93, true, false⟩ :: (⟨4, 1, 44, true, false⟩ :: (⟨5, 1, 89, true, false⟩ :: []))))))) 6 96 ((Value.slice none 0 0) :: ((Value.slice none 0 0) :: ((Value.int .u64 0) :: ((Value.map none) :: ((Value.slice none 0 0) :: (Value.nilFunc :: [])))))) false false)),
 (96, (TyI.mk TK.func 1 8 (Value.nilFunc :: []) false false)),
 (98, (TyI.mk TK.func 1 8 (Value.nilFunc :: []) false false)),
 (99, (TyI.mk TK.func 1 8 (Value.nilFunc :: []) false false)),
 (101, (TyI.mk TK.func 1 8 (Value.nilFunc :: []) false false)),
 (102, (TyI.mk (TK.struct (⟨0, 1, 48, true, false⟩ :: (⟨1, 1, 48, true, false⟩ :: []))) 2 16 ((Value.int .u64 0) :: ((Value.int .u64 0) :: [])) false false)),
 (103, (TyI.mk (TK.slice 109 2 16 (Value.agg (Array.mk ((Value.int .u8 0) :: ((Value.int .i64 0) :: []))))) 1 24 ((Value.slice none 0 0) :: []) false false)),
 (104, (TyI.mk (TK.arr 8 4 1 false) 8 8 ((Value.bool false) :: ((Value.bool false) :: ((Value.bool false) :: ((Value.bool false) :: ((Value.bool false) :: ((Value.bool false) :: ((Value.bool false) :: ((Value.bool false) :: [])))))))) false false)),
 (105, (TyI.mk (TK.struct (⟨0, 1, 103, true, false⟩ :: (⟨1, 1, 90, true, false⟩ :: (⟨2, 8, 104, true, true⟩ :: (⟨10, 1, 3, true, false⟩ :: []))))) 11 64 ((Value.slice none 0 0) :: ((Value.slice none 0 0) :: ((Value.bool false) :: ((Value.bool false) :: ((Value.bool false) :: ((Value.bool false) :: ((Value.bool false) :: ((Value.bool false) :: ((Value.bool false) :: ((Value.bool false) :: ((Value.int .i64 0) :: []))))))))))) false false)),
 (106, (TyI.mk (TK.struct (⟨0, 1, 103, true, false⟩ :: (⟨1, 1, 90, true, false⟩ :: (⟨2, 8, 104, true, true⟩ :: (⟨10, 1, 3, true, false⟩ :: []))))) 11 64 ((Value.slice none 0 0) :: ((Value.slice none 0 0) :: ((Value.bool false) :: ((Value.bool false) :: ((Value.bool false) :: ((Value.bool false) :: ((Value.bool false) :: ((Value.bool false) :: ((Value.bool false) :: ((Value.bool false) :: ((Value.int .i64 0) :: []))))))))))) false false)),
 (107, (TyI.mk (TK.int .u8) 1 1 ((Value.int .u8 0) :: []) false false)),
 (108, (TyI.mk (TK.struct (⟨0, 1, 107, true, false⟩ :: (⟨1, 1, 3, true, false⟩ :: []))) 2 16 ((Value.int .u8 0) :: ((Value.int .i64 0) :: [])) false false)),
 (109, (TyI.mk (TK.struct (⟨0, 1, 107, true, false⟩ :: (⟨1, 1, 3, true, false⟩ :: []))) 2 16 ((Value.int .u8 0) :: ((Value.int .i64 0) :: [])) false false)),
 (111, (TyI.mk (TK.struct (⟨0, 1, 3, true, false⟩ :: (⟨1, 4, 50, true, true⟩ :: (⟨5, 1, 3, true, false⟩ :: (⟨6, 1, 3, true, false⟩ :: (⟨7, 1, 3, true, false⟩ :: (⟨8, 3, 69, true, true⟩ :: []))))))) 11 88 ((Value.int .i64 0) :: ((Value.int .i64 0) :: ((Value.int .u64 0) :: ((Value.int .u64 0) :: ((Value.int .u64 0) :: ((Value.int .i64 0) :: ((Value.int .i64 0) :: ((Value.int .i64 0) :: ((Value.int .u64 0) :: ((Value.bool false) :: ((Value.int .i64 0) :: []))))))))))) false false)),
 (113, (TyI.mk (TK.struct (⟨0, 1, 3, true, false⟩ :: (⟨1, 4, 58, true, true⟩ :: (⟨5, 1, 3, true, false⟩ :: (⟨6, 1, 3, true, false⟩ :: (⟨7, 1, 3, true, false⟩ :: (⟨8, 3, 76, true, true⟩ :: []))))))) 11 88 ((Value.int .i64 0) :: ((Value.int .u8 0) :: ((Value.int .u64 0) :: ((Value.int .u64 0) :: ((Value.int .u64 0) :: ((Value.int .i64 0) :: ((Value.int .i64 0) :: ((Value.int .i64 0) :: ((Value.int .u64 0) :: ((Value.bool false) :: ((Value.int .i64 0) :: []))))))))))) false false)),
 (114, (TyI.mk (TK.struct (⟨0, 1, 3, true, false⟩ :: (⟨1, 4, 58, true, true⟩ :: (⟨5, 1, 3, true, false⟩ :: (⟨6, 1, 3, true, false⟩ :: (⟨7, 1, 3, true, false⟩ :: (⟨8, 3, 76, true, true⟩ :: []))))))) 11 88 ((Value.int .i64 0) :: ((Value.int .u8 0) :: ((Value.int .u64 0) :: ((Value.int .u64 0) :: ((Value.int .u64 0) :: ((Value.int .i64 0) :: ((Value.int .i64 0) :: ((Value.int .i64 0) :: ((Value.int .u64 0) :: ((Value.bool false) :: ((Value.int .i64 0) :: []))))))))))) false false)),
 (116, (TyI.mk TK.other 1 0 ((Value.tuple (Array.mk ((Value.slice none 0 0) :: ((Value.agg (Array.mk ((Value.int .u64 0) :: ((Value.bool false) :: ((Value.int .i64 0) :: []))))) :: [])))) :: []) false false)),
 (117, (TyI.mk TK.func 1 8 (Value.nilFunc :: []) false false)),
 (118, (TyI.mk TK.other 1 0 ((Value.tuple (Array.mk ((Value.slice none 0 0) :: ((Value.int .i64 0) :: [])))) :: []) false false)),
 (120, (TyI.mk TK.other 1 0 ((Value.tuple (Array.mk ((Value.agg (Array.mk ((Value.int .u8 0) :: ((Value.int .u64 0) :: ((Value.slice none 0 0) :: ((Value.slice none 0 0) :: [])))))) :: ((Value.agg (Array.mk ((Value.int .u64 0) :: ((Value.bool false) :: ((Value.int .i64 0) :: []))))) :: [])))) :: []) false false)),
 (121, (TyI.mk TK.func 1 8 (Value.nilFunc :: []) false false)),
 (125, (TyI.mk (TK.ptr 114) 1 8 ((Value.pointer none) :: []) false false)),
 (129, (TyI.mk TK.func 1 8 (Value.nilFunc :: []) false false)),
 (132, (TyI.mk TK.func 1 8 (Value.nilFunc :: []) false false)),
 (135, (TyI.mk TK.func 1 8 (Value.nilFunc :: []) false false)),
 (136, (TyI.mk TK.other 1 0 ((Value.tuple (Array.mk ((Value.int .u64 0) :: ((Value.bool false) :: [])))) :: []) false false)),
 (138, (TyI.mk TK.func 1 8 (Value.nilFunc :: []) false false)),
 (139, (TyI.mk TK.func 1 8 (Value.nilFunc :: []) false false)),
 (141, (TyI.mk TK.func 1 8 (Value.nilFunc :: []) false false)),
 (143, (TyI.mk TK.func 1 8 (Value.nilFunc :: []) false false)),
 (145, (TyI.mk TK.func 1 8 (Value.nilFunc :: []) false false)),
 (146, (TyI.mk (TK.ptr 149) 1 8 ((Value.pointer none) :: []) false false)),
 (147, (TyI.mk (TK.slice 5 1 1 (Value.int .u8 0)) 1 24 ((Value.slice none 0 0) :: []) false false)),
 (148, (TyI.mk (TK.struct (⟨0, 1, 146, true, false⟩ :: (⟨1, 1, 147, true, false⟩ :: []))) 2 32 ((Value.pointer none) :: ((Value.slice none 0 0) :: [])) false false)),
 (149, (TyI.mk (TK.struct (⟨0, 1, 146, true, false⟩ :: (⟨1, 1, 147, true, false⟩ :: []))) 2 32 ((Value.pointer none) :: ((Value.slice none 0 0) :: [])) false false)),
 (151, (TyI.mk (TK.iface false) 1 16 (Value.nilIface :: []) false true)),
 (152, (TyI.mk TK.other 1 0 ((Value.tuple (Array.mk ((Value.int .i64 0) :: (Value.nilIface :: [])))) :: []) false false)),
 (156, (TyI.mk (TK.int .i64) 1 8 ((Value.int .i64 0) :: []) false false)),
 (157, (TyI.mk TK.other 1 0 ((Value.tuple (Array.mk ((Value.int .i64 0) :: ((Value.int .i64 0) :: [])))) :: []) false false)),
 (161, (TyI.mk TK.other 1 0 ((Value.tuple (Array.mk ((Value.int .i64 0) :: ((Value.bool false) :: [])))) :: []) false false)),
 (164, (TyI.mk (TK.int .u32) 1 4 ((Value.int .u32 0) :: []) false false)),
 (168, (TyI.mk TK.func 1 8 (Value.nilFunc :: []) false false)),
 (169, (TyI.mk TK.func 1 8 (Value.nilFunc :: []) false false)),
 (173, (TyI.mk (TK.arr 24 5 1 false) 24 24 ((Value.int .u8 0) :: ((Value.int .u8 0) :: ((Value.int .u8 0) :: ((Value.int .u8 0) :: ((Value.int .u8 0) :: ((Value.int .u8 0) :: ((Value.int .u8 0) :: ((Value.int .u8 0) :: ((Value.int .u8 0) :: ((Value.int .u8 0) :: ((Value.int .u8 0) :: ((Value.int .u8 0) :: ((Value.int .u8 0) :: ((Value.int .u8 0) :: ((Value.int .u8 0) :: ((Value.int .u8 0) :: ((Value.int .u8 0) :: ((Value.int .u8 0) :: ((Value.int .u8 0) :: ((Value.int .u8 0) :: ((Value.int .u8 0) :: ((Value.int .u8 0) :: ((Value.int .u8 0) :: ((Value.int .u8 0) :: [])))))))))))))))))))))))) false false)),
 (174, (TyI.mk TK.func 1 8 (Value.nilFunc :: []) false false)),
 (177, (TyI.mk (TK.ptr 5) 1 8 ((Value.pointer none) :: []) false false)),
 (180, (TyI.mk TK.func 1 8 (Value.nilFunc :: []) false false)),
 (181, (TyI.mk TK.func 1 8 (Value.nilFunc :: []) false false)),
 (182, (TyI.mk (TK.ptr 3) 1 8 ((Value.pointer none) :: []) false false)),
 (185, (TyI.mk (TK.slice 85 1 24 (Value.slice none 0 0)) 1 24 ((Value.slice none 0 0) :: []) false false)),
 (195, (TyI.mk TK.func 1 8 (Value.nilFunc :: []) false false)),
 (199, (TyI.mk (TK.struct (⟨0, 1, 17, true, false⟩ :: (⟨1, 1, 17, true, false⟩ :: (⟨2, 1, 17, true, false⟩ :: (⟨3, 1, 9, true, false⟩ :: []))))) 4 40 ((Value.pointer none) :: ((Value.pointer none) :: ((Value.pointer none) :: ((Value.string (ByteArray.mk (Array.mk []))) :: [])))) true false)),
 (201, (TyI.mk (TK.arr 0 16 1 false) 0 0 [] false false)),
 (203, (TyI.mk (TK.struct (⟨0, 0, 201, false, true⟩ :: [])) 0 0 [] true false)),
 (205, (TyI.mk (TK.int .u8) 1 1 ((Value.int .u8 0) :: []) false false)),
 (206, (TyI.mk (TK.int .u8) 1 1 ((Value.int .u8 0) :: []) false false)),
 (207, (TyI.mk TK.func 1 8 (Value.nilFunc :: []) false false)),
 (208, (TyI.mk (TK.int .i32) 1 4 ((Value.int .i32 0) :: []) false false)),
 (209, (TyI.mk (TK.int .i32) 1 4 ((Value.int .i32 0) :: []) false false)),
 (211, (TyI.mk (TK.struct (⟨0, 1, 12, true, false⟩ :: (⟨1, 1, 12, true, false⟩ :: (⟨2, 1, 164, true, false⟩ :: (⟨3, 1, 205, true, false⟩ :: (⟨4, 1, 5, true, false⟩ :: (⟨5, 1, 5, true, false⟩ :: (⟨6, 1, 206, true, false⟩ :: (⟨7, 1, 207, true, false⟩ :: (⟨8, 1, 177, true, false⟩ :: (⟨9, 1, 208, true, false⟩ :: (⟨10, 1, 209, true, false⟩ :: [])))))))))))) 11 48 ((Value.int .u64 0) :: ((Value.int .u64 0) :: ((Value.int .u32 0) :: ((Value.int .u8 0) :: ((Value.int .u8 0) :: ((Value.int .u8 0) :: ((Value.int .u8 0) :: (Value.nilFunc :: ((Value.pointer none) :: ((Value.int .i32 0) :: ((Value.int .i32 0) :: []))))))))))) true false))
]
theorem tysOk : tys.map (fun p => tyOf Tryz.prog p.1) = tys.map (fun p => some p.2) := by kernel_rfl
theorem mixed : Tryz.prog.follows .mixedOrders = true := by kernel_rfl
noncomputable def E : Env := ⟨Tryz.prog, tys, tfind_ok tysOk, mixed⟩
@[go_sem] theorem ty2 : tfind E.tys 2 = some (TyI.mk (TK.int .i64) 1 8 ((Value.int .i64 0) :: []) false false) := rfl
@[go_sem] theorem ty3 : tfind E.tys 3 = some (TyI.mk (TK.int .i64) 1 8 ((Value.int .i64 0) :: []) false false) := rfl
@[go_sem] theorem ty4 : tfind E.tys 4 = some (TyI.mk TK.bool 1 1 ((Value.bool false) :: []) false false) := rfl
@[go_sem] theorem ty5 : tfind E.tys 5 = some (TyI.mk (TK.int .u8) 1 1 ((Value.int .u8 0) :: []) false false) := rfl
@[go_sem] theorem ty6 : tfind E.tys 6 = some (TyI.mk (TK.int .u8) 1 1 ((Value.int .u8 0) :: []) false false) := rfl
@[go_sem] theorem ty7 : tfind E.tys 7 = some (TyI.mk (TK.struct (⟨0, 1, 2, true, false⟩ :: (⟨1, 1, 3, true, false⟩ :: (⟨2, 1, 4, true, false⟩ :: (⟨3, 1, 6, true, false⟩ :: []))))) 4 24 ((Value.int .i64 0) :: ((Value.int .i64 0) :: ((Value.bool false) :: ((Value.int .u8 0) :: [])))) false false) := rfl
@[go_sem] theorem ty8 : tfind E.tys 8 = some (TyI.mk (TK.struct (⟨0, 1, 2, true, false⟩ :: (⟨1, 1, 3, true, false⟩ :: (⟨2, 1, 4, true, false⟩ :: (⟨3, 1, 6, true, false⟩ :: []))))) 4 24 ((Value.int .i64 0) :: ((Value.int .i64 0) :: ((Value.bool false) :: ((Value.int .u8 0) :: [])))) false false) := rfl
@[go_sem] theorem ty9 : tfind E.tys 9 = some (TyI.mk TK.str 1 16 ((Value.string (ByteArray.mk (Array.mk []))) :: []) false false) := rfl
@[go_sem] theorem ty10 : tfind E.tys 10 = some (TyI.mk TK.str 1 16 ((Value.string (ByteArray.mk (Array.mk []))) :: []) false false) := rfl
@[go_sem] theorem ty11 : tfind E.tys 11 = some (TyI.mk TK.str 1 16 ((Value.string (ByteArray.mk (Array.mk []))) :: []) false false) := rfl
@[go_sem] theorem ty12 : tfind E.tys 12 = some (TyI.mk (TK.int .u64) 1 8 ((Value.int .u64 0) :: []) false false) := rfl
@[go_sem] theorem ty20 : tfind E.tys 20 = some (TyI.mk (TK.iface true) 1 16 (Value.nilIface :: []) false false) := rfl
@[go_sem] theorem ty22 : tfind E.tys 22 = some (TyI.mk (TK.slice 71 10 80 (Value.agg (Array.mk ((Value.int .i64 0) :: ((Value.int .i64 0) :: ((Value.int .i64 0) :: ((Value.int .i64 0) :: ((Value.int .u64 0) :: ((Value.int .u64 0) :: ((Value.int .u64 0) :: ((Value.int .u64 0) :: ((Value.bool false) :: ((Value.int .i64 0) :: []))))))))))))) 1 24 ((Value.slice none 0 0) :: []) false false) := rfl
@[go_sem] theorem ty24 : tfind E.tys 24 = some (TyI.mk (TK.struct (⟨0, 1, 3, true, false⟩ :: (⟨1, 1, 22, true, false⟩ :: []))) 2 32 ((Value.int .i64 0) :: ((Value.slice none 0 0) :: [])) false false) := rfl
@[go_sem] theorem ty26 : tfind E.tys 26 = some (TyI.mk (TK.slice 111 11 88 (Value.agg (Array.mk ((Value.int .i64 0) :: ((Value.int .i64 0) :: ((Value.int .u64 0) :: ((Value.int .u64 0) :: ((Value.int .u64 0) :: ((Value.int .i64 0) :: ((Value.int .i64 0) :: ((Value.int .i64 0) :: ((Value.int .u64 0) :: ((Value.bool false) :: ((Value.int .i64 0) :: [])))))))))))))) 1 24 ((Value.slice none 0 0) :: []) false false) := rfl
@[go_sem] theorem ty28 : tfind E.tys 28 = some (TyI.mk (TK.struct (⟨0, 1, 26, true, false⟩ :: (⟨1, 1, 3, true, false⟩ :: (⟨2, 1, 3, true, false⟩ :: [])))) 3 40 ((Value.slice none 0 0) :: ((Value.int .i64 0) :: ((Value.int .i64 0) :: []))) false false) := rfl
@[go_sem] theorem ty33 : tfind E.tys 33 = some (TyI.mk (TK.slice 41 1 24 (Value.slice none 0 0)) 1 24 ((Value.slice none 0 0) :: []) false false) := rfl
@[go_sem] theorem ty35 : tfind E.tys 35 = some (TyI.mk (TK.slice 43 1 24 (Value.slice none 0 0)) 1 24 ((Value.slice none 0 0) :: []) false false) := rfl
@[go_sem] theorem ty36 : tfind E.tys 36 = some (TyI.mk (TK.int .i64) 1 8 ((Value.int .i64 0) :: []) false false) := rfl
@[go_sem] theorem ty39 : tfind E.tys 39 = some (TyI.mk (TK.int .u8) 1 1 ((Value.int .u8 0) :: []) false false) := rfl
@[go_sem] theorem ty41 : tfind E.tys 41 = some (TyI.mk (TK.slice 102 2 16 (Value.agg (Array.mk ((Value.int .u64 0) :: ((Value.int .u64 0) :: []))))) 1 24 ((Value.slice none 0 0) :: []) false false) := rfl
@[go_sem] theorem ty43 : tfind E.tys 43 = some (TyI.mk (TK.slice 78 2 16 (Value.agg (Array.mk ((Value.int .u64 0) :: ((Value.int .u64 0) :: []))))) 1 24 ((Value.slice none 0 0) :: []) false false) := rfl
@[go_sem] theorem ty44 : tfind E.tys 44 = some (TyI.mk (TK.slice 3 1 8 (Value.int .i64 0)) 1 24 ((Value.slice none 0 0) :: []) false false) := rfl
@[go_sem] theorem ty48 : tfind E.tys 48 = some (TyI.mk (TK.int .u64) 1 8 ((Value.int .u64 0) :: []) false false) := rfl
@[go_sem] theorem ty50 : tfind E.tys 50 = some (TyI.mk (TK.struct (⟨0, 1, 3, true, false⟩ :: (⟨1, 1, 48, true, false⟩ :: (⟨2, 1, 48, true, false⟩ :: (⟨3, 1, 48, true, false⟩ :: []))))) 4 32 ((Value.int .i64 0) :: ((Value.int .u64 0) :: ((Value.int .u64 0) :: ((Value.int .u64 0) :: [])))) false false) := rfl
@[go_sem] theorem ty56 : tfind E.tys 56 = some (TyI.mk (TK.int .u8) 1 1 ((Value.int .u8 0) :: []) false false) := rfl
@[go_sem] theorem ty58 : tfind E.tys 58 = some (TyI.mk (TK.struct (⟨0, 1, 56, true, false⟩ :: (⟨1, 1, 48, true, false⟩ :: (⟨2, 1, 48, true, false⟩ :: (⟨3, 1, 48, true, false⟩ :: []))))) 4 32 ((Value.int .u8 0) :: ((Value.int .u64 0) :: ((Value.int .u64 0) :: ((Value.int .u64 0) :: [])))) false false) := rfl
@[go_sem] theorem ty68 : tfind E.tys 68 = some (TyI.mk (TK.struct (⟨0, 1, 48, true, false⟩ :: (⟨1, 1, 4, true, false⟩ :: (⟨2, 1, 3, true, false⟩ :: [])))) 3 24 ((Value.int .u64 0) :: ((Value.bool false) :: ((Value.int .i64 0) :: []))) false false) := rfl
@[go_sem] theorem ty69 : tfind E.tys 69 = some (TyI.mk (TK.struct (⟨0, 1, 48, true, false⟩ :: (⟨1, 1, 4, true, false⟩ :: (⟨2, 1, 3, true, false⟩ :: [])))) 3 24 ((Value.int .u64 0) :: ((Value.bool false) :: ((Value.int .i64 0) :: []))) false false) := rfl
@[go_sem] theorem ty71 : tfind E.tys 71 = some (TyI.mk (TK.struct (⟨0, 1, 3, true, false⟩ :: (⟨1, 1, 3, true, false⟩ :: (⟨2, 1, 3, true, false⟩ :: (⟨3, 4, 50, true, true⟩ :: (⟨7, 3, 69, true, true⟩ :: [])))))) 10 80 ((Value.int .i64 0) :: ((Value.int .i64 0) :: ((Value.int .i64 0) :: ((Value.int .i64 0) :: ((Value.int .u64 0) :: ((Value.int .u64 0) :: ((Value.int .u64 0) :: ((Value.int .u64 0) :: ((Value.bool false) :: ((Value.int .i64 0) :: [])))))))))) false false) := rfl
@[go_sem] theorem ty76 : tfind E.tys 76 = some (TyI.mk (TK.struct (⟨0, 1, 48, true, false⟩ :: (⟨1, 1, 4, true, false⟩ :: (⟨2, 1, 36, true, false⟩ :: [])))) 3 24 ((Value.int .u64 0) :: ((Value.bool false) :: ((Value.int .i64 0) :: []))) false false) := rfl
@[go_sem] theorem ty77 : tfind E.tys 77 = some (TyI.mk (TK.struct (⟨0, 1, 48, true, false⟩ :: (⟨1, 1, 48, true, false⟩ :: []))) 2 16 ((Value.int .u64 0) :: ((Value.int .u64 0) :: [])) false false) := rfl
@[go_sem] theorem ty78 : tfind E.tys 78 = some (TyI.mk (TK.struct (⟨0, 1, 48, true, false⟩ :: (⟨1, 1, 48, true, false⟩ :: []))) 2 16 ((Value.int .u64 0) :: ((Value.int .u64 0) :: [])) false false) := rfl
@[go_sem] theorem ty81 : tfind E.tys 81 = some (TyI.mk (TK.slice 4 1 1 (Value.bool false)) 1 24 ((Value.slice none 0 0) :: []) false false) := rfl
@[go_sem] theorem ty85 : tfind E.tys 85 = some (TyI.mk (TK.slice 48 1 8 (Value.int .u64 0)) 1 24 ((Value.slice none 0 0) :: []) false false) := rfl
@[go_sem] theorem ty86 : tfind E.tys 86 = some (TyI.mk (TK.struct (⟨0, 1, 39, true, false⟩ :: (⟨1, 1, 48, true, false⟩ :: (⟨2, 1, 43, true, false⟩ :: (⟨3, 1, 85, true, false⟩ :: []))))) 4 64 ((Value.int .u8 0) :: ((Value.int .u64 0) :: ((Value.slice none 0 0) :: ((Value.slice none 0 0) :: [])))) false false) := rfl
@[go_sem] theorem ty87 : tfind E.tys 87 = some (TyI.mk (TK.struct (⟨0, 1, 39, true, false⟩ :: (⟨1, 1, 48, true, false⟩ :: (⟨2, 1, 43, true, false⟩ :: (⟨3, 1, 85, true, false⟩ :: []))))) 4 64 ((Value.int .u8 0) :: ((Value.int .u64 0) :: ((Value.slice none 0 0) :: ((Value.slice none 0 0) :: [])))) false false) := rfl
@[go_sem] theorem ty90 : tfind E.tys 90 = some (TyI.mk (TK.slice 114 11 88 (Value.agg (Array.mk ((Value.int .i64 0) :: ((Value.int .u8 0) :: ((Value.int .u64 0) :: ((Value.int .u64 0) :: ((Value.int .u64 0) :: ((Value.int .i64 0) :: ((Value.int .i64 0) :: ((Value.int .i64 0) :: ((Value.int .u64 0) :: ((Value.bool false) :: ((Value.int .i64 0) :: [])))))))))))))) 1 24 ((Value.slice none 0 0) :: []) false false) := rfl
@[go_sem] theorem ty91 : tfind E.tys 91 = some (TyI.mk (TK.slice 92 1 8 (Value.int .u64 0)) 1 24 ((Value.slice none 0 0) :: []) false false) := rfl
@[go_sem] theorem ty92 : tfind E.tys 92 = some (TyI.mk (TK.int .u64) 1 8 ((Value.int .u64 0) :: []) false false) := rfl
@[go_sem] theorem ty93 : tfind E.tys 93 = some (TyI.mk (TK.map 9 4 (Value.bool false)) 1 8 ((Value.map none) :: []) false false) := rfl
@[go_sem] theorem ty95 : tfind E.tys 95 = some (TyI.mk (TK.struct (⟨0, 1, 90, true, false⟩ :: (⟨1, 1, 91, true, false⟩ :: (⟨2, 1, 92, true, false⟩ :: (⟨3, 1, 93, true, false⟩ :: (⟨4, 1, 44, true, false⟩ :: (⟨5, 1, 89, true, false⟩ :: []))))))) 6 96 ((Value.slice none 0 0) :: ((Value.slice none 0 0) :: ((Value.int .u64 0) :: ((Value.map none) :: ((Value.slice none 0 0) :: (Value.nilFunc :: [])))))) false false) := rfl
@[go_sem] theorem ty102 : tfind E.tys 102 = some (TyI.mk (TK.struct (⟨0, 1, 48, true, false⟩ :: (⟨1, 1, 48, true, false⟩ :: []))) 2 16 ((Value.int .u64 0) :: ((Value.int .u64 0) :: [])) false false) := rfl
@[go_sem] theorem ty103 : tfind E.tys 103 = some (TyI.mk (TK.slice 109 2 16 (Value.agg (Array.mk ((Value.int .u8 0) :: ((Value.int .i64 0) :: []))))) 1 24 ((Value.slice none 0 0) :: []) false false) := rfl
@[go_sem] theorem ty104 : tfind E.tys 104 = some (TyI.mk (TK.arr 8 4 1 false) 8 8 ((Value.bool false) :: ((Value.bool false) :: ((Value.bool false) :: ((Value.bool false) :: ((Value.bool false) :: ((Value.bool false) :: ((Value.bool false) :: ((Value.bool false) :: [])))))))) false false) := rfl
@[go_sem] theorem ty105 : tfind E.tys 105 = some (TyI.mk (TK.struct (⟨0, 1, 103, true, false⟩ :: (⟨1, 1, 90, true, false⟩ :: (⟨2, 8, 104, true, true⟩ :: (⟨10, 1, 3, true, false⟩ :: []))))) 11 64 ((Value.slice none 0 0) :: ((Value.slice none 0 0) :: ((Value.bool false) :: ((Value.bool false) :: ((Value.bool false) :: ((Value.bool false) :: ((Value.bool false) :: ((Value.bool false) :: ((Value.bool false) :: ((Value.bool false) :: ((Value.int .i64 0) :: []))))))))))) false false) := rfl
@[go_sem] theorem ty106 : tfind E.tys 106 = some (TyI.mk (TK.struct (⟨0, 1, 103, true, false⟩ :: (⟨1, 1, 90, true, false⟩ :: (⟨2, 8, 104, true, true⟩ :: (⟨10, 1, 3, true, false⟩ :: []))))) 11 64 ((Value.slice none 0 0) :: ((Value.slice none 0 0) :: ((Value.bool false) :: ((Value.bool false) :: ((Value.bool false) :: ((Value.bool false) :: ((Value.bool false) :: ((Value.bool false) :: ((Value.bool false) :: ((Value.bool false) :: ((Value.int .i64 0) :: []))))))))))) false false) := rfl
@[go_sem] theorem ty107 : tfind E.tys 107 = some (TyI.mk (TK.int .u8) 1 1 ((Value.int .u8 0) :: []) false false) := rfl
@[go_sem] theorem ty108 : tfind E.tys 108 = some (TyI.mk (TK.struct (⟨0, 1, 107, true, false⟩ :: (⟨1, 1, 3, true, false⟩ :: []))) 2 16 ((Value.int .u8 0) :: ((Value.int .i64 0) :: [])) false false) := rfl
@[go_sem] theorem ty109 : tfind E.tys 109 = some (TyI.mk (TK.struct (⟨0, 1, 107, true, false⟩ :: (⟨1, 1, 3, true, false⟩ :: []))) 2 16 ((Value.int .u8 0) :: ((Value.int .i64 0) :: [])) false false) := rfl
@[go_sem] theorem ty111 : tfind E.tys 111 = some (TyI.mk (TK.struct (⟨0, 1, 3, true, false⟩ :: (⟨1, 4, 50, true, true⟩ :: (⟨5, 1, 3, true, false⟩ :: (⟨6, 1, 3, true, false⟩ :: (⟨7, 1, 3, true, false⟩ :: (⟨8, 3, 69, true, true⟩ :: []))))))) 11 88 ((Value.int .i64 0) :: ((Value.int .i64 0) :: ((Value.int .u64 0) :: ((Value.int .u64 0) :: ((Value.int .u64 0) :: ((Value.int .i64 0) :: ((Value.int .i64 0) :: ((Value.int .i64 0) :: ((Value.int .u64 0) :: ((Value.bool false) :: ((Value.int .i64 0) :: []))))))))))) false false) := rfl
@[go_sem] theorem ty113 : tfind E.tys 113 = some (TyI.mk (TK.struct (⟨0, 1, 3, true, false⟩ :: (⟨1, 4, 58, true, true⟩ :: (⟨5, 1, 3, true, false⟩ :: (⟨6, 1, 3, true, false⟩ :: (⟨7, 1, 3, true, false⟩ :: (⟨8, 3, 76, true, true⟩ :: []))))))) 11 88 ((Value.int .i64 0) :: ((Value.int .u8 0) :: ((Value.int .u64 0) :: ((Value.int .u64 0) :: ((Value.int .u64 0) :: ((Value.int .i64 0) :: ((Value.int .i64 0) :: ((Value.int .i64 0) :: ((Value.int .u64 0) :: ((Value.bool false) :: ((Value.int .i64 0) :: []))))))))))) false false) := rfl
@[go_sem] theorem ty114 : tfind E.tys 114 = some (TyI.mk (TK.struct (⟨0, 1, 3, true, false⟩ :: (⟨1, 4, 58, true, true⟩ :: (⟨5, 1, 3, true, false⟩ :: (⟨6, 1, 3, true, false⟩ :: (⟨7, 1, 3, true, false⟩ :: (⟨8, 3, 76, true, true⟩ :: []))))))) 11 88 ((Value.int .i64 0) :: ((Value.int .u8 0) :: ((Value.int .u64 0) :: ((Value.int .u64 0) :: ((Value.int .u64 0) :: ((Value.int .i64 0) :: ((Value.int .i64 0) :: ((Value.int .i64 0) :: ((Value.int .u64 0) :: ((Value.bool false) :: ((Value.int .i64 0) :: []))))))))))) false false) := rfl
@[go_sem] theorem ty147 : tfind E.tys 147 = some (TyI.mk (TK.slice 5 1 1 (Value.int .u8 0)) 1 24 ((Value.slice none 0 0) :: []) false false) := rfl
@[go_sem] theorem ty148 : tfind E.tys 148 = some (TyI.mk (TK.struct (⟨0, 1, 146, true, false⟩ :: (⟨1, 1, 147, true, false⟩ :: []))) 2 32 ((Value.pointer none) :: ((Value.slice none 0 0) :: [])) false false) := rfl
@[go_sem] theorem ty149 : tfind E.tys 149 = some (TyI.mk (TK.struct (⟨0, 1, 146, true, false⟩ :: (⟨1, 1, 147, true, false⟩ :: []))) 2 32 ((Value.pointer none) :: ((Value.slice none 0 0) :: [])) false false) := rfl
@[go_sem] theorem ty151 : tfind E.tys 151 = some (TyI.mk (TK.iface false) 1 16 (Value.nilIface :: []) false true) := rfl
@[go_sem] theorem ty156 : tfind E.tys 156 = some (TyI.mk (TK.int .i64) 1 8 ((Value.int .i64 0) :: []) false false) := rfl
@[go_sem] theorem ty164 : tfind E.tys 164 = some (TyI.mk (TK.int .u32) 1 4 ((Value.int .u32 0) :: []) false false) := rfl
@[go_sem] theorem ty173 : tfind E.tys 173 = some (TyI.mk (TK.arr 24 5 1 false) 24 24 ((Value.int .u8 0) :: ((Value.int .u8 0) :: ((Value.int .u8 0) :: ((Value.int .u8 0) :: ((Value.int .u8 0) :: ((Value.int .u8 0) :: ((Value.int .u8 0) :: ((Value.int .u8 0) :: ((Value.int .u8 0) :: ((Value.int .u8 0) :: ((Value.int .u8 0) :: ((Value.int .u8 0) :: ((Value.int .u8 0) :: ((Value.int .u8 0) :: ((Value.int .u8 0) :: ((Value.int .u8 0) :: ((Value.int .u8 0) :: ((Value.int .u8 0) :: ((Value.int .u8 0) :: ((Value.int .u8 0) :: ((Value.int .u8 0) :: ((Value.int .u8 0) :: ((Value.int .u8 0) :: ((Value.int .u8 0) :: [])))))))))))))))))))))))) false false) := rfl
@[go_sem] theorem ty185 : tfind E.tys 185 = some (TyI.mk (TK.slice 85 1 24 (Value.slice none 0 0)) 1 24 ((Value.slice none 0 0) :: []) false false) := rfl
@[go_sem] theorem ty199 : tfind E.tys 199 = some (TyI.mk (TK.struct (⟨0, 1, 17, true, false⟩ :: (⟨1, 1, 17, true, false⟩ :: (⟨2, 1, 17, true, false⟩ :: (⟨3, 1, 9, true, false⟩ :: []))))) 4 40 ((Value.pointer none) :: ((Value.pointer none) :: ((Value.pointer none) :: ((Value.string (ByteArray.mk (Array.mk []))) :: [])))) true false) := rfl
@[go_sem] theorem ty201 : tfind E.tys 201 = some (TyI.mk (TK.arr 0 16 1 false) 0 0 [] false false) := rfl
@[go_sem] theorem ty203 : tfind E.tys 203 = some (TyI.mk (TK.struct (⟨0, 0, 201, false, true⟩ :: [])) 0 0 [] true false) := rfl
@[go_sem] theorem ty205 : tfind E.tys 205 = some (TyI.mk (TK.int .u8) 1 1 ((Value.int .u8 0) :: []) false false) := rfl
@[go_sem] theorem ty206 : tfind E.tys 206 = some (TyI.mk (TK.int .u8) 1 1 ((Value.int .u8 0) :: []) false false) := rfl
@[go_sem] theorem ty208 : tfind E.tys 208 = some (TyI.mk (TK.int .i32) 1 4 ((Value.int .i32 0) :: []) false false) := rfl
@[go_sem] theorem ty209 : tfind E.tys 209 = some (TyI.mk (TK.int .i32) 1 4 ((Value.int .i32 0) :: []) false false) := rfl
@[go_sem] theorem ty211 : tfind E.tys 211 = some (TyI.mk (TK.struct (⟨0, 1, 12, true, false⟩ :: (⟨1, 1, 12, true, false⟩ :: (⟨2, 1, 164, true, false⟩ :: (⟨3, 1, 205, true, false⟩ :: (⟨4, 1, 5, true, false⟩ :: (⟨5, 1, 5, true, false⟩ :: (⟨6, 1, 206, true, false⟩ :: (⟨7, 1, 207, true, false⟩ :: (⟨8, 1, 177, true, false⟩ :: (⟨9, 1, 208, true, false⟩ :: (⟨10, 1, 209, true, false⟩ :: [])))))))))))) 11 48 ((Value.int .u64 0) :: ((Value.int .u64 0) :: ((Value.int .u32 0) :: ((Value.int .u8 0) :: ((Value.int .u8 0) :: ((Value.int .u8 0) :: ((Value.int .u8 0) :: (Value.nilFunc :: ((Value.pointer none) :: ((Value.int .i32 0) :: ((Value.int .i32 0) :: []))))))))))) true false) := rfl
@[go_sem ↓] theorem wt2 (k : TyI → Prop) : withTy E 2 k = k (TyI.mk (TK.int .i64) 1 8 ((Value.int .i64 0) :: []) false false) := rfl
@[go_sem ↓] theorem wt3 (k : TyI → Prop) : withTy E 3 k = k (TyI.mk (TK.int .i64) 1 8 ((Value.int .i64 0) :: []) false false) := rfl
@[go_sem ↓] theorem wt4 (k : TyI → Prop) : withTy E 4 k = k (TyI.mk TK.bool 1 1 ((Value.bool false) :: []) false false) := rfl
@[go_sem ↓] theorem wt5 (k : TyI → Prop) : withTy E 5 k = k (TyI.mk (TK.int .u8) 1 1 ((Value.int .u8 0) :: []) false false) := rfl
@[go_sem ↓] theorem wt6 (k : TyI → Prop) : withTy E 6 k = k (TyI.mk (TK.int .u8) 1 1 ((Value.int .u8 0) :: []) false false) := rfl
@[go_sem ↓] theorem wt7 (k : TyI → Prop) : withTy E 7 k = k (TyI.mk (TK.struct (⟨0, 1, 2, true, false⟩ :: (⟨1, 1, 3, true, false⟩ :: (⟨2, 1, 4, true, false⟩ :: (⟨3, 1, 6, true, false⟩ :: []))))) 4 24 ((Value.int .i64 0) :: ((Value.int .i64 0) :: ((Value.bool false) :: ((Value.int .u8 0) :: [])))) false false) := rfl
@[go_sem ↓] theorem wt8 (k : TyI → Prop) : withTy E 8 k = k (TyI.mk (TK.struct (⟨0, 1, 2, true, false⟩ :: (⟨1, 1, 3, true, false⟩ :: (⟨2, 1, 4, true, false⟩ :: (⟨3, 1, 6, true, false⟩ :: []))))) 4 24 ((Value.int .i64 0) :: ((Value.int .i64 0) :: ((Value.bool false) :: ((Value.int .u8 0) :: [])))) false false) := rfl
@[go_sem ↓] theorem wt9 (k : TyI → Prop) : withTy E 9 k = k (TyI.mk TK.str 1 16 ((Value.string (ByteArray.mk (Array.mk []))) :: []) false false) := rfl
@[go_sem ↓] theorem wt10 (k : TyI → Prop) : withTy E 10 k = k (TyI.mk TK.str 1 16 ((Value.string (ByteArray.mk (Array.mk []))) :: []) false false) := rfl
@[go_sem ↓] theorem wt11 (k : TyI → Prop) : withTy E 11 k = k (TyI.mk TK.str 1 16 ((Value.string (ByteArray.mk (Array.mk []))) :: []) false false) := rfl
@[go_sem ↓] theorem wt12 (k : TyI → Prop) : withTy E 12 k = k (TyI.mk (TK.int .u64) 1 8 ((Value.int .u64 0) :: []) false false) := rfl
@[go_sem ↓] theorem wt16 (k : TyI → Prop) : withTy E 16 k = k (TyI.mk (TK.ptr 203) 1 8 ((Value.pointer none) :: []) false false) := rfl
@[go_sem ↓] theorem wt17 (k : TyI → Prop) : withTy E 17 k = k (TyI.mk (TK.ptr 211) 1 8 ((Value.pointer none) :: []) false false) := rfl
@[go_sem ↓] theorem wt20 (k : TyI → Prop) : withTy E 20 k = k (TyI.mk (TK.iface true) 1 16 (Value.nilIface :: []) false false) := rfl
@[go_sem ↓] theorem wt22 (k : TyI → Prop) : withTy E 22 k = k (TyI.mk (TK.slice 71 10 80 (Value.agg (Array.mk ((Value.int .i64 0) :: ((Value.int .i64 0) :: ((Value.int .i64 0) :: ((Value.int .i64 0) :: ((Value.int .u64 0) :: ((Value.int .u64 0) :: ((Value.int .u64 0) :: ((Value.int .u64 0) :: ((Value.bool false) :: ((Value.int .i64 0) :: []))))))))))))) 1 24 ((Value.slice none 0 0) :: []) false false) := rfl
@[go_sem ↓] theorem wt24 (k : TyI → Prop) : withTy E 24 k = k (TyI.mk (TK.struct (⟨0, 1, 3, true, false⟩ :: (⟨1, 1, 22, true, false⟩ :: []))) 2 32 ((Value.int .i64 0) :: ((Value.slice none 0 0) :: [])) false false) := rfl
@[go_sem ↓] theorem wt25 (k : TyI → Prop) : withTy E 25 k = k (TyI.mk (TK.ptr 106) 1 8 ((Value.pointer none) :: []) false false) := rfl
@[go_sem ↓] theorem wt26 (k : TyI → Prop) : withTy E 26 k = k (TyI.mk (TK.slice 111 11 88 (Value.agg (Array.mk ((Value.int .i64 0) :: ((Value.int .i64 0) :: ((Value.int .u64 0) :: ((Value.int .u64 0) :: ((Value.int .u64 0) :: ((Value.int .i64 0) :: ((Value.int .i64 0) :: ((Value.int .i64 0) :: ((Value.int .u64 0) :: ((Value.bool false) :: ((Value.int .i64 0) :: [])))))))))))))) 1 24 ((Value.slice none 0 0) :: []) false false) := rfl
@[go_sem ↓] theorem wt28 (k : TyI → Prop) : withTy E 28 k = k (TyI.mk (TK.struct (⟨0, 1, 26, true, false⟩ :: (⟨1, 1, 3, true, false⟩ :: (⟨2, 1, 3, true, false⟩ :: [])))) 3 40 ((Value.slice none 0 0) :: ((Value.int .i64 0) :: ((Value.int .i64 0) :: []))) false false) := rfl
@[go_sem ↓] theorem wt29 (k : TyI → Prop) : withTy E 29 k = k (TyI.mk TK.other 1 0 ((Value.tuple (Array.mk ((Value.pointer none) :: ((Value.agg (Array.mk ((Value.slice none 0 0) :: ((Value.int .i64 0) :: ((Value.int .i64 0) :: []))))) :: [])))) :: []) false false) := rfl
@[go_sem ↓] theorem wt30 (k : TyI → Prop) : withTy E 30 k = k (TyI.mk TK.func 1 8 (Value.nilFunc :: []) false false) := rfl
@[go_sem ↓] theorem wt31 (k : TyI → Prop) : withTy E 31 k = k (TyI.mk TK.func 1 8 (Value.nilFunc :: []) false false) := rfl
@[go_sem ↓] theorem wt32 (k : TyI → Prop) : withTy E 32 k = k (TyI.mk TK.func 1 8 (Value.nilFunc :: []) false false) := rfl
@[go_sem ↓] theorem wt33 (k : TyI → Prop) : withTy E 33 k = k (TyI.mk (TK.slice 41 1 24 (Value.slice none 0 0)) 1 24 ((Value.slice none 0 0) :: []) false false) := rfl
@[go_sem ↓] theorem wt35 (k : TyI → Prop) : withTy E 35 k = k (TyI.mk (TK.slice 43 1 24 (Value.slice none 0 0)) 1 24 ((Value.slice none 0 0) :: []) false false) := rfl
@[go_sem ↓] theorem wt36 (k : TyI → Prop) : withTy E 36 k = k (TyI.mk (TK.int .i64) 1 8 ((Value.int .i64 0) :: []) false false) := rfl
@[go_sem ↓] theorem wt37 (k : TyI → Prop) : withTy E 37 k = k (TyI.mk TK.other 1 0 ((Value.tuple (Array.mk ((Value.slice none 0 0) :: ((Value.int .i64 0) :: [])))) :: []) false false) := rfl
@[go_sem ↓] theorem wt38 (k : TyI → Prop) : withTy E 38 k = k (TyI.mk TK.func 1 8 (Value.nilFunc :: []) false false) := rfl
@[go_sem ↓] theorem wt39 (k : TyI → Prop) : withTy E 39 k = k (TyI.mk (TK.int .u8) 1 1 ((Value.int .u8 0) :: []) false false) := rfl
@[go_sem ↓] theorem wt40 (k : TyI → Prop) : withTy E 40 k = k (TyI.mk TK.func 1 8 (Value.nilFunc :: []) false false) := rfl
@[go_sem ↓] theorem wt41 (k : TyI → Prop) : withTy E 41 k = k (TyI.mk (TK.slice 102 2 16 (Value.agg (Array.mk ((Value.int .u64 0) :: ((Value.int .u64 0) :: []))))) 1 24 ((Value.slice none 0 0) :: []) false false) := rfl
@[go_sem ↓] theorem wt43 (k : TyI → Prop) : withTy E 43 k = k (TyI.mk (TK.slice 78 2 16 (Value.agg (Array.mk ((Value.int .u64 0) :: ((Value.int .u64 0) :: []))))) 1 24 ((Value.slice none 0 0) :: []) false false) := rfl
@[go_sem ↓] theorem wt44 (k : TyI → Prop) : withTy E 44 k = k (TyI.mk (TK.slice 3 1 8 (Value.int .i64 0)) 1 24 ((Value.slice none 0 0) :: []) false false) := rfl
@[go_sem ↓] theorem wt45 (k : TyI → Prop) : withTy E 45 k = k (TyI.mk TK.other 1 0 ((Value.tuple (Array.mk ((Value.slice none 0 0) :: ((Value.bool false) :: ((Value.int .i64 0) :: []))))) :: []) false false) := rfl
@[go_sem ↓] theorem wt46 (k : TyI → Prop) : withTy E 46 k = k (TyI.mk TK.func 1 8 (Value.nilFunc :: []) false false) := rfl
@[go_sem ↓] theorem wt47 (k : TyI → Prop) : withTy E 47 k = k (TyI.mk TK.func 1 8 (Value.nilFunc :: []) false false) := rfl
@[go_sem ↓] theorem wt48 (k : TyI → Prop) : withTy E 48 k = k (TyI.mk (TK.int .u64) 1 8 ((Value.int .u64 0) :: []) false false) := rfl
@[go_sem ↓] theorem wt50 (k : TyI → Prop) : withTy E 50 k = k (TyI.mk (TK.struct (⟨0, 1, 3, true, false⟩ :: (⟨1, 1, 48, true, false⟩ :: (⟨2, 1, 48, true, false⟩ :: (⟨3, 1, 48, true, false⟩ :: []))))) 4 32 ((Value.int .i64 0) :: ((Value.int .u64 0) :: ((Value.int .u64 0) :: ((Value.int .u64 0) :: [])))) false false) := rfl
@[go_sem ↓] theorem wt53 (k : TyI → Prop) : withTy E 53 k = k (TyI.mk TK.other 1 0 ((Value.tuple (Array.mk ((Value.agg (Array.mk ((Value.slice none 0 0) :: ((Value.int .i64 0) :: ((Value.int .i64 0) :: []))))) :: ((Value.int .i64 0) :: [])))) :: []) false false) := rfl
@[go_sem ↓] theorem wt56 (k : TyI → Prop) : withTy E 56 k = k (TyI.mk (TK.int .u8) 1 1 ((Value.int .u8 0) :: []) false false) := rfl
@[go_sem ↓] theorem wt58 (k : TyI → Prop) : withTy E 58 k = k (TyI.mk (TK.struct (⟨0, 1, 56, true, false⟩ :: (⟨1, 1, 48, true, false⟩ :: (⟨2, 1, 48, true, false⟩ :: (⟨3, 1, 48, true, false⟩ :: []))))) 4 32 ((Value.int .u8 0) :: ((Value.int .u64 0) :: ((Value.int .u64 0) :: ((Value.int .u64 0) :: [])))) false false) := rfl
@[go_sem ↓] theorem wt59 (k : TyI → Prop) : withTy E 59 k = k (TyI.mk TK.func 1 8 (Value.nilFunc :: []) false false) := rfl
@[go_sem ↓] theorem wt64 (k : TyI → Prop) : withTy E 64 k = k (TyI.mk TK.func 1 8 (Value.nilFunc :: []) false false) := rfl
@[go_sem ↓] theorem wt65 (k : TyI → Prop) : withTy E 65 k = k (TyI.mk TK.func 1 8 (Value.nilFunc :: []) false false) := rfl
@[go_sem ↓] theorem wt68 (k : TyI → Prop) : withTy E 68 k = k (TyI.mk (TK.struct (⟨0, 1, 48, true, false⟩ :: (⟨1, 1, 4, true, false⟩ :: (⟨2, 1, 3, true, false⟩ :: [])))) 3 24 ((Value.int .u64 0) :: ((Value.bool false) :: ((Value.int .i64 0) :: []))) false false) := rfl
@[go_sem ↓] theorem wt69 (k : TyI → Prop) : withTy E 69 k = k (TyI.mk (TK.struct (⟨0, 1, 48, true, false⟩ :: (⟨1, 1, 4, true, false⟩ :: (⟨2, 1, 3, true, false⟩ :: [])))) 3 24 ((Value.int .u64 0) :: ((Value.bool false) :: ((Value.int .i64 0) :: []))) false false) := rfl
@[go_sem ↓] theorem wt71 (k : TyI → Prop) : withTy E 71 k = k (TyI.mk (TK.struct (⟨0, 1, 3, true, false⟩ :: (⟨1, 1, 3, true, false⟩ :: (⟨2, 1, 3, true, false⟩ :: (⟨3, 4, 50, true, true⟩ :: (⟨7, 3, 69, true, true⟩ :: [])))))) 10 80 ((Value.int .i64 0) :: ((Value.int .i64 0) :: ((Value.int .i64 0) :: ((Value.int .i64 0) :: ((Value.int .u64 0) :: ((Value.int .u64 0) :: ((Value.int .u64 0) :: ((Value.int .u64 0) :: ((Value.bool false) :: ((Value.int .i64 0) :: [])))))))))) false false) := rfl
@[go_sem ↓] theorem wt72 (k : TyI → Prop) : withTy E 72 k = k (TyI.mk TK.other 1 0 ((Value.tuple (Array.mk ((Value.agg (Array.mk ((Value.slice none 0 0) :: ((Value.int .i64 0) :: ((Value.int .i64 0) :: []))))) :: ((Value.bool false) :: [])))) :: []) false false) := rfl
@[go_sem ↓] theorem wt74 (k : TyI → Prop) : withTy E 74 k = k (TyI.mk TK.func 1 8 (Value.nilFunc :: []) false false) := rfl
@[go_sem ↓] theorem wt76 (k : TyI → Prop) : withTy E 76 k = k (TyI.mk (TK.struct (⟨0, 1, 48, true, false⟩ :: (⟨1, 1, 4, true, false⟩ :: (⟨2, 1, 36, true, false⟩ :: [])))) 3 24 ((Value.int .u64 0) :: ((Value.bool false) :: ((Value.int .i64 0) :: []))) false false) := rfl
@[go_sem ↓] theorem wt77 (k : TyI → Prop) : withTy E 77 k = k (TyI.mk (TK.struct (⟨0, 1, 48, true, false⟩ :: (⟨1, 1, 48, true, false⟩ :: []))) 2 16 ((Value.int .u64 0) :: ((Value.int .u64 0) :: [])) false false) := rfl
@[go_sem ↓] theorem wt78 (k : TyI → Prop) : withTy E 78 k = k (TyI.mk (TK.struct (⟨0, 1, 48, true, false⟩ :: (⟨1, 1, 48, true, false⟩ :: []))) 2 16 ((Value.int .u64 0) :: ((Value.int .u64 0) :: [])) false false) := rfl
@[go_sem ↓] theorem wt80 (k : TyI → Prop) : withTy E 80 k = k (TyI.mk TK.func 1 8 (Value.nilFunc :: []) false false) := rfl
@[go_sem ↓] theorem wt81 (k : TyI → Prop) : withTy E 81 k = k (TyI.mk (TK.slice 4 1 1 (Value.bool false)) 1 24 ((Value.slice none 0 0) :: []) false false) := rfl
@[go_sem ↓] theorem wt82 (k : TyI → Prop) : withTy E 82 k = k (TyI.mk (TK.ptr 95) 1 8 ((Value.pointer none) :: []) false false) := rfl
@[go_sem ↓] theorem wt83 (k : TyI → Prop) : withTy E 83 k = k (TyI.mk TK.other 1 0 ((Value.tuple (Array.mk ((Value.pointer none) :: ((Value.int .i64 0) :: [])))) :: []) false false) := rfl
@[go_sem ↓] theorem wt85 (k : TyI → Prop) : withTy E 85 k = k (TyI.mk (TK.slice 48 1 8 (Value.int .u64 0)) 1 24 ((Value.slice none 0 0) :: []) false false) := rfl
@[go_sem ↓] theorem wt86 (k : TyI → Prop) : withTy E 86 k = k (TyI.mk (TK.struct (⟨0, 1, 39, true, false⟩ :: (⟨1, 1, 48, true, false⟩ :: (⟨2, 1, 43, true, false⟩ :: (⟨3, 1, 85, true, false⟩ :: []))))) 4 64 ((Value.int .u8 0) :: ((Value.int .u64 0) :: ((Value.slice none 0 0) :: ((Value.slice none 0 0) :: [])))) false false) := rfl
@[go_sem ↓] theorem wt87 (k : TyI → Prop) : withTy E 87 k = k (TyI.mk (TK.struct (⟨0, 1, 39, true, false⟩ :: (⟨1, 1, 48, true, false⟩ :: (⟨2, 1, 43, true, false⟩ :: (⟨3, 1, 85, true, false⟩ :: []))))) 4 64 ((Value.int .u8 0) :: ((Value.int .u64 0) :: ((Value.slice none 0 0) :: ((Value.slice none 0 0) :: [])))) false false) := rfl
@[go_sem ↓] theorem wt88 (k : TyI → Prop) : withTy E 88 k = k (TyI.mk TK.func 1 8 (Value.nilFunc :: []) false false) := rfl
@[go_sem ↓] theorem wt89 (k : TyI → Prop) : withTy E 89 k = k (TyI.mk TK.func 1 8 (Value.nilFunc :: []) false false) := rfl
@[go_sem ↓] theorem wt90 (k : TyI → Prop) : withTy E 90 k = k (TyI.mk (TK.slice 114 11 88 (Value.agg (Array.mk ((Value.int .i64 0) :: ((Value.int .u8 0) :: ((Value.int .u64 0) :: ((Value.int .u64 0) :: ((Value.int .u64 0) :: ((Value.int .i64 0) :: ((Value.int .i64 0) :: ((Value.int .i64 0) :: ((Value.int .u64 0) :: ((Value.bool false) :: ((Value.int .i64 0) :: [])))))))))))))) 1 24 ((Value.slice none 0 0) :: []) false false) := rfl
@[go_sem ↓] theorem wt91 (k : TyI → Prop) : withTy E 91 k = k (TyI.mk (TK.slice 92 1 8 (Value.int .u64 0)) 1 24 ((Value.slice none 0 0) :: []) false false) := rfl
@[go_sem ↓] theorem wt92 (k : TyI → Prop) : withTy E 92 k = k (TyI.mk (TK.int .u64) 1 8 ((Value.int .u64 0) :: []) false false) := rfl
@[go_sem ↓] theorem wt93 (k : TyI → Prop) : withTy E 93 k = k (TyI.mk (TK.map 9 4 (Value.bool false)) 1 8 ((Value.map none) :: []) false false) := rfl
@[go_sem ↓] theorem wt95 (k : TyI → Prop) : withTy E 95 k = k (TyI.mk (TK.struct (⟨0, 1, 90, true, false⟩ :: (⟨1, 1, 91, true, false⟩ :: (⟨2, 1, 92, true, false⟩ :: (⟨3, 1, 93, true, false⟩ :: (⟨4, 1, 44, true, false⟩ :: (⟨5, 1, 89, true, false⟩ :: []))))))) 6 96 ((Value.slice none 0 0) :: ((Value.slice none 0 0) :: ((Value.int .u64 0) :: ((Value.map none) :: ((Value.slice none 0 0) :: (Value.nilFunc :: [])))))) false false) := rfl
@[go_sem ↓] theorem wt96 (k : TyI → Prop) : withTy E 96 k = k (TyI.mk TK.func 1 8 (Value.nilFunc :: []) false false) := rfl
@[go_sem ↓] theorem wt98 (k : TyI → Prop) : withTy E 98 k = k (TyI.mk TK.func 1 8 (Value.nilFunc :: []) false false) := rfl
@[go_sem ↓] theorem wt99 (k : TyI → Prop) : withTy E 99 k = k (TyI.mk TK.func 1 8 (Value.nilFunc :: []) false false) := rfl
@[go_sem ↓] theorem wt101 (k : TyI → Prop) : withTy E 101 k = k (TyI.mk TK.func 1 8 (Value.nilFunc :: []) false false) := rfl
@[go_sem ↓] theorem wt102 (k : TyI → Prop) : withTy E 102 k = k (TyI.mk (TK.struct (⟨0, 1, 48, true, false⟩ :: (⟨1, 1, 48, true, false⟩ :: []))) 2 16 ((Value.int .u64 0) :: ((Value.int .u64 0) :: [])) false false) := rfl
@[go_sem ↓] theorem wt103 (k : TyI → Prop) : withTy E 103 k = k (TyI.mk (TK.slice 109 2 16 (Value.agg (Array.mk ((Value.int .u8 0) :: ((Value.int .i64 0) :: []))))) 1 24 ((Value.slice none 0 0) :: []) false false) := rfl
@[go_sem ↓] theorem wt104 (k : TyI → Prop) : withTy E 104 k = k (TyI.mk (TK.arr 8 4 1 false) 8 8 ((Value.bool false) :: ((Value.bool false) :: ((Value.bool false) :: ((Value.bool false) :: ((Value.bool false) :: ((Value.bool false) :: ((Value.bool false) :: ((Value.bool false) :: [])))))))) false false) := rfl
@[go_sem ↓] theorem wt105 (k : TyI → Prop) : withTy E 105 k = k (TyI.mk (TK.struct (⟨0, 1, 103, true, false⟩ :: (⟨1, 1, 90, true, false⟩ :: (⟨2, 8, 104, true, true⟩ :: (⟨10, 1, 3, true, false⟩ :: []))))) 11 64 ((Value.slice none 0 0) :: ((Value.slice none 0 0) :: ((Value.bool false) :: ((Value.bool false) :: ((Value.bool false) :: ((Value.bool false) :: ((Value.bool false) :: ((Value.bool false) :: ((Value.bool false) :: ((Value.bool false) :: ((Value.int .i64 0) :: []))))))))))) false false) := rfl
@[go_sem ↓] theorem wt106 (k : TyI → Prop) : withTy E 106 k = k (TyI.mk (TK.struct (⟨0, 1, 103, true, false⟩ :: (⟨1, 1, 90, true, false⟩ :: (⟨2, 8, 104, true, true⟩ :: (⟨10, 1, 3, true, false⟩ :: []))))) 11 64 ((Value.slice none 0 0) :: ((Value.slice none 0 0) :: ((Value.bool false) :: ((Value.bool false) :: ((Value.bool false) :: ((Value.bool false) :: ((Value.bool false) :: ((Value.bool false) :: ((Value.bool false) :: ((Value.bool false) :: ((Value.int .i64 0) :: []))))))))))) false false) := rfl
@[go_sem ↓] theorem wt107 (k : TyI → Prop) : withTy E 107 k = k (TyI.mk (TK.int .u8) 1 1 ((Value.int .u8 0) :: []) false false) := rfl
@[go_sem ↓] theorem wt108 (k : TyI → Prop) : withTy E 108 k = k (TyI.mk (TK.struct (⟨0, 1, 107, true, false⟩ :: (⟨1, 1, 3, true, false⟩ :: []))) 2 16 ((Value.int .u8 0) :: ((Value.int .i64 0) :: [])) false false) := rfl
@[go_sem ↓] theorem wt109 (k : TyI → Prop) : withTy E 109 k = k (TyI.mk (TK.struct (⟨0, 1, 107, true, false⟩ :: (⟨1, 1, 3, true, false⟩ :: []))) 2 16 ((Value.int .u8 0) :: ((Value.int .i64 0) :: [])) false false) := rfl
@[go_sem ↓] theorem wt111 (k : TyI → Prop) : withTy E 111 k = k (TyI.mk (TK.struct (⟨0, 1, 3, true, false⟩ :: (⟨1, 4, 50, true, true⟩ :: (⟨5, 1, 3, true, false⟩ :: (⟨6, 1, 3, true, false⟩ :: (⟨7, 1, 3, true, false⟩ :: (⟨8, 3, 69, true, true⟩ :: []))))))) 11 88 ((Value.int .i64 0) :: ((Value.int .i64 0) :: ((Value.int .u64 0) :: ((Value.int .u64 0) :: ((Value.int .u64 0) :: ((Value.int .i64 0) :: ((Value.int .i64 0) :: ((Value.int .i64 0) :: ((Value.int .u64 0) :: ((Value.bool false) :: ((Value.int .i64 0) :: []))))))))))) false false) := rfl
@[go_sem ↓] theorem wt113 (k : TyI → Prop) : withTy E 113 k = k (TyI.mk (TK.struct (⟨0, 1, 3, true, false⟩ :: (⟨1, 4, 58, true, true⟩ :: (⟨5, 1, 3, true, false⟩ :: (⟨6, 1, 3, true, false⟩ :: (⟨7, 1, 3, true, false⟩ :: (⟨8, 3, 76, true, true⟩ :: []))))))) 11 88 ((Value.int .i64 0) :: ((Value.int .u8 0) :: ((Value.int .u64 0) :: ((Value.int .u64 0) :: ((Value.int .u64 0) :: ((Value.int .i64 0) :: ((Value.int .i64 0) :: ((Value.int .i64 0) :: ((Value.int .u64 0) :: ((Value.bool false) :: ((Value.int .i64 0) :: []))))))))))) false false) := rfl
@[go_sem ↓] theorem wt114 (k : TyI → Prop) : withTy E 114 k = k (TyI.mk (TK.struct (⟨0, 1, 3, true, false⟩ :: (⟨1, 4, 58, true, true⟩ :: (⟨5, 1, 3, true, false⟩ :: (⟨6, 1, 3, true, false⟩ :: (⟨7, 1, 3, true, false⟩ :: (⟨8, 3, 76, true, true⟩ :: []))))))) 11 88 ((Value.int .i64 0) :: ((Value.int .u8 0) :: ((Value.int .u64 0) :: ((Value.int .u64 0) :: ((Value.int .u64 0) :: ((Value.int .i64 0) :: ((Value.int .i64 0) :: ((Value.int .i64 0) :: ((Value.int .u64 0) :: ((Value.bool false) :: ((Value.int .i64 0) :: []))))))))))) false false) := rfl
@[go_sem ↓] theorem wt116 (k : TyI → Prop) : withTy E 116 k = k (TyI.mk TK.other 1 0 ((Value.tuple (Array.mk ((Value.slice none 0 0) :: ((Value.agg (Array.mk ((Value.int .u64 0) :: ((Value.bool false) :: ((Value.int .i64 0) :: []))))) :: [])))) :: []) false false) := rfl
@[go_sem ↓] theorem wt117 (k : TyI → Prop) : withTy E 117 k = k (TyI.mk TK.func 1 8 (Value.nilFunc :: []) false false) := rfl
@[go_sem ↓] theorem wt118 (k : TyI → Prop) : withTy E 118 k = k (TyI.mk TK.other 1 0 ((Value.tuple (Array.mk ((Value.slice none 0 0) :: ((Value.int .i64 0) :: [])))) :: []) false false) := rfl
@[go_sem ↓] theorem wt120 (k : TyI → Prop) : withTy E 120 k = k (TyI.mk TK.other 1 0 ((Value.tuple (Array.mk ((Value.agg (Array.mk ((Value.int .u8 0) :: ((Value.int .u64 0) :: ((Value.slice none 0 0) :: ((Value.slice none 0 0) :: [])))))) :: ((Value.agg (Array.mk ((Value.int .u64 0) :: ((Value.bool false) :: ((Value.int .i64 0) :: []))))) :: [])))) :: []) false false) := rfl
@[go_sem ↓] theorem wt121 (k : TyI → Prop) : withTy E 121 k = k (TyI.mk TK.func 1 8 (Value.nilFunc :: []) false false) := rfl
@[go_sem ↓] theorem wt125 (k : TyI → Prop) : withTy E 125 k = k (TyI.mk (TK.ptr 114) 1 8 ((Value.pointer none) :: []) false false) := rfl
@[go_sem ↓] theorem wt129 (k : TyI → Prop) : withTy E 129 k = k (TyI.mk TK.func 1 8 (Value.nilFunc :: []) false false) := rfl
@[go_sem ↓] theorem wt132 (k : TyI → Prop) : withTy E 132 k = k (TyI.mk TK.func 1 8 (Value.nilFunc :: []) false false) := rfl
@[go_sem ↓] theorem wt135 (k : TyI → Prop) : withTy E 135 k = k (TyI.mk TK.func 1 8 (Value.nilFunc :: []) false false) := rfl
@[go_sem ↓] theorem wt136 (k : TyI → Prop) : withTy E 136 k = k (TyI.mk TK.other 1 0 ((Value.tuple (Array.mk ((Value.int .u64 0) :: ((Value.bool false) :: [])))) :: []) false false) := rfl
@[go_sem ↓] theorem wt138 (k : TyI → Prop) : withTy E 138 k = k (TyI.mk TK.func 1 8 (Value.nilFunc :: []) false false) := rfl
@[go_sem ↓] theorem wt139 (k : TyI → Prop) : withTy E 139 k = k (TyI.mk TK.func 1 8 (Value.nilFunc :: []) false false) := rfl
@[go_sem ↓] theorem wt141 (k : TyI → Prop) : withTy E 141 k = k (TyI.mk TK.func 1 8 (Value.nilFunc :: []) false false) := rfl
@[go_sem ↓] theorem wt143 (k : TyI → Prop) : withTy E 143 k = k (TyI.mk TK.func 1 8 (Value.nilFunc :: []) false false) := rfl
@[go_sem ↓] theorem wt145 (k : TyI → Prop) : withTy E 145 k = k (TyI.mk TK.func 1 8 (Value.nilFunc :: []) false false) := rfl
@[go_sem ↓] theorem wt146 (k : TyI → Prop) : withTy E 146 k = k (TyI.mk (TK.ptr 149) 1 8 ((Value.pointer none) :: []) false false) := rfl
@[go_sem ↓] theorem wt147 (k : TyI → Prop) : withTy E 147 k = k (TyI.mk (TK.slice 5 1 1 (Value.int .u8 0)) 1 24 ((Value.slice none 0 0) :: []) false false) := rfl
@[go_sem ↓] theorem wt148 (k : TyI → Prop) : withTy E 148 k = k (TyI.mk (TK.struct (⟨0, 1, 146, true, false⟩ :: (⟨1, 1, 147, true, false⟩ :: []))) 2 32 ((Value.pointer none) :: ((Value.slice none 0 0) :: [])) false false) := rfl
@[go_sem ↓] theorem wt149 (k : TyI → Prop) : withTy E 149 k = k (TyI.mk (TK.struct (⟨0, 1, 146, true, false⟩ :: (⟨1, 1, 147, true, false⟩ :: []))) 2 32 ((Value.pointer none) :: ((Value.slice none 0 0) :: [])) false false) := rfl
@[go_sem ↓] theorem wt151 (k : TyI → Prop) : withTy E 151 k = k (TyI.mk (TK.iface false) 1 16 (Value.nilIface :: []) false true) := rfl
@[go_sem ↓] theorem wt152 (k : TyI → Prop) : withTy E 152 k = k (TyI.mk TK.other 1 0 ((Value.tuple (Array.mk ((Value.int .i64 0) :: (Value.nilIface :: [])))) :: []) false false) := rfl
@[go_sem ↓] theorem wt156 (k : TyI → Prop) : withTy E 156 k = k (TyI.mk (TK.int .i64) 1 8 ((Value.int .i64 0) :: []) false false) := rfl
@[go_sem ↓] theorem wt157 (k : TyI → Prop) : withTy E 157 k = k (TyI.mk TK.other 1 0 ((Value.tuple (Array.mk ((Value.int .i64 0) :: ((Value.int .i64 0) :: [])))) :: []) false false) := rfl
@[go_sem ↓] theorem wt161 (k : TyI → Prop) : withTy E 161 k = k (TyI.mk TK.other 1 0 ((Value.tuple (Array.mk ((Value.int .i64 0) :: ((Value.bool false) :: [])))) :: []) false false) := rfl
@[go_sem ↓] theorem wt164 (k : TyI → Prop) : withTy E 164 k = k (TyI.mk (TK.int .u32) 1 4 ((Value.int .u32 0) :: []) false false) := rfl
@[go_sem ↓] theorem wt168 (k : TyI → Prop) : withTy E 168 k = k (TyI.mk TK.func 1 8 (Value.nilFunc :: []) false false) := rfl
@[go_sem ↓] theorem wt169 (k : TyI → Prop) : withTy E 169 k = k (TyI.mk TK.func 1 8 (Value.nilFunc :: []) false false) := rfl
@[go_sem ↓] theorem wt173 (k : TyI → Prop) : withTy E 173 k = k (TyI.mk (TK.arr 24 5 1 false) 24 24 ((Value.int .u8 0) :: ((Value.int .u8 0) :: ((Value.int .u8 0) :: ((Value.int .u8 0) :: ((Value.int .u8 0) :: ((Value.int .u8 0) :: ((Value.int .u8 0) :: ((Value.int .u8 0) :: ((Value.int .u8 0) :: ((Value.int .u8 0) :: ((Value.int .u8 0) :: ((Value.int .u8 0) :: ((Value.int .u8 0) :: ((Value.int .u8 0) :: ((Value.int .u8 0) :: ((Value.int .u8 0) :: ((Value.int .u8 0) :: ((Value.int .u8 0) :: ((Value.int .u8 0) :: ((Value.int .u8 0) :: ((Value.int .u8 0) :: ((Value.int .u8 0) :: ((Value.int .u8 0) :: ((Value.int .u8 0) :: [])))))))))))))))))))))))) false false) := rfl
@[go_sem ↓] theorem wt174 (k : TyI → Prop) : withTy E 174 k = k (TyI.mk TK.func 1 8 (Value.nilFunc :: []) false false) := rfl
@[go_sem ↓] theorem wt177 (k : TyI → Prop) : withTy E 177 k = k (TyI.mk (TK.ptr 5) 1 8 ((Value.pointer none) :: []) false false) := rfl
@[go_sem ↓] theorem wt180 (k : TyI → Prop) : withTy E 180 k = k (TyI.mk TK.func 1 8 (Value.nilFunc :: []) false false) := rfl
@[go_sem ↓] theorem wt181 (k : TyI → Prop) : withTy E 181 k = k (TyI.mk TK.func 1 8 (Value.nilFunc :: []) false false) := rfl
@[go_sem ↓] theorem wt182 (k : TyI → Prop) : withTy E 182 k = k (TyI.mk (TK.ptr 3) 1 8 ((Value.pointer none) :: []) false false) := rfl
@[go_sem ↓] theorem wt185 (k : TyI → Prop) : withTy E 185 k = k (TyI.mk (TK.slice 85 1 24 (Value.slice none 0 0)) 1 24 ((Value.slice none 0 0) :: []) false false) := rfl
@[go_sem ↓] theorem wt195 (k : TyI → Prop) : withTy E 195 k = k (TyI.mk TK.func 1 8 (Value.nilFunc :: []) false false) := rfl
@[go_sem ↓] theorem wt199 (k : TyI → Prop) : withTy E 199 k = k (TyI.mk (TK.struct (⟨0, 1, 17, true, false⟩ :: (⟨1, 1, 17, true, false⟩ :: (⟨2, 1, 17, true, false⟩ :: (⟨3, 1, 9, true, false⟩ :: []))))) 4 40 ((Value.pointer none) :: ((Value.pointer none) :: ((Value.pointer none) :: ((Value.string (ByteArray.mk (Array.mk []))) :: [])))) true false) := rfl
@[go_sem ↓] theorem wt201 (k : TyI → Prop) : withTy E 201 k = k (TyI.mk (TK.arr 0 16 1 false) 0 0 [] false false) := rfl
@[go_sem ↓] theorem wt203 (k : TyI → Prop) : withTy E 203 k = k (TyI.mk (TK.struct (⟨0, 0, 201, false, true⟩ :: [])) 0 0 [] true false) := rfl
@[go_sem ↓] theorem wt205 (k : TyI → Prop) : withTy E 205 k = k (TyI.mk (TK.int .u8) 1 1 ((Value.int .u8 0) :: []) false false) := rfl
@[go_sem ↓] theorem wt206 (k : TyI → Prop) : withTy E 206 k = k (TyI.mk (TK.int .u8) 1 1 ((Value.int .u8 0) :: []) false false) := rfl
@[go_sem ↓] theorem wt207 (k : TyI → Prop) : withTy E 207 k = k (TyI.mk TK.func 1 8 (Value.nilFunc :: []) false false) := rfl
@[go_sem ↓] theorem wt208 (k : TyI → Prop) : withTy E 208 k = k (TyI.mk (TK.int .i32) 1 4 ((Value.int .i32 0) :: []) false false) := rfl
@[go_sem ↓] theorem wt209 (k : TyI → Prop) : withTy E 209 k = k (TyI.mk (TK.int .i32) 1 4 ((Value.int .i32 0) :: []) false false) := rfl
@[go_sem ↓] theorem wt211 (k : TyI → Prop) : withTy E 211 k = k (TyI.mk (TK.struct (⟨0, 1, 12, true, false⟩ :: (⟨1, 1, 12, true, false⟩ :: (⟨2, 1, 164, true, false⟩ :: (⟨3, 1, 205, true, false⟩ :: (⟨4, 1, 5, true, false⟩ :: (⟨5, 1, 5, true, false⟩ :: (⟨6, 1, 206, true, false⟩ :: (⟨7, 1, 207, true, false⟩ :: (⟨8, 1, 177, true, false⟩ :: (⟨9, 1, 208, true, false⟩ :: (⟨10, 1, 209, true, false⟩ :: [])))))))))))) 11 48 ((Value.int .u64 0) :: ((Value.int .u64 0) :: ((Value.int .u32 0) :: ((Value.int .u8 0) :: ((Value.int .u8 0) :: ((Value.int .u8 0) :: ((Value.int .u8 0) :: (Value.nilFunc :: ((Value.pointer none) :: ((Value.int .i32 0) :: ((Value.int .i32 0) :: []))))))))))) true false) := rfl
attribute [go_sem] Int.reduceToNat Int.reducePow Nat.reducePow Int.reduceAdd Int.reduceMul Int.reduceSub Int.reduceNeg Nat.reduceAdd Nat.reduceMul Nat.reduceSub Nat.reduceEqDiff Nat.reduceLT Nat.reduceLeDiff
end Go.Proofs.YtpcjeaaplidmaaaGreatDoor