/- The types of this program, as tables, and what is known of its package-level variables. No conditions. -/
import Derived.Test.YtckhjklcfagkoaaGreatDoorAc4
import Derived.Test.YtckhjklcfagkoaaGreatDoorProg
import Derived.KernelRfl
namespace Go.Proofs.YtckhjklcfagkoaaGreatDoor
open Go Go.Ab
theorem gn0 : Tryz.prog.globalNamed "internal/strconv.uint64pow10" = some 1 := by kernel_rfl
def Gl (Z : Nat → Prop) (w : World) : Prop := (Z 1 ∧ Z 0) ∧ Lib.TabIs Tryz.prog w "internal/strconv.uint64pow10" .u64 Lib.pow10Tab ∧ ∃ m, w.cell? ⟨0, 0, none⟩ = some (.int .i64 m)
noncomputable instance : Glob where
 G := Gl
 mono := fun hz hk h => ⟨⟨hz _ h.1.1, hz _ h.1.2⟩, tabIs_keep gn0 (hk _ h.1.1) h.2.1, by obtain ⟨m, hm⟩ := h.2.2; exact ⟨m, by rw [← hm]; exact cell_of_heap (hk _ h.1.2)⟩⟩
 tab := []
 bld := 130
 slots := slotOf [(62, 25), (82, 26), (31, 26), (37, 26), (81, 6), (86, 6), (38, 6), (40, 6), (35, 6), (43, 6), (11, 26), (16, 26), (28, 28), (8, 28), (15, 26), (30, 6), (50, 2), (78, 2), (13, 2), (18, 2)]
 ok := fun _ h => by simp [gfind] at h
instance : Quick := ⟨fun h => h⟩
@[go_sem] theorem bldE : (Glob.bld : TypeId) = 130 := rfl
@[go_sem] theorem slotsE (g : Nat) : Glob.slots g = slotOf [(62, 25), (82, 26), (31, 26), (37, 26), (81, 6), (86, 6), (38, 6), (40, 6), (35, 6), (43, 6), (11, 26), (16, 26), (28, 28), (8, 28), (15, 26), (30, 6), (50, 2), (78, 2), (13, 2), (18, 2)] g := rfl
noncomputable def tys : List (TypeId × TyI) := [
 (2, (TyI.mk (TK.int .i64) 1 8 ((Value.int .i64 0) :: []) false false)),
 (3, (TyI.mk (TK.int .i64) 1 8 ((Value.int .i64 0) :: []) false false)),
 (4, (TyI.mk TK.bool 1 1 ((Value.bool false) :: []) false false)),
 (5, (TyI.mk (TK.int .u8) 1 1 ((Value.int .u8 0) :: []) false false)),
 (6, (TyI.mk (TK.int .u8) 1 1 ((Value.int .u8 0) :: []) false false)),
 (7, (TyI.mk (TK.struct (⟨0, 1, 2, true, false⟩ :: (⟨1, 1, 3, true, false⟩ :: (⟨2, 1, 4, true, false⟩ :: (⟨3, 1, 6, true, false⟩ :: []))))) 4 24 ((Value.int .i64 0) :: ((Value.int .i64 0) :: ((Value.bool false) :: ((Value.int .u8 0) :: [])))) false false)),
 (8, (TyI.mk (TK.struct (⟨0, 1, 2, true, false⟩ :: (⟨1, 1, 3, true, false⟩ :: (⟨2, 1, 4, true, false⟩ :: (⟨3, 1, 6, true, false⟩ :: []))))) 4 24 ((Value.int .i64 0) :: ((Value.int .i64 0) :: ((Value.bool false) :: ((Value.int .u8 0) :: [])))) false false)),
 (9, (TyI.mk TK.str 1 16 ((Value.string (ByteArray.mk (Array.mk []))) :: []) false false)),
 (10, (TyI.mk TK.str 1 16 ((Value.string (ByteArray.mk (Array.mk []))) :: []) false false)),
 (11, (TyI.mk TK.str 1 16 ((Value.string (ByteArray.mk (Array.mk []))) :: []) false false)),
 (12, (TyI.mk (TK.int .u64) 1 8 ((Value.int .u64 0) :: []) false false)),
 (13, (TyI.mk (TK.struct (⟨0, 1, 9, true, false⟩ :: (⟨1, 1, 12, true, false⟩ :: []))) 2 24 ((Value.string (ByteArray.mk (Array.mk []))) :: ((Value.int .u64 0) :: [])) true false)),
 (14, (TyI.mk (TK.struct (⟨0, 1, 9, true, false⟩ :: (⟨1, 1, 12, true, false⟩ :: []))) 2 24 ((Value.string (ByteArray.mk (Array.mk []))) :: ((Value.int .u64 0) :: [])) true false)),
 (15, (TyI.mk (TK.ptr 221) 1 8 ((Value.pointer none) :: []) false false)),
 (16, (TyI.mk (TK.ptr 224) 1 8 ((Value.pointer none) :: []) false false)),
 (17, (TyI.mk (TK.ptr 231) 1 8 ((Value.pointer none) :: []) false false)),
 (18, (TyI.mk (TK.struct (⟨0, 1, 17, true, false⟩ :: [])) 1 8 ((Value.pointer none) :: []) true false)),
 (19, (TyI.mk (TK.struct (⟨0, 1, 17, true, false⟩ :: [])) 1 8 ((Value.pointer none) :: []) true false)),
 (20, (TyI.mk (TK.iface true) 1 16 (Value.nilIface :: []) false false)),
 (22, (TyI.mk (TK.slice 69 6 48 (Value.agg (Array.mk ((Value.int .i64 0) :: ((Value.int .i64 0) :: ((Value.int .u64 0) :: ((Value.int .u64 0) :: ((Value.int .u64 0) :: ((Value.int .i64 0) :: []))))))))) 1 24 ((Value.slice none 0 0) :: []) false false)),
 (24, (TyI.mk (TK.struct (⟨0, 1, 3, true, false⟩ :: (⟨1, 1, 22, true, false⟩ :: []))) 2 32 ((Value.int .i64 0) :: ((Value.slice none 0 0) :: [])) false false)),
 (25, (TyI.mk (TK.slice 35 8 80 (Value.agg (Array.mk ((Value.int .i64 0) :: ((Value.int .i64 0) :: ((Value.int .u64 0) :: ((Value.int .u64 0) :: ((Value.int .u64 0) :: ((Value.int .i64 0) :: ((Value.int .i64 0) :: ((Value.slice none 0 0) :: []))))))))))) 1 24 ((Value.slice none 0 0) :: []) false false)),
 (26, (TyI.mk (TK.ptr 114) 1 8 ((Value.pointer none) :: []) false false)),
 (27, (TyI.mk (TK.ptr 86) 1 8 ((Value.pointer none) :: []) false false)),
 (31, (TyI.mk TK.func 1 8 (Value.nilFunc :: []) false false)),
 (32, (TyI.mk (TK.int .u64) 1 8 ((Value.int .u64 0) :: []) false false)),
 (33, (TyI.mk (TK.slice 5 1 1 (Value.int .u8 0)) 1 24 ((Value.slice none 0 0) :: []) false false)),
 (35, (TyI.mk (TK.struct (⟨0, 1, 3, true, false⟩ :: (⟨1, 1, 3, true, false⟩ :: (⟨2, 1, 32, true, false⟩ :: (⟨3, 1, 32, true, false⟩ :: (⟨4, 1, 32, true, false⟩ :: (⟨5, 1, 3, true, false⟩ :: (⟨6, 1, 3, true, false⟩ :: (⟨7, 1, 33, true, false⟩ :: []))))))))) 8 80 ((Value.int .i64 0) :: ((Value.int .i64 0) :: ((Value.int .u64 0) :: ((Value.int .u64 0) :: ((Value.int .u64 0) :: ((Value.int .i64 0) :: ((Value.int .i64 0) :: ((Value.slice none 0 0) :: [])))))))) false false)),
 (36, (TyI.mk (TK.int .i64) 1 8 ((Value.int .i64 0) :: []) false false)),
 (37, (TyI.mk TK.other 1 0 ((Value.tuple (Array.mk ((Value.pointer none) :: ((Value.bool false) :: ((Value.int .i64 0) :: []))))) :: []) false false)),
 (39, (TyI.mk (TK.int .u8) 1 1 ((Value.int .u8 0) :: []) false false)),
 (40, (TyI.mk (TK.struct (⟨0, 1, 39, true, false⟩ :: (⟨1, 1, 3, true, false⟩ :: (⟨2, 1, 32, true, false⟩ :: (⟨3, 1, 32, true, false⟩ :: (⟨4, 1, 32, true, false⟩ :: (⟨5, 1, 3, true, false⟩ :: (⟨6, 1, 3, true, false⟩ :: (⟨7, 1, 33, true, false⟩ :: []))))))))) 8 80 ((Value.int .u8 0) :: ((Value.int .i64 0) :: ((Value.int .u64 0) :: ((Value.int .u64 0) :: ((Value.int .u64 0) :: ((Value.int .i64 0) :: ((Value.int .i64 0) :: ((Value.slice none 0 0) :: [])))))))) false false)),
 (41, (TyI.mk (TK.struct (⟨0, 1, 39, true, false⟩ :: (⟨1, 1, 3, true, false⟩ :: (⟨2, 1, 32, true, false⟩ :: (⟨3, 1, 32, true, false⟩ :: (⟨4, 1, 32, true, false⟩ :: (⟨5, 1, 3, true, false⟩ :: (⟨6, 1, 3, true, false⟩ :: (⟨7, 1, 33, true, false⟩ :: []))))))))) 8 80 ((Value.int .u8 0) :: ((Value.int .i64 0) :: ((Value.int .u64 0) :: ((Value.int .u64 0) :: ((Value.int .u64 0) :: ((Value.int .i64 0) :: ((Value.int .i64 0) :: ((Value.slice none 0 0) :: [])))))))) false false)),
 (46, (TyI.mk TK.func 1 8 (Value.nilFunc :: []) false false)),
 (48, (TyI.mk TK.other 1 0 ((Value.tuple (Array.mk ((Value.pointer none) :: ((Value.int .i64 0) :: [])))) :: []) false false)),
 (50, (TyI.mk (TK.slice 41 8 80 (Value.agg (Array.mk ((Value.int .u8 0) :: ((Value.int .i64 0) :: ((Value.int .u64 0) :: ((Value.int .u64 0) :: ((Value.int .u64 0) :: ((Value.int .i64 0) :: ((Value.int .i64 0) :: ((Value.slice none 0 0) :: []))))))))))) 1 24 ((Value.slice none 0 0) :: []) false false)),
 (51, (TyI.mk TK.func 1 8 (Value.nilFunc :: []) false false)),
 (59, (TyI.mk TK.func 1 8 (Value.nilFunc :: []) false false)),
 (60, (TyI.mk TK.other 1 0 ((Value.tuple (Array.mk ((Value.slice none 0 0) :: ((Value.int .i64 0) :: ((Value.int .i64 0) :: []))))) :: []) false false)),
 (61, (TyI.mk TK.func 1 8 (Value.nilFunc :: []) false false)),
 (64, (TyI.mk TK.func 1 8 (Value.nilFunc :: []) false false)),
 (69, (TyI.mk (TK.struct (⟨0, 1, 3, true, false⟩ :: (⟨1, 1, 3, true, false⟩ :: (⟨2, 1, 32, true, false⟩ :: (⟨3, 1, 32, true, false⟩ :: (⟨4, 1, 32, true, false⟩ :: (⟨5, 1, 3, true, false⟩ :: []))))))) 6 48 ((Value.int .i64 0) :: ((Value.int .i64 0) :: ((Value.int .u64 0) :: ((Value.int .u64 0) :: ((Value.int .u64 0) :: ((Value.int .i64 0) :: [])))))) false false)),
 (72, (TyI.mk (TK.ptr 122) 1 8 ((Value.pointer none) :: []) false false)),
 (73, (TyI.mk TK.func 1 8 (Value.nilFunc :: []) false false)),
 (74, (TyI.mk TK.func 1 8 (Value.nilFunc :: []) false false)),
 (80, (TyI.mk TK.func 1 8 (Value.nilFunc :: []) false false)),
 (81, (TyI.mk (TK.slice 103 10 96 (Value.agg (Array.mk ((Value.int .u64 0) :: ((Value.int .u64 0) :: ((Value.int .u64 0) :: ((Value.int .u64 0) :: ((Value.int .u64 0) :: ((Value.int .u64 0) :: ((Value.int .u64 0) :: ((Value.int .u64 0) :: ((Value.slice none 0 0) :: ((Value.int .i64 0) :: []))))))))))))) 1 24 ((Value.slice none 0 0) :: []) false false)),
 (82, (TyI.mk (TK.slice 155 2 16 (Value.agg (Array.mk ((Value.int .i64 0) :: ((Value.int .i64 0) :: []))))) 1 24 ((Value.slice none 0 0) :: []) false false)),
 (83, (TyI.mk (TK.arr 8 82 1 false) 8 192 ((Value.slice none 0 0) :: ((Value.slice none 0 0) :: ((Value.slice none 0 0) :: ((Value.slice none 0 0) :: ((Value.slice none 0 0) :: ((Value.slice none 0 0) :: ((Value.slice none 0 0) :: ((Value.slice none 0 0) :: [])))))))) false false)),
 (84, (TyI.mk (TK.arr 8 3 1 false) 8 64 ((Value.int .i64 0) :: ((Value.int .i64 0) :: ((Value.int .i64 0) :: ((Value.int .i64 0) :: ((Value.int .i64 0) :: ((Value.int .i64 0) :: ((Value.int .i64 0) :: ((Value.int .i64 0) :: [])))))))) false false)),
 (86, (TyI.mk (TK.struct (⟨0, 1, 81, true, false⟩ :: (⟨1, 8, 83, true, true⟩ :: (⟨9, 8, 84, true, true⟩ :: (⟨17, 1, 3, true, false⟩ :: (⟨18, 1, 4, true, false⟩ :: (⟨19, 1, 32, true, false⟩ :: []))))))) 20 304 ((Value.slice none 0 0) :: ((Value.slice none 0 0) :: ((Value.slice none 0 0) :: ((Value.slice none 0 0) :: ((Value.slice none 0 0) :: ((Value.slice none 0 0) :: ((Value.slice none 0 0) :: ((Value.slice none 0 0) :: ((Value.slice none 0 0) :: ((Value.int .i64 0) :: ((Value.int .i64 0) :: ((Value.int .i64 0) :: ((Value.int .i64 0) :: ((Value.int .i64 0) :: ((Value.int .i64 0) :: ((Value.int .i64 0) :: ((Value.int .i64 0) :: ((Value.int .i64 0) :: ((Value.bool false) :: ((Value.int .u64 0) :: [])))))))))))))))))))) false false)),
 (87, (TyI.mk TK.func 1 8 (Value.nilFunc :: []) false false)),
 (94, (TyI.mk TK.func 1 8 (Value.nilFunc :: []) false false)),
 (95, (TyI.mk TK.func 1 8 (Value.nilFunc :: []) false false)),
 (96, (TyI.mk TK.func 1 8 (Value.nilFunc :: []) false false)),
 (97, (TyI.mk (TK.slice 3 1 8 (Value.int .i64 0)) 1 24 ((Value.slice none 0 0) :: []) false false)),
 (100, (TyI.mk (TK.arr 8 32 1 false) 8 64 ((Value.int .u64 0) :: ((Value.int .u64 0) :: ((Value.int .u64 0) :: ((Value.int .u64 0) :: ((Value.int .u64 0) :: ((Value.int .u64 0) :: ((Value.int .u64 0) :: ((Value.int .u64 0) :: [])))))))) false false)),
 (101, (TyI.mk (TK.slice 159 2 16 (Value.agg (Array.mk ((Value.int .u64 0) :: ((Value.int .u64 0) :: []))))) 1 24 ((Value.slice none 0 0) :: []) false false)),
 (103, (TyI.mk (TK.struct (⟨0, 8, 100, true, true⟩ :: (⟨8, 1, 101, true, false⟩ :: (⟨9, 1, 3, true, false⟩ :: [])))) 10 96 ((Value.int .u64 0) :: ((Value.int .u64 0) :: ((Value.int .u64 0) :: ((Value.int .u64 0) :: ((Value.int .u64 0) :: ((Value.int .u64 0) :: ((Value.int .u64 0) :: ((Value.int .u64 0) :: ((Value.slice none 0 0) :: ((Value.int .i64 0) :: [])))))))))) false false)),
 (105, (TyI.mk (TK.slice 119 2 16 (Value.agg (Array.mk ((Value.int .u64 0) :: ((Value.int .u64 0) :: []))))) 1 24 ((Value.slice none 0 0) :: []) false false)),
 (109, (TyI.mk (TK.slice 32 1 8 (Value.int .u64 0)) 1 24 ((Value.slice none 0 0) :: []) false false)),
 (111, (TyI.mk (TK.slice 116 2 32 (Value.agg (Array.mk ((Value.int .u64 0) :: ((Value.slice none 0 0) :: []))))) 1 24 ((Value.slice none 0 0) :: []) false false)),
 (112, (TyI.mk (TK.arr 8 72 1 false) 8 64 ((Value.pointer none) :: ((Value.pointer none) :: ((Value.pointer none) :: ((Value.pointer none) :: ((Value.pointer none) :: ((Value.pointer none) :: ((Value.pointer none) :: ((Value.pointer none) :: [])))))))) false false)),
 (114, (TyI.mk (TK.struct (⟨0, 1, 109, true, false⟩ :: (⟨1, 1, 109, true, false⟩ :: (⟨2, 1, 111, true, false⟩ :: (⟨3, 8, 112, true, true⟩ :: (⟨11, 1, 4, true, false⟩ :: (⟨12, 1, 4, true, false⟩ :: (⟨13, 1, 3, true, false⟩ :: (⟨14, 1, 32, true, false⟩ :: []))))))))) 15 160 ((Value.slice none 0 0) :: ((Value.slice none 0 0) :: ((Value.slice none 0 0) :: ((Value.pointer none) :: ((Value.pointer none) :: ((Value.pointer none) :: ((Value.pointer none) :: ((Value.pointer none) :: ((Value.pointer none) :: ((Value.pointer none) :: ((Value.pointer none) :: ((Value.bool false) :: ((Value.bool false) :: ((Value.int .i64 0) :: ((Value.int .u64 0) :: []))))))))))))))) false false)),
 (116, (TyI.mk (TK.struct (⟨0, 1, 32, true, false⟩ :: (⟨1, 1, 105, true, false⟩ :: []))) 2 32 ((Value.int .u64 0) :: ((Value.slice none 0 0) :: [])) false false)),
 (119, (TyI.mk (TK.struct (⟨0, 1, 32, true, false⟩ :: (⟨1, 1, 32, true, false⟩ :: []))) 2 16 ((Value.int .u64 0) :: ((Value.int .u64 0) :: [])) false false)),
 (120, (TyI.mk (TK.map 3 32 (Value.int .u64 0)) 1 8 ((Value.map none) :: []) false false)),
 (122, (TyI.mk (TK.struct (⟨0, 1, 26, true, false⟩ :: (⟨1, 1, 3, true, false⟩ :: (⟨2, 1, 36, true, false⟩ :: (⟨3, 1, 120, true, false⟩ :: []))))) 4 32 ((Value.pointer none) :: ((Value.int .i64 0) :: ((Value.int .i64 0) :: ((Value.map none) :: [])))) false false)),
 (124, (TyI.mk TK.func 1 8 (Value.nilFunc :: []) false false)),
 (128, (TyI.mk (TK.ptr 130) 1 8 ((Value.pointer none) :: []) false false)),
 (129, (TyI.mk (TK.struct (⟨0, 1, 128, true, false⟩ :: (⟨1, 1, 33, true, false⟩ :: []))) 2 32 ((Value.pointer none) :: ((Value.slice none 0 0) :: [])) false false)),
 (130, (TyI.mk (TK.struct (⟨0, 1, 128, true, false⟩ :: (⟨1, 1, 33, true, false⟩ :: []))) 2 32 ((Value.pointer none) :: ((Value.slice none 0 0) :: [])) false false)),
 (132, (TyI.mk (TK.iface false) 1 16 (Value.nilIface :: []) false true)),
 (133, (TyI.mk TK.other 1 0 ((Value.tuple (Array.mk ((Value.int .i64 0) :: (Value.nilIface :: [])))) :: []) false false)),
 (137, (TyI.mk TK.other 1 0 ((Value.tuple (Array.mk ((Value.string (ByteArray.mk (Array.mk []))) :: ((Value.string (ByteArray.mk (Array.mk []))) :: ((Value.bool false) :: []))))) :: []) false false)),
 (139, (TyI.mk TK.other 1 0 ((Value.tuple (Array.mk ((Value.agg (Array.mk ((Value.int .u8 0) :: ((Value.int .i64 0) :: ((Value.int .u64 0) :: ((Value.int .u64 0) :: ((Value.int .u64 0) :: ((Value.int .i64 0) :: ((Value.int .i64 0) :: ((Value.slice none 0 0) :: [])))))))))) :: ((Value.bool false) :: [])))) :: []) false false)),
 (140, (TyI.mk TK.func 1 8 (Value.nilFunc :: []) false false)),
 (141, (TyI.mk TK.func 1 8 (Value.nilFunc :: []) false false)),
 (147, (TyI.mk TK.func 1 8 (Value.nilFunc :: []) false false)),
 (150, (TyI.mk (TK.ptr 116) 1 8 ((Value.pointer none) :: []) false false)),
 (152, (TyI.mk TK.func 1 8 (Value.nilFunc :: []) false false)),
 (155, (TyI.mk (TK.struct (⟨0, 1, 3, true, false⟩ :: (⟨1, 1, 3, true, false⟩ :: []))) 2 16 ((Value.int .i64 0) :: ((Value.int .i64 0) :: [])) false false)),
 (159, (TyI.mk (TK.struct (⟨0, 1, 32, true, false⟩ :: (⟨1, 1, 32, true, false⟩ :: []))) 2 16 ((Value.int .u64 0) :: ((Value.int .u64 0) :: [])) false false)),
 (160, (TyI.mk TK.func 1 8 (Value.nilFunc :: []) false false)),
 (161, (TyI.mk (TK.int .u64) 1 8 ((Value.int .u64 0) :: []) false false)),
 (162, (TyI.mk (TK.slice 9 1 16 (Value.string (ByteArray.mk (Array.mk [])))) 1 24 ((Value.slice none 0 0) :: []) false false)),
 (164, (TyI.mk (TK.ptr 5) 1 8 ((Value.pointer none) :: []) false false)),
 (165, (TyI.mk (TK.ptr 168) 1 8 ((Value.pointer none) :: []) false false)),
 (168, (TyI.mk (TK.struct (⟨0, 1, 162, true, false⟩ :: (⟨1, 1, 4, true, false⟩ :: []))) 2 32 ((Value.slice none 0 0) :: ((Value.bool false) :: [])) false false)),
 (174, (TyI.mk TK.func 1 8 (Value.nilFunc :: []) false false)),
 (177, (TyI.mk TK.other 1 0 ((Value.tuple (Array.mk ((Value.int .u64 0) :: (Value.nilIface :: [])))) :: []) false false)),
 (184, (TyI.mk (TK.arr 24 5 1 false) 24 24 ((Value.int .u8 0) :: ((Value.int .u8 0) :: ((Value.int .u8 0) :: ((Value.int .u8 0) :: ((Value.int .u8 0) :: ((Value.int .u8 0) :: ((Value.int .u8 0) :: ((Value.int .u8 0) :: ((Value.int .u8 0) :: ((Value.int .u8 0) :: ((Value.int .u8 0) :: ((Value.int .u8 0) :: ((Value.int .u8 0) :: ((Value.int .u8 0) :: ((Value.int .u8 0) :: ((Value.int .u8 0) :: ((Value.int .u8 0) :: ((Value.int .u8 0) :: ((Value.int .u8 0) :: ((Value.int .u8 0) :: ((Value.int .u8 0) :: ((Value.int .u8 0) :: ((Value.int .u8 0) :: ((Value.int .u8 0) :: [])))))))))))))))))))))))) false false)),
 (185, (TyI.mk TK.func 1 8 (Value.nilFunc :: []) false false)),
 (187, (TyI.mk TK.other 1 0 ((Value.tuple (Array.mk ((Value.slice none 0 0) :: ((Value.string (ByteArray.mk (Array.mk []))) :: [])))) :: []) false false)),
 (189, (TyI.mk (TK.int .u32) 1 4 ((Value.int .u32 0) :: []) false false)),
 (192, (TyI.mk TK.func 1 8 (Value.nilFunc :: []) false false)),
 (194, (TyI.mk TK.func 1 8 (Value.nilFunc :: []) false false)),
 (206, (TyI.mk TK.func 1 8 (Value.nilFunc :: []) false false)),
 (210, (TyI.mk TK.func 1 8 (Value.nilFunc :: []) false false)),
 (221, (TyI.mk (TK.struct (⟨0, 1, 17, true, false⟩ :: (⟨1, 1, 17, true, false⟩ :: (⟨2, 1, 17, true, false⟩ :: (⟨3, 1, 9, true, false⟩ :: []))))) 4 40 ((Value.pointer none) :: ((Value.pointer none) :: ((Value.pointer none) :: ((Value.string (ByteArray.mk (Array.mk []))) :: [])))) true false)),
 (222, (TyI.mk (TK.arr 0 16 1 false) 0 0 [] false false)),
 (224, (TyI.mk (TK.struct (⟨0, 0, 222, false, true⟩ :: [])) 0 0 [] true false)),
 (225, (TyI.mk (TK.int .u8) 1 1 ((Value.int .u8 0) :: []) false false)),
 (226, (TyI.mk (TK.int .u8) 1 1 ((Value.int .u8 0) :: []) false false)),
 (227, (TyI.mk TK.func 1 8 (Value.nilFunc :: []) false false)),
 (228, (TyI.mk (TK.int .i32) 1 4 ((Value.int .i32 0) :: []) false false)),
 (229, (TyI.mk (TK.int .i32) 1 4 ((Value.int .i32 0) :: []) false false)),
 (231, (TyI.mk (TK.struct (⟨0, 1, 12, true, false⟩ :: (⟨1, 1, 12, true, false⟩ :: (⟨2, 1, 189, true, false⟩ :: (⟨3, 1, 225, true, false⟩ :: (⟨4, 1, 5, true, false⟩ :: (⟨5, 1, 5, true, false⟩ :: (⟨6, 1, 226, true, false⟩ :: (⟨7, 1, 227, true, false⟩ :: (⟨8, 1, 164, true, false⟩ :: (⟨9, 1, 228, true, false⟩ :: (⟨10, 1, 229, true, false⟩ :: [])))))))))))) 11 48 ((Value.int .u64 0) :: ((Value.int .u64 0) :: ((Value.int .u32 0) :: ((Value.int .u8 0) :: ((Value.int .u8 0) :: ((Value.int .u8 0) :: ((Value.int .u8 0) :: (Value.nilFunc :: ((Value.pointer none) :: ((Value.int .i32 0) :: ((Value.int .i32 0) :: []))))))))))) true false))
]
theorem tysOk : tys.map (fun p => tyOf Tryz.prog p.1) = tys.map (fun p => some p.2) := by kernel_rfl
theorem mixed : Tryz.prog.follows .mixedOrders = true := by kernel_rfl
noncomputable def E : Env := ⟨Tryz.prog, tys, tfind_ok tysOk, mixed⟩
@[go_sem] theorem ty2 : tfind E.tys 2 = some (TyI.mk (TK.int .i64) 1 8 ((Value.int .i64 0) :: []) false false) := rfl
@[go_sem] theorem ty3 : tfind E.tys 3 = some (TyI.mk (TK.int .i64) 1 8 ((Value.int .i64 0) :: []) false false) := rfl
@[go_sem] theorem ty4 : tfind E.tys 4 = some (TyI.mk TK.bool 1 1 ((Value.bool false) :: []) false false) := rfl
@[go_sem] theorem ty5 : tfind E.tys 5 = some (TyI.mk (TK.int .u8) 1 1 ((Value.int .u8 0) :: []) false false) := rfl
@[go_sem] theorem ty6 : tfind E.tys 6 = some (TyI.mk (TK.int .u8) 1 1 ((Value.int .u8 0) :: []) false false) := rfl
@[go_sem] theorem ty7 : tfind E.tys 7 = some (TyI.mk (TK.struct (⟨0, 1, 2, true, false⟩ :: (⟨1, 1, 3, true, false⟩ :: (⟨2, 1, 4, true, false⟩ :: (⟨3, 1, 6, true, false⟩ :: []))))) 4 24 ((Value.int .i64 0) :: ((Value.int .i64 0) :: ((Value.bool false) :: ((Value.int .u8 0) :: [])))) false false) := rfl
@[go_sem] theorem ty8 : tfind E.tys 8 = some (TyI.mk (TK.struct (⟨0, 1, 2, true, false⟩ :: (⟨1, 1, 3, true, false⟩ :: (⟨2, 1, 4, true, false⟩ :: (⟨3, 1, 6, true, false⟩ :: []))))) 4 24 ((Value.int .i64 0) :: ((Value.int .i64 0) :: ((Value.bool false) :: ((Value.int .u8 0) :: [])))) false false) := rfl
@[go_sem] theorem ty9 : tfind E.tys 9 = some (TyI.mk TK.str 1 16 ((Value.string (ByteArray.mk (Array.mk []))) :: []) false false) := rfl
@[go_sem] theorem ty10 : tfind E.tys 10 = some (TyI.mk TK.str 1 16 ((Value.string (ByteArray.mk (Array.mk []))) :: []) false false) := rfl
@[go_sem] theorem ty11 : tfind E.tys 11 = some (TyI.mk TK.str 1 16 ((Value.string (ByteArray.mk (Array.mk []))) :: []) false false) := rfl
@[go_sem] theorem ty12 : tfind E.tys 12 = some (TyI.mk (TK.int .u64) 1 8 ((Value.int .u64 0) :: []) false false) := rfl
@[go_sem] theorem ty13 : tfind E.tys 13 = some (TyI.mk (TK.struct (⟨0, 1, 9, true, false⟩ :: (⟨1, 1, 12, true, false⟩ :: []))) 2 24 ((Value.string (ByteArray.mk (Array.mk []))) :: ((Value.int .u64 0) :: [])) true false) := rfl
@[go_sem] theorem ty14 : tfind E.tys 14 = some (TyI.mk (TK.struct (⟨0, 1, 9, true, false⟩ :: (⟨1, 1, 12, true, false⟩ :: []))) 2 24 ((Value.string (ByteArray.mk (Array.mk []))) :: ((Value.int .u64 0) :: [])) true false) := rfl
@[go_sem] theorem ty18 : tfind E.tys 18 = some (TyI.mk (TK.struct (⟨0, 1, 17, true, false⟩ :: [])) 1 8 ((Value.pointer none) :: []) true false) := rfl
@[go_sem] theorem ty19 : tfind E.tys 19 = some (TyI.mk (TK.struct (⟨0, 1, 17, true, false⟩ :: [])) 1 8 ((Value.pointer none) :: []) true false) := rfl
@[go_sem] theorem ty20 : tfind E.tys 20 = some (TyI.mk (TK.iface true) 1 16 (Value.nilIface :: []) false false) := rfl
@[go_sem] theorem ty22 : tfind E.tys 22 = some (TyI.mk (TK.slice 69 6 48 (Value.agg (Array.mk ((Value.int .i64 0) :: ((Value.int .i64 0) :: ((Value.int .u64 0) :: ((Value.int .u64 0) :: ((Value.int .u64 0) :: ((Value.int .i64 0) :: []))))))))) 1 24 ((Value.slice none 0 0) :: []) false false) := rfl
@[go_sem] theorem ty24 : tfind E.tys 24 = some (TyI.mk (TK.struct (⟨0, 1, 3, true, false⟩ :: (⟨1, 1, 22, true, false⟩ :: []))) 2 32 ((Value.int .i64 0) :: ((Value.slice none 0 0) :: [])) false false) := rfl
@[go_sem] theorem ty25 : tfind E.tys 25 = some (TyI.mk (TK.slice 35 8 80 (Value.agg (Array.mk ((Value.int .i64 0) :: ((Value.int .i64 0) :: ((Value.int .u64 0) :: ((Value.int .u64 0) :: ((Value.int .u64 0) :: ((Value.int .i64 0) :: ((Value.int .i64 0) :: ((Value.slice none 0 0) :: []))))))))))) 1 24 ((Value.slice none 0 0) :: []) false false) := rfl
@[go_sem] theorem ty32 : tfind E.tys 32 = some (TyI.mk (TK.int .u64) 1 8 ((Value.int .u64 0) :: []) false false) := rfl
@[go_sem] theorem ty33 : tfind E.tys 33 = some (TyI.mk (TK.slice 5 1 1 (Value.int .u8 0)) 1 24 ((Value.slice none 0 0) :: []) false false) := rfl
@[go_sem] theorem ty35 : tfind E.tys 35 = some (TyI.mk (TK.struct (⟨0, 1, 3, true, false⟩ :: (⟨1, 1, 3, true, false⟩ :: (⟨2, 1, 32, true, false⟩ :: (⟨3, 1, 32, true, false⟩ :: (⟨4, 1, 32, true, false⟩ :: (⟨5, 1, 3, true, false⟩ :: (⟨6, 1, 3, true, false⟩ :: (⟨7, 1, 33, true, false⟩ :: []))))))))) 8 80 ((Value.int .i64 0) :: ((Value.int .i64 0) :: ((Value.int .u64 0) :: ((Value.int .u64 0) :: ((Value.int .u64 0) :: ((Value.int .i64 0) :: ((Value.int .i64 0) :: ((Value.slice none 0 0) :: [])))))))) false false) := rfl
@[go_sem] theorem ty36 : tfind E.tys 36 = some (TyI.mk (TK.int .i64) 1 8 ((Value.int .i64 0) :: []) false false) := rfl
@[go_sem] theorem ty39 : tfind E.tys 39 = some (TyI.mk (TK.int .u8) 1 1 ((Value.int .u8 0) :: []) false false) := rfl
@[go_sem] theorem ty40 : tfind E.tys 40 = some (TyI.mk (TK.struct (⟨0, 1, 39, true, false⟩ :: (⟨1, 1, 3, true, false⟩ :: (⟨2, 1, 32, true, false⟩ :: (⟨3, 1, 32, true, false⟩ :: (⟨4, 1, 32, true, false⟩ :: (⟨5, 1, 3, true, false⟩ :: (⟨6, 1, 3, true, false⟩ :: (⟨7, 1, 33, true, false⟩ :: []))))))))) 8 80 ((Value.int .u8 0) :: ((Value.int .i64 0) :: ((Value.int .u64 0) :: ((Value.int .u64 0) :: ((Value.int .u64 0) :: ((Value.int .i64 0) :: ((Value.int .i64 0) :: ((Value.slice none 0 0) :: [])))))))) false false) := rfl
@[go_sem] theorem ty41 : tfind E.tys 41 = some (TyI.mk (TK.struct (⟨0, 1, 39, true, false⟩ :: (⟨1, 1, 3, true, false⟩ :: (⟨2, 1, 32, true, false⟩ :: (⟨3, 1, 32, true, false⟩ :: (⟨4, 1, 32, true, false⟩ :: (⟨5, 1, 3, true, false⟩ :: (⟨6, 1, 3, true, false⟩ :: (⟨7, 1, 33, true, false⟩ :: []))))))))) 8 80 ((Value.int .u8 0) :: ((Value.int .i64 0) :: ((Value.int .u64 0) :: ((Value.int .u64 0) :: ((Value.int .u64 0) :: ((Value.int .i64 0) :: ((Value.int .i64 0) :: ((Value.slice none 0 0) :: [])))))))) false false) := rfl
@[go_sem] theorem ty50 : tfind E.tys 50 = some (TyI.mk (TK.slice 41 8 80 (Value.agg (Array.mk ((Value.int .u8 0) :: ((Value.int .i64 0) :: ((Value.int .u64 0) :: ((Value.int .u64 0) :: ((Value.int .u64 0) :: ((Value.int .i64 0) :: ((Value.int .i64 0) :: ((Value.slice none 0 0) :: []))))))))))) 1 24 ((Value.slice none 0 0) :: []) false false) := rfl
@[go_sem] theorem ty69 : tfind E.tys 69 = some (TyI.mk (TK.struct (⟨0, 1, 3, true, false⟩ :: (⟨1, 1, 3, true, false⟩ :: (⟨2, 1, 32, true, false⟩ :: (⟨3, 1, 32, true, false⟩ :: (⟨4, 1, 32, true, false⟩ :: (⟨5, 1, 3, true, false⟩ :: []))))))) 6 48 ((Value.int .i64 0) :: ((Value.int .i64 0) :: ((Value.int .u64 0) :: ((Value.int .u64 0) :: ((Value.int .u64 0) :: ((Value.int .i64 0) :: [])))))) false false) := rfl
@[go_sem] theorem ty81 : tfind E.tys 81 = some (TyI.mk (TK.slice 103 10 96 (Value.agg (Array.mk ((Value.int .u64 0) :: ((Value.int .u64 0) :: ((Value.int .u64 0) :: ((Value.int .u64 0) :: ((Value.int .u64 0) :: ((Value.int .u64 0) :: ((Value.int .u64 0) :: ((Value.int .u64 0) :: ((Value.slice none 0 0) :: ((Value.int .i64 0) :: []))))))))))))) 1 24 ((Value.slice none 0 0) :: []) false false) := rfl
@[go_sem] theorem ty82 : tfind E.tys 82 = some (TyI.mk (TK.slice 155 2 16 (Value.agg (Array.mk ((Value.int .i64 0) :: ((Value.int .i64 0) :: []))))) 1 24 ((Value.slice none 0 0) :: []) false false) := rfl
@[go_sem] theorem ty83 : tfind E.tys 83 = some (TyI.mk (TK.arr 8 82 1 false) 8 192 ((Value.slice none 0 0) :: ((Value.slice none 0 0) :: ((Value.slice none 0 0) :: ((Value.slice none 0 0) :: ((Value.slice none 0 0) :: ((Value.slice none 0 0) :: ((Value.slice none 0 0) :: ((Value.slice none 0 0) :: [])))))))) false false) := rfl
@[go_sem] theorem ty84 : tfind E.tys 84 = some (TyI.mk (TK.arr 8 3 1 false) 8 64 ((Value.int .i64 0) :: ((Value.int .i64 0) :: ((Value.int .i64 0) :: ((Value.int .i64 0) :: ((Value.int .i64 0) :: ((Value.int .i64 0) :: ((Value.int .i64 0) :: ((Value.int .i64 0) :: [])))))))) false false) := rfl
@[go_sem] theorem ty86 : tfind E.tys 86 = some (TyI.mk (TK.struct (⟨0, 1, 81, true, false⟩ :: (⟨1, 8, 83, true, true⟩ :: (⟨9, 8, 84, true, true⟩ :: (⟨17, 1, 3, true, false⟩ :: (⟨18, 1, 4, true, false⟩ :: (⟨19, 1, 32, true, false⟩ :: []))))))) 20 304 ((Value.slice none 0 0) :: ((Value.slice none 0 0) :: ((Value.slice none 0 0) :: ((Value.slice none 0 0) :: ((Value.slice none 0 0) :: ((Value.slice none 0 0) :: ((Value.slice none 0 0) :: ((Value.slice none 0 0) :: ((Value.slice none 0 0) :: ((Value.int .i64 0) :: ((Value.int .i64 0) :: ((Value.int .i64 0) :: ((Value.int .i64 0) :: ((Value.int .i64 0) :: ((Value.int .i64 0) :: ((Value.int .i64 0) :: ((Value.int .i64 0) :: ((Value.int .i64 0) :: ((Value.bool false) :: ((Value.int .u64 0) :: [])))))))))))))))))))) false false) := rfl
@[go_sem] theorem ty97 : tfind E.tys 97 = some (TyI.mk (TK.slice 3 1 8 (Value.int .i64 0)) 1 24 ((Value.slice none 0 0) :: []) false false) := rfl
@[go_sem] theorem ty100 : tfind E.tys 100 = some (TyI.mk (TK.arr 8 32 1 false) 8 64 ((Value.int .u64 0) :: ((Value.int .u64 0) :: ((Value.int .u64 0) :: ((Value.int .u64 0) :: ((Value.int .u64 0) :: ((Value.int .u64 0) :: ((Value.int .u64 0) :: ((Value.int .u64 0) :: [])))))))) false false) := rfl
@[go_sem] theorem ty101 : tfind E.tys 101 = some (TyI.mk (TK.slice 159 2 16 (Value.agg (Array.mk ((Value.int .u64 0) :: ((Value.int .u64 0) :: []))))) 1 24 ((Value.slice none 0 0) :: []) false false) := rfl
@[go_sem] theorem ty103 : tfind E.tys 103 = some (TyI.mk (TK.struct (⟨0, 8, 100, true, true⟩ :: (⟨8, 1, 101, true, false⟩ :: (⟨9, 1, 3, true, false⟩ :: [])))) 10 96 ((Value.int .u64 0) :: ((Value.int .u64 0) :: ((Value.int .u64 0) :: ((Value.int .u64 0) :: ((Value.int .u64 0) :: ((Value.int .u64 0) :: ((Value.int .u64 0) :: ((Value.int .u64 0) :: ((Value.slice none 0 0) :: ((Value.int .i64 0) :: [])))))))))) false false) := rfl
@[go_sem] theorem ty105 : tfind E.tys 105 = some (TyI.mk (TK.slice 119 2 16 (Value.agg (Array.mk ((Value.int .u64 0) :: ((Value.int .u64 0) :: []))))) 1 24 ((Value.slice none 0 0) :: []) false false) := rfl
@[go_sem] theorem ty109 : tfind E.tys 109 = some (TyI.mk (TK.slice 32 1 8 (Value.int .u64 0)) 1 24 ((Value.slice none 0 0) :: []) false false) := rfl
@[go_sem] theorem ty111 : tfind E.tys 111 = some (TyI.mk (TK.slice 116 2 32 (Value.agg (Array.mk ((Value.int .u64 0) :: ((Value.slice none 0 0) :: []))))) 1 24 ((Value.slice none 0 0) :: []) false false) := rfl
@[go_sem] theorem ty112 : tfind E.tys 112 = some (TyI.mk (TK.arr 8 72 1 false) 8 64 ((Value.pointer none) :: ((Value.pointer none) :: ((Value.pointer none) :: ((Value.pointer none) :: ((Value.pointer none) :: ((Value.pointer none) :: ((Value.pointer none) :: ((Value.pointer none) :: [])))))))) false false) := rfl
@[go_sem] theorem ty114 : tfind E.tys 114 = some (TyI.mk (TK.struct (⟨0, 1, 109, true, false⟩ :: (⟨1, 1, 109, true, false⟩ :: (⟨2, 1, 111, true, false⟩ :: (⟨3, 8, 112, true, true⟩ :: (⟨11, 1, 4, true, false⟩ :: (⟨12, 1, 4, true, false⟩ :: (⟨13, 1, 3, true, false⟩ :: (⟨14, 1, 32, true, false⟩ :: []))))))))) 15 160 ((Value.slice none 0 0) :: ((Value.slice none 0 0) :: ((Value.slice none 0 0) :: ((Value.pointer none) :: ((Value.pointer none) :: ((Value.pointer none) :: ((Value.pointer none) :: ((Value.pointer none) :: ((Value.pointer none) :: ((Value.pointer none) :: ((Value.pointer none) :: ((Value.bool false) :: ((Value.bool false) :: ((Value.int .i64 0) :: ((Value.int .u64 0) :: []))))))))))))))) false false) := rfl
@[go_sem] theorem ty116 : tfind E.tys 116 = some (TyI.mk (TK.struct (⟨0, 1, 32, true, false⟩ :: (⟨1, 1, 105, true, false⟩ :: []))) 2 32 ((Value.int .u64 0) :: ((Value.slice none 0 0) :: [])) false false) := rfl
@[go_sem] theorem ty119 : tfind E.tys 119 = some (TyI.mk (TK.struct (⟨0, 1, 32, true, false⟩ :: (⟨1, 1, 32, true, false⟩ :: []))) 2 16 ((Value.int .u64 0) :: ((Value.int .u64 0) :: [])) false false) := rfl
@[go_sem] theorem ty120 : tfind E.tys 120 = some (TyI.mk (TK.map 3 32 (Value.int .u64 0)) 1 8 ((Value.map none) :: []) false false) := rfl
@[go_sem] theorem ty122 : tfind E.tys 122 = some (TyI.mk (TK.struct (⟨0, 1, 26, true, false⟩ :: (⟨1, 1, 3, true, false⟩ :: (⟨2, 1, 36, true, false⟩ :: (⟨3, 1, 120, true, false⟩ :: []))))) 4 32 ((Value.pointer none) :: ((Value.int .i64 0) :: ((Value.int .i64 0) :: ((Value.map none) :: [])))) false false) := rfl
@[go_sem] theorem ty129 : tfind E.tys 129 = some (TyI.mk (TK.struct (⟨0, 1, 128, true, false⟩ :: (⟨1, 1, 33, true, false⟩ :: []))) 2 32 ((Value.pointer none) :: ((Value.slice none 0 0) :: [])) false false) := rfl
@[go_sem] theorem ty130 : tfind E.tys 130 = some (TyI.mk (TK.struct (⟨0, 1, 128, true, false⟩ :: (⟨1, 1, 33, true, false⟩ :: []))) 2 32 ((Value.pointer none) :: ((Value.slice none 0 0) :: [])) false false) := rfl
@[go_sem] theorem ty132 : tfind E.tys 132 = some (TyI.mk (TK.iface false) 1 16 (Value.nilIface :: []) false true) := rfl
@[go_sem] theorem ty155 : tfind E.tys 155 = some (TyI.mk (TK.struct (⟨0, 1, 3, true, false⟩ :: (⟨1, 1, 3, true, false⟩ :: []))) 2 16 ((Value.int .i64 0) :: ((Value.int .i64 0) :: [])) false false) := rfl
@[go_sem] theorem ty159 : tfind E.tys 159 = some (TyI.mk (TK.struct (⟨0, 1, 32, true, false⟩ :: (⟨1, 1, 32, true, false⟩ :: []))) 2 16 ((Value.int .u64 0) :: ((Value.int .u64 0) :: [])) false false) := rfl
@[go_sem] theorem ty161 : tfind E.tys 161 = some (TyI.mk (TK.int .u64) 1 8 ((Value.int .u64 0) :: []) false false) := rfl
@[go_sem] theorem ty162 : tfind E.tys 162 = some (TyI.mk (TK.slice 9 1 16 (Value.string (ByteArray.mk (Array.mk [])))) 1 24 ((Value.slice none 0 0) :: []) false false) := rfl
@[go_sem] theorem ty168 : tfind E.tys 168 = some (TyI.mk (TK.struct (⟨0, 1, 162, true, false⟩ :: (⟨1, 1, 4, true, false⟩ :: []))) 2 32 ((Value.slice none 0 0) :: ((Value.bool false) :: [])) false false) := rfl
@[go_sem] theorem ty184 : tfind E.tys 184 = some (TyI.mk (TK.arr 24 5 1 false) 24 24 ((Value.int .u8 0) :: ((Value.int .u8 0) :: ((Value.int .u8 0) :: ((Value.int .u8 0) :: ((Value.int .u8 0) :: ((Value.int .u8 0) :: ((Value.int .u8 0) :: ((Value.int .u8 0) :: ((Value.int .u8 0) :: ((Value.int .u8 0) :: ((Value.int .u8 0) :: ((Value.int .u8 0) :: ((Value.int .u8 0) :: ((Value.int .u8 0) :: ((Value.int .u8 0) :: ((Value.int .u8 0) :: ((Value.int .u8 0) :: ((Value.int .u8 0) :: ((Value.int .u8 0) :: ((Value.int .u8 0) :: ((Value.int .u8 0) :: ((Value.int .u8 0) :: ((Value.int .u8 0) :: ((Value.int .u8 0) :: [])))))))))))))))))))))))) false false) := rfl
@[go_sem] theorem ty189 : tfind E.tys 189 = some (TyI.mk (TK.int .u32) 1 4 ((Value.int .u32 0) :: []) false false) := rfl
@[go_sem] theorem ty221 : tfind E.tys 221 = some (TyI.mk (TK.struct (⟨0, 1, 17, true, false⟩ :: (⟨1, 1, 17, true, false⟩ :: (⟨2, 1, 17, true, false⟩ :: (⟨3, 1, 9, true, false⟩ :: []))))) 4 40 ((Value.pointer none) :: ((Value.pointer none) :: ((Value.pointer none) :: ((Value.string (ByteArray.mk (Array.mk []))) :: [])))) true false) := rfl
@[go_sem] theorem ty222 : tfind E.tys 222 = some (TyI.mk (TK.arr 0 16 1 false) 0 0 [] false false) := rfl
@[go_sem] theorem ty224 : tfind E.tys 224 = some (TyI.mk (TK.struct (⟨0, 0, 222, false, true⟩ :: [])) 0 0 [] true false) := rfl
@[go_sem] theorem ty225 : tfind E.tys 225 = some (TyI.mk (TK.int .u8) 1 1 ((Value.int .u8 0) :: []) false false) := rfl
@[go_sem] theorem ty226 : tfind E.tys 226 = some (TyI.mk (TK.int .u8) 1 1 ((Value.int .u8 0) :: []) false false) := rfl
@[go_sem] theorem ty228 : tfind E.tys 228 = some (TyI.mk (TK.int .i32) 1 4 ((Value.int .i32 0) :: []) false false) := rfl
@[go_sem] theorem ty229 : tfind E.tys 229 = some (TyI.mk (TK.int .i32) 1 4 ((Value.int .i32 0) :: []) false false) := rfl
@[go_sem] theorem ty231 : tfind E.tys 231 = some (TyI.mk (TK.struct (⟨0, 1, 12, true, false⟩ :: (⟨1, 1, 12, true, false⟩ :: (⟨2, 1, 189, true, false⟩ :: (⟨3, 1, 225, true, false⟩ :: (⟨4, 1, 5, true, false⟩ :: (⟨5, 1, 5, true, false⟩ :: (⟨6, 1, 226, true, false⟩ :: (⟨7, 1, 227, true, false⟩ :: (⟨8, 1, 164, true, false⟩ :: (⟨9, 1, 228, true, false⟩ :: (⟨10, 1, 229, true, false⟩ :: [])))))))))))) 11 48 ((Value.int .u64 0) :: ((Value.int .u64 0) :: ((Value.int .u32 0) :: ((Value.int .u8 0) :: ((Value.int .u8 0) :: ((Value.int .u8 0) :: ((Value.int .u8 0) :: (Value.nilFunc :: ((Value.pointer none) :: ((Value.int .i32 0) :: ((Value.int .i32 0) :: []))))))))))) true false) := rfl
@[go_sem ↓] theorem wt2 (k : TyI → Prop) : withTy E 2 k = k (TyI.mk (TK.int .i64) 1 8 ((Value.int .i64 0) :: []) false false) := rfl
@[go_sem ↓] theorem wt3 (k : TyI → Prop) : withTy E 3 k = k (TyI.mk (TK.int .i64) 1 8 ((Value.int .i64 0) :: []) false false) := rfl
@[go_sem ↓] theorem wt4 (k : TyI → Prop) : withTy E 4 k = k (TyI.mk TK.bool 1 1 ((Value.bool false) :: []) false false) := rfl
@[go_sem ↓] theorem wt5 (k : TyI → Prop) : withTy E 5 k = k (TyI.mk (TK.int .u8) 1 1 ((Value.int .u8 0) :: []) false false) := rfl
@[go_sem ↓] theorem wt6 (k : TyI → Prop) : withTy E 6 k = k (TyI.mk (TK.int .u8) 1 1 ((Value.int .u8 0) :: []) false false) := rfl
@[go_sem ↓] theorem wt7 (k : TyI → Prop) : withTy E 7 k = k (TyI.mk (TK.struct (⟨0, 1, 2, true, false⟩ :: (⟨1, 1, 3, true, false⟩ :: (⟨2, 1, 4, true, false⟩ :: (⟨3, 1, 6, true, false⟩ :: []))))) 4 24 ((Value.int .i64 0) :: ((Value.int .i64 0) :: ((Value.bool false) :: ((Value.int .u8 0) :: [])))) false false) := rfl
@[go_sem ↓] theorem wt8 (k : TyI → Prop) : withTy E 8 k = k (TyI.mk (TK.struct (⟨0, 1, 2, true, false⟩ :: (⟨1, 1, 3, true, false⟩ :: (⟨2, 1, 4, true, false⟩ :: (⟨3, 1, 6, true, false⟩ :: []))))) 4 24 ((Value.int .i64 0) :: ((Value.int .i64 0) :: ((Value.bool false) :: ((Value.int .u8 0) :: [])))) false false) := rfl
@[go_sem ↓] theorem wt9 (k : TyI → Prop) : withTy E 9 k = k (TyI.mk TK.str 1 16 ((Value.string (ByteArray.mk (Array.mk []))) :: []) false false) := rfl
@[go_sem ↓] theorem wt10 (k : TyI → Prop) : withTy E 10 k = k (TyI.mk TK.str 1 16 ((Value.string (ByteArray.mk (Array.mk []))) :: []) false false) := rfl
@[go_sem ↓] theorem wt11 (k : TyI → Prop) : withTy E 11 k = k (TyI.mk TK.str 1 16 ((Value.string (ByteArray.mk (Array.mk []))) :: []) false false) := rfl
@[go_sem ↓] theorem wt12 (k : TyI → Prop) : withTy E 12 k = k (TyI.mk (TK.int .u64) 1 8 ((Value.int .u64 0) :: []) false false) := rfl
@[go_sem ↓] theorem wt13 (k : TyI → Prop) : withTy E 13 k = k (TyI.mk (TK.struct (⟨0, 1, 9, true, false⟩ :: (⟨1, 1, 12, true, false⟩ :: []))) 2 24 ((Value.string (ByteArray.mk (Array.mk []))) :: ((Value.int .u64 0) :: [])) true false) := rfl
@[go_sem ↓] theorem wt14 (k : TyI → Prop) : withTy E 14 k = k (TyI.mk (TK.struct (⟨0, 1, 9, true, false⟩ :: (⟨1, 1, 12, true, false⟩ :: []))) 2 24 ((Value.string (ByteArray.mk (Array.mk []))) :: ((Value.int .u64 0) :: [])) true false) := rfl
@[go_sem ↓] theorem wt15 (k : TyI → Prop) : withTy E 15 k = k (TyI.mk (TK.ptr 221) 1 8 ((Value.pointer none) :: []) false false) := rfl
@[go_sem ↓] theorem wt16 (k : TyI → Prop) : withTy E 16 k = k (TyI.mk (TK.ptr 224) 1 8 ((Value.pointer none) :: []) false false) := rfl
@[go_sem ↓] theorem wt17 (k : TyI → Prop) : withTy E 17 k = k (TyI.mk (TK.ptr 231) 1 8 ((Value.pointer none) :: []) false false) := rfl
@[go_sem ↓] theorem wt18 (k : TyI → Prop) : withTy E 18 k = k (TyI.mk (TK.struct (⟨0, 1, 17, true, false⟩ :: [])) 1 8 ((Value.pointer none) :: []) true false) := rfl
@[go_sem ↓] theorem wt19 (k : TyI → Prop) : withTy E 19 k = k (TyI.mk (TK.struct (⟨0, 1, 17, true, false⟩ :: [])) 1 8 ((Value.pointer none) :: []) true false) := rfl
@[go_sem ↓] theorem wt20 (k : TyI → Prop) : withTy E 20 k = k (TyI.mk (TK.iface true) 1 16 (Value.nilIface :: []) false false) := rfl
@[go_sem ↓] theorem wt22 (k : TyI → Prop) : withTy E 22 k = k (TyI.mk (TK.slice 69 6 48 (Value.agg (Array.mk ((Value.int .i64 0) :: ((Value.int .i64 0) :: ((Value.int .u64 0) :: ((Value.int .u64 0) :: ((Value.int .u64 0) :: ((Value.int .i64 0) :: []))))))))) 1 24 ((Value.slice none 0 0) :: []) false false) := rfl
@[go_sem ↓] theorem wt24 (k : TyI → Prop) : withTy E 24 k = k (TyI.mk (TK.struct (⟨0, 1, 3, true, false⟩ :: (⟨1, 1, 22, true, false⟩ :: []))) 2 32 ((Value.int .i64 0) :: ((Value.slice none 0 0) :: [])) false false) := rfl
@[go_sem ↓] theorem wt25 (k : TyI → Prop) : withTy E 25 k = k (TyI.mk (TK.slice 35 8 80 (Value.agg (Array.mk ((Value.int .i64 0) :: ((Value.int .i64 0) :: ((Value.int .u64 0) :: ((Value.int .u64 0) :: ((Value.int .u64 0) :: ((Value.int .i64 0) :: ((Value.int .i64 0) :: ((Value.slice none 0 0) :: []))))))))))) 1 24 ((Value.slice none 0 0) :: []) false false) := rfl
@[go_sem ↓] theorem wt26 (k : TyI → Prop) : withTy E 26 k = k (TyI.mk (TK.ptr 114) 1 8 ((Value.pointer none) :: []) false false) := rfl
@[go_sem ↓] theorem wt27 (k : TyI → Prop) : withTy E 27 k = k (TyI.mk (TK.ptr 86) 1 8 ((Value.pointer none) :: []) false false) := rfl
@[go_sem ↓] theorem wt31 (k : TyI → Prop) : withTy E 31 k = k (TyI.mk TK.func 1 8 (Value.nilFunc :: []) false false) := rfl
@[go_sem ↓] theorem wt32 (k : TyI → Prop) : withTy E 32 k = k (TyI.mk (TK.int .u64) 1 8 ((Value.int .u64 0) :: []) false false) := rfl
@[go_sem ↓] theorem wt33 (k : TyI → Prop) : withTy E 33 k = k (TyI.mk (TK.slice 5 1 1 (Value.int .u8 0)) 1 24 ((Value.slice none 0 0) :: []) false false) := rfl
@[go_sem ↓] theorem wt35 (k : TyI → Prop) : withTy E 35 k = k (TyI.mk (TK.struct (⟨0, 1, 3, true, false⟩ :: (⟨1, 1, 3, true, false⟩ :: (⟨2, 1, 32, true, false⟩ :: (⟨3, 1, 32, true, false⟩ :: (⟨4, 1, 32, true, false⟩ :: (⟨5, 1, 3, true, false⟩ :: (⟨6, 1, 3, true, false⟩ :: (⟨7, 1, 33, true, false⟩ :: []))))))))) 8 80 ((Value.int .i64 0) :: ((Value.int .i64 0) :: ((Value.int .u64 0) :: ((Value.int .u64 0) :: ((Value.int .u64 0) :: ((Value.int .i64 0) :: ((Value.int .i64 0) :: ((Value.slice none 0 0) :: [])))))))) false false) := rfl
@[go_sem ↓] theorem wt36 (k : TyI → Prop) : withTy E 36 k = k (TyI.mk (TK.int .i64) 1 8 ((Value.int .i64 0) :: []) false false) := rfl
@[go_sem ↓] theorem wt37 (k : TyI → Prop) : withTy E 37 k = k (TyI.mk TK.other 1 0 ((Value.tuple (Array.mk ((Value.pointer none) :: ((Value.bool false) :: ((Value.int .i64 0) :: []))))) :: []) false false) := rfl
@[go_sem ↓] theorem wt39 (k : TyI → Prop) : withTy E 39 k = k (TyI.mk (TK.int .u8) 1 1 ((Value.int .u8 0) :: []) false false) := rfl
@[go_sem ↓] theorem wt40 (k : TyI → Prop) : withTy E 40 k = k (TyI.mk (TK.struct (⟨0, 1, 39, true, false⟩ :: (⟨1, 1, 3, true, false⟩ :: (⟨2, 1, 32, true, false⟩ :: (⟨3, 1, 32, true, false⟩ :: (⟨4, 1, 32, true, false⟩ :: (⟨5, 1, 3, true, false⟩ :: (⟨6, 1, 3, true, false⟩ :: (⟨7, 1, 33, true, false⟩ :: []))))))))) 8 80 ((Value.int .u8 0) :: ((Value.int .i64 0) :: ((Value.int .u64 0) :: ((Value.int .u64 0) :: ((Value.int .u64 0) :: ((Value.int .i64 0) :: ((Value.int .i64 0) :: ((Value.slice none 0 0) :: [])))))))) false false) := rfl
@[go_sem ↓] theorem wt41 (k : TyI → Prop) : withTy E 41 k = k (TyI.mk (TK.struct (⟨0, 1, 39, true, false⟩ :: (⟨1, 1, 3, true, false⟩ :: (⟨2, 1, 32, true, false⟩ :: (⟨3, 1, 32, true, false⟩ :: (⟨4, 1, 32, true, false⟩ :: (⟨5, 1, 3, true, false⟩ :: (⟨6, 1, 3, true, false⟩ :: (⟨7, 1, 33, true, false⟩ :: []))))))))) 8 80 ((Value.int .u8 0) :: ((Value.int .i64 0) :: ((Value.int .u64 0) :: ((Value.int .u64 0) :: ((Value.int .u64 0) :: ((Value.int .i64 0) :: ((Value.int .i64 0) :: ((Value.slice none 0 0) :: [])))))))) false false) := rfl
@[go_sem ↓] theorem wt46 (k : TyI → Prop) : withTy E 46 k = k (TyI.mk TK.func 1 8 (Value.nilFunc :: []) false false) := rfl
@[go_sem ↓] theorem wt48 (k : TyI → Prop) : withTy E 48 k = k (TyI.mk TK.other 1 0 ((Value.tuple (Array.mk ((Value.pointer none) :: ((Value.int .i64 0) :: [])))) :: []) false false) := rfl
@[go_sem ↓] theorem wt50 (k : TyI → Prop) : withTy E 50 k = k (TyI.mk (TK.slice 41 8 80 (Value.agg (Array.mk ((Value.int .u8 0) :: ((Value.int .i64 0) :: ((Value.int .u64 0) :: ((Value.int .u64 0) :: ((Value.int .u64 0) :: ((Value.int .i64 0) :: ((Value.int .i64 0) :: ((Value.slice none 0 0) :: []))))))))))) 1 24 ((Value.slice none 0 0) :: []) false false) := rfl
@[go_sem ↓] theorem wt51 (k : TyI → Prop) : withTy E 51 k = k (TyI.mk TK.func 1 8 (Value.nilFunc :: []) false false) := rfl
@[go_sem ↓] theorem wt59 (k : TyI → Prop) : withTy E 59 k = k (TyI.mk TK.func 1 8 (Value.nilFunc :: []) false false) := rfl
@[go_sem ↓] theorem wt60 (k : TyI → Prop) : withTy E 60 k = k (TyI.mk TK.other 1 0 ((Value.tuple (Array.mk ((Value.slice none 0 0) :: ((Value.int .i64 0) :: ((Value.int .i64 0) :: []))))) :: []) false false) := rfl
@[go_sem ↓] theorem wt61 (k : TyI → Prop) : withTy E 61 k = k (TyI.mk TK.func 1 8 (Value.nilFunc :: []) false false) := rfl
@[go_sem ↓] theorem wt64 (k : TyI → Prop) : withTy E 64 k = k (TyI.mk TK.func 1 8 (Value.nilFunc :: []) false false) := rfl
@[go_sem ↓] theorem wt69 (k : TyI → Prop) : withTy E 69 k = k (TyI.mk (TK.struct (⟨0, 1, 3, true, false⟩ :: (⟨1, 1, 3, true, false⟩ :: (⟨2, 1, 32, true, false⟩ :: (⟨3, 1, 32, true, false⟩ :: (⟨4, 1, 32, true, false⟩ :: (⟨5, 1, 3, true, false⟩ :: []))))))) 6 48 ((Value.int .i64 0) :: ((Value.int .i64 0) :: ((Value.int .u64 0) :: ((Value.int .u64 0) :: ((Value.int .u64 0) :: ((Value.int .i64 0) :: [])))))) false false) := rfl
@[go_sem ↓] theorem wt72 (k : TyI → Prop) : withTy E 72 k = k (TyI.mk (TK.ptr 122) 1 8 ((Value.pointer none) :: []) false false) := rfl
@[go_sem ↓] theorem wt73 (k : TyI → Prop) : withTy E 73 k = k (TyI.mk TK.func 1 8 (Value.nilFunc :: []) false false) := rfl
@[go_sem ↓] theorem wt74 (k : TyI → Prop) : withTy E 74 k = k (TyI.mk TK.func 1 8 (Value.nilFunc :: []) false false) := rfl
@[go_sem ↓] theorem wt80 (k : TyI → Prop) : withTy E 80 k = k (TyI.mk TK.func 1 8 (Value.nilFunc :: []) false false) := rfl
@[go_sem ↓] theorem wt81 (k : TyI → Prop) : withTy E 81 k = k (TyI.mk (TK.slice 103 10 96 (Value.agg (Array.mk ((Value.int .u64 0) :: ((Value.int .u64 0) :: ((Value.int .u64 0) :: ((Value.int .u64 0) :: ((Value.int .u64 0) :: ((Value.int .u64 0) :: ((Value.int .u64 0) :: ((Value.int .u64 0) :: ((Value.slice none 0 0) :: ((Value.int .i64 0) :: []))))))))))))) 1 24 ((Value.slice none 0 0) :: []) false false) := rfl
@[go_sem ↓] theorem wt82 (k : TyI → Prop) : withTy E 82 k = k (TyI.mk (TK.slice 155 2 16 (Value.agg (Array.mk ((Value.int .i64 0) :: ((Value.int .i64 0) :: []))))) 1 24 ((Value.slice none 0 0) :: []) false false) := rfl
@[go_sem ↓] theorem wt83 (k : TyI → Prop) : withTy E 83 k = k (TyI.mk (TK.arr 8 82 1 false) 8 192 ((Value.slice none 0 0) :: ((Value.slice none 0 0) :: ((Value.slice none 0 0) :: ((Value.slice none 0 0) :: ((Value.slice none 0 0) :: ((Value.slice none 0 0) :: ((Value.slice none 0 0) :: ((Value.slice none 0 0) :: [])))))))) false false) := rfl
@[go_sem ↓] theorem wt84 (k : TyI → Prop) : withTy E 84 k = k (TyI.mk (TK.arr 8 3 1 false) 8 64 ((Value.int .i64 0) :: ((Value.int .i64 0) :: ((Value.int .i64 0) :: ((Value.int .i64 0) :: ((Value.int .i64 0) :: ((Value.int .i64 0) :: ((Value.int .i64 0) :: ((Value.int .i64 0) :: [])))))))) false false) := rfl
@[go_sem ↓] theorem wt86 (k : TyI → Prop) : withTy E 86 k = k (TyI.mk (TK.struct (⟨0, 1, 81, true, false⟩ :: (⟨1, 8, 83, true, true⟩ :: (⟨9, 8, 84, true, true⟩ :: (⟨17, 1, 3, true, false⟩ :: (⟨18, 1, 4, true, false⟩ :: (⟨19, 1, 32, true, false⟩ :: []))))))) 20 304 ((Value.slice none 0 0) :: ((Value.slice none 0 0) :: ((Value.slice none 0 0) :: ((Value.slice none 0 0) :: ((Value.slice none 0 0) :: ((Value.slice none 0 0) :: ((Value.slice none 0 0) :: ((Value.slice none 0 0) :: ((Value.slice none 0 0) :: ((Value.int .i64 0) :: ((Value.int .i64 0) :: ((Value.int .i64 0) :: ((Value.int .i64 0) :: ((Value.int .i64 0) :: ((Value.int .i64 0) :: ((Value.int .i64 0) :: ((Value.int .i64 0) :: ((Value.int .i64 0) :: ((Value.bool false) :: ((Value.int .u64 0) :: [])))))))))))))))))))) false false) := rfl
@[go_sem ↓] theorem wt87 (k : TyI → Prop) : withTy E 87 k = k (TyI.mk TK.func 1 8 (Value.nilFunc :: []) false false) := rfl
@[go_sem ↓] theorem wt94 (k : TyI → Prop) : withTy E 94 k = k (TyI.mk TK.func 1 8 (Value.nilFunc :: []) false false) := rfl
@[go_sem ↓] theorem wt95 (k : TyI → Prop) : withTy E 95 k = k (TyI.mk TK.func 1 8 (Value.nilFunc :: []) false false) := rfl
@[go_sem ↓] theorem wt96 (k : TyI → Prop) : withTy E 96 k = k (TyI.mk TK.func 1 8 (Value.nilFunc :: []) false false) := rfl
@[go_sem ↓] theorem wt97 (k : TyI → Prop) : withTy E 97 k = k (TyI.mk (TK.slice 3 1 8 (Value.int .i64 0)) 1 24 ((Value.slice none 0 0) :: []) false false) := rfl
@[go_sem ↓] theorem wt100 (k : TyI → Prop) : withTy E 100 k = k (TyI.mk (TK.arr 8 32 1 false) 8 64 ((Value.int .u64 0) :: ((Value.int .u64 0) :: ((Value.int .u64 0) :: ((Value.int .u64 0) :: ((Value.int .u64 0) :: ((Value.int .u64 0) :: ((Value.int .u64 0) :: ((Value.int .u64 0) :: [])))))))) false false) := rfl
@[go_sem ↓] theorem wt101 (k : TyI → Prop) : withTy E 101 k = k (TyI.mk (TK.slice 159 2 16 (Value.agg (Array.mk ((Value.int .u64 0) :: ((Value.int .u64 0) :: []))))) 1 24 ((Value.slice none 0 0) :: []) false false) := rfl
@[go_sem ↓] theorem wt103 (k : TyI → Prop) : withTy E 103 k = k (TyI.mk (TK.struct (⟨0, 8, 100, true, true⟩ :: (⟨8, 1, 101, true, false⟩ :: (⟨9, 1, 3, true, false⟩ :: [])))) 10 96 ((Value.int .u64 0) :: ((Value.int .u64 0) :: ((Value.int .u64 0) :: ((Value.int .u64 0) :: ((Value.int .u64 0) :: ((Value.int .u64 0) :: ((Value.int .u64 0) :: ((Value.int .u64 0) :: ((Value.slice none 0 0) :: ((Value.int .i64 0) :: [])))))))))) false false) := rfl
@[go_sem ↓] theorem wt105 (k : TyI → Prop) : withTy E 105 k = k (TyI.mk (TK.slice 119 2 16 (Value.agg (Array.mk ((Value.int .u64 0) :: ((Value.int .u64 0) :: []))))) 1 24 ((Value.slice none 0 0) :: []) false false) := rfl
@[go_sem ↓] theorem wt109 (k : TyI → Prop) : withTy E 109 k = k (TyI.mk (TK.slice 32 1 8 (Value.int .u64 0)) 1 24 ((Value.slice none 0 0) :: []) false false) := rfl
@[go_sem ↓] theorem wt111 (k : TyI → Prop) : withTy E 111 k = k (TyI.mk (TK.slice 116 2 32 (Value.agg (Array.mk ((Value.int .u64 0) :: ((Value.slice none 0 0) :: []))))) 1 24 ((Value.slice none 0 0) :: []) false false) := rfl
@[go_sem ↓] theorem wt112 (k : TyI → Prop) : withTy E 112 k = k (TyI.mk (TK.arr 8 72 1 false) 8 64 ((Value.pointer none) :: ((Value.pointer none) :: ((Value.pointer none) :: ((Value.pointer none) :: ((Value.pointer none) :: ((Value.pointer none) :: ((Value.pointer none) :: ((Value.pointer none) :: [])))))))) false false) := rfl
@[go_sem ↓] theorem wt114 (k : TyI → Prop) : withTy E 114 k = k (TyI.mk (TK.struct (⟨0, 1, 109, true, false⟩ :: (⟨1, 1, 109, true, false⟩ :: (⟨2, 1, 111, true, false⟩ :: (⟨3, 8, 112, true, true⟩ :: (⟨11, 1, 4, true, false⟩ :: (⟨12, 1, 4, true, false⟩ :: (⟨13, 1, 3, true, false⟩ :: (⟨14, 1, 32, true, false⟩ :: []))))))))) 15 160 ((Value.slice none 0 0) :: ((Value.slice none 0 0) :: ((Value.slice none 0 0) :: ((Value.pointer none) :: ((Value.pointer none) :: ((Value.pointer none) :: ((Value.pointer none) :: ((Value.pointer none) :: ((Value.pointer none) :: ((Value.pointer none) :: ((Value.pointer none) :: ((Value.bool false) :: ((Value.bool false) :: ((Value.int .i64 0) :: ((Value.int .u64 0) :: []))))))))))))))) false false) := rfl
@[go_sem ↓] theorem wt116 (k : TyI → Prop) : withTy E 116 k = k (TyI.mk (TK.struct (⟨0, 1, 32, true, false⟩ :: (⟨1, 1, 105, true, false⟩ :: []))) 2 32 ((Value.int .u64 0) :: ((Value.slice none 0 0) :: [])) false false) := rfl
@[go_sem ↓] theorem wt119 (k : TyI → Prop) : withTy E 119 k = k (TyI.mk (TK.struct (⟨0, 1, 32, true, false⟩ :: (⟨1, 1, 32, true, false⟩ :: []))) 2 16 ((Value.int .u64 0) :: ((Value.int .u64 0) :: [])) false false) := rfl
@[go_sem ↓] theorem wt120 (k : TyI → Prop) : withTy E 120 k = k (TyI.mk (TK.map 3 32 (Value.int .u64 0)) 1 8 ((Value.map none) :: []) false false) := rfl
@[go_sem ↓] theorem wt122 (k : TyI → Prop) : withTy E 122 k = k (TyI.mk (TK.struct (⟨0, 1, 26, true, false⟩ :: (⟨1, 1, 3, true, false⟩ :: (⟨2, 1, 36, true, false⟩ :: (⟨3, 1, 120, true, false⟩ :: []))))) 4 32 ((Value.pointer none) :: ((Value.int .i64 0) :: ((Value.int .i64 0) :: ((Value.map none) :: [])))) false false) := rfl
@[go_sem ↓] theorem wt124 (k : TyI → Prop) : withTy E 124 k = k (TyI.mk TK.func 1 8 (Value.nilFunc :: []) false false) := rfl
@[go_sem ↓] theorem wt128 (k : TyI → Prop) : withTy E 128 k = k (TyI.mk (TK.ptr 130) 1 8 ((Value.pointer none) :: []) false false) := rfl
@[go_sem ↓] theorem wt129 (k : TyI → Prop) : withTy E 129 k = k (TyI.mk (TK.struct (⟨0, 1, 128, true, false⟩ :: (⟨1, 1, 33, true, false⟩ :: []))) 2 32 ((Value.pointer none) :: ((Value.slice none 0 0) :: [])) false false) := rfl
@[go_sem ↓] theorem wt130 (k : TyI → Prop) : withTy E 130 k = k (TyI.mk (TK.struct (⟨0, 1, 128, true, false⟩ :: (⟨1, 1, 33, true, false⟩ :: []))) 2 32 ((Value.pointer none) :: ((Value.slice none 0 0) :: [])) false false) := rfl
@[go_sem ↓] theorem wt132 (k : TyI → Prop) : withTy E 132 k = k (TyI.mk (TK.iface false) 1 16 (Value.nilIface :: []) false true) := rfl
@[go_sem ↓] theorem wt133 (k : TyI → Prop) : withTy E 133 k = k (TyI.mk TK.other 1 0 ((Value.tuple (Array.mk ((Value.int .i64 0) :: (Value.nilIface :: [])))) :: []) false false) := rfl
@[go_sem ↓] theorem wt137 (k : TyI → Prop) : withTy E 137 k = k (TyI.mk TK.other 1 0 ((Value.tuple (Array.mk ((Value.string (ByteArray.mk (Array.mk []))) :: ((Value.string (ByteArray.mk (Array.mk []))) :: ((Value.bool false) :: []))))) :: []) false false) := rfl
@[go_sem ↓] theorem wt139 (k : TyI → Prop) : withTy E 139 k = k (TyI.mk TK.other 1 0 ((Value.tuple (Array.mk ((Value.agg (Array.mk ((Value.int .u8 0) :: ((Value.int .i64 0) :: ((Value.int .u64 0) :: ((Value.int .u64 0) :: ((Value.int .u64 0) :: ((Value.int .i64 0) :: ((Value.int .i64 0) :: ((Value.slice none 0 0) :: [])))))))))) :: ((Value.bool false) :: [])))) :: []) false false) := rfl
@[go_sem ↓] theorem wt140 (k : TyI → Prop) : withTy E 140 k = k (TyI.mk TK.func 1 8 (Value.nilFunc :: []) false false) := rfl
@[go_sem ↓] theorem wt141 (k : TyI → Prop) : withTy E 141 k = k (TyI.mk TK.func 1 8 (Value.nilFunc :: []) false false) := rfl
@[go_sem ↓] theorem wt147 (k : TyI → Prop) : withTy E 147 k = k (TyI.mk TK.func 1 8 (Value.nilFunc :: []) false false) := rfl
@[go_sem ↓] theorem wt150 (k : TyI → Prop) : withTy E 150 k = k (TyI.mk (TK.ptr 116) 1 8 ((Value.pointer none) :: []) false false) := rfl
@[go_sem ↓] theorem wt152 (k : TyI → Prop) : withTy E 152 k = k (TyI.mk TK.func 1 8 (Value.nilFunc :: []) false false) := rfl
@[go_sem ↓] theorem wt155 (k : TyI → Prop) : withTy E 155 k = k (TyI.mk (TK.struct (⟨0, 1, 3, true, false⟩ :: (⟨1, 1, 3, true, false⟩ :: []))) 2 16 ((Value.int .i64 0) :: ((Value.int .i64 0) :: [])) false false) := rfl
@[go_sem ↓] theorem wt159 (k : TyI → Prop) : withTy E 159 k = k (TyI.mk (TK.struct (⟨0, 1, 32, true, false⟩ :: (⟨1, 1, 32, true, false⟩ :: []))) 2 16 ((Value.int .u64 0) :: ((Value.int .u64 0) :: [])) false false) := rfl
@[go_sem ↓] theorem wt160 (k : TyI → Prop) : withTy E 160 k = k (TyI.mk TK.func 1 8 (Value.nilFunc :: []) false false) := rfl
@[go_sem ↓] theorem wt161 (k : TyI → Prop) : withTy E 161 k = k (TyI.mk (TK.int .u64) 1 8 ((Value.int .u64 0) :: []) false false) := rfl
@[go_sem ↓] theorem wt162 (k : TyI → Prop) : withTy E 162 k = k (TyI.mk (TK.slice 9 1 16 (Value.string (ByteArray.mk (Array.mk [])))) 1 24 ((Value.slice none 0 0) :: []) false false) := rfl
@[go_sem ↓] theorem wt164 (k : TyI → Prop) : withTy E 164 k = k (TyI.mk (TK.ptr 5) 1 8 ((Value.pointer none) :: []) false false) := rfl
@[go_sem ↓] theorem wt165 (k : TyI → Prop) : withTy E 165 k = k (TyI.mk (TK.ptr 168) 1 8 ((Value.pointer none) :: []) false false) := rfl
@[go_sem ↓] theorem wt168 (k : TyI → Prop) : withTy E 168 k = k (TyI.mk (TK.struct (⟨0, 1, 162, true, false⟩ :: (⟨1, 1, 4, true, false⟩ :: []))) 2 32 ((Value.slice none 0 0) :: ((Value.bool false) :: [])) false false) := rfl
@[go_sem ↓] theorem wt174 (k : TyI → Prop) : withTy E 174 k = k (TyI.mk TK.func 1 8 (Value.nilFunc :: []) false false) := rfl
@[go_sem ↓] theorem wt177 (k : TyI → Prop) : withTy E 177 k = k (TyI.mk TK.other 1 0 ((Value.tuple (Array.mk ((Value.int .u64 0) :: (Value.nilIface :: [])))) :: []) false false) := rfl
@[go_sem ↓] theorem wt184 (k : TyI → Prop) : withTy E 184 k = k (TyI.mk (TK.arr 24 5 1 false) 24 24 ((Value.int .u8 0) :: ((Value.int .u8 0) :: ((Value.int .u8 0) :: ((Value.int .u8 0) :: ((Value.int .u8 0) :: ((Value.int .u8 0) :: ((Value.int .u8 0) :: ((Value.int .u8 0) :: ((Value.int .u8 0) :: ((Value.int .u8 0) :: ((Value.int .u8 0) :: ((Value.int .u8 0) :: ((Value.int .u8 0) :: ((Value.int .u8 0) :: ((Value.int .u8 0) :: ((Value.int .u8 0) :: ((Value.int .u8 0) :: ((Value.int .u8 0) :: ((Value.int .u8 0) :: ((Value.int .u8 0) :: ((Value.int .u8 0) :: ((Value.int .u8 0) :: ((Value.int .u8 0) :: ((Value.int .u8 0) :: [])))))))))))))))))))))))) false false) := rfl
@[go_sem ↓] theorem wt185 (k : TyI → Prop) : withTy E 185 k = k (TyI.mk TK.func 1 8 (Value.nilFunc :: []) false false) := rfl
@[go_sem ↓] theorem wt187 (k : TyI → Prop) : withTy E 187 k = k (TyI.mk TK.other 1 0 ((Value.tuple (Array.mk ((Value.slice none 0 0) :: ((Value.string (ByteArray.mk (Array.mk []))) :: [])))) :: []) false false) := rfl
@[go_sem ↓] theorem wt189 (k : TyI → Prop) : withTy E 189 k = k (TyI.mk (TK.int .u32) 1 4 ((Value.int .u32 0) :: []) false false) := rfl
@[go_sem ↓] theorem wt192 (k : TyI → Prop) : withTy E 192 k = k (TyI.mk TK.func 1 8 (Value.nilFunc :: []) false false) := rfl
@[go_sem ↓] theorem wt194 (k : TyI → Prop) : withTy E 194 k = k (TyI.mk TK.func 1 8 (Value.nilFunc :: []) false false) := rfl
@[go_sem ↓] theorem wt206 (k : TyI → Prop) : withTy E 206 k = k (TyI.mk TK.func 1 8 (Value.nilFunc :: []) false false) := rfl
@[go_sem ↓] theorem wt210 (k : TyI → Prop) : withTy E 210 k = k (TyI.mk TK.func 1 8 (Value.nilFunc :: []) false false) := rfl
@[go_sem ↓] theorem wt221 (k : TyI → Prop) : withTy E 221 k = k (TyI.mk (TK.struct (⟨0, 1, 17, true, false⟩ :: (⟨1, 1, 17, true, false⟩ :: (⟨2, 1, 17, true, false⟩ :: (⟨3, 1, 9, true, false⟩ :: []))))) 4 40 ((Value.pointer none) :: ((Value.pointer none) :: ((Value.pointer none) :: ((Value.string (ByteArray.mk (Array.mk []))) :: [])))) true false) := rfl
@[go_sem ↓] theorem wt222 (k : TyI → Prop) : withTy E 222 k = k (TyI.mk (TK.arr 0 16 1 false) 0 0 [] false false) := rfl
@[go_sem ↓] theorem wt224 (k : TyI → Prop) : withTy E 224 k = k (TyI.mk (TK.struct (⟨0, 0, 222, false, true⟩ :: [])) 0 0 [] true false) := rfl
@[go_sem ↓] theorem wt225 (k : TyI → Prop) : withTy E 225 k = k (TyI.mk (TK.int .u8) 1 1 ((Value.int .u8 0) :: []) false false) := rfl
@[go_sem ↓] theorem wt226 (k : TyI → Prop) : withTy E 226 k = k (TyI.mk (TK.int .u8) 1 1 ((Value.int .u8 0) :: []) false false) := rfl
@[go_sem ↓] theorem wt227 (k : TyI → Prop) : withTy E 227 k = k (TyI.mk TK.func 1 8 (Value.nilFunc :: []) false false) := rfl
@[go_sem ↓] theorem wt228 (k : TyI → Prop) : withTy E 228 k = k (TyI.mk (TK.int .i32) 1 4 ((Value.int .i32 0) :: []) false false) := rfl
@[go_sem ↓] theorem wt229 (k : TyI → Prop) : withTy E 229 k = k (TyI.mk (TK.int .i32) 1 4 ((Value.int .i32 0) :: []) false false) := rfl
@[go_sem ↓] theorem wt231 (k : TyI → Prop) : withTy E 231 k = k (TyI.mk (TK.struct (⟨0, 1, 12, true, false⟩ :: (⟨1, 1, 12, true, false⟩ :: (⟨2, 1, 189, true, false⟩ :: (⟨3, 1, 225, true, false⟩ :: (⟨4, 1, 5, true, false⟩ :: (⟨5, 1, 5, true, false⟩ :: (⟨6, 1, 226, true, false⟩ :: (⟨7, 1, 227, true, false⟩ :: (⟨8, 1, 164, true, false⟩ :: (⟨9, 1, 228, true, false⟩ :: (⟨10, 1, 229, true, false⟩ :: [])))))))))))) 11 48 ((Value.int .u64 0) :: ((Value.int .u64 0) :: ((Value.int .u32 0) :: ((Value.int .u8 0) :: ((Value.int .u8 0) :: ((Value.int .u8 0) :: ((Value.int .u8 0) :: (Value.nilFunc :: ((Value.pointer none) :: ((Value.int .i32 0) :: ((Value.int .i32 0) :: []))))))))))) true false) := rfl
attribute [go_sem] Int.reduceToNat Int.reducePow Nat.reducePow Int.reduceAdd Int.reduceMul Int.reduceSub Int.reduceNeg Nat.reduceAdd Nat.reduceMul Nat.reduceSub Nat.reduceEqDiff Nat.reduceLT Nat.reduceLeDiff
end Go.Proofs.YtckhjklcfagkoaaGreatDoor