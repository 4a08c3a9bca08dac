/- The types of this program, as tables, and what is known of its package-level variables. No conditions. -/
import Derived.Test.YtckhjklcfagkoaaDoorAc4
import Derived.Test.YtckhjklcfagkoaaDoorProg
import Derived.KernelRfl
namespace Go.Proofs.YtckhjklcfagkoaaDoor
open Go Go.Ab
theorem gn0 : Tryd.prog.globalNamed "internal/strconv.uint64pow10" = some 1 := by kernel_rfl
def Gl (Z : Nat → Prop) (w : World) : Prop := (Z 1 ∧ Z 0) ∧ Lib.TabIs Tryd.prog w "internal/strconv.uint64pow10" .u64 Lib.pow10Tab ∧ ∃ m, w.cell? ⟨0, 0, none⟩ = some (.int .i64 m)
noncomputable instance : Glob where
 G := Gl
 mono := fun hz hk h => ⟨⟨hz _ h.1.1, hz _ h.1.2⟩, tabIs_keep gn0 (hk _ h.1.1) h.2.1, by obtain ⟨m, hm⟩ := h.2.2; exact ⟨m, by rw [← hm]; exact cell_of_heap (hk _ h.1.2)⟩⟩
 tab := []
 bld := 0
 slots := slotOf [(23, 25), (53, 26), (12, 26), (38, 26), (52, 6), (57, 6), (39, 6), (41, 6), (36, 6), (44, 6), (24, 26), (13, 26)]
 ok := fun _ h => by simp [gfind] at h
instance : Quick := ⟨fun h => h⟩
@[go_sem] theorem bldE : (Glob.bld : TypeId) = 0 := rfl
@[go_sem] theorem slotsE (g : Nat) : Glob.slots g = slotOf [(23, 25), (53, 26), (12, 26), (38, 26), (52, 6), (57, 6), (39, 6), (41, 6), (36, 6), (44, 6), (24, 26), (13, 26)] g := rfl
noncomputable def tys : List (TypeId × TyI) := [
 (2, (TyI.mk (TK.int .i64) 1 8 ((Value.int .i64 0) :: []) false false)),
 (3, (TyI.mk (TK.int .i64) 1 8 ((Value.int .i64 0) :: []) false false)),
 (4, (TyI.mk TK.bool 1 1 ((Value.bool false) :: []) false false)),
 (5, (TyI.mk (TK.int .u8) 1 1 ((Value.int .u8 0) :: []) false false)),
 (6, (TyI.mk (TK.int .u8) 1 1 ((Value.int .u8 0) :: []) false false)),
 (7, (TyI.mk (TK.struct (⟨0, 1, 2, true, false⟩ :: (⟨1, 1, 3, true, false⟩ :: (⟨2, 1, 4, true, false⟩ :: (⟨3, 1, 6, true, false⟩ :: []))))) 4 24 ((Value.int .i64 0) :: ((Value.int .i64 0) :: ((Value.bool false) :: ((Value.int .u8 0) :: [])))) false false)),
 (8, (TyI.mk (TK.struct (⟨0, 1, 2, true, false⟩ :: (⟨1, 1, 3, true, false⟩ :: (⟨2, 1, 4, true, false⟩ :: (⟨3, 1, 6, true, false⟩ :: []))))) 4 24 ((Value.int .i64 0) :: ((Value.int .i64 0) :: ((Value.bool false) :: ((Value.int .u8 0) :: [])))) false false)),
 (9, (TyI.mk TK.str 1 16 ((Value.string (ByteArray.mk (Array.mk []))) :: []) false false)),
 (10, (TyI.mk TK.str 1 16 ((Value.string (ByteArray.mk (Array.mk []))) :: []) false false)),
 (11, (TyI.mk TK.str 1 16 ((Value.string (ByteArray.mk (Array.mk []))) :: []) false false)),
 (12, (TyI.mk (TK.int .u64) 1 8 ((Value.int .u64 0) :: []) false false)),
 (13, (TyI.mk (TK.struct (⟨0, 1, 9, true, false⟩ :: (⟨1, 1, 12, true, false⟩ :: []))) 2 24 ((Value.string (ByteArray.mk (Array.mk []))) :: ((Value.int .u64 0) :: [])) true false)),
 (14, (TyI.mk (TK.struct (⟨0, 1, 9, true, false⟩ :: (⟨1, 1, 12, true, false⟩ :: []))) 2 24 ((Value.string (ByteArray.mk (Array.mk []))) :: ((Value.int .u64 0) :: [])) true false)),
 (15, (TyI.mk (TK.ptr 148) 1 8 ((Value.pointer none) :: []) false false)),
 (16, (TyI.mk (TK.ptr 151) 1 8 ((Value.pointer none) :: []) false false)),
 (17, (TyI.mk (TK.ptr 158) 1 8 ((Value.pointer none) :: []) false false)),
 (22, (TyI.mk (TK.int .u64) 1 8 ((Value.int .u64 0) :: []) false false)),
 (23, (TyI.mk (TK.slice 5 1 1 (Value.int .u8 0)) 1 24 ((Value.slice none 0 0) :: []) false false)),
 (24, (TyI.mk (TK.struct (⟨0, 1, 3, true, false⟩ :: (⟨1, 1, 3, true, false⟩ :: (⟨2, 1, 22, true, false⟩ :: (⟨3, 1, 22, true, false⟩ :: (⟨4, 1, 22, true, false⟩ :: (⟨5, 1, 3, true, false⟩ :: (⟨6, 1, 3, true, false⟩ :: (⟨7, 1, 23, true, false⟩ :: []))))))))) 8 80 ((Value.int .i64 0) :: ((Value.int .i64 0) :: ((Value.int .u64 0) :: ((Value.int .u64 0) :: ((Value.int .u64 0) :: ((Value.int .i64 0) :: ((Value.int .i64 0) :: ((Value.slice none 0 0) :: [])))))))) false false)),
 (25, (TyI.mk (TK.struct (⟨0, 1, 3, true, false⟩ :: (⟨1, 1, 3, true, false⟩ :: (⟨2, 1, 22, true, false⟩ :: (⟨3, 1, 22, true, false⟩ :: (⟨4, 1, 22, true, false⟩ :: (⟨5, 1, 3, true, false⟩ :: (⟨6, 1, 3, true, false⟩ :: (⟨7, 1, 23, true, false⟩ :: []))))))))) 8 80 ((Value.int .i64 0) :: ((Value.int .i64 0) :: ((Value.int .u64 0) :: ((Value.int .u64 0) :: ((Value.int .u64 0) :: ((Value.int .i64 0) :: ((Value.int .i64 0) :: ((Value.slice none 0 0) :: [])))))))) false false)),
 (27, (TyI.mk TK.func 1 8 (Value.nilFunc :: []) false false)),
 (28, (TyI.mk (TK.int .u8) 1 1 ((Value.int .u8 0) :: []) false false)),
 (30, (TyI.mk (TK.struct (⟨0, 1, 28, true, false⟩ :: (⟨1, 1, 3, true, false⟩ :: (⟨2, 1, 22, true, false⟩ :: (⟨3, 1, 22, true, false⟩ :: (⟨4, 1, 22, true, false⟩ :: (⟨5, 1, 3, true, false⟩ :: (⟨6, 1, 3, true, false⟩ :: (⟨7, 1, 23, true, false⟩ :: []))))))))) 8 80 ((Value.int .u8 0) :: ((Value.int .i64 0) :: ((Value.int .u64 0) :: ((Value.int .u64 0) :: ((Value.int .u64 0) :: ((Value.int .i64 0) :: ((Value.int .i64 0) :: ((Value.slice none 0 0) :: [])))))))) false false)),
 (31, (TyI.mk TK.func 1 8 (Value.nilFunc :: []) false false)),
 (32, (TyI.mk TK.func 1 8 (Value.nilFunc :: []) false false)),
 (35, (TyI.mk (TK.slice 30 8 80 (Value.agg (Array.mk ((Value.int .u8 0) :: ((Value.int .i64 0) :: ((Value.int .u64 0) :: ((Value.int .u64 0) :: ((Value.int .u64 0) :: ((Value.int .i64 0) :: ((Value.int .i64 0) :: ((Value.slice none 0 0) :: []))))))))))) 1 24 ((Value.slice none 0 0) :: []) false false)),
 (36, (TyI.mk (TK.int .i64) 1 8 ((Value.int .i64 0) :: []) false false)),
 (37, (TyI.mk TK.other 1 0 ((Value.tuple (Array.mk ((Value.slice none 0 0) :: ((Value.int .i64 0) :: ((Value.int .i64 0) :: []))))) :: []) false false)),
 (39, (TyI.mk (TK.ptr 62) 1 8 ((Value.pointer none) :: []) false false)),
 (40, (TyI.mk TK.other 1 0 ((Value.tuple (Array.mk ((Value.pointer none) :: ((Value.int .i64 0) :: [])))) :: []) false false)),
 (41, (TyI.mk TK.func 1 8 (Value.nilFunc :: []) false false)),
 (46, (TyI.mk (TK.int .u64) 1 8 ((Value.int .u64 0) :: []) false false)),
 (48, (TyI.mk TK.func 1 8 (Value.nilFunc :: []) false false)),
 (49, (TyI.mk TK.other 1 0 ((Value.tuple (Array.mk ((Value.string (ByteArray.mk (Array.mk []))) :: ((Value.string (ByteArray.mk (Array.mk []))) :: ((Value.bool false) :: []))))) :: []) false false)),
 (51, (TyI.mk TK.other 1 0 ((Value.tuple (Array.mk ((Value.agg (Array.mk ((Value.int .u8 0) :: ((Value.int .i64 0) :: ((Value.int .u64 0) :: ((Value.int .u64 0) :: ((Value.int .u64 0) :: ((Value.int .i64 0) :: ((Value.int .i64 0) :: ((Value.slice none 0 0) :: [])))))))))) :: ((Value.bool false) :: [])))) :: []) false false)),
 (54, (TyI.mk (TK.slice 22 1 8 (Value.int .u64 0)) 1 24 ((Value.slice none 0 0) :: []) false false)),
 (55, (TyI.mk TK.other 1 0 ((Value.tuple (Array.mk ((Value.pointer none) :: ((Value.bool false) :: ((Value.int .i64 0) :: []))))) :: []) false false)),
 (58, (TyI.mk (TK.slice 94 2 32 (Value.agg (Array.mk ((Value.int .u64 0) :: ((Value.slice none 0 0) :: []))))) 1 24 ((Value.slice none 0 0) :: []) false false)),
 (59, (TyI.mk (TK.ptr 74) 1 8 ((Value.pointer none) :: []) false false)),
 (60, (TyI.mk (TK.arr 8 59 1 false) 8 64 ((Value.pointer none) :: ((Value.pointer none) :: ((Value.pointer none) :: ((Value.pointer none) :: ((Value.pointer none) :: ((Value.pointer none) :: ((Value.pointer none) :: ((Value.pointer none) :: [])))))))) false false)),
 (61, (TyI.mk (TK.struct (⟨0, 1, 54, true, false⟩ :: (⟨1, 1, 54, true, false⟩ :: (⟨2, 1, 58, true, false⟩ :: (⟨3, 8, 60, true, true⟩ :: (⟨11, 1, 4, true, false⟩ :: (⟨12, 1, 4, true, false⟩ :: (⟨13, 1, 3, true, false⟩ :: (⟨14, 1, 22, true, false⟩ :: []))))))))) 15 160 ((Value.slice none 0 0) :: ((Value.slice none 0 0) :: ((Value.slice none 0 0) :: ((Value.pointer none) :: ((Value.pointer none) :: ((Value.pointer none) :: ((Value.pointer none) :: ((Value.pointer none) :: ((Value.pointer none) :: ((Value.pointer none) :: ((Value.pointer none) :: ((Value.bool false) :: ((Value.bool false) :: ((Value.int .i64 0) :: ((Value.int .u64 0) :: []))))))))))))))) false false)),
 (62, (TyI.mk (TK.struct (⟨0, 1, 54, true, false⟩ :: (⟨1, 1, 54, true, false⟩ :: (⟨2, 1, 58, true, false⟩ :: (⟨3, 8, 60, true, true⟩ :: (⟨11, 1, 4, true, false⟩ :: (⟨12, 1, 4, true, false⟩ :: (⟨13, 1, 3, true, false⟩ :: (⟨14, 1, 22, true, false⟩ :: []))))))))) 15 160 ((Value.slice none 0 0) :: ((Value.slice none 0 0) :: ((Value.slice none 0 0) :: ((Value.pointer none) :: ((Value.pointer none) :: ((Value.pointer none) :: ((Value.pointer none) :: ((Value.pointer none) :: ((Value.pointer none) :: ((Value.pointer none) :: ((Value.pointer none) :: ((Value.bool false) :: ((Value.bool false) :: ((Value.int .i64 0) :: ((Value.int .u64 0) :: []))))))))))))))) false false)),
 (64, (TyI.mk (TK.slice 9 1 16 (Value.string (ByteArray.mk (Array.mk [])))) 1 24 ((Value.slice none 0 0) :: []) false false)),
 (65, (TyI.mk (TK.ptr 68) 1 8 ((Value.pointer none) :: []) false false)),
 (68, (TyI.mk (TK.struct (⟨0, 1, 64, true, false⟩ :: (⟨1, 1, 4, true, false⟩ :: []))) 2 32 ((Value.slice none 0 0) :: ((Value.bool false) :: [])) false false)),
 (69, (TyI.mk TK.func 1 8 (Value.nilFunc :: []) false false)),
 (72, (TyI.mk (TK.map 3 22 (Value.int .u64 0)) 1 8 ((Value.map none) :: []) false false)),
 (74, (TyI.mk (TK.struct (⟨0, 1, 39, true, false⟩ :: (⟨1, 1, 3, true, false⟩ :: (⟨2, 1, 36, true, false⟩ :: (⟨3, 1, 72, true, false⟩ :: []))))) 4 32 ((Value.pointer none) :: ((Value.int .i64 0) :: ((Value.int .i64 0) :: ((Value.map none) :: [])))) false false)),
 (79, (TyI.mk TK.func 1 8 (Value.nilFunc :: []) false false)),
 (80, (TyI.mk TK.func 1 8 (Value.nilFunc :: []) false false)),
 (81, (TyI.mk TK.func 1 8 (Value.nilFunc :: []) false false)),
 (82, (TyI.mk TK.func 1 8 (Value.nilFunc :: []) false false)),
 (84, (TyI.mk TK.func 1 8 (Value.nilFunc :: []) false false)),
 (87, (TyI.mk (TK.iface false) 1 16 (Value.nilIface :: []) false true)),
 (88, (TyI.mk (TK.iface false) 1 16 (Value.nilIface :: []) false true)),
 (89, (TyI.mk TK.other 1 0 ((Value.tuple (Array.mk ((Value.int .u64 0) :: (Value.nilIface :: [])))) :: []) false false)),
 (92, (TyI.mk (TK.slice 114 2 16 (Value.agg (Array.mk ((Value.int .u64 0) :: ((Value.int .u64 0) :: []))))) 1 24 ((Value.slice none 0 0) :: []) false false)),
 (94, (TyI.mk (TK.struct (⟨0, 1, 22, true, false⟩ :: (⟨1, 1, 92, true, false⟩ :: []))) 2 32 ((Value.int .u64 0) :: ((Value.slice none 0 0) :: [])) false false)),
 (95, (TyI.mk TK.func 1 8 (Value.nilFunc :: []) false false)),
 (100, (TyI.mk (TK.ptr 94) 1 8 ((Value.pointer none) :: []) false false)),
 (101, (TyI.mk (TK.arr 24 5 1 false) 24 24 ((Value.int .u8 0) :: ((Value.int .u8 0) :: ((Value.int .u8 0) :: ((Value.int .u8 0) :: ((Value.int .u8 0) :: ((Value.int .u8 0) :: ((Value.int .u8 0) :: ((Value.int .u8 0) :: ((Value.int .u8 0) :: ((Value.int .u8 0) :: ((Value.int .u8 0) :: ((Value.int .u8 0) :: ((Value.int .u8 0) :: ((Value.int .u8 0) :: ((Value.int .u8 0) :: ((Value.int .u8 0) :: ((Value.int .u8 0) :: ((Value.int .u8 0) :: ((Value.int .u8 0) :: ((Value.int .u8 0) :: ((Value.int .u8 0) :: ((Value.int .u8 0) :: ((Value.int .u8 0) :: ((Value.int .u8 0) :: [])))))))))))))))))))))))) false false)),
 (104, (TyI.mk TK.other 1 0 ((Value.tuple (Array.mk ((Value.slice none 0 0) :: ((Value.string (ByteArray.mk (Array.mk []))) :: [])))) :: []) false false)),
 (105, (TyI.mk TK.func 1 8 (Value.nilFunc :: []) false false)),
 (109, (TyI.mk TK.func 1 8 (Value.nilFunc :: []) false false)),
 (110, (TyI.mk (TK.slice 3 1 8 (Value.int .i64 0)) 1 24 ((Value.slice none 0 0) :: []) false false)),
 (114, (TyI.mk (TK.struct (⟨0, 1, 22, true, false⟩ :: (⟨1, 1, 22, true, false⟩ :: []))) 2 16 ((Value.int .u64 0) :: ((Value.int .u64 0) :: [])) false false)),
 (117, (TyI.mk (TK.int .u32) 1 4 ((Value.int .u32 0) :: []) false false)),
 (124, (TyI.mk TK.other 1 0 ((Value.tuple (Array.mk ((Value.int .i32 0) :: ((Value.int .i64 0) :: [])))) :: []) false false)),
 (129, (TyI.mk (TK.ptr 135) 1 8 ((Value.pointer none) :: []) false false)),
 (135, (TyI.mk (TK.struct (⟨0, 1, 9, true, false⟩ :: (⟨1, 1, 9, true, false⟩ :: (⟨2, 1, 88, true, false⟩ :: [])))) 3 48 ((Value.string (ByteArray.mk (Array.mk []))) :: ((Value.string (ByteArray.mk (Array.mk []))) :: (Value.nilIface :: []))) false true)),
 (140, (TyI.mk (TK.struct (⟨0, 1, 5, true, false⟩ :: (⟨1, 1, 5, true, false⟩ :: []))) 2 2 ((Value.int .u8 0) :: ((Value.int .u8 0) :: [])) false false)),
 (141, (TyI.mk (TK.struct (⟨0, 1, 5, true, false⟩ :: (⟨1, 1, 5, true, false⟩ :: []))) 2 2 ((Value.int .u8 0) :: ((Value.int .u8 0) :: [])) false false)),
 (143, (TyI.mk (TK.ptr 5) 1 8 ((Value.pointer none) :: []) false false)),
 (147, (TyI.mk (TK.struct (⟨0, 1, 17, true, false⟩ :: (⟨1, 1, 17, true, false⟩ :: (⟨2, 1, 17, true, false⟩ :: (⟨3, 1, 9, true, false⟩ :: []))))) 4 40 ((Value.pointer none) :: ((Value.pointer none) :: ((Value.pointer none) :: ((Value.string (ByteArray.mk (Array.mk []))) :: [])))) true false)),
 (148, (TyI.mk (TK.struct (⟨0, 1, 17, true, false⟩ :: (⟨1, 1, 17, true, false⟩ :: (⟨2, 1, 17, true, false⟩ :: (⟨3, 1, 9, true, false⟩ :: []))))) 4 40 ((Value.pointer none) :: ((Value.pointer none) :: ((Value.pointer none) :: ((Value.string (ByteArray.mk (Array.mk []))) :: [])))) true false)),
 (149, (TyI.mk (TK.arr 0 16 1 false) 0 0 [] false false)),
 (151, (TyI.mk (TK.struct (⟨0, 0, 149, false, true⟩ :: [])) 0 0 [] true false)),
 (152, (TyI.mk (TK.int .u8) 1 1 ((Value.int .u8 0) :: []) false false)),
 (153, (TyI.mk (TK.int .u8) 1 1 ((Value.int .u8 0) :: []) false false)),
 (154, (TyI.mk TK.func 1 8 (Value.nilFunc :: []) false false)),
 (155, (TyI.mk (TK.int .i32) 1 4 ((Value.int .i32 0) :: []) false false)),
 (156, (TyI.mk (TK.int .i32) 1 4 ((Value.int .i32 0) :: []) false false)),
 (158, (TyI.mk (TK.struct (⟨0, 1, 12, true, false⟩ :: (⟨1, 1, 12, true, false⟩ :: (⟨2, 1, 117, true, false⟩ :: (⟨3, 1, 152, true, false⟩ :: (⟨4, 1, 5, true, false⟩ :: (⟨5, 1, 5, true, false⟩ :: (⟨6, 1, 153, true, false⟩ :: (⟨7, 1, 154, true, false⟩ :: (⟨8, 1, 143, true, false⟩ :: (⟨9, 1, 155, true, false⟩ :: (⟨10, 1, 156, true, false⟩ :: [])))))))))))) 11 48 ((Value.int .u64 0) :: ((Value.int .u64 0) :: ((Value.int .u32 0) :: ((Value.int .u8 0) :: ((Value.int .u8 0) :: ((Value.int .u8 0) :: ((Value.int .u8 0) :: (Value.nilFunc :: ((Value.pointer none) :: ((Value.int .i32 0) :: ((Value.int .i32 0) :: []))))))))))) true false))
]
theorem tysOk : tys.map (fun p => tyOf Tryd.prog p.1) = tys.map (fun p => some p.2) := by kernel_rfl
theorem mixed : Tryd.prog.follows .mixedOrders = true := by kernel_rfl
noncomputable def E : Env := ⟨Tryd.prog, tys, tfind_ok tysOk, mixed⟩
@[go_sem] theorem ty2 : tfind E.tys 2 = some (TyI.mk (TK.int .i64) 1 8 ((Value.int .i64 0) :: []) false false) := rfl
@[go_sem] theorem ty3 : tfind E.tys 3 = some (TyI.mk (TK.int .i64) 1 8 ((Value.int .i64 0) :: []) false false) := rfl
@[go_sem] theorem ty4 : tfind E.tys 4 = some (TyI.mk TK.bool 1 1 ((Value.bool false) :: []) false false) := rfl
@[go_sem] theorem ty5 : tfind E.tys 5 = some (TyI.mk (TK.int .u8) 1 1 ((Value.int .u8 0) :: []) false false) := rfl
@[go_sem] theorem ty6 : tfind E.tys 6 = some (TyI.mk (TK.int .u8) 1 1 ((Value.int .u8 0) :: []) false false) := rfl
@[go_sem] theorem ty7 : tfind E.tys 7 = some (TyI.mk (TK.struct (⟨0, 1, 2, true, false⟩ :: (⟨1, 1, 3, true, false⟩ :: (⟨2, 1, 4, true, false⟩ :: (⟨3, 1, 6, true, false⟩ :: []))))) 4 24 ((Value.int .i64 0) :: ((Value.int .i64 0) :: ((Value.bool false) :: ((Value.int .u8 0) :: [])))) false false) := rfl
@[go_sem] theorem ty8 : tfind E.tys 8 = some (TyI.mk (TK.struct (⟨0, 1, 2, true, false⟩ :: (⟨1, 1, 3, true, false⟩ :: (⟨2, 1, 4, true, false⟩ :: (⟨3, 1, 6, true, false⟩ :: []))))) 4 24 ((Value.int .i64 0) :: ((Value.int .i64 0) :: ((Value.bool false) :: ((Value.int .u8 0) :: [])))) false false) := rfl
@[go_sem] theorem ty9 : tfind E.tys 9 = some (TyI.mk TK.str 1 16 ((Value.string (ByteArray.mk (Array.mk []))) :: []) false false) := rfl
@[go_sem] theorem ty10 : tfind E.tys 10 = some (TyI.mk TK.str 1 16 ((Value.string (ByteArray.mk (Array.mk []))) :: []) false false) := rfl
@[go_sem] theorem ty11 : tfind E.tys 11 = some (TyI.mk TK.str 1 16 ((Value.string (ByteArray.mk (Array.mk []))) :: []) false false) := rfl
@[go_sem] theorem ty12 : tfind E.tys 12 = some (TyI.mk (TK.int .u64) 1 8 ((Value.int .u64 0) :: []) false false) := rfl
@[go_sem] theorem ty13 : tfind E.tys 13 = some (TyI.mk (TK.struct (⟨0, 1, 9, true, false⟩ :: (⟨1, 1, 12, true, false⟩ :: []))) 2 24 ((Value.string (ByteArray.mk (Array.mk []))) :: ((Value.int .u64 0) :: [])) true false) := rfl
@[go_sem] theorem ty14 : tfind E.tys 14 = some (TyI.mk (TK.struct (⟨0, 1, 9, true, false⟩ :: (⟨1, 1, 12, true, false⟩ :: []))) 2 24 ((Value.string (ByteArray.mk (Array.mk []))) :: ((Value.int .u64 0) :: [])) true false) := rfl
@[go_sem] theorem ty22 : tfind E.tys 22 = some (TyI.mk (TK.int .u64) 1 8 ((Value.int .u64 0) :: []) false false) := rfl
@[go_sem] theorem ty23 : tfind E.tys 23 = some (TyI.mk (TK.slice 5 1 1 (Value.int .u8 0)) 1 24 ((Value.slice none 0 0) :: []) false false) := rfl
@[go_sem] theorem ty24 : tfind E.tys 24 = some (TyI.mk (TK.struct (⟨0, 1, 3, true, false⟩ :: (⟨1, 1, 3, true, false⟩ :: (⟨2, 1, 22, true, false⟩ :: (⟨3, 1, 22, true, false⟩ :: (⟨4, 1, 22, true, false⟩ :: (⟨5, 1, 3, true, false⟩ :: (⟨6, 1, 3, true, false⟩ :: (⟨7, 1, 23, true, false⟩ :: []))))))))) 8 80 ((Value.int .i64 0) :: ((Value.int .i64 0) :: ((Value.int .u64 0) :: ((Value.int .u64 0) :: ((Value.int .u64 0) :: ((Value.int .i64 0) :: ((Value.int .i64 0) :: ((Value.slice none 0 0) :: [])))))))) false false) := rfl
@[go_sem] theorem ty25 : tfind E.tys 25 = some (TyI.mk (TK.struct (⟨0, 1, 3, true, false⟩ :: (⟨1, 1, 3, true, false⟩ :: (⟨2, 1, 22, true, false⟩ :: (⟨3, 1, 22, true, false⟩ :: (⟨4, 1, 22, true, false⟩ :: (⟨5, 1, 3, true, false⟩ :: (⟨6, 1, 3, true, false⟩ :: (⟨7, 1, 23, true, false⟩ :: []))))))))) 8 80 ((Value.int .i64 0) :: ((Value.int .i64 0) :: ((Value.int .u64 0) :: ((Value.int .u64 0) :: ((Value.int .u64 0) :: ((Value.int .i64 0) :: ((Value.int .i64 0) :: ((Value.slice none 0 0) :: [])))))))) false false) := rfl
@[go_sem] theorem ty28 : tfind E.tys 28 = some (TyI.mk (TK.int .u8) 1 1 ((Value.int .u8 0) :: []) false false) := rfl
@[go_sem] theorem ty30 : tfind E.tys 30 = some (TyI.mk (TK.struct (⟨0, 1, 28, true, false⟩ :: (⟨1, 1, 3, true, false⟩ :: (⟨2, 1, 22, true, false⟩ :: (⟨3, 1, 22, true, false⟩ :: (⟨4, 1, 22, true, false⟩ :: (⟨5, 1, 3, true, false⟩ :: (⟨6, 1, 3, true, false⟩ :: (⟨7, 1, 23, true, false⟩ :: []))))))))) 8 80 ((Value.int .u8 0) :: ((Value.int .i64 0) :: ((Value.int .u64 0) :: ((Value.int .u64 0) :: ((Value.int .u64 0) :: ((Value.int .i64 0) :: ((Value.int .i64 0) :: ((Value.slice none 0 0) :: [])))))))) false false) := rfl
@[go_sem] theorem ty35 : tfind E.tys 35 = some (TyI.mk (TK.slice 30 8 80 (Value.agg (Array.mk ((Value.int .u8 0) :: ((Value.int .i64 0) :: ((Value.int .u64 0) :: ((Value.int .u64 0) :: ((Value.int .u64 0) :: ((Value.int .i64 0) :: ((Value.int .i64 0) :: ((Value.slice none 0 0) :: []))))))))))) 1 24 ((Value.slice none 0 0) :: []) false false) := rfl
@[go_sem] theorem ty36 : tfind E.tys 36 = some (TyI.mk (TK.int .i64) 1 8 ((Value.int .i64 0) :: []) false false) := rfl
@[go_sem] theorem ty46 : tfind E.tys 46 = some (TyI.mk (TK.int .u64) 1 8 ((Value.int .u64 0) :: []) false false) := rfl
@[go_sem] theorem ty54 : tfind E.tys 54 = some (TyI.mk (TK.slice 22 1 8 (Value.int .u64 0)) 1 24 ((Value.slice none 0 0) :: []) false false) := rfl
@[go_sem] theorem ty58 : tfind E.tys 58 = some (TyI.mk (TK.slice 94 2 32 (Value.agg (Array.mk ((Value.int .u64 0) :: ((Value.slice none 0 0) :: []))))) 1 24 ((Value.slice none 0 0) :: []) false false) := rfl
@[go_sem] theorem ty60 : tfind E.tys 60 = some (TyI.mk (TK.arr 8 59 1 false) 8 64 ((Value.pointer none) :: ((Value.pointer none) :: ((Value.pointer none) :: ((Value.pointer none) :: ((Value.pointer none) :: ((Value.pointer none) :: ((Value.pointer none) :: ((Value.pointer none) :: [])))))))) false false) := rfl
@[go_sem] theorem ty61 : tfind E.tys 61 = some (TyI.mk (TK.struct (⟨0, 1, 54, true, false⟩ :: (⟨1, 1, 54, true, false⟩ :: (⟨2, 1, 58, true, false⟩ :: (⟨3, 8, 60, true, true⟩ :: (⟨11, 1, 4, true, false⟩ :: (⟨12, 1, 4, true, false⟩ :: (⟨13, 1, 3, true, false⟩ :: (⟨14, 1, 22, true, false⟩ :: []))))))))) 15 160 ((Value.slice none 0 0) :: ((Value.slice none 0 0) :: ((Value.slice none 0 0) :: ((Value.pointer none) :: ((Value.pointer none) :: ((Value.pointer none) :: ((Value.pointer none) :: ((Value.pointer none) :: ((Value.pointer none) :: ((Value.pointer none) :: ((Value.pointer none) :: ((Value.bool false) :: ((Value.bool false) :: ((Value.int .i64 0) :: ((Value.int .u64 0) :: []))))))))))))))) false false) := rfl
@[go_sem] theorem ty62 : tfind E.tys 62 = some (TyI.mk (TK.struct (⟨0, 1, 54, true, false⟩ :: (⟨1, 1, 54, true, false⟩ :: (⟨2, 1, 58, true, false⟩ :: (⟨3, 8, 60, true, true⟩ :: (⟨11, 1, 4, true, false⟩ :: (⟨12, 1, 4, true, false⟩ :: (⟨13, 1, 3, true, false⟩ :: (⟨14, 1, 22, true, false⟩ :: []))))))))) 15 160 ((Value.slice none 0 0) :: ((Value.slice none 0 0) :: ((Value.slice none 0 0) :: ((Value.pointer none) :: ((Value.pointer none) :: ((Value.pointer none) :: ((Value.pointer none) :: ((Value.pointer none) :: ((Value.pointer none) :: ((Value.pointer none) :: ((Value.pointer none) :: ((Value.bool false) :: ((Value.bool false) :: ((Value.int .i64 0) :: ((Value.int .u64 0) :: []))))))))))))))) false false) := rfl
@[go_sem] theorem ty64 : tfind E.tys 64 = some (TyI.mk (TK.slice 9 1 16 (Value.string (ByteArray.mk (Array.mk [])))) 1 24 ((Value.slice none 0 0) :: []) false false) := rfl
@[go_sem] theorem ty68 : tfind E.tys 68 = some (TyI.mk (TK.struct (⟨0, 1, 64, true, false⟩ :: (⟨1, 1, 4, true, false⟩ :: []))) 2 32 ((Value.slice none 0 0) :: ((Value.bool false) :: [])) false false) := rfl
@[go_sem] theorem ty72 : tfind E.tys 72 = some (TyI.mk (TK.map 3 22 (Value.int .u64 0)) 1 8 ((Value.map none) :: []) false false) := rfl
@[go_sem] theorem ty74 : tfind E.tys 74 = some (TyI.mk (TK.struct (⟨0, 1, 39, true, false⟩ :: (⟨1, 1, 3, true, false⟩ :: (⟨2, 1, 36, true, false⟩ :: (⟨3, 1, 72, true, false⟩ :: []))))) 4 32 ((Value.pointer none) :: ((Value.int .i64 0) :: ((Value.int .i64 0) :: ((Value.map none) :: [])))) false false) := rfl
@[go_sem] theorem ty87 : tfind E.tys 87 = some (TyI.mk (TK.iface false) 1 16 (Value.nilIface :: []) false true) := rfl
@[go_sem] theorem ty88 : tfind E.tys 88 = some (TyI.mk (TK.iface false) 1 16 (Value.nilIface :: []) false true) := rfl
@[go_sem] theorem ty92 : tfind E.tys 92 = some (TyI.mk (TK.slice 114 2 16 (Value.agg (Array.mk ((Value.int .u64 0) :: ((Value.int .u64 0) :: []))))) 1 24 ((Value.slice none 0 0) :: []) false false) := rfl
@[go_sem] theorem ty94 : tfind E.tys 94 = some (TyI.mk (TK.struct (⟨0, 1, 22, true, false⟩ :: (⟨1, 1, 92, true, false⟩ :: []))) 2 32 ((Value.int .u64 0) :: ((Value.slice none 0 0) :: [])) false false) := rfl
@[go_sem] theorem ty101 : tfind E.tys 101 = some (TyI.mk (TK.arr 24 5 1 false) 24 24 ((Value.int .u8 0) :: ((Value.int .u8 0) :: ((Value.int .u8 0) :: ((Value.int .u8 0) :: ((Value.int .u8 0) :: ((Value.int .u8 0) :: ((Value.int .u8 0) :: ((Value.int .u8 0) :: ((Value.int .u8 0) :: ((Value.int .u8 0) :: ((Value.int .u8 0) :: ((Value.int .u8 0) :: ((Value.int .u8 0) :: ((Value.int .u8 0) :: ((Value.int .u8 0) :: ((Value.int .u8 0) :: ((Value.int .u8 0) :: ((Value.int .u8 0) :: ((Value.int .u8 0) :: ((Value.int .u8 0) :: ((Value.int .u8 0) :: ((Value.int .u8 0) :: ((Value.int .u8 0) :: ((Value.int .u8 0) :: [])))))))))))))))))))))))) false false) := rfl
@[go_sem] theorem ty110 : tfind E.tys 110 = some (TyI.mk (TK.slice 3 1 8 (Value.int .i64 0)) 1 24 ((Value.slice none 0 0) :: []) false false) := rfl
@[go_sem] theorem ty114 : tfind E.tys 114 = some (TyI.mk (TK.struct (⟨0, 1, 22, true, false⟩ :: (⟨1, 1, 22, true, false⟩ :: []))) 2 16 ((Value.int .u64 0) :: ((Value.int .u64 0) :: [])) false false) := rfl
@[go_sem] theorem ty117 : tfind E.tys 117 = some (TyI.mk (TK.int .u32) 1 4 ((Value.int .u32 0) :: []) false false) := rfl
@[go_sem] theorem ty135 : tfind E.tys 135 = some (TyI.mk (TK.struct (⟨0, 1, 9, true, false⟩ :: (⟨1, 1, 9, true, false⟩ :: (⟨2, 1, 88, true, false⟩ :: [])))) 3 48 ((Value.string (ByteArray.mk (Array.mk []))) :: ((Value.string (ByteArray.mk (Array.mk []))) :: (Value.nilIface :: []))) false true) := rfl
@[go_sem] theorem ty140 : tfind E.tys 140 = some (TyI.mk (TK.struct (⟨0, 1, 5, true, false⟩ :: (⟨1, 1, 5, true, false⟩ :: []))) 2 2 ((Value.int .u8 0) :: ((Value.int .u8 0) :: [])) false false) := rfl
@[go_sem] theorem ty141 : tfind E.tys 141 = some (TyI.mk (TK.struct (⟨0, 1, 5, true, false⟩ :: (⟨1, 1, 5, true, false⟩ :: []))) 2 2 ((Value.int .u8 0) :: ((Value.int .u8 0) :: [])) false false) := rfl
@[go_sem] theorem ty147 : tfind E.tys 147 = some (TyI.mk (TK.struct (⟨0, 1, 17, true, false⟩ :: (⟨1, 1, 17, true, false⟩ :: (⟨2, 1, 17, true, false⟩ :: (⟨3, 1, 9, true, false⟩ :: []))))) 4 40 ((Value.pointer none) :: ((Value.pointer none) :: ((Value.pointer none) :: ((Value.string (ByteArray.mk (Array.mk []))) :: [])))) true false) := rfl
@[go_sem] theorem ty148 : tfind E.tys 148 = some (TyI.mk (TK.struct (⟨0, 1, 17, true, false⟩ :: (⟨1, 1, 17, true, false⟩ :: (⟨2, 1, 17, true, false⟩ :: (⟨3, 1, 9, true, false⟩ :: []))))) 4 40 ((Value.pointer none) :: ((Value.pointer none) :: ((Value.pointer none) :: ((Value.string (ByteArray.mk (Array.mk []))) :: [])))) true false) := rfl
@[go_sem] theorem ty149 : tfind E.tys 149 = some (TyI.mk (TK.arr 0 16 1 false) 0 0 [] false false) := rfl
@[go_sem] theorem ty151 : tfind E.tys 151 = some (TyI.mk (TK.struct (⟨0, 0, 149, false, true⟩ :: [])) 0 0 [] true false) := rfl
@[go_sem] theorem ty152 : tfind E.tys 152 = some (TyI.mk (TK.int .u8) 1 1 ((Value.int .u8 0) :: []) false false) := rfl
@[go_sem] theorem ty153 : tfind E.tys 153 = some (TyI.mk (TK.int .u8) 1 1 ((Value.int .u8 0) :: []) false false) := rfl
@[go_sem] theorem ty155 : tfind E.tys 155 = some (TyI.mk (TK.int .i32) 1 4 ((Value.int .i32 0) :: []) false false) := rfl
@[go_sem] theorem ty156 : tfind E.tys 156 = some (TyI.mk (TK.int .i32) 1 4 ((Value.int .i32 0) :: []) false false) := rfl
@[go_sem] theorem ty158 : tfind E.tys 158 = some (TyI.mk (TK.struct (⟨0, 1, 12, true, false⟩ :: (⟨1, 1, 12, true, false⟩ :: (⟨2, 1, 117, true, false⟩ :: (⟨3, 1, 152, true, false⟩ :: (⟨4, 1, 5, true, false⟩ :: (⟨5, 1, 5, true, false⟩ :: (⟨6, 1, 153, true, false⟩ :: (⟨7, 1, 154, true, false⟩ :: (⟨8, 1, 143, true, false⟩ :: (⟨9, 1, 155, true, false⟩ :: (⟨10, 1, 156, true, false⟩ :: [])))))))))))) 11 48 ((Value.int .u64 0) :: ((Value.int .u64 0) :: ((Value.int .u32 0) :: ((Value.int .u8 0) :: ((Value.int .u8 0) :: ((Value.int .u8 0) :: ((Value.int .u8 0) :: (Value.nilFunc :: ((Value.pointer none) :: ((Value.int .i32 0) :: ((Value.int .i32 0) :: []))))))))))) true false) := rfl
@[go_sem ↓] theorem wt2 (k : TyI → Prop) : withTy E 2 k = k (TyI.mk (TK.int .i64) 1 8 ((Value.int .i64 0) :: []) false false) := rfl
@[go_sem ↓] theorem wt3 (k : TyI → Prop) : withTy E 3 k = k (TyI.mk (TK.int .i64) 1 8 ((Value.int .i64 0) :: []) false false) := rfl
@[go_sem ↓] theorem wt4 (k : TyI → Prop) : withTy E 4 k = k (TyI.mk TK.bool 1 1 ((Value.bool false) :: []) false false) := rfl
@[go_sem ↓] theorem wt5 (k : TyI → Prop) : withTy E 5 k = k (TyI.mk (TK.int .u8) 1 1 ((Value.int .u8 0) :: []) false false) := rfl
@[go_sem ↓] theorem wt6 (k : TyI → Prop) : withTy E 6 k = k (TyI.mk (TK.int .u8) 1 1 ((Value.int .u8 0) :: []) false false) := rfl
@[go_sem ↓] theorem wt7 (k : TyI → Prop) : withTy E 7 k = k (TyI.mk (TK.struct (⟨0, 1, 2, true, false⟩ :: (⟨1, 1, 3, true, false⟩ :: (⟨2, 1, 4, true, false⟩ :: (⟨3, 1, 6, true, false⟩ :: []))))) 4 24 ((Value.int .i64 0) :: ((Value.int .i64 0) :: ((Value.bool false) :: ((Value.int .u8 0) :: [])))) false false) := rfl
@[go_sem ↓] theorem wt8 (k : TyI → Prop) : withTy E 8 k = k (TyI.mk (TK.struct (⟨0, 1, 2, true, false⟩ :: (⟨1, 1, 3, true, false⟩ :: (⟨2, 1, 4, true, false⟩ :: (⟨3, 1, 6, true, false⟩ :: []))))) 4 24 ((Value.int .i64 0) :: ((Value.int .i64 0) :: ((Value.bool false) :: ((Value.int .u8 0) :: [])))) false false) := rfl
@[go_sem ↓] theorem wt9 (k : TyI → Prop) : withTy E 9 k = k (TyI.mk TK.str 1 16 ((Value.string (ByteArray.mk (Array.mk []))) :: []) false false) := rfl
@[go_sem ↓] theorem wt10 (k : TyI → Prop) : withTy E 10 k = k (TyI.mk TK.str 1 16 ((Value.string (ByteArray.mk (Array.mk []))) :: []) false false) := rfl
@[go_sem ↓] theorem wt11 (k : TyI → Prop) : withTy E 11 k = k (TyI.mk TK.str 1 16 ((Value.string (ByteArray.mk (Array.mk []))) :: []) false false) := rfl
@[go_sem ↓] theorem wt12 (k : TyI → Prop) : withTy E 12 k = k (TyI.mk (TK.int .u64) 1 8 ((Value.int .u64 0) :: []) false false) := rfl
@[go_sem ↓] theorem wt13 (k : TyI → Prop) : withTy E 13 k = k (TyI.mk (TK.struct (⟨0, 1, 9, true, false⟩ :: (⟨1, 1, 12, true, false⟩ :: []))) 2 24 ((Value.string (ByteArray.mk (Array.mk []))) :: ((Value.int .u64 0) :: [])) true false) := rfl
@[go_sem ↓] theorem wt14 (k : TyI → Prop) : withTy E 14 k = k (TyI.mk (TK.struct (⟨0, 1, 9, true, false⟩ :: (⟨1, 1, 12, true, false⟩ :: []))) 2 24 ((Value.string (ByteArray.mk (Array.mk []))) :: ((Value.int .u64 0) :: [])) true false) := rfl
@[go_sem ↓] theorem wt15 (k : TyI → Prop) : withTy E 15 k = k (TyI.mk (TK.ptr 148) 1 8 ((Value.pointer none) :: []) false false) := rfl
@[go_sem ↓] theorem wt16 (k : TyI → Prop) : withTy E 16 k = k (TyI.mk (TK.ptr 151) 1 8 ((Value.pointer none) :: []) false false) := rfl
@[go_sem ↓] theorem wt17 (k : TyI → Prop) : withTy E 17 k = k (TyI.mk (TK.ptr 158) 1 8 ((Value.pointer none) :: []) false false) := rfl
@[go_sem ↓] theorem wt22 (k : TyI → Prop) : withTy E 22 k = k (TyI.mk (TK.int .u64) 1 8 ((Value.int .u64 0) :: []) false false) := rfl
@[go_sem ↓] theorem wt23 (k : TyI → Prop) : withTy E 23 k = k (TyI.mk (TK.slice 5 1 1 (Value.int .u8 0)) 1 24 ((Value.slice none 0 0) :: []) false false) := rfl
@[go_sem ↓] theorem wt24 (k : TyI → Prop) : withTy E 24 k = k (TyI.mk (TK.struct (⟨0, 1, 3, true, false⟩ :: (⟨1, 1, 3, true, false⟩ :: (⟨2, 1, 22, true, false⟩ :: (⟨3, 1, 22, true, false⟩ :: (⟨4, 1, 22, true, false⟩ :: (⟨5, 1, 3, true, false⟩ :: (⟨6, 1, 3, true, false⟩ :: (⟨7, 1, 23, true, false⟩ :: []))))))))) 8 80 ((Value.int .i64 0) :: ((Value.int .i64 0) :: ((Value.int .u64 0) :: ((Value.int .u64 0) :: ((Value.int .u64 0) :: ((Value.int .i64 0) :: ((Value.int .i64 0) :: ((Value.slice none 0 0) :: [])))))))) false false) := rfl
@[go_sem ↓] theorem wt25 (k : TyI → Prop) : withTy E 25 k = k (TyI.mk (TK.struct (⟨0, 1, 3, true, false⟩ :: (⟨1, 1, 3, true, false⟩ :: (⟨2, 1, 22, true, false⟩ :: (⟨3, 1, 22, true, false⟩ :: (⟨4, 1, 22, true, false⟩ :: (⟨5, 1, 3, true, false⟩ :: (⟨6, 1, 3, true, false⟩ :: (⟨7, 1, 23, true, false⟩ :: []))))))))) 8 80 ((Value.int .i64 0) :: ((Value.int .i64 0) :: ((Value.int .u64 0) :: ((Value.int .u64 0) :: ((Value.int .u64 0) :: ((Value.int .i64 0) :: ((Value.int .i64 0) :: ((Value.slice none 0 0) :: [])))))))) false false) := rfl
@[go_sem ↓] theorem wt27 (k : TyI → Prop) : withTy E 27 k = k (TyI.mk TK.func 1 8 (Value.nilFunc :: []) false false) := rfl
@[go_sem ↓] theorem wt28 (k : TyI → Prop) : withTy E 28 k = k (TyI.mk (TK.int .u8) 1 1 ((Value.int .u8 0) :: []) false false) := rfl
@[go_sem ↓] theorem wt30 (k : TyI → Prop) : withTy E 30 k = k (TyI.mk (TK.struct (⟨0, 1, 28, true, false⟩ :: (⟨1, 1, 3, true, false⟩ :: (⟨2, 1, 22, true, false⟩ :: (⟨3, 1, 22, true, false⟩ :: (⟨4, 1, 22, true, false⟩ :: (⟨5, 1, 3, true, false⟩ :: (⟨6, 1, 3, true, false⟩ :: (⟨7, 1, 23, true, false⟩ :: []))))))))) 8 80 ((Value.int .u8 0) :: ((Value.int .i64 0) :: ((Value.int .u64 0) :: ((Value.int .u64 0) :: ((Value.int .u64 0) :: ((Value.int .i64 0) :: ((Value.int .i64 0) :: ((Value.slice none 0 0) :: [])))))))) false false) := rfl
@[go_sem ↓] theorem wt31 (k : TyI → Prop) : withTy E 31 k = k (TyI.mk TK.func 1 8 (Value.nilFunc :: []) false false) := rfl
@[go_sem ↓] theorem wt32 (k : TyI → Prop) : withTy E 32 k = k (TyI.mk TK.func 1 8 (Value.nilFunc :: []) false false) := rfl
@[go_sem ↓] theorem wt35 (k : TyI → Prop) : withTy E 35 k = k (TyI.mk (TK.slice 30 8 80 (Value.agg (Array.mk ((Value.int .u8 0) :: ((Value.int .i64 0) :: ((Value.int .u64 0) :: ((Value.int .u64 0) :: ((Value.int .u64 0) :: ((Value.int .i64 0) :: ((Value.int .i64 0) :: ((Value.slice none 0 0) :: []))))))))))) 1 24 ((Value.slice none 0 0) :: []) false false) := rfl
@[go_sem ↓] theorem wt36 (k : TyI → Prop) : withTy E 36 k = k (TyI.mk (TK.int .i64) 1 8 ((Value.int .i64 0) :: []) false false) := rfl
@[go_sem ↓] theorem wt37 (k : TyI → Prop) : withTy E 37 k = k (TyI.mk TK.other 1 0 ((Value.tuple (Array.mk ((Value.slice none 0 0) :: ((Value.int .i64 0) :: ((Value.int .i64 0) :: []))))) :: []) false false) := rfl
@[go_sem ↓] theorem wt39 (k : TyI → Prop) : withTy E 39 k = k (TyI.mk (TK.ptr 62) 1 8 ((Value.pointer none) :: []) false false) := rfl
@[go_sem ↓] theorem wt40 (k : TyI → Prop) : withTy E 40 k = k (TyI.mk TK.other 1 0 ((Value.tuple (Array.mk ((Value.pointer none) :: ((Value.int .i64 0) :: [])))) :: []) false false) := rfl
@[go_sem ↓] theorem wt41 (k : TyI → Prop) : withTy E 41 k = k (TyI.mk TK.func 1 8 (Value.nilFunc :: []) false false) := rfl
@[go_sem ↓] theorem wt46 (k : TyI → Prop) : withTy E 46 k = k (TyI.mk (TK.int .u64) 1 8 ((Value.int .u64 0) :: []) false false) := rfl
@[go_sem ↓] theorem wt48 (k : TyI → Prop) : withTy E 48 k = k (TyI.mk TK.func 1 8 (Value.nilFunc :: []) false false) := rfl
@[go_sem ↓] theorem wt49 (k : TyI → Prop) : withTy E 49 k = k (TyI.mk TK.other 1 0 ((Value.tuple (Array.mk ((Value.string (ByteArray.mk (Array.mk []))) :: ((Value.string (ByteArray.mk (Array.mk []))) :: ((Value.bool false) :: []))))) :: []) false false) := rfl
@[go_sem ↓] theorem wt51 (k : TyI → Prop) : withTy E 51 k = k (TyI.mk TK.other 1 0 ((Value.tuple (Array.mk ((Value.agg (Array.mk ((Value.int .u8 0) :: ((Value.int .i64 0) :: ((Value.int .u64 0) :: ((Value.int .u64 0) :: ((Value.int .u64 0) :: ((Value.int .i64 0) :: ((Value.int .i64 0) :: ((Value.slice none 0 0) :: [])))))))))) :: ((Value.bool false) :: [])))) :: []) false false) := rfl
@[go_sem ↓] theorem wt54 (k : TyI → Prop) : withTy E 54 k = k (TyI.mk (TK.slice 22 1 8 (Value.int .u64 0)) 1 24 ((Value.slice none 0 0) :: []) false false) := rfl
@[go_sem ↓] theorem wt55 (k : TyI → Prop) : withTy E 55 k = k (TyI.mk TK.other 1 0 ((Value.tuple (Array.mk ((Value.pointer none) :: ((Value.bool false) :: ((Value.int .i64 0) :: []))))) :: []) false false) := rfl
@[go_sem ↓] theorem wt58 (k : TyI → Prop) : withTy E 58 k = k (TyI.mk (TK.slice 94 2 32 (Value.agg (Array.mk ((Value.int .u64 0) :: ((Value.slice none 0 0) :: []))))) 1 24 ((Value.slice none 0 0) :: []) false false) := rfl
@[go_sem ↓] theorem wt59 (k : TyI → Prop) : withTy E 59 k = k (TyI.mk (TK.ptr 74) 1 8 ((Value.pointer none) :: []) false false) := rfl
@[go_sem ↓] theorem wt60 (k : TyI → Prop) : withTy E 60 k = k (TyI.mk (TK.arr 8 59 1 false) 8 64 ((Value.pointer none) :: ((Value.pointer none) :: ((Value.pointer none) :: ((Value.pointer none) :: ((Value.pointer none) :: ((Value.pointer none) :: ((Value.pointer none) :: ((Value.pointer none) :: [])))))))) false false) := rfl
@[go_sem ↓] theorem wt61 (k : TyI → Prop) : withTy E 61 k = k (TyI.mk (TK.struct (⟨0, 1, 54, true, false⟩ :: (⟨1, 1, 54, true, false⟩ :: (⟨2, 1, 58, true, false⟩ :: (⟨3, 8, 60, true, true⟩ :: (⟨11, 1, 4, true, false⟩ :: (⟨12, 1, 4, true, false⟩ :: (⟨13, 1, 3, true, false⟩ :: (⟨14, 1, 22, true, false⟩ :: []))))))))) 15 160 ((Value.slice none 0 0) :: ((Value.slice none 0 0) :: ((Value.slice none 0 0) :: ((Value.pointer none) :: ((Value.pointer none) :: ((Value.pointer none) :: ((Value.pointer none) :: ((Value.pointer none) :: ((Value.pointer none) :: ((Value.pointer none) :: ((Value.pointer none) :: ((Value.bool false) :: ((Value.bool false) :: ((Value.int .i64 0) :: ((Value.int .u64 0) :: []))))))))))))))) false false) := rfl
@[go_sem ↓] theorem wt62 (k : TyI → Prop) : withTy E 62 k = k (TyI.mk (TK.struct (⟨0, 1, 54, true, false⟩ :: (⟨1, 1, 54, true, false⟩ :: (⟨2, 1, 58, true, false⟩ :: (⟨3, 8, 60, true, true⟩ :: (⟨11, 1, 4, true, false⟩ :: (⟨12, 1, 4, true, false⟩ :: (⟨13, 1, 3, true, false⟩ :: (⟨14, 1, 22, true, false⟩ :: []))))))))) 15 160 ((Value.slice none 0 0) :: ((Value.slice none 0 0) :: ((Value.slice none 0 0) :: ((Value.pointer none) :: ((Value.pointer none) :: ((Value.pointer none) :: ((Value.pointer none) :: ((Value.pointer none) :: ((Value.pointer none) :: ((Value.pointer none) :: ((Value.pointer none) :: ((Value.bool false) :: ((Value.bool false) :: ((Value.int .i64 0) :: ((Value.int .u64 0) :: []))))))))))))))) false false) := rfl
@[go_sem ↓] theorem wt64 (k : TyI → Prop) : withTy E 64 k = k (TyI.mk (TK.slice 9 1 16 (Value.string (ByteArray.mk (Array.mk [])))) 1 24 ((Value.slice none 0 0) :: []) false false) := rfl
@[go_sem ↓] theorem wt65 (k : TyI → Prop) : withTy E 65 k = k (TyI.mk (TK.ptr 68) 1 8 ((Value.pointer none) :: []) false false) := rfl
@[go_sem ↓] theorem wt68 (k : TyI → Prop) : withTy E 68 k = k (TyI.mk (TK.struct (⟨0, 1, 64, true, false⟩ :: (⟨1, 1, 4, true, false⟩ :: []))) 2 32 ((Value.slice none 0 0) :: ((Value.bool false) :: [])) false false) := rfl
@[go_sem ↓] theorem wt69 (k : TyI → Prop) : withTy E 69 k = k (TyI.mk TK.func 1 8 (Value.nilFunc :: []) false false) := rfl
@[go_sem ↓] theorem wt72 (k : TyI → Prop) : withTy E 72 k = k (TyI.mk (TK.map 3 22 (Value.int .u64 0)) 1 8 ((Value.map none) :: []) false false) := rfl
@[go_sem ↓] theorem wt74 (k : TyI → Prop) : withTy E 74 k = k (TyI.mk (TK.struct (⟨0, 1, 39, true, false⟩ :: (⟨1, 1, 3, true, false⟩ :: (⟨2, 1, 36, true, false⟩ :: (⟨3, 1, 72, true, false⟩ :: []))))) 4 32 ((Value.pointer none) :: ((Value.int .i64 0) :: ((Value.int .i64 0) :: ((Value.map none) :: [])))) false false) := rfl
@[go_sem ↓] theorem wt79 (k : TyI → Prop) : withTy E 79 k = k (TyI.mk TK.func 1 8 (Value.nilFunc :: []) false false) := rfl
@[go_sem ↓] theorem wt80 (k : TyI → Prop) : withTy E 80 k = k (TyI.mk TK.func 1 8 (Value.nilFunc :: []) false false) := rfl
@[go_sem ↓] theorem wt81 (k : TyI → Prop) : withTy E 81 k = k (TyI.mk TK.func 1 8 (Value.nilFunc :: []) false false) := rfl
@[go_sem ↓] theorem wt82 (k : TyI → Prop) : withTy E 82 k = k (TyI.mk TK.func 1 8 (Value.nilFunc :: []) false false) := rfl
@[go_sem ↓] theorem wt84 (k : TyI → Prop) : withTy E 84 k = k (TyI.mk TK.func 1 8 (Value.nilFunc :: []) false false) := rfl
@[go_sem ↓] theorem wt87 (k : TyI → Prop) : withTy E 87 k = k (TyI.mk (TK.iface false) 1 16 (Value.nilIface :: []) false true) := rfl
@[go_sem ↓] theorem wt88 (k : TyI → Prop) : withTy E 88 k = k (TyI.mk (TK.iface false) 1 16 (Value.nilIface :: []) false true) := rfl
@[go_sem ↓] theorem wt89 (k : TyI → Prop) : withTy E 89 k = k (TyI.mk TK.other 1 0 ((Value.tuple (Array.mk ((Value.int .u64 0) :: (Value.nilIface :: [])))) :: []) false false) := rfl
@[go_sem ↓] theorem wt92 (k : TyI → Prop) : withTy E 92 k = k (TyI.mk (TK.slice 114 2 16 (Value.agg (Array.mk ((Value.int .u64 0) :: ((Value.int .u64 0) :: []))))) 1 24 ((Value.slice none 0 0) :: []) false false) := rfl
@[go_sem ↓] theorem wt94 (k : TyI → Prop) : withTy E 94 k = k (TyI.mk (TK.struct (⟨0, 1, 22, true, false⟩ :: (⟨1, 1, 92, true, false⟩ :: []))) 2 32 ((Value.int .u64 0) :: ((Value.slice none 0 0) :: [])) false false) := rfl
@[go_sem ↓] theorem wt95 (k : TyI → Prop) : withTy E 95 k = k (TyI.mk TK.func 1 8 (Value.nilFunc :: []) false false) := rfl
@[go_sem ↓] theorem wt100 (k : TyI → Prop) : withTy E 100 k = k (TyI.mk (TK.ptr 94) 1 8 ((Value.pointer none) :: []) false false) := rfl
@[go_sem ↓] theorem wt101 (k : TyI → Prop) : withTy E 101 k = k (TyI.mk (TK.arr 24 5 1 false) 24 24 ((Value.int .u8 0) :: ((Value.int .u8 0) :: ((Value.int .u8 0) :: ((Value.int .u8 0) :: ((Value.int .u8 0) :: ((Value.int .u8 0) :: ((Value.int .u8 0) :: ((Value.int .u8 0) :: ((Value.int .u8 0) :: ((Value.int .u8 0) :: ((Value.int .u8 0) :: ((Value.int .u8 0) :: ((Value.int .u8 0) :: ((Value.int .u8 0) :: ((Value.int .u8 0) :: ((Value.int .u8 0) :: ((Value.int .u8 0) :: ((Value.int .u8 0) :: ((Value.int .u8 0) :: ((Value.int .u8 0) :: ((Value.int .u8 0) :: ((Value.int .u8 0) :: ((Value.int .u8 0) :: ((Value.int .u8 0) :: [])))))))))))))))))))))))) false false) := rfl
@[go_sem ↓] theorem wt104 (k : TyI → Prop) : withTy E 104 k = k (TyI.mk TK.other 1 0 ((Value.tuple (Array.mk ((Value.slice none 0 0) :: ((Value.string (ByteArray.mk (Array.mk []))) :: [])))) :: []) false false) := rfl
@[go_sem ↓] theorem wt105 (k : TyI → Prop) : withTy E 105 k = k (TyI.mk TK.func 1 8 (Value.nilFunc :: []) false false) := rfl
@[go_sem ↓] theorem wt109 (k : TyI → Prop) : withTy E 109 k = k (TyI.mk TK.func 1 8 (Value.nilFunc :: []) false false) := rfl
@[go_sem ↓] theorem wt110 (k : TyI → Prop) : withTy E 110 k = k (TyI.mk (TK.slice 3 1 8 (Value.int .i64 0)) 1 24 ((Value.slice none 0 0) :: []) false false) := rfl
@[go_sem ↓] theorem wt114 (k : TyI → Prop) : withTy E 114 k = k (TyI.mk (TK.struct (⟨0, 1, 22, true, false⟩ :: (⟨1, 1, 22, true, false⟩ :: []))) 2 16 ((Value.int .u64 0) :: ((Value.int .u64 0) :: [])) false false) := rfl
@[go_sem ↓] theorem wt117 (k : TyI → Prop) : withTy E 117 k = k (TyI.mk (TK.int .u32) 1 4 ((Value.int .u32 0) :: []) false false) := rfl
@[go_sem ↓] theorem wt124 (k : TyI → Prop) : withTy E 124 k = k (TyI.mk TK.other 1 0 ((Value.tuple (Array.mk ((Value.int .i32 0) :: ((Value.int .i64 0) :: [])))) :: []) false false) := rfl
@[go_sem ↓] theorem wt129 (k : TyI → Prop) : withTy E 129 k = k (TyI.mk (TK.ptr 135) 1 8 ((Value.pointer none) :: []) false false) := rfl
@[go_sem ↓] theorem wt135 (k : TyI → Prop) : withTy E 135 k = k (TyI.mk (TK.struct (⟨0, 1, 9, true, false⟩ :: (⟨1, 1, 9, true, false⟩ :: (⟨2, 1, 88, true, false⟩ :: [])))) 3 48 ((Value.string (ByteArray.mk (Array.mk []))) :: ((Value.string (ByteArray.mk (Array.mk []))) :: (Value.nilIface :: []))) false true) := rfl
@[go_sem ↓] theorem wt140 (k : TyI → Prop) : withTy E 140 k = k (TyI.mk (TK.struct (⟨0, 1, 5, true, false⟩ :: (⟨1, 1, 5, true, false⟩ :: []))) 2 2 ((Value.int .u8 0) :: ((Value.int .u8 0) :: [])) false false) := rfl
@[go_sem ↓] theorem wt141 (k : TyI → Prop) : withTy E 141 k = k (TyI.mk (TK.struct (⟨0, 1, 5, true, false⟩ :: (⟨1, 1, 5, true, false⟩ :: []))) 2 2 ((Value.int .u8 0) :: ((Value.int .u8 0) :: [])) false false) := rfl
@[go_sem ↓] theorem wt143 (k : TyI → Prop) : withTy E 143 k = k (TyI.mk (TK.ptr 5) 1 8 ((Value.pointer none) :: []) false false) := rfl
@[go_sem ↓] theorem wt147 (k : TyI → Prop) : withTy E 147 k = k (TyI.mk (TK.struct (⟨0, 1, 17, true, false⟩ :: (⟨1, 1, 17, true, false⟩ :: (⟨2, 1, 17, true, false⟩ :: (⟨3, 1, 9, true, false⟩ :: []))))) 4 40 ((Value.pointer none) :: ((Value.pointer none) :: ((Value.pointer none) :: ((Value.string (ByteArray.mk (Array.mk []))) :: [])))) true false) := rfl
@[go_sem ↓] theorem wt148 (k : TyI → Prop) : withTy E 148 k = k (TyI.mk (TK.struct (⟨0, 1, 17, true, false⟩ :: (⟨1, 1, 17, true, false⟩ :: (⟨2, 1, 17, true, false⟩ :: (⟨3, 1, 9, true, false⟩ :: []))))) 4 40 ((Value.pointer none) :: ((Value.pointer none) :: ((Value.pointer none) :: ((Value.string (ByteArray.mk (Array.mk []))) :: [])))) true false) := rfl
@[go_sem ↓] theorem wt149 (k : TyI → Prop) : withTy E 149 k = k (TyI.mk (TK.arr 0 16 1 false) 0 0 [] false false) := rfl
@[go_sem ↓] theorem wt151 (k : TyI → Prop) : withTy E 151 k = k (TyI.mk (TK.struct (⟨0, 0, 149, false, true⟩ :: [])) 0 0 [] true false) := rfl
@[go_sem ↓] theorem wt152 (k : TyI → Prop) : withTy E 152 k = k (TyI.mk (TK.int .u8) 1 1 ((Value.int .u8 0) :: []) false false) := rfl
@[go_sem ↓] theorem wt153 (k : TyI → Prop) : withTy E 153 k = k (TyI.mk (TK.int .u8) 1 1 ((Value.int .u8 0) :: []) false false) := rfl
@[go_sem ↓] theorem wt154 (k : TyI → Prop) : withTy E 154 k = k (TyI.mk TK.func 1 8 (Value.nilFunc :: []) false false) := rfl
@[go_sem ↓] theorem wt155 (k : TyI → Prop) : withTy E 155 k = k (TyI.mk (TK.int .i32) 1 4 ((Value.int .i32 0) :: []) false false) := rfl
@[go_sem ↓] theorem wt156 (k : TyI → Prop) : withTy E 156 k = k (TyI.mk (TK.int .i32) 1 4 ((Value.int .i32 0) :: []) false false) := rfl
@[go_sem ↓] theorem wt158 (k : TyI → Prop) : withTy E 158 k = k (TyI.mk (TK.struct (⟨0, 1, 12, true, false⟩ :: (⟨1, 1, 12, true, false⟩ :: (⟨2, 1, 117, true, false⟩ :: (⟨3, 1, 152, true, false⟩ :: (⟨4, 1, 5, true, false⟩ :: (⟨5, 1, 5, true, false⟩ :: (⟨6, 1, 153, true, false⟩ :: (⟨7, 1, 154, true, false⟩ :: (⟨8, 1, 143, true, false⟩ :: (⟨9, 1, 155, true, false⟩ :: (⟨10, 1, 156, true, false⟩ :: [])))))))))))) 11 48 ((Value.int .u64 0) :: ((Value.int .u64 0) :: ((Value.int .u32 0) :: ((Value.int .u8 0) :: ((Value.int .u8 0) :: ((Value.int .u8 0) :: ((Value.int .u8 0) :: (Value.nilFunc :: ((Value.pointer none) :: ((Value.int .i32 0) :: ((Value.int .i32 0) :: []))))))))))) true false) := rfl
attribute [go_sem] Int.reduceToNat Int.reducePow Nat.reducePow Int.reduceAdd Int.reduceMul Int.reduceSub Int.reduceNeg Nat.reduceAdd Nat.reduceMul Nat.reduceSub Nat.reduceEqDiff Nat.reduceLT Nat.reduceLeDiff
end Go.Proofs.YtckhjklcfagkoaaDoor