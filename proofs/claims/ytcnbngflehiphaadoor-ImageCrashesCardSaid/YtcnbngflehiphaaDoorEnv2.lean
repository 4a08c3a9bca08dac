/- The types of this program, as tables, and what is known of its package-level variables. No conditions. -/
import Derived.Test.YtcnbngflehiphaaDoorAc4
import Derived.Test.YtcnbngflehiphaaDoorProg
import Derived.KernelRfl
namespace Go.Proofs.YtcnbngflehiphaaDoor
open Go Go.Ab
theorem gn0 : Tryd.prog.globalNamed "internal/strconv.uint64pow10" = some 2 := by kernel_rfl
def Gl (Z : Nat → Prop) (w : World) : Prop := (Z 2 ∧ Z 1) ∧ Lib.TabIs Tryd.prog w "internal/strconv.uint64pow10" .u64 Lib.pow10Tab ∧ ∃ m, w.cell? ⟨1, 0, none⟩ = some (.int .i64 m)
noncomputable instance : Glob where
 G := Gl
 mono := fun hz hk h => ⟨⟨hz _ h.1.1, hz _ h.1.2⟩, tabIs_keep gn0 (hk _ h.1.1) h.2.1, by obtain ⟨m, hm⟩ := h.2.2; exact ⟨m, by rw [← hm]; exact cell_of_heap (hk _ h.1.2)⟩⟩
 tab := []
 bld := 91
 slots := slotOf [(69, 25), (42, 26), (34, 26), (74, 6), (46, 6), (45, 6), (72, 6), (47, 26)]
 ok := fun _ h => by simp [gfind] at h
instance : Quick := ⟨fun h => h⟩
@[go_sem] theorem bldE : (Glob.bld : TypeId) = 91 := rfl
@[go_sem] theorem slotsE (g : Nat) : Glob.slots g = slotOf [(69, 25), (42, 26), (34, 26), (74, 6), (46, 6), (45, 6), (72, 6), (47, 26)] g := rfl
noncomputable def tys : List (TypeId × TyI) := [
 (2, (TyI.mk (TK.int .i64) 1 8 ((Value.int .i64 0) :: []) false false)),
 (3, (TyI.mk (TK.int .i64) 1 8 ((Value.int .i64 0) :: []) false false)),
 (4, (TyI.mk TK.bool 1 1 ((Value.bool false) :: []) false false)),
 (5, (TyI.mk (TK.int .u8) 1 1 ((Value.int .u8 0) :: []) false false)),
 (6, (TyI.mk (TK.int .u8) 1 1 ((Value.int .u8 0) :: []) false false)),
 (7, (TyI.mk (TK.struct (⟨0, 1, 2, true, false⟩ :: (⟨1, 1, 3, true, false⟩ :: (⟨2, 1, 4, true, false⟩ :: (⟨3, 1, 6, true, false⟩ :: []))))) 4 24 ((Value.int .i64 0) :: ((Value.int .i64 0) :: ((Value.bool false) :: ((Value.int .u8 0) :: [])))) false false)),
 (8, (TyI.mk (TK.struct (⟨0, 1, 2, true, false⟩ :: (⟨1, 1, 3, true, false⟩ :: (⟨2, 1, 4, true, false⟩ :: (⟨3, 1, 6, true, false⟩ :: []))))) 4 24 ((Value.int .i64 0) :: ((Value.int .i64 0) :: ((Value.bool false) :: ((Value.int .u8 0) :: [])))) false false)),
 (9, (TyI.mk TK.str 1 16 ((Value.string (ByteArray.mk (Array.mk []))) :: []) false false)),
 (10, (TyI.mk TK.str 1 16 ((Value.string (ByteArray.mk (Array.mk []))) :: []) false false)),
 (11, (TyI.mk TK.str 1 16 ((Value.string (ByteArray.mk (Array.mk []))) :: []) false false)),
 (12, (TyI.mk (TK.int .u64) 1 8 ((Value.int .u64 0) :: []) false false)),
 (13, (TyI.mk (TK.struct (⟨0, 1, 9, true, false⟩ :: (⟨1, 1, 12, true, false⟩ :: []))) 2 24 ((Value.string (ByteArray.mk (Array.mk []))) :: ((Value.int .u64 0) :: [])) true false)),
 (14, (TyI.mk (TK.struct (⟨0, 1, 9, true, false⟩ :: (⟨1, 1, 12, true, false⟩ :: []))) 2 24 ((Value.string (ByteArray.mk (Array.mk []))) :: ((Value.int .u64 0) :: [])) true false)),
 (15, (TyI.mk (TK.ptr 179) 1 8 ((Value.pointer none) :: []) false false)),
 (16, (TyI.mk (TK.ptr 182) 1 8 ((Value.pointer none) :: []) false false)),
 (17, (TyI.mk (TK.ptr 189) 1 8 ((Value.pointer none) :: []) false false)),
 (19, (TyI.mk (TK.struct (⟨0, 1, 17, true, false⟩ :: [])) 1 8 ((Value.pointer none) :: []) true false)),
 (22, (TyI.mk (TK.slice 5 1 1 (Value.int .u8 0)) 1 24 ((Value.slice none 0 0) :: []) false false)),
 (24, (TyI.mk (TK.struct (⟨0, 1, 9, true, false⟩ :: [])) 1 16 ((Value.string (ByteArray.mk (Array.mk []))) :: []) false false)),
 (25, (TyI.mk (TK.struct (⟨0, 1, 9, true, false⟩ :: [])) 1 16 ((Value.string (ByteArray.mk (Array.mk []))) :: []) false false)),
 (26, (TyI.mk (TK.int .i64) 1 8 ((Value.int .i64 0) :: []) false false)),
 (27, (TyI.mk TK.other 1 0 ((Value.tuple (Array.mk ((Value.agg (Array.mk ((Value.string (ByteArray.mk (Array.mk []))) :: []))) :: ((Value.int .i64 0) :: [])))) :: []) false false)),
 (31, (TyI.mk TK.func 1 8 (Value.nilFunc :: []) false false)),
 (32, (TyI.mk TK.func 1 8 (Value.nilFunc :: []) false false)),
 (34, (TyI.mk TK.func 1 8 (Value.nilFunc :: []) false false)),
 (36, (TyI.mk TK.func 1 8 (Value.nilFunc :: []) false false)),
 (38, (TyI.mk (TK.slice 3 1 8 (Value.int .i64 0)) 1 24 ((Value.slice none 0 0) :: []) false false)),
 (40, (TyI.mk TK.func 1 8 (Value.nilFunc :: []) false false)),
 (41, (TyI.mk TK.func 1 8 (Value.nilFunc :: []) false false)),
 (42, (TyI.mk (TK.int .u64) 1 8 ((Value.int .u64 0) :: []) false false)),
 (48, (TyI.mk TK.func 1 8 (Value.nilFunc :: []) false false)),
 (49, (TyI.mk TK.func 1 8 (Value.nilFunc :: []) false false)),
 (50, (TyI.mk TK.func 1 8 (Value.nilFunc :: []) false false)),
 (52, (TyI.mk TK.func 1 8 (Value.nilFunc :: []) false false)),
 (53, (TyI.mk (TK.int .u32) 1 4 ((Value.int .u32 0) :: []) false false)),
 (55, (TyI.mk TK.func 1 8 (Value.nilFunc :: []) false false)),
 (58, (TyI.mk (TK.ptr 103) 1 8 ((Value.pointer none) :: []) false false)),
 (59, (TyI.mk TK.other 1 0 ((Value.tuple (Array.mk ((Value.pointer none) :: ((Value.int .i64 0) :: [])))) :: []) false false)),
 (61, (TyI.mk TK.func 1 8 (Value.nilFunc :: []) false false)),
 (64, (TyI.mk (TK.int .u16) 1 2 ((Value.int .u16 0) :: []) false false)),
 (65, (TyI.mk (TK.struct (⟨0, 1, 64, true, false⟩ :: (⟨1, 1, 5, true, false⟩ :: (⟨2, 1, 9, true, false⟩ :: [])))) 3 24 ((Value.int .u16 0) :: ((Value.int .u8 0) :: ((Value.string (ByteArray.mk (Array.mk []))) :: []))) false false)),
 (74, (TyI.mk (TK.slice 79 3 16 (Value.agg (Array.mk ((Value.int .u8 0) :: ((Value.int .u8 0) :: ((Value.int .u64 0) :: [])))))) 1 24 ((Value.slice none 0 0) :: []) false false)),
 (76, (TyI.mk (TK.ptr 125) 1 8 ((Value.pointer none) :: []) false false)),
 (79, (TyI.mk (TK.struct (⟨0, 1, 5, true, false⟩ :: (⟨1, 1, 5, true, false⟩ :: (⟨2, 1, 42, true, false⟩ :: [])))) 3 16 ((Value.int .u8 0) :: ((Value.int .u8 0) :: ((Value.int .u64 0) :: []))) false false)),
 (82, (TyI.mk TK.func 1 8 (Value.nilFunc :: []) false false)),
 (84, (TyI.mk TK.func 1 8 (Value.nilFunc :: []) false false)),
 (87, (TyI.mk TK.func 1 8 (Value.nilFunc :: []) false false)),
 (88, (TyI.mk (TK.int .u64) 1 8 ((Value.int .u64 0) :: []) false false)),
 (89, (TyI.mk (TK.ptr 91) 1 8 ((Value.pointer none) :: []) false false)),
 (91, (TyI.mk (TK.struct (⟨0, 1, 89, true, false⟩ :: (⟨1, 1, 22, true, false⟩ :: []))) 2 32 ((Value.pointer none) :: ((Value.slice none 0 0) :: [])) false false)),
 (93, (TyI.mk (TK.iface false) 1 16 (Value.nilIface :: []) false true)),
 (94, (TyI.mk TK.other 1 0 ((Value.tuple (Array.mk ((Value.int .i64 0) :: (Value.nilIface :: [])))) :: []) false false)),
 (95, (TyI.mk TK.func 1 8 (Value.nilFunc :: []) false false)),
 (99, (TyI.mk (TK.slice 42 1 8 (Value.int .u64 0)) 1 24 ((Value.slice none 0 0) :: []) false false)),
 (100, (TyI.mk (TK.slice 106 2 32 (Value.agg (Array.mk ((Value.int .u64 0) :: ((Value.slice none 0 0) :: []))))) 1 24 ((Value.slice none 0 0) :: []) false false)),
 (101, (TyI.mk (TK.arr 8 76 1 false) 8 64 ((Value.pointer none) :: ((Value.pointer none) :: ((Value.pointer none) :: ((Value.pointer none) :: ((Value.pointer none) :: ((Value.pointer none) :: ((Value.pointer none) :: ((Value.pointer none) :: [])))))))) false false)),
 (102, (TyI.mk (TK.struct (⟨0, 1, 99, true, false⟩ :: (⟨1, 1, 99, true, false⟩ :: (⟨2, 1, 100, true, false⟩ :: (⟨3, 8, 101, true, true⟩ :: (⟨11, 1, 4, true, false⟩ :: (⟨12, 1, 4, true, false⟩ :: (⟨13, 1, 3, true, false⟩ :: (⟨14, 1, 42, true, false⟩ :: []))))))))) 15 160 ((Value.slice none 0 0) :: ((Value.slice none 0 0) :: ((Value.slice none 0 0) :: ((Value.pointer none) :: ((Value.pointer none) :: ((Value.pointer none) :: ((Value.pointer none) :: ((Value.pointer none) :: ((Value.pointer none) :: ((Value.pointer none) :: ((Value.pointer none) :: ((Value.bool false) :: ((Value.bool false) :: ((Value.int .i64 0) :: ((Value.int .u64 0) :: []))))))))))))))) false false)),
 (103, (TyI.mk (TK.struct (⟨0, 1, 99, true, false⟩ :: (⟨1, 1, 99, true, false⟩ :: (⟨2, 1, 100, true, false⟩ :: (⟨3, 8, 101, true, true⟩ :: (⟨11, 1, 4, true, false⟩ :: (⟨12, 1, 4, true, false⟩ :: (⟨13, 1, 3, true, false⟩ :: (⟨14, 1, 42, true, false⟩ :: []))))))))) 15 160 ((Value.slice none 0 0) :: ((Value.slice none 0 0) :: ((Value.slice none 0 0) :: ((Value.pointer none) :: ((Value.pointer none) :: ((Value.pointer none) :: ((Value.pointer none) :: ((Value.pointer none) :: ((Value.pointer none) :: ((Value.pointer none) :: ((Value.pointer none) :: ((Value.bool false) :: ((Value.bool false) :: ((Value.int .i64 0) :: ((Value.int .u64 0) :: []))))))))))))))) false false)),
 (104, (TyI.mk (TK.slice 144 2 16 (Value.agg (Array.mk ((Value.int .u64 0) :: ((Value.int .u64 0) :: []))))) 1 24 ((Value.slice none 0 0) :: []) false false)),
 (105, (TyI.mk (TK.struct (⟨0, 1, 42, true, false⟩ :: (⟨1, 1, 104, true, false⟩ :: []))) 2 32 ((Value.int .u64 0) :: ((Value.slice none 0 0) :: [])) false false)),
 (106, (TyI.mk (TK.struct (⟨0, 1, 42, true, false⟩ :: (⟨1, 1, 104, true, false⟩ :: []))) 2 32 ((Value.int .u64 0) :: ((Value.slice none 0 0) :: [])) false false)),
 (108, (TyI.mk TK.func 1 8 (Value.nilFunc :: []) false false)),
 (110, (TyI.mk TK.func 1 8 (Value.nilFunc :: []) false false)),
 (112, (TyI.mk TK.func 1 8 (Value.nilFunc :: []) false false)),
 (115, (TyI.mk (TK.arr 8 42 1 false) 8 64 ((Value.int .u64 0) :: ((Value.int .u64 0) :: ((Value.int .u64 0) :: ((Value.int .u64 0) :: ((Value.int .u64 0) :: ((Value.int .u64 0) :: ((Value.int .u64 0) :: ((Value.int .u64 0) :: [])))))))) false false)),
 (122, (TyI.mk TK.func 1 8 (Value.nilFunc :: []) false false)),
 (123, (TyI.mk (TK.map 3 42 (Value.int .u64 0)) 1 8 ((Value.map none) :: []) false false)),
 (125, (TyI.mk (TK.struct (⟨0, 1, 58, true, false⟩ :: (⟨1, 1, 3, true, false⟩ :: (⟨2, 1, 26, true, false⟩ :: (⟨3, 1, 123, true, false⟩ :: []))))) 4 32 ((Value.pointer none) :: ((Value.int .i64 0) :: ((Value.int .i64 0) :: ((Value.map none) :: [])))) false false)),
 (128, (TyI.mk (TK.ptr 106) 1 8 ((Value.pointer none) :: []) false false)),
 (140, (TyI.mk (TK.ptr 5) 1 8 ((Value.pointer none) :: []) false false)),
 (144, (TyI.mk (TK.struct (⟨0, 1, 42, true, false⟩ :: (⟨1, 1, 42, true, false⟩ :: []))) 2 16 ((Value.int .u64 0) :: ((Value.int .u64 0) :: [])) false false)),
 (147, (TyI.mk TK.func 1 8 (Value.nilFunc :: []) false false)),
 (159, (TyI.mk TK.other 1 0 ((Value.tuple (Array.mk ((Value.slice none 0 0) :: ((Value.string (ByteArray.mk (Array.mk []))) :: [])))) :: []) false false)),
 (160, (TyI.mk TK.func 1 8 (Value.nilFunc :: []) false false)),
 (161, (TyI.mk TK.func 1 8 (Value.nilFunc :: []) false false)),
 (179, (TyI.mk (TK.struct (⟨0, 1, 17, true, false⟩ :: (⟨1, 1, 17, true, false⟩ :: (⟨2, 1, 17, true, false⟩ :: (⟨3, 1, 9, true, false⟩ :: []))))) 4 40 ((Value.pointer none) :: ((Value.pointer none) :: ((Value.pointer none) :: ((Value.string (ByteArray.mk (Array.mk []))) :: [])))) true false)),
 (180, (TyI.mk (TK.arr 0 16 1 false) 0 0 [] false false)),
 (182, (TyI.mk (TK.struct (⟨0, 0, 180, false, true⟩ :: [])) 0 0 [] true false)),
 (183, (TyI.mk (TK.int .u8) 1 1 ((Value.int .u8 0) :: []) false false)),
 (184, (TyI.mk (TK.int .u8) 1 1 ((Value.int .u8 0) :: []) false false)),
 (185, (TyI.mk TK.func 1 8 (Value.nilFunc :: []) false false)),
 (186, (TyI.mk (TK.int .i32) 1 4 ((Value.int .i32 0) :: []) false false)),
 (187, (TyI.mk (TK.int .i32) 1 4 ((Value.int .i32 0) :: []) false false)),
 (189, (TyI.mk (TK.struct (⟨0, 1, 12, true, false⟩ :: (⟨1, 1, 12, true, false⟩ :: (⟨2, 1, 53, true, false⟩ :: (⟨3, 1, 183, true, false⟩ :: (⟨4, 1, 5, true, false⟩ :: (⟨5, 1, 5, true, false⟩ :: (⟨6, 1, 184, true, false⟩ :: (⟨7, 1, 185, true, false⟩ :: (⟨8, 1, 140, true, false⟩ :: (⟨9, 1, 186, true, false⟩ :: (⟨10, 1, 187, true, false⟩ :: [])))))))))))) 11 48 ((Value.int .u64 0) :: ((Value.int .u64 0) :: ((Value.int .u32 0) :: ((Value.int .u8 0) :: ((Value.int .u8 0) :: ((Value.int .u8 0) :: ((Value.int .u8 0) :: (Value.nilFunc :: ((Value.pointer none) :: ((Value.int .i32 0) :: ((Value.int .i32 0) :: []))))))))))) true false))
]
theorem tysOk : tys.map (fun p => tyOf Tryd.prog p.1) = tys.map (fun p => some p.2) := by kernel_rfl
theorem mixed : Tryd.prog.follows .mixedOrders = true := by kernel_rfl
noncomputable def E : Env := ⟨Tryd.prog, tys, tfind_ok tysOk, mixed⟩
@[go_sem] theorem ty2 : tfind E.tys 2 = some (TyI.mk (TK.int .i64) 1 8 ((Value.int .i64 0) :: []) false false) := rfl
@[go_sem] theorem ty3 : tfind E.tys 3 = some (TyI.mk (TK.int .i64) 1 8 ((Value.int .i64 0) :: []) false false) := rfl
@[go_sem] theorem ty4 : tfind E.tys 4 = some (TyI.mk TK.bool 1 1 ((Value.bool false) :: []) false false) := rfl
@[go_sem] theorem ty5 : tfind E.tys 5 = some (TyI.mk (TK.int .u8) 1 1 ((Value.int .u8 0) :: []) false false) := rfl
@[go_sem] theorem ty6 : tfind E.tys 6 = some (TyI.mk (TK.int .u8) 1 1 ((Value.int .u8 0) :: []) false false) := rfl
@[go_sem] theorem ty7 : tfind E.tys 7 = some (TyI.mk (TK.struct (⟨0, 1, 2, true, false⟩ :: (⟨1, 1, 3, true, false⟩ :: (⟨2, 1, 4, true, false⟩ :: (⟨3, 1, 6, true, false⟩ :: []))))) 4 24 ((Value.int .i64 0) :: ((Value.int .i64 0) :: ((Value.bool false) :: ((Value.int .u8 0) :: [])))) false false) := rfl
@[go_sem] theorem ty8 : tfind E.tys 8 = some (TyI.mk (TK.struct (⟨0, 1, 2, true, false⟩ :: (⟨1, 1, 3, true, false⟩ :: (⟨2, 1, 4, true, false⟩ :: (⟨3, 1, 6, true, false⟩ :: []))))) 4 24 ((Value.int .i64 0) :: ((Value.int .i64 0) :: ((Value.bool false) :: ((Value.int .u8 0) :: [])))) false false) := rfl
@[go_sem] theorem ty9 : tfind E.tys 9 = some (TyI.mk TK.str 1 16 ((Value.string (ByteArray.mk (Array.mk []))) :: []) false false) := rfl
@[go_sem] theorem ty10 : tfind E.tys 10 = some (TyI.mk TK.str 1 16 ((Value.string (ByteArray.mk (Array.mk []))) :: []) false false) := rfl
@[go_sem] theorem ty11 : tfind E.tys 11 = some (TyI.mk TK.str 1 16 ((Value.string (ByteArray.mk (Array.mk []))) :: []) false false) := rfl
@[go_sem] theorem ty12 : tfind E.tys 12 = some (TyI.mk (TK.int .u64) 1 8 ((Value.int .u64 0) :: []) false false) := rfl
@[go_sem] theorem ty13 : tfind E.tys 13 = some (TyI.mk (TK.struct (⟨0, 1, 9, true, false⟩ :: (⟨1, 1, 12, true, false⟩ :: []))) 2 24 ((Value.string (ByteArray.mk (Array.mk []))) :: ((Value.int .u64 0) :: [])) true false) := rfl
@[go_sem] theorem ty14 : tfind E.tys 14 = some (TyI.mk (TK.struct (⟨0, 1, 9, true, false⟩ :: (⟨1, 1, 12, true, false⟩ :: []))) 2 24 ((Value.string (ByteArray.mk (Array.mk []))) :: ((Value.int .u64 0) :: [])) true false) := rfl
@[go_sem] theorem ty19 : tfind E.tys 19 = some (TyI.mk (TK.struct (⟨0, 1, 17, true, false⟩ :: [])) 1 8 ((Value.pointer none) :: []) true false) := rfl
@[go_sem] theorem ty22 : tfind E.tys 22 = some (TyI.mk (TK.slice 5 1 1 (Value.int .u8 0)) 1 24 ((Value.slice none 0 0) :: []) false false) := rfl
@[go_sem] theorem ty24 : tfind E.tys 24 = some (TyI.mk (TK.struct (⟨0, 1, 9, true, false⟩ :: [])) 1 16 ((Value.string (ByteArray.mk (Array.mk []))) :: []) false false) := rfl
@[go_sem] theorem ty25 : tfind E.tys 25 = some (TyI.mk (TK.struct (⟨0, 1, 9, true, false⟩ :: [])) 1 16 ((Value.string (ByteArray.mk (Array.mk []))) :: []) false false) := rfl
@[go_sem] theorem ty26 : tfind E.tys 26 = some (TyI.mk (TK.int .i64) 1 8 ((Value.int .i64 0) :: []) false false) := rfl
@[go_sem] theorem ty38 : tfind E.tys 38 = some (TyI.mk (TK.slice 3 1 8 (Value.int .i64 0)) 1 24 ((Value.slice none 0 0) :: []) false false) := rfl
@[go_sem] theorem ty42 : tfind E.tys 42 = some (TyI.mk (TK.int .u64) 1 8 ((Value.int .u64 0) :: []) false false) := rfl
@[go_sem] theorem ty53 : tfind E.tys 53 = some (TyI.mk (TK.int .u32) 1 4 ((Value.int .u32 0) :: []) false false) := rfl
@[go_sem] theorem ty64 : tfind E.tys 64 = some (TyI.mk (TK.int .u16) 1 2 ((Value.int .u16 0) :: []) false false) := rfl
@[go_sem] theorem ty65 : tfind E.tys 65 = some (TyI.mk (TK.struct (⟨0, 1, 64, true, false⟩ :: (⟨1, 1, 5, true, false⟩ :: (⟨2, 1, 9, true, false⟩ :: [])))) 3 24 ((Value.int .u16 0) :: ((Value.int .u8 0) :: ((Value.string (ByteArray.mk (Array.mk []))) :: []))) false false) := rfl
@[go_sem] theorem ty74 : tfind E.tys 74 = some (TyI.mk (TK.slice 79 3 16 (Value.agg (Array.mk ((Value.int .u8 0) :: ((Value.int .u8 0) :: ((Value.int .u64 0) :: [])))))) 1 24 ((Value.slice none 0 0) :: []) false false) := rfl
@[go_sem] theorem ty79 : tfind E.tys 79 = some (TyI.mk (TK.struct (⟨0, 1, 5, true, false⟩ :: (⟨1, 1, 5, true, false⟩ :: (⟨2, 1, 42, true, false⟩ :: [])))) 3 16 ((Value.int .u8 0) :: ((Value.int .u8 0) :: ((Value.int .u64 0) :: []))) false false) := rfl
@[go_sem] theorem ty88 : tfind E.tys 88 = some (TyI.mk (TK.int .u64) 1 8 ((Value.int .u64 0) :: []) false false) := rfl
@[go_sem] theorem ty91 : tfind E.tys 91 = some (TyI.mk (TK.struct (⟨0, 1, 89, true, false⟩ :: (⟨1, 1, 22, true, false⟩ :: []))) 2 32 ((Value.pointer none) :: ((Value.slice none 0 0) :: [])) false false) := rfl
@[go_sem] theorem ty93 : tfind E.tys 93 = some (TyI.mk (TK.iface false) 1 16 (Value.nilIface :: []) false true) := rfl
@[go_sem] theorem ty99 : tfind E.tys 99 = some (TyI.mk (TK.slice 42 1 8 (Value.int .u64 0)) 1 24 ((Value.slice none 0 0) :: []) false false) := rfl
@[go_sem] theorem ty100 : tfind E.tys 100 = some (TyI.mk (TK.slice 106 2 32 (Value.agg (Array.mk ((Value.int .u64 0) :: ((Value.slice none 0 0) :: []))))) 1 24 ((Value.slice none 0 0) :: []) false false) := rfl
@[go_sem] theorem ty101 : tfind E.tys 101 = some (TyI.mk (TK.arr 8 76 1 false) 8 64 ((Value.pointer none) :: ((Value.pointer none) :: ((Value.pointer none) :: ((Value.pointer none) :: ((Value.pointer none) :: ((Value.pointer none) :: ((Value.pointer none) :: ((Value.pointer none) :: [])))))))) false false) := rfl
@[go_sem] theorem ty102 : tfind E.tys 102 = some (TyI.mk (TK.struct (⟨0, 1, 99, true, false⟩ :: (⟨1, 1, 99, true, false⟩ :: (⟨2, 1, 100, true, false⟩ :: (⟨3, 8, 101, true, true⟩ :: (⟨11, 1, 4, true, false⟩ :: (⟨12, 1, 4, true, false⟩ :: (⟨13, 1, 3, true, false⟩ :: (⟨14, 1, 42, true, false⟩ :: []))))))))) 15 160 ((Value.slice none 0 0) :: ((Value.slice none 0 0) :: ((Value.slice none 0 0) :: ((Value.pointer none) :: ((Value.pointer none) :: ((Value.pointer none) :: ((Value.pointer none) :: ((Value.pointer none) :: ((Value.pointer none) :: ((Value.pointer none) :: ((Value.pointer none) :: ((Value.bool false) :: ((Value.bool false) :: ((Value.int .i64 0) :: ((Value.int .u64 0) :: []))))))))))))))) false false) := rfl
@[go_sem] theorem ty103 : tfind E.tys 103 = some (TyI.mk (TK.struct (⟨0, 1, 99, true, false⟩ :: (⟨1, 1, 99, true, false⟩ :: (⟨2, 1, 100, true, false⟩ :: (⟨3, 8, 101, true, true⟩ :: (⟨11, 1, 4, true, false⟩ :: (⟨12, 1, 4, true, false⟩ :: (⟨13, 1, 3, true, false⟩ :: (⟨14, 1, 42, true, false⟩ :: []))))))))) 15 160 ((Value.slice none 0 0) :: ((Value.slice none 0 0) :: ((Value.slice none 0 0) :: ((Value.pointer none) :: ((Value.pointer none) :: ((Value.pointer none) :: ((Value.pointer none) :: ((Value.pointer none) :: ((Value.pointer none) :: ((Value.pointer none) :: ((Value.pointer none) :: ((Value.bool false) :: ((Value.bool false) :: ((Value.int .i64 0) :: ((Value.int .u64 0) :: []))))))))))))))) false false) := rfl
@[go_sem] theorem ty104 : tfind E.tys 104 = some (TyI.mk (TK.slice 144 2 16 (Value.agg (Array.mk ((Value.int .u64 0) :: ((Value.int .u64 0) :: []))))) 1 24 ((Value.slice none 0 0) :: []) false false) := rfl
@[go_sem] theorem ty105 : tfind E.tys 105 = some (TyI.mk (TK.struct (⟨0, 1, 42, true, false⟩ :: (⟨1, 1, 104, true, false⟩ :: []))) 2 32 ((Value.int .u64 0) :: ((Value.slice none 0 0) :: [])) false false) := rfl
@[go_sem] theorem ty106 : tfind E.tys 106 = some (TyI.mk (TK.struct (⟨0, 1, 42, true, false⟩ :: (⟨1, 1, 104, true, false⟩ :: []))) 2 32 ((Value.int .u64 0) :: ((Value.slice none 0 0) :: [])) false false) := rfl
@[go_sem] theorem ty115 : tfind E.tys 115 = some (TyI.mk (TK.arr 8 42 1 false) 8 64 ((Value.int .u64 0) :: ((Value.int .u64 0) :: ((Value.int .u64 0) :: ((Value.int .u64 0) :: ((Value.int .u64 0) :: ((Value.int .u64 0) :: ((Value.int .u64 0) :: ((Value.int .u64 0) :: [])))))))) false false) := rfl
@[go_sem] theorem ty123 : tfind E.tys 123 = some (TyI.mk (TK.map 3 42 (Value.int .u64 0)) 1 8 ((Value.map none) :: []) false false) := rfl
@[go_sem] theorem ty125 : tfind E.tys 125 = some (TyI.mk (TK.struct (⟨0, 1, 58, true, false⟩ :: (⟨1, 1, 3, true, false⟩ :: (⟨2, 1, 26, true, false⟩ :: (⟨3, 1, 123, true, false⟩ :: []))))) 4 32 ((Value.pointer none) :: ((Value.int .i64 0) :: ((Value.int .i64 0) :: ((Value.map none) :: [])))) false false) := rfl
@[go_sem] theorem ty144 : tfind E.tys 144 = some (TyI.mk (TK.struct (⟨0, 1, 42, true, false⟩ :: (⟨1, 1, 42, true, false⟩ :: []))) 2 16 ((Value.int .u64 0) :: ((Value.int .u64 0) :: [])) false false) := rfl
@[go_sem] theorem ty179 : tfind E.tys 179 = some (TyI.mk (TK.struct (⟨0, 1, 17, true, false⟩ :: (⟨1, 1, 17, true, false⟩ :: (⟨2, 1, 17, true, false⟩ :: (⟨3, 1, 9, true, false⟩ :: []))))) 4 40 ((Value.pointer none) :: ((Value.pointer none) :: ((Value.pointer none) :: ((Value.string (ByteArray.mk (Array.mk []))) :: [])))) true false) := rfl
@[go_sem] theorem ty180 : tfind E.tys 180 = some (TyI.mk (TK.arr 0 16 1 false) 0 0 [] false false) := rfl
@[go_sem] theorem ty182 : tfind E.tys 182 = some (TyI.mk (TK.struct (⟨0, 0, 180, false, true⟩ :: [])) 0 0 [] true false) := rfl
@[go_sem] theorem ty183 : tfind E.tys 183 = some (TyI.mk (TK.int .u8) 1 1 ((Value.int .u8 0) :: []) false false) := rfl
@[go_sem] theorem ty184 : tfind E.tys 184 = some (TyI.mk (TK.int .u8) 1 1 ((Value.int .u8 0) :: []) false false) := rfl
@[go_sem] theorem ty186 : tfind E.tys 186 = some (TyI.mk (TK.int .i32) 1 4 ((Value.int .i32 0) :: []) false false) := rfl
@[go_sem] theorem ty187 : tfind E.tys 187 = some (TyI.mk (TK.int .i32) 1 4 ((Value.int .i32 0) :: []) false false) := rfl
@[go_sem] theorem ty189 : tfind E.tys 189 = some (TyI.mk (TK.struct (⟨0, 1, 12, true, false⟩ :: (⟨1, 1, 12, true, false⟩ :: (⟨2, 1, 53, true, false⟩ :: (⟨3, 1, 183, true, false⟩ :: (⟨4, 1, 5, true, false⟩ :: (⟨5, 1, 5, true, false⟩ :: (⟨6, 1, 184, true, false⟩ :: (⟨7, 1, 185, true, false⟩ :: (⟨8, 1, 140, true, false⟩ :: (⟨9, 1, 186, true, false⟩ :: (⟨10, 1, 187, true, false⟩ :: [])))))))))))) 11 48 ((Value.int .u64 0) :: ((Value.int .u64 0) :: ((Value.int .u32 0) :: ((Value.int .u8 0) :: ((Value.int .u8 0) :: ((Value.int .u8 0) :: ((Value.int .u8 0) :: (Value.nilFunc :: ((Value.pointer none) :: ((Value.int .i32 0) :: ((Value.int .i32 0) :: []))))))))))) true false) := rfl
@[go_sem ↓] theorem wt2 (k : TyI → Prop) : withTy E 2 k = k (TyI.mk (TK.int .i64) 1 8 ((Value.int .i64 0) :: []) false false) := rfl
@[go_sem ↓] theorem wt3 (k : TyI → Prop) : withTy E 3 k = k (TyI.mk (TK.int .i64) 1 8 ((Value.int .i64 0) :: []) false false) := rfl
@[go_sem ↓] theorem wt4 (k : TyI → Prop) : withTy E 4 k = k (TyI.mk TK.bool 1 1 ((Value.bool false) :: []) false false) := rfl
@[go_sem ↓] theorem wt5 (k : TyI → Prop) : withTy E 5 k = k (TyI.mk (TK.int .u8) 1 1 ((Value.int .u8 0) :: []) false false) := rfl
@[go_sem ↓] theorem wt6 (k : TyI → Prop) : withTy E 6 k = k (TyI.mk (TK.int .u8) 1 1 ((Value.int .u8 0) :: []) false false) := rfl
@[go_sem ↓] theorem wt7 (k : TyI → Prop) : withTy E 7 k = k (TyI.mk (TK.struct (⟨0, 1, 2, true, false⟩ :: (⟨1, 1, 3, true, false⟩ :: (⟨2, 1, 4, true, false⟩ :: (⟨3, 1, 6, true, false⟩ :: []))))) 4 24 ((Value.int .i64 0) :: ((Value.int .i64 0) :: ((Value.bool false) :: ((Value.int .u8 0) :: [])))) false false) := rfl
@[go_sem ↓] theorem wt8 (k : TyI → Prop) : withTy E 8 k = k (TyI.mk (TK.struct (⟨0, 1, 2, true, false⟩ :: (⟨1, 1, 3, true, false⟩ :: (⟨2, 1, 4, true, false⟩ :: (⟨3, 1, 6, true, false⟩ :: []))))) 4 24 ((Value.int .i64 0) :: ((Value.int .i64 0) :: ((Value.bool false) :: ((Value.int .u8 0) :: [])))) false false) := rfl
@[go_sem ↓] theorem wt9 (k : TyI → Prop) : withTy E 9 k = k (TyI.mk TK.str 1 16 ((Value.string (ByteArray.mk (Array.mk []))) :: []) false false) := rfl
@[go_sem ↓] theorem wt10 (k : TyI → Prop) : withTy E 10 k = k (TyI.mk TK.str 1 16 ((Value.string (ByteArray.mk (Array.mk []))) :: []) false false) := rfl
@[go_sem ↓] theorem wt11 (k : TyI → Prop) : withTy E 11 k = k (TyI.mk TK.str 1 16 ((Value.string (ByteArray.mk (Array.mk []))) :: []) false false) := rfl
@[go_sem ↓] theorem wt12 (k : TyI → Prop) : withTy E 12 k = k (TyI.mk (TK.int .u64) 1 8 ((Value.int .u64 0) :: []) false false) := rfl
@[go_sem ↓] theorem wt13 (k : TyI → Prop) : withTy E 13 k = k (TyI.mk (TK.struct (⟨0, 1, 9, true, false⟩ :: (⟨1, 1, 12, true, false⟩ :: []))) 2 24 ((Value.string (ByteArray.mk (Array.mk []))) :: ((Value.int .u64 0) :: [])) true false) := rfl
@[go_sem ↓] theorem wt14 (k : TyI → Prop) : withTy E 14 k = k (TyI.mk (TK.struct (⟨0, 1, 9, true, false⟩ :: (⟨1, 1, 12, true, false⟩ :: []))) 2 24 ((Value.string (ByteArray.mk (Array.mk []))) :: ((Value.int .u64 0) :: [])) true false) := rfl
@[go_sem ↓] theorem wt15 (k : TyI → Prop) : withTy E 15 k = k (TyI.mk (TK.ptr 179) 1 8 ((Value.pointer none) :: []) false false) := rfl
@[go_sem ↓] theorem wt16 (k : TyI → Prop) : withTy E 16 k = k (TyI.mk (TK.ptr 182) 1 8 ((Value.pointer none) :: []) false false) := rfl
@[go_sem ↓] theorem wt17 (k : TyI → Prop) : withTy E 17 k = k (TyI.mk (TK.ptr 189) 1 8 ((Value.pointer none) :: []) false false) := rfl
@[go_sem ↓] theorem wt19 (k : TyI → Prop) : withTy E 19 k = k (TyI.mk (TK.struct (⟨0, 1, 17, true, false⟩ :: [])) 1 8 ((Value.pointer none) :: []) true false) := rfl
@[go_sem ↓] theorem wt22 (k : TyI → Prop) : withTy E 22 k = k (TyI.mk (TK.slice 5 1 1 (Value.int .u8 0)) 1 24 ((Value.slice none 0 0) :: []) false false) := rfl
@[go_sem ↓] theorem wt24 (k : TyI → Prop) : withTy E 24 k = k (TyI.mk (TK.struct (⟨0, 1, 9, true, false⟩ :: [])) 1 16 ((Value.string (ByteArray.mk (Array.mk []))) :: []) false false) := rfl
@[go_sem ↓] theorem wt25 (k : TyI → Prop) : withTy E 25 k = k (TyI.mk (TK.struct (⟨0, 1, 9, true, false⟩ :: [])) 1 16 ((Value.string (ByteArray.mk (Array.mk []))) :: []) false false) := rfl
@[go_sem ↓] theorem wt26 (k : TyI → Prop) : withTy E 26 k = k (TyI.mk (TK.int .i64) 1 8 ((Value.int .i64 0) :: []) false false) := rfl
@[go_sem ↓] theorem wt27 (k : TyI → Prop) : withTy E 27 k = k (TyI.mk TK.other 1 0 ((Value.tuple (Array.mk ((Value.agg (Array.mk ((Value.string (ByteArray.mk (Array.mk []))) :: []))) :: ((Value.int .i64 0) :: [])))) :: []) false false) := rfl
@[go_sem ↓] theorem wt31 (k : TyI → Prop) : withTy E 31 k = k (TyI.mk TK.func 1 8 (Value.nilFunc :: []) false false) := rfl
@[go_sem ↓] theorem wt32 (k : TyI → Prop) : withTy E 32 k = k (TyI.mk TK.func 1 8 (Value.nilFunc :: []) false false) := rfl
@[go_sem ↓] theorem wt34 (k : TyI → Prop) : withTy E 34 k = k (TyI.mk TK.func 1 8 (Value.nilFunc :: []) false false) := rfl
@[go_sem ↓] theorem wt36 (k : TyI → Prop) : withTy E 36 k = k (TyI.mk TK.func 1 8 (Value.nilFunc :: []) false false) := rfl
@[go_sem ↓] theorem wt38 (k : TyI → Prop) : withTy E 38 k = k (TyI.mk (TK.slice 3 1 8 (Value.int .i64 0)) 1 24 ((Value.slice none 0 0) :: []) false false) := rfl
@[go_sem ↓] theorem wt40 (k : TyI → Prop) : withTy E 40 k = k (TyI.mk TK.func 1 8 (Value.nilFunc :: []) false false) := rfl
@[go_sem ↓] theorem wt41 (k : TyI → Prop) : withTy E 41 k = k (TyI.mk TK.func 1 8 (Value.nilFunc :: []) false false) := rfl
@[go_sem ↓] theorem wt42 (k : TyI → Prop) : withTy E 42 k = k (TyI.mk (TK.int .u64) 1 8 ((Value.int .u64 0) :: []) false false) := rfl
@[go_sem ↓] theorem wt48 (k : TyI → Prop) : withTy E 48 k = k (TyI.mk TK.func 1 8 (Value.nilFunc :: []) false false) := rfl
@[go_sem ↓] theorem wt49 (k : TyI → Prop) : withTy E 49 k = k (TyI.mk TK.func 1 8 (Value.nilFunc :: []) false false) := rfl
@[go_sem ↓] theorem wt50 (k : TyI → Prop) : withTy E 50 k = k (TyI.mk TK.func 1 8 (Value.nilFunc :: []) false false) := rfl
@[go_sem ↓] theorem wt52 (k : TyI → Prop) : withTy E 52 k = k (TyI.mk TK.func 1 8 (Value.nilFunc :: []) false false) := rfl
@[go_sem ↓] theorem wt53 (k : TyI → Prop) : withTy E 53 k = k (TyI.mk (TK.int .u32) 1 4 ((Value.int .u32 0) :: []) false false) := rfl
@[go_sem ↓] theorem wt55 (k : TyI → Prop) : withTy E 55 k = k (TyI.mk TK.func 1 8 (Value.nilFunc :: []) false false) := rfl
@[go_sem ↓] theorem wt58 (k : TyI → Prop) : withTy E 58 k = k (TyI.mk (TK.ptr 103) 1 8 ((Value.pointer none) :: []) false false) := rfl
@[go_sem ↓] theorem wt59 (k : TyI → Prop) : withTy E 59 k = k (TyI.mk TK.other 1 0 ((Value.tuple (Array.mk ((Value.pointer none) :: ((Value.int .i64 0) :: [])))) :: []) false false) := rfl
@[go_sem ↓] theorem wt61 (k : TyI → Prop) : withTy E 61 k = k (TyI.mk TK.func 1 8 (Value.nilFunc :: []) false false) := rfl
@[go_sem ↓] theorem wt64 (k : TyI → Prop) : withTy E 64 k = k (TyI.mk (TK.int .u16) 1 2 ((Value.int .u16 0) :: []) false false) := rfl
@[go_sem ↓] theorem wt65 (k : TyI → Prop) : withTy E 65 k = k (TyI.mk (TK.struct (⟨0, 1, 64, true, false⟩ :: (⟨1, 1, 5, true, false⟩ :: (⟨2, 1, 9, true, false⟩ :: [])))) 3 24 ((Value.int .u16 0) :: ((Value.int .u8 0) :: ((Value.string (ByteArray.mk (Array.mk []))) :: []))) false false) := rfl
@[go_sem ↓] theorem wt74 (k : TyI → Prop) : withTy E 74 k = k (TyI.mk (TK.slice 79 3 16 (Value.agg (Array.mk ((Value.int .u8 0) :: ((Value.int .u8 0) :: ((Value.int .u64 0) :: [])))))) 1 24 ((Value.slice none 0 0) :: []) false false) := rfl
@[go_sem ↓] theorem wt76 (k : TyI → Prop) : withTy E 76 k = k (TyI.mk (TK.ptr 125) 1 8 ((Value.pointer none) :: []) false false) := rfl
@[go_sem ↓] theorem wt79 (k : TyI → Prop) : withTy E 79 k = k (TyI.mk (TK.struct (⟨0, 1, 5, true, false⟩ :: (⟨1, 1, 5, true, false⟩ :: (⟨2, 1, 42, true, false⟩ :: [])))) 3 16 ((Value.int .u8 0) :: ((Value.int .u8 0) :: ((Value.int .u64 0) :: []))) false false) := rfl
@[go_sem ↓] theorem wt82 (k : TyI → Prop) : withTy E 82 k = k (TyI.mk TK.func 1 8 (Value.nilFunc :: []) false false) := rfl
@[go_sem ↓] theorem wt84 (k : TyI → Prop) : withTy E 84 k = k (TyI.mk TK.func 1 8 (Value.nilFunc :: []) false false) := rfl
@[go_sem ↓] theorem wt87 (k : TyI → Prop) : withTy E 87 k = k (TyI.mk TK.func 1 8 (Value.nilFunc :: []) false false) := rfl
@[go_sem ↓] theorem wt88 (k : TyI → Prop) : withTy E 88 k = k (TyI.mk (TK.int .u64) 1 8 ((Value.int .u64 0) :: []) false false) := rfl
@[go_sem ↓] theorem wt89 (k : TyI → Prop) : withTy E 89 k = k (TyI.mk (TK.ptr 91) 1 8 ((Value.pointer none) :: []) false false) := rfl
@[go_sem ↓] theorem wt91 (k : TyI → Prop) : withTy E 91 k = k (TyI.mk (TK.struct (⟨0, 1, 89, true, false⟩ :: (⟨1, 1, 22, true, false⟩ :: []))) 2 32 ((Value.pointer none) :: ((Value.slice none 0 0) :: [])) false false) := rfl
@[go_sem ↓] theorem wt93 (k : TyI → Prop) : withTy E 93 k = k (TyI.mk (TK.iface false) 1 16 (Value.nilIface :: []) false true) := rfl
@[go_sem ↓] theorem wt94 (k : TyI → Prop) : withTy E 94 k = k (TyI.mk TK.other 1 0 ((Value.tuple (Array.mk ((Value.int .i64 0) :: (Value.nilIface :: [])))) :: []) false false) := rfl
@[go_sem ↓] theorem wt95 (k : TyI → Prop) : withTy E 95 k = k (TyI.mk TK.func 1 8 (Value.nilFunc :: []) false false) := rfl
@[go_sem ↓] theorem wt99 (k : TyI → Prop) : withTy E 99 k = k (TyI.mk (TK.slice 42 1 8 (Value.int .u64 0)) 1 24 ((Value.slice none 0 0) :: []) false false) := rfl
@[go_sem ↓] theorem wt100 (k : TyI → Prop) : withTy E 100 k = k (TyI.mk (TK.slice 106 2 32 (Value.agg (Array.mk ((Value.int .u64 0) :: ((Value.slice none 0 0) :: []))))) 1 24 ((Value.slice none 0 0) :: []) false false) := rfl
@[go_sem ↓] theorem wt101 (k : TyI → Prop) : withTy E 101 k = k (TyI.mk (TK.arr 8 76 1 false) 8 64 ((Value.pointer none) :: ((Value.pointer none) :: ((Value.pointer none) :: ((Value.pointer none) :: ((Value.pointer none) :: ((Value.pointer none) :: ((Value.pointer none) :: ((Value.pointer none) :: [])))))))) false false) := rfl
@[go_sem ↓] theorem wt102 (k : TyI → Prop) : withTy E 102 k = k (TyI.mk (TK.struct (⟨0, 1, 99, true, false⟩ :: (⟨1, 1, 99, true, false⟩ :: (⟨2, 1, 100, true, false⟩ :: (⟨3, 8, 101, true, true⟩ :: (⟨11, 1, 4, true, false⟩ :: (⟨12, 1, 4, true, false⟩ :: (⟨13, 1, 3, true, false⟩ :: (⟨14, 1, 42, true, false⟩ :: []))))))))) 15 160 ((Value.slice none 0 0) :: ((Value.slice none 0 0) :: ((Value.slice none 0 0) :: ((Value.pointer none) :: ((Value.pointer none) :: ((Value.pointer none) :: ((Value.pointer none) :: ((Value.pointer none) :: ((Value.pointer none) :: ((Value.pointer none) :: ((Value.pointer none) :: ((Value.bool false) :: ((Value.bool false) :: ((Value.int .i64 0) :: ((Value.int .u64 0) :: []))))))))))))))) false false) := rfl
@[go_sem ↓] theorem wt103 (k : TyI → Prop) : withTy E 103 k = k (TyI.mk (TK.struct (⟨0, 1, 99, true, false⟩ :: (⟨1, 1, 99, true, false⟩ :: (⟨2, 1, 100, true, false⟩ :: (⟨3, 8, 101, true, true⟩ :: (⟨11, 1, 4, true, false⟩ :: (⟨12, 1, 4, true, false⟩ :: (⟨13, 1, 3, true, false⟩ :: (⟨14, 1, 42, true, false⟩ :: []))))))))) 15 160 ((Value.slice none 0 0) :: ((Value.slice none 0 0) :: ((Value.slice none 0 0) :: ((Value.pointer none) :: ((Value.pointer none) :: ((Value.pointer none) :: ((Value.pointer none) :: ((Value.pointer none) :: ((Value.pointer none) :: ((Value.pointer none) :: ((Value.pointer none) :: ((Value.bool false) :: ((Value.bool false) :: ((Value.int .i64 0) :: ((Value.int .u64 0) :: []))))))))))))))) false false) := rfl
@[go_sem ↓] theorem wt104 (k : TyI → Prop) : withTy E 104 k = k (TyI.mk (TK.slice 144 2 16 (Value.agg (Array.mk ((Value.int .u64 0) :: ((Value.int .u64 0) :: []))))) 1 24 ((Value.slice none 0 0) :: []) false false) := rfl
@[go_sem ↓] theorem wt105 (k : TyI → Prop) : withTy E 105 k = k (TyI.mk (TK.struct (⟨0, 1, 42, true, false⟩ :: (⟨1, 1, 104, true, false⟩ :: []))) 2 32 ((Value.int .u64 0) :: ((Value.slice none 0 0) :: [])) false false) := rfl
@[go_sem ↓] theorem wt106 (k : TyI → Prop) : withTy E 106 k = k (TyI.mk (TK.struct (⟨0, 1, 42, true, false⟩ :: (⟨1, 1, 104, true, false⟩ :: []))) 2 32 ((Value.int .u64 0) :: ((Value.slice none 0 0) :: [])) false false) := rfl
@[go_sem ↓] theorem wt108 (k : TyI → Prop) : withTy E 108 k = k (TyI.mk TK.func 1 8 (Value.nilFunc :: []) false false) := rfl
@[go_sem ↓] theorem wt110 (k : TyI → Prop) : withTy E 110 k = k (TyI.mk TK.func 1 8 (Value.nilFunc :: []) false false) := rfl
@[go_sem ↓] theorem wt112 (k : TyI → Prop) : withTy E 112 k = k (TyI.mk TK.func 1 8 (Value.nilFunc :: []) false false) := rfl
@[go_sem ↓] theorem wt115 (k : TyI → Prop) : withTy E 115 k = k (TyI.mk (TK.arr 8 42 1 false) 8 64 ((Value.int .u64 0) :: ((Value.int .u64 0) :: ((Value.int .u64 0) :: ((Value.int .u64 0) :: ((Value.int .u64 0) :: ((Value.int .u64 0) :: ((Value.int .u64 0) :: ((Value.int .u64 0) :: [])))))))) false false) := rfl
@[go_sem ↓] theorem wt122 (k : TyI → Prop) : withTy E 122 k = k (TyI.mk TK.func 1 8 (Value.nilFunc :: []) false false) := rfl
@[go_sem ↓] theorem wt123 (k : TyI → Prop) : withTy E 123 k = k (TyI.mk (TK.map 3 42 (Value.int .u64 0)) 1 8 ((Value.map none) :: []) false false) := rfl
@[go_sem ↓] theorem wt125 (k : TyI → Prop) : withTy E 125 k = k (TyI.mk (TK.struct (⟨0, 1, 58, true, false⟩ :: (⟨1, 1, 3, true, false⟩ :: (⟨2, 1, 26, true, false⟩ :: (⟨3, 1, 123, true, false⟩ :: []))))) 4 32 ((Value.pointer none) :: ((Value.int .i64 0) :: ((Value.int .i64 0) :: ((Value.map none) :: [])))) false false) := rfl
@[go_sem ↓] theorem wt128 (k : TyI → Prop) : withTy E 128 k = k (TyI.mk (TK.ptr 106) 1 8 ((Value.pointer none) :: []) false false) := rfl
@[go_sem ↓] theorem wt140 (k : TyI → Prop) : withTy E 140 k = k (TyI.mk (TK.ptr 5) 1 8 ((Value.pointer none) :: []) false false) := rfl
@[go_sem ↓] theorem wt144 (k : TyI → Prop) : withTy E 144 k = k (TyI.mk (TK.struct (⟨0, 1, 42, true, false⟩ :: (⟨1, 1, 42, true, false⟩ :: []))) 2 16 ((Value.int .u64 0) :: ((Value.int .u64 0) :: [])) false false) := rfl
@[go_sem ↓] theorem wt147 (k : TyI → Prop) : withTy E 147 k = k (TyI.mk TK.func 1 8 (Value.nilFunc :: []) false false) := rfl
@[go_sem ↓] theorem wt159 (k : TyI → Prop) : withTy E 159 k = k (TyI.mk TK.other 1 0 ((Value.tuple (Array.mk ((Value.slice none 0 0) :: ((Value.string (ByteArray.mk (Array.mk []))) :: [])))) :: []) false false) := rfl
@[go_sem ↓] theorem wt160 (k : TyI → Prop) : withTy E 160 k = k (TyI.mk TK.func 1 8 (Value.nilFunc :: []) false false) := rfl
@[go_sem ↓] theorem wt161 (k : TyI → Prop) : withTy E 161 k = k (TyI.mk TK.func 1 8 (Value.nilFunc :: []) false false) := rfl
@[go_sem ↓] theorem wt179 (k : TyI → Prop) : withTy E 179 k = k (TyI.mk (TK.struct (⟨0, 1, 17, true, false⟩ :: (⟨1, 1, 17, true, false⟩ :: (⟨2, 1, 17, true, false⟩ :: (⟨3, 1, 9, true, false⟩ :: []))))) 4 40 ((Value.pointer none) :: ((Value.pointer none) :: ((Value.pointer none) :: ((Value.string (ByteArray.mk (Array.mk []))) :: [])))) true false) := rfl
@[go_sem ↓] theorem wt180 (k : TyI → Prop) : withTy E 180 k = k (TyI.mk (TK.arr 0 16 1 false) 0 0 [] false false) := rfl
@[go_sem ↓] theorem wt182 (k : TyI → Prop) : withTy E 182 k = k (TyI.mk (TK.struct (⟨0, 0, 180, false, true⟩ :: [])) 0 0 [] true false) := rfl
@[go_sem ↓] theorem wt183 (k : TyI → Prop) : withTy E 183 k = k (TyI.mk (TK.int .u8) 1 1 ((Value.int .u8 0) :: []) false false) := rfl
@[go_sem ↓] theorem wt184 (k : TyI → Prop) : withTy E 184 k = k (TyI.mk (TK.int .u8) 1 1 ((Value.int .u8 0) :: []) false false) := rfl
@[go_sem ↓] theorem wt185 (k : TyI → Prop) : withTy E 185 k = k (TyI.mk TK.func 1 8 (Value.nilFunc :: []) false false) := rfl
@[go_sem ↓] theorem wt186 (k : TyI → Prop) : withTy E 186 k = k (TyI.mk (TK.int .i32) 1 4 ((Value.int .i32 0) :: []) false false) := rfl
@[go_sem ↓] theorem wt187 (k : TyI → Prop) : withTy E 187 k = k (TyI.mk (TK.int .i32) 1 4 ((Value.int .i32 0) :: []) false false) := rfl
@[go_sem ↓] theorem wt189 (k : TyI → Prop) : withTy E 189 k = k (TyI.mk (TK.struct (⟨0, 1, 12, true, false⟩ :: (⟨1, 1, 12, true, false⟩ :: (⟨2, 1, 53, true, false⟩ :: (⟨3, 1, 183, true, false⟩ :: (⟨4, 1, 5, true, false⟩ :: (⟨5, 1, 5, true, false⟩ :: (⟨6, 1, 184, true, false⟩ :: (⟨7, 1, 185, true, false⟩ :: (⟨8, 1, 140, true, false⟩ :: (⟨9, 1, 186, true, false⟩ :: (⟨10, 1, 187, true, false⟩ :: [])))))))))))) 11 48 ((Value.int .u64 0) :: ((Value.int .u64 0) :: ((Value.int .u32 0) :: ((Value.int .u8 0) :: ((Value.int .u8 0) :: ((Value.int .u8 0) :: ((Value.int .u8 0) :: (Value.nilFunc :: ((Value.pointer none) :: ((Value.int .i32 0) :: ((Value.int .i32 0) :: []))))))))))) true false) := rfl
attribute [go_sem] Int.reduceToNat Int.reducePow Nat.reducePow Int.reduceAdd Int.reduceMul Int.reduceSub Int.reduceNeg Nat.reduceAdd Nat.reduceMul Nat.reduceSub Nat.reduceEqDiff Nat.reduceLT Nat.reduceLeDiff
end Go.Proofs.YtcnbngflehiphaaDoor