/- The types of this program, as tables, and what is known of its package-level variables. No conditions. -/
import Derived.Test.YtkmobahedfdikaaDoorAc4
import Derived.Test.YtkmobahedfdikaaDoorProg
import Derived.KernelRfl
namespace Go.Proofs.YtkmobahedfdikaaDoor
open Go Go.Ab
theorem gn0 : Tryd.prog.globalNamed "internal/strconv.uint64pow10" = some 0 := by kernel_rfl
/-- A variable of an interface's type. -/
def CellI (w : World) (g : Nat) : Prop := ∃ ev, w.cell? ⟨g, 0, none⟩ = some ev ∧ (ev = .nilIface ∨ ∃ te pe, ev = .iface te pe)
theorem cellI_keep {w w' : World} {g : Nat} (h : w'.heap[g]? = w.heap[g]?) (hc : CellI w g) : CellI w' g := by
  obtain ⟨ev, h1, h2⟩ := hc
  exact ⟨ev, by rw [← h1]; exact cell_of_heap h, h2⟩
/-- What is known of the package-level variables: the table of powers of ten; that the library's bound for a search is a number; that the two errors are values of an interface. -/
def Gl (Z : Nat → Prop) (w : World) : Prop := ((Z 0 ∧ Z 1) ∧ (Z 2 ∧ Z 3) ∧ CellI w 2 ∧ CellI w 3) ∧ Lib.TabIs Tryd.prog w "internal/strconv.uint64pow10" .u64 Lib.pow10Tab ∧ ∃ m, w.cell? ⟨1, 0, none⟩ = some (.int .i64 m)
noncomputable instance : Glob where
  G := Gl
  mono := fun hz hk h => ⟨⟨⟨hz _ h.1.1.1, hz _ h.1.1.2⟩, ⟨hz _ h.1.2.1.1, hz _ h.1.2.1.2⟩, cellI_keep (hk _ h.1.2.1.1) h.1.2.2.1, cellI_keep (hk _ h.1.2.1.2) h.1.2.2.2⟩, tabIs_keep gn0 (hk _ h.1.1.1) h.2.1, by obtain ⟨m, hm⟩ := h.2.2; exact ⟨m, by rw [← hm]; exact cell_of_heap (hk _ h.1.1.2)⟩⟩
  tab := []
  bld := 0
  slots := slotOf []
  ok := fun _ h => by simp [gfind] at h
@[go_sem] theorem bldE : (Glob.bld : TypeId) = 0 := rfl
@[go_sem] theorem slotsE (g : Nat) : Glob.slots g = slotOf [] g := rfl
noncomputable def tys : List (TypeId × TyI) := [
  (2, (TyI.mk (TK.int IntKind.i64) 1 8 ((Value.int IntKind.i64 (0 : Int)) :: []) false false)),
  (3, (TyI.mk (TK.int IntKind.i64) 1 8 ((Value.int IntKind.i64 (0 : Int)) :: []) false false)),
  (4, (TyI.mk TK.bool 1 1 ((Value.bool false) :: []) false false)),
  (5, (TyI.mk (TK.int IntKind.u8) 1 1 ((Value.int IntKind.u8 (0 : Int)) :: []) false false)),
  (6, (TyI.mk (TK.int IntKind.u8) 1 1 ((Value.int IntKind.u8 (0 : Int)) :: []) false false)),
  (7, (TyI.mk (TK.struct ((FI.mk 0 1 2 true false) :: ((FI.mk 1 1 3 true false) :: ((FI.mk 2 1 4 true false) :: ((FI.mk 3 1 6 true false) :: []))))) 4 24 ((Value.int IntKind.i64 (0 : Int)) :: ((Value.int IntKind.i64 (0 : Int)) :: ((Value.bool false) :: ((Value.int IntKind.u8 (0 : Int)) :: [])))) false false)),
  (8, (TyI.mk (TK.struct ((FI.mk 0 1 2 true false) :: ((FI.mk 1 1 3 true false) :: ((FI.mk 2 1 4 true false) :: ((FI.mk 3 1 6 true false) :: []))))) 4 24 ((Value.int IntKind.i64 (0 : Int)) :: ((Value.int IntKind.i64 (0 : Int)) :: ((Value.bool false) :: ((Value.int IntKind.u8 (0 : Int)) :: [])))) false false)),
  (9, (TyI.mk TK.str 1 16 ((Value.string (ByteArray.mk (Array.mk []))) :: []) false false)),
  (10, (TyI.mk TK.str 1 16 ((Value.string (ByteArray.mk (Array.mk []))) :: []) false false)),
  (11, (TyI.mk TK.str 1 16 ((Value.string (ByteArray.mk (Array.mk []))) :: []) false false)),
  (12, (TyI.mk (TK.int IntKind.u64) 1 8 ((Value.int IntKind.u64 (0 : Int)) :: []) false false)),
  (13, (TyI.mk (TK.struct ((FI.mk 0 1 9 true false) :: ((FI.mk 1 1 12 true false) :: []))) 2 24 ((Value.string (ByteArray.mk (Array.mk []))) :: ((Value.int IntKind.u64 (0 : Int)) :: [])) true false)),
  (16, (TyI.mk (TK.ptr 106) 1 8 ((Value.pointer none) :: []) false false)),
  (17, (TyI.mk (TK.ptr 114) 1 8 ((Value.pointer none) :: []) false false)),
  (18, (TyI.mk (TK.struct ((FI.mk 0 1 17 true false) :: [])) 1 8 ((Value.pointer none) :: []) true false)),
  (20, (TyI.mk (TK.iface true) 1 16 (Value.nilIface :: []) false false)),
  (21, (TyI.mk (TK.int IntKind.i32) 1 4 ((Value.int IntKind.i32 (0 : Int)) :: []) false false)),
  (22, (TyI.mk (TK.int IntKind.u64) 1 8 ((Value.int IntKind.u64 (0 : Int)) :: []) false false)),
  (23, (TyI.mk (TK.int IntKind.u64) 1 8 ((Value.int IntKind.u64 (0 : Int)) :: []) false false)),
  (24, (TyI.mk TK.func 1 8 (Value.nilFunc :: []) false false)),
  (26, (TyI.mk TK.func 1 8 (Value.nilFunc :: []) false false)),
  (28, (TyI.mk (TK.int IntKind.i64) 1 8 ((Value.int IntKind.i64 (0 : Int)) :: []) false false)),
  (29, (TyI.mk TK.other 1 0 ((Value.tuple (Array.mk ((Value.int IntKind.u64 (0 : Int)) :: ((Value.int IntKind.i64 (0 : Int)) :: [])))) :: []) false false)),
  (31, (TyI.mk TK.other 1 0 ((Value.tuple (Array.mk ((Value.int IntKind.u64 (0 : Int)) :: ((Value.int IntKind.i64 (0 : Int)) :: [])))) :: []) false false)),
  (32, (TyI.mk TK.func 1 8 (Value.nilFunc :: []) false false)),
  (33, (TyI.mk (TK.int IntKind.u16) 1 2 ((Value.int IntKind.u16 (0 : Int)) :: []) false false)),
  (37, (TyI.mk TK.func 1 8 (Value.nilFunc :: []) false false)),
  (40, (TyI.mk TK.func 1 8 (Value.nilFunc :: []) false false)),
  (42, (TyI.mk TK.func 1 8 (Value.nilFunc :: []) false false)),
  (46, (TyI.mk TK.other 1 0 ((Value.tuple (Array.mk ((Value.int IntKind.u16 (0 : Int)) :: ((Value.bool false) :: [])))) :: []) false false)),
  (47, (TyI.mk TK.func 1 8 (Value.nilFunc :: []) false false)),
  (48, (TyI.mk TK.func 1 8 (Value.nilFunc :: []) false false)),
  (52, (TyI.mk TK.func 1 8 (Value.nilFunc :: []) false false)),
  (54, (TyI.mk (TK.int IntKind.u64) 1 8 ((Value.int IntKind.u64 (0 : Int)) :: []) false false)),
  (55, (TyI.mk (TK.int IntKind.u32) 1 4 ((Value.int IntKind.u32 (0 : Int)) :: []) false false)),
  (56, (TyI.mk (TK.slice 5 1 1 (Value.int IntKind.u8 (0 : Int))) 1 24 ((Value.slice none 0 0) :: []) false false)),
  (57, (TyI.mk TK.func 1 8 (Value.nilFunc :: []) false false)),
  (58, (TyI.mk TK.other 1 0 ((Value.tuple (Array.mk ((Value.string (ByteArray.mk (Array.mk []))) :: ((Value.string (ByteArray.mk (Array.mk []))) :: ((Value.bool false) :: []))))) :: []) false false)),
  (60, (TyI.mk TK.other 1 0 ((Value.tuple (Array.mk ((Value.int IntKind.u64 (0 : Int)) :: ((Value.bool false) :: [])))) :: []) false false)),
  (62, (TyI.mk TK.other 1 0 ((Value.tuple (Array.mk ((Value.int IntKind.u64 (0 : Int)) :: ((Value.string (ByteArray.mk (Array.mk []))) :: ((Value.bool false) :: []))))) :: []) false false)),
  (63, (TyI.mk TK.func 1 8 (Value.nilFunc :: []) false false)),
  (65, (TyI.mk (TK.iface false) 1 16 (Value.nilIface :: []) false true)),
  (66, (TyI.mk TK.other 1 0 ((Value.tuple (Array.mk ((Value.int IntKind.u64 (0 : Int)) :: (Value.nilIface :: [])))) :: []) false false)),
  (69, (TyI.mk (TK.arr 24 5 1 false) 24 24 ((Value.int IntKind.u8 (0 : Int)) :: ((Value.int IntKind.u8 (0 : Int)) :: ((Value.int IntKind.u8 (0 : Int)) :: ((Value.int IntKind.u8 (0 : Int)) :: ((Value.int IntKind.u8 (0 : Int)) :: ((Value.int IntKind.u8 (0 : Int)) :: ((Value.int IntKind.u8 (0 : Int)) :: ((Value.int IntKind.u8 (0 : Int)) :: ((Value.int IntKind.u8 (0 : Int)) :: ((Value.int IntKind.u8 (0 : Int)) :: ((Value.int IntKind.u8 (0 : Int)) :: ((Value.int IntKind.u8 (0 : Int)) :: ((Value.int IntKind.u8 (0 : Int)) :: ((Value.int IntKind.u8 (0 : Int)) :: ((Value.int IntKind.u8 (0 : Int)) :: ((Value.int IntKind.u8 (0 : Int)) :: ((Value.int IntKind.u8 (0 : Int)) :: ((Value.int IntKind.u8 (0 : Int)) :: ((Value.int IntKind.u8 (0 : Int)) :: ((Value.int IntKind.u8 (0 : Int)) :: ((Value.int IntKind.u8 (0 : Int)) :: ((Value.int IntKind.u8 (0 : Int)) :: ((Value.int IntKind.u8 (0 : Int)) :: ((Value.int IntKind.u8 (0 : Int)) :: [])))))))))))))))))))))))) false false)),
  (70, (TyI.mk TK.func 1 8 (Value.nilFunc :: []) false false)),
  (73, (TyI.mk TK.func 1 8 (Value.nilFunc :: []) false false)),
  (78, (TyI.mk (TK.arr 20 22 1 false) 20 160 ((Value.int IntKind.u64 (0 : Int)) :: ((Value.int IntKind.u64 (0 : Int)) :: ((Value.int IntKind.u64 (0 : Int)) :: ((Value.int IntKind.u64 (0 : Int)) :: ((Value.int IntKind.u64 (0 : Int)) :: ((Value.int IntKind.u64 (0 : Int)) :: ((Value.int IntKind.u64 (0 : Int)) :: ((Value.int IntKind.u64 (0 : Int)) :: ((Value.int IntKind.u64 (0 : Int)) :: ((Value.int IntKind.u64 (0 : Int)) :: ((Value.int IntKind.u64 (0 : Int)) :: ((Value.int IntKind.u64 (0 : Int)) :: ((Value.int IntKind.u64 (0 : Int)) :: ((Value.int IntKind.u64 (0 : Int)) :: ((Value.int IntKind.u64 (0 : Int)) :: ((Value.int IntKind.u64 (0 : Int)) :: ((Value.int IntKind.u64 (0 : Int)) :: ((Value.int IntKind.u64 (0 : Int)) :: ((Value.int IntKind.u64 (0 : Int)) :: ((Value.int IntKind.u64 (0 : Int)) :: [])))))))))))))))))))) false false)),
  (85, (TyI.mk (TK.ptr 93) 1 8 ((Value.pointer none) :: []) false false)),
  (92, (TyI.mk (TK.struct ((FI.mk 0 1 9 true false) :: ((FI.mk 1 1 9 true false) :: ((FI.mk 2 1 65 true false) :: [])))) 3 48 ((Value.string (ByteArray.mk (Array.mk []))) :: ((Value.string (ByteArray.mk (Array.mk []))) :: (Value.nilIface :: []))) false true)),
  (93, (TyI.mk (TK.struct ((FI.mk 0 1 9 true false) :: ((FI.mk 1 1 9 true false) :: ((FI.mk 2 1 65 true false) :: [])))) 3 48 ((Value.string (ByteArray.mk (Array.mk []))) :: ((Value.string (ByteArray.mk (Array.mk []))) :: (Value.nilIface :: []))) false true)),
  (97, (TyI.mk (TK.ptr 5) 1 8 ((Value.pointer none) :: []) false false)),
  (102, (TyI.mk (TK.struct ((FI.mk 0 1 17 true false) :: ((FI.mk 1 1 17 true false) :: ((FI.mk 2 1 17 true false) :: ((FI.mk 3 1 9 true false) :: []))))) 4 40 ((Value.pointer none) :: ((Value.pointer none) :: ((Value.pointer none) :: ((Value.string (ByteArray.mk (Array.mk []))) :: [])))) true false)),
  (104, (TyI.mk (TK.arr 0 16 1 false) 0 0 [] false false)),
  (106, (TyI.mk (TK.struct ((FI.mk 0 0 104 false true) :: [])) 0 0 [] true false)),
  (108, (TyI.mk (TK.int IntKind.u8) 1 1 ((Value.int IntKind.u8 (0 : Int)) :: []) false false)),
  (109, (TyI.mk (TK.int IntKind.u8) 1 1 ((Value.int IntKind.u8 (0 : Int)) :: []) false false)),
  (110, (TyI.mk TK.func 1 8 (Value.nilFunc :: []) false false)),
  (111, (TyI.mk (TK.int IntKind.i32) 1 4 ((Value.int IntKind.i32 (0 : Int)) :: []) false false)),
  (112, (TyI.mk (TK.int IntKind.i32) 1 4 ((Value.int IntKind.i32 (0 : Int)) :: []) false false)),
  (114, (TyI.mk (TK.struct ((FI.mk 0 1 12 true false) :: ((FI.mk 1 1 12 true false) :: ((FI.mk 2 1 55 true false) :: ((FI.mk 3 1 108 true false) :: ((FI.mk 4 1 5 true false) :: ((FI.mk 5 1 5 true false) :: ((FI.mk 6 1 109 true false) :: ((FI.mk 7 1 110 true false) :: ((FI.mk 8 1 97 true false) :: ((FI.mk 9 1 111 true false) :: ((FI.mk 10 1 112 true false) :: [])))))))))))) 11 48 ((Value.int IntKind.u64 (0 : Int)) :: ((Value.int IntKind.u64 (0 : Int)) :: ((Value.int IntKind.u32 (0 : Int)) :: ((Value.int IntKind.u8 (0 : Int)) :: ((Value.int IntKind.u8 (0 : Int)) :: ((Value.int IntKind.u8 (0 : Int)) :: ((Value.int IntKind.u8 (0 : Int)) :: (Value.nilFunc :: ((Value.pointer none) :: ((Value.int IntKind.i32 (0 : Int)) :: ((Value.int IntKind.i32 (0 : Int)) :: []))))))))))) true false))
]
theorem tysOk : tys.map (fun p => tyOf Tryd.prog p.1) = tys.map (fun p => some p.2) := by kernel_rfl
theorem mixed : Tryd.prog.follows .mixedOrders = true := by kernel_rfl
noncomputable def E : Env := ⟨Tryd.prog, tys, tfind_ok tysOk, mixed⟩
@[go_sem] theorem ty2 : tfind E.tys 2 = some (TyI.mk (TK.int IntKind.i64) 1 8 ((Value.int IntKind.i64 (0 : Int)) :: []) false false) := rfl
@[go_sem] theorem ty3 : tfind E.tys 3 = some (TyI.mk (TK.int IntKind.i64) 1 8 ((Value.int IntKind.i64 (0 : Int)) :: []) false false) := rfl
@[go_sem] theorem ty4 : tfind E.tys 4 = some (TyI.mk TK.bool 1 1 ((Value.bool false) :: []) false false) := rfl
@[go_sem] theorem ty5 : tfind E.tys 5 = some (TyI.mk (TK.int IntKind.u8) 1 1 ((Value.int IntKind.u8 (0 : Int)) :: []) false false) := rfl
@[go_sem] theorem ty6 : tfind E.tys 6 = some (TyI.mk (TK.int IntKind.u8) 1 1 ((Value.int IntKind.u8 (0 : Int)) :: []) false false) := rfl
@[go_sem] theorem ty7 : tfind E.tys 7 = some (TyI.mk (TK.struct ((FI.mk 0 1 2 true false) :: ((FI.mk 1 1 3 true false) :: ((FI.mk 2 1 4 true false) :: ((FI.mk 3 1 6 true false) :: []))))) 4 24 ((Value.int IntKind.i64 (0 : Int)) :: ((Value.int IntKind.i64 (0 : Int)) :: ((Value.bool false) :: ((Value.int IntKind.u8 (0 : Int)) :: [])))) false false) := rfl
@[go_sem] theorem ty8 : tfind E.tys 8 = some (TyI.mk (TK.struct ((FI.mk 0 1 2 true false) :: ((FI.mk 1 1 3 true false) :: ((FI.mk 2 1 4 true false) :: ((FI.mk 3 1 6 true false) :: []))))) 4 24 ((Value.int IntKind.i64 (0 : Int)) :: ((Value.int IntKind.i64 (0 : Int)) :: ((Value.bool false) :: ((Value.int IntKind.u8 (0 : Int)) :: [])))) false false) := rfl
@[go_sem] theorem ty9 : tfind E.tys 9 = some (TyI.mk TK.str 1 16 ((Value.string (ByteArray.mk (Array.mk []))) :: []) false false) := rfl
@[go_sem] theorem ty10 : tfind E.tys 10 = some (TyI.mk TK.str 1 16 ((Value.string (ByteArray.mk (Array.mk []))) :: []) false false) := rfl
@[go_sem] theorem ty11 : tfind E.tys 11 = some (TyI.mk TK.str 1 16 ((Value.string (ByteArray.mk (Array.mk []))) :: []) false false) := rfl
@[go_sem] theorem ty12 : tfind E.tys 12 = some (TyI.mk (TK.int IntKind.u64) 1 8 ((Value.int IntKind.u64 (0 : Int)) :: []) false false) := rfl
@[go_sem] theorem ty13 : tfind E.tys 13 = some (TyI.mk (TK.struct ((FI.mk 0 1 9 true false) :: ((FI.mk 1 1 12 true false) :: []))) 2 24 ((Value.string (ByteArray.mk (Array.mk []))) :: ((Value.int IntKind.u64 (0 : Int)) :: [])) true false) := rfl
@[go_sem] theorem ty16 : tfind E.tys 16 = some (TyI.mk (TK.ptr 106) 1 8 ((Value.pointer none) :: []) false false) := rfl
@[go_sem] theorem ty17 : tfind E.tys 17 = some (TyI.mk (TK.ptr 114) 1 8 ((Value.pointer none) :: []) false false) := rfl
@[go_sem] theorem ty18 : tfind E.tys 18 = some (TyI.mk (TK.struct ((FI.mk 0 1 17 true false) :: [])) 1 8 ((Value.pointer none) :: []) true false) := rfl
@[go_sem] theorem ty20 : tfind E.tys 20 = some (TyI.mk (TK.iface true) 1 16 (Value.nilIface :: []) false false) := rfl
@[go_sem] theorem ty21 : tfind E.tys 21 = some (TyI.mk (TK.int IntKind.i32) 1 4 ((Value.int IntKind.i32 (0 : Int)) :: []) false false) := rfl
@[go_sem] theorem ty22 : tfind E.tys 22 = some (TyI.mk (TK.int IntKind.u64) 1 8 ((Value.int IntKind.u64 (0 : Int)) :: []) false false) := rfl
@[go_sem] theorem ty23 : tfind E.tys 23 = some (TyI.mk (TK.int IntKind.u64) 1 8 ((Value.int IntKind.u64 (0 : Int)) :: []) false false) := rfl
@[go_sem] theorem ty24 : tfind E.tys 24 = some (TyI.mk TK.func 1 8 (Value.nilFunc :: []) false false) := rfl
@[go_sem] theorem ty26 : tfind E.tys 26 = some (TyI.mk TK.func 1 8 (Value.nilFunc :: []) false false) := rfl
@[go_sem] theorem ty28 : tfind E.tys 28 = some (TyI.mk (TK.int IntKind.i64) 1 8 ((Value.int IntKind.i64 (0 : Int)) :: []) false false) := rfl
@[go_sem] theorem ty29 : tfind E.tys 29 = some (TyI.mk TK.other 1 0 ((Value.tuple (Array.mk ((Value.int IntKind.u64 (0 : Int)) :: ((Value.int IntKind.i64 (0 : Int)) :: [])))) :: []) false false) := rfl
@[go_sem] theorem ty31 : tfind E.tys 31 = some (TyI.mk TK.other 1 0 ((Value.tuple (Array.mk ((Value.int IntKind.u64 (0 : Int)) :: ((Value.int IntKind.i64 (0 : Int)) :: [])))) :: []) false false) := rfl
@[go_sem] theorem ty32 : tfind E.tys 32 = some (TyI.mk TK.func 1 8 (Value.nilFunc :: []) false false) := rfl
@[go_sem] theorem ty33 : tfind E.tys 33 = some (TyI.mk (TK.int IntKind.u16) 1 2 ((Value.int IntKind.u16 (0 : Int)) :: []) false false) := rfl
@[go_sem] theorem ty37 : tfind E.tys 37 = some (TyI.mk TK.func 1 8 (Value.nilFunc :: []) false false) := rfl
@[go_sem] theorem ty40 : tfind E.tys 40 = some (TyI.mk TK.func 1 8 (Value.nilFunc :: []) false false) := rfl
@[go_sem] theorem ty42 : tfind E.tys 42 = some (TyI.mk TK.func 1 8 (Value.nilFunc :: []) false false) := rfl
@[go_sem] theorem ty46 : tfind E.tys 46 = some (TyI.mk TK.other 1 0 ((Value.tuple (Array.mk ((Value.int IntKind.u16 (0 : Int)) :: ((Value.bool false) :: [])))) :: []) false false) := rfl
@[go_sem] theorem ty47 : tfind E.tys 47 = some (TyI.mk TK.func 1 8 (Value.nilFunc :: []) false false) := rfl
@[go_sem] theorem ty48 : tfind E.tys 48 = some (TyI.mk TK.func 1 8 (Value.nilFunc :: []) false false) := rfl
@[go_sem] theorem ty52 : tfind E.tys 52 = some (TyI.mk TK.func 1 8 (Value.nilFunc :: []) false false) := rfl
@[go_sem] theorem ty54 : tfind E.tys 54 = some (TyI.mk (TK.int IntKind.u64) 1 8 ((Value.int IntKind.u64 (0 : Int)) :: []) false false) := rfl
@[go_sem] theorem ty55 : tfind E.tys 55 = some (TyI.mk (TK.int IntKind.u32) 1 4 ((Value.int IntKind.u32 (0 : Int)) :: []) false false) := rfl
@[go_sem] theorem ty56 : tfind E.tys 56 = some (TyI.mk (TK.slice 5 1 1 (Value.int IntKind.u8 (0 : Int))) 1 24 ((Value.slice none 0 0) :: []) false false) := rfl
@[go_sem] theorem ty57 : tfind E.tys 57 = some (TyI.mk TK.func 1 8 (Value.nilFunc :: []) false false) := rfl
@[go_sem] theorem ty58 : tfind E.tys 58 = some (TyI.mk TK.other 1 0 ((Value.tuple (Array.mk ((Value.string (ByteArray.mk (Array.mk []))) :: ((Value.string (ByteArray.mk (Array.mk []))) :: ((Value.bool false) :: []))))) :: []) false false) := rfl
@[go_sem] theorem ty60 : tfind E.tys 60 = some (TyI.mk TK.other 1 0 ((Value.tuple (Array.mk ((Value.int IntKind.u64 (0 : Int)) :: ((Value.bool false) :: [])))) :: []) false false) := rfl
@[go_sem] theorem ty62 : tfind E.tys 62 = some (TyI.mk TK.other 1 0 ((Value.tuple (Array.mk ((Value.int IntKind.u64 (0 : Int)) :: ((Value.string (ByteArray.mk (Array.mk []))) :: ((Value.bool false) :: []))))) :: []) false false) := rfl
@[go_sem] theorem ty63 : tfind E.tys 63 = some (TyI.mk TK.func 1 8 (Value.nilFunc :: []) false false) := rfl
@[go_sem] theorem ty65 : tfind E.tys 65 = some (TyI.mk (TK.iface false) 1 16 (Value.nilIface :: []) false true) := rfl
@[go_sem] theorem ty66 : tfind E.tys 66 = some (TyI.mk TK.other 1 0 ((Value.tuple (Array.mk ((Value.int IntKind.u64 (0 : Int)) :: (Value.nilIface :: [])))) :: []) false false) := rfl
@[go_sem] theorem ty69 : tfind E.tys 69 = some (TyI.mk (TK.arr 24 5 1 false) 24 24 ((Value.int IntKind.u8 (0 : Int)) :: ((Value.int IntKind.u8 (0 : Int)) :: ((Value.int IntKind.u8 (0 : Int)) :: ((Value.int IntKind.u8 (0 : Int)) :: ((Value.int IntKind.u8 (0 : Int)) :: ((Value.int IntKind.u8 (0 : Int)) :: ((Value.int IntKind.u8 (0 : Int)) :: ((Value.int IntKind.u8 (0 : Int)) :: ((Value.int IntKind.u8 (0 : Int)) :: ((Value.int IntKind.u8 (0 : Int)) :: ((Value.int IntKind.u8 (0 : Int)) :: ((Value.int IntKind.u8 (0 : Int)) :: ((Value.int IntKind.u8 (0 : Int)) :: ((Value.int IntKind.u8 (0 : Int)) :: ((Value.int IntKind.u8 (0 : Int)) :: ((Value.int IntKind.u8 (0 : Int)) :: ((Value.int IntKind.u8 (0 : Int)) :: ((Value.int IntKind.u8 (0 : Int)) :: ((Value.int IntKind.u8 (0 : Int)) :: ((Value.int IntKind.u8 (0 : Int)) :: ((Value.int IntKind.u8 (0 : Int)) :: ((Value.int IntKind.u8 (0 : Int)) :: ((Value.int IntKind.u8 (0 : Int)) :: ((Value.int IntKind.u8 (0 : Int)) :: [])))))))))))))))))))))))) false false) := rfl
@[go_sem] theorem ty70 : tfind E.tys 70 = some (TyI.mk TK.func 1 8 (Value.nilFunc :: []) false false) := rfl
@[go_sem] theorem ty73 : tfind E.tys 73 = some (TyI.mk TK.func 1 8 (Value.nilFunc :: []) false false) := rfl
@[go_sem] theorem ty78 : tfind E.tys 78 = some (TyI.mk (TK.arr 20 22 1 false) 20 160 ((Value.int IntKind.u64 (0 : Int)) :: ((Value.int IntKind.u64 (0 : Int)) :: ((Value.int IntKind.u64 (0 : Int)) :: ((Value.int IntKind.u64 (0 : Int)) :: ((Value.int IntKind.u64 (0 : Int)) :: ((Value.int IntKind.u64 (0 : Int)) :: ((Value.int IntKind.u64 (0 : Int)) :: ((Value.int IntKind.u64 (0 : Int)) :: ((Value.int IntKind.u64 (0 : Int)) :: ((Value.int IntKind.u64 (0 : Int)) :: ((Value.int IntKind.u64 (0 : Int)) :: ((Value.int IntKind.u64 (0 : Int)) :: ((Value.int IntKind.u64 (0 : Int)) :: ((Value.int IntKind.u64 (0 : Int)) :: ((Value.int IntKind.u64 (0 : Int)) :: ((Value.int IntKind.u64 (0 : Int)) :: ((Value.int IntKind.u64 (0 : Int)) :: ((Value.int IntKind.u64 (0 : Int)) :: ((Value.int IntKind.u64 (0 : Int)) :: ((Value.int IntKind.u64 (0 : Int)) :: [])))))))))))))))))))) false false) := rfl
@[go_sem] theorem ty85 : tfind E.tys 85 = some (TyI.mk (TK.ptr 93) 1 8 ((Value.pointer none) :: []) false false) := rfl
@[go_sem] theorem ty92 : tfind E.tys 92 = some (TyI.mk (TK.struct ((FI.mk 0 1 9 true false) :: ((FI.mk 1 1 9 true false) :: ((FI.mk 2 1 65 true false) :: [])))) 3 48 ((Value.string (ByteArray.mk (Array.mk []))) :: ((Value.string (ByteArray.mk (Array.mk []))) :: (Value.nilIface :: []))) false true) := rfl
@[go_sem] theorem ty93 : tfind E.tys 93 = some (TyI.mk (TK.struct ((FI.mk 0 1 9 true false) :: ((FI.mk 1 1 9 true false) :: ((FI.mk 2 1 65 true false) :: [])))) 3 48 ((Value.string (ByteArray.mk (Array.mk []))) :: ((Value.string (ByteArray.mk (Array.mk []))) :: (Value.nilIface :: []))) false true) := rfl
@[go_sem] theorem ty97 : tfind E.tys 97 = some (TyI.mk (TK.ptr 5) 1 8 ((Value.pointer none) :: []) false false) := rfl
@[go_sem] theorem ty102 : tfind E.tys 102 = some (TyI.mk (TK.struct ((FI.mk 0 1 17 true false) :: ((FI.mk 1 1 17 true false) :: ((FI.mk 2 1 17 true false) :: ((FI.mk 3 1 9 true false) :: []))))) 4 40 ((Value.pointer none) :: ((Value.pointer none) :: ((Value.pointer none) :: ((Value.string (ByteArray.mk (Array.mk []))) :: [])))) true false) := rfl
@[go_sem] theorem ty104 : tfind E.tys 104 = some (TyI.mk (TK.arr 0 16 1 false) 0 0 [] false false) := rfl
@[go_sem] theorem ty106 : tfind E.tys 106 = some (TyI.mk (TK.struct ((FI.mk 0 0 104 false true) :: [])) 0 0 [] true false) := rfl
@[go_sem] theorem ty108 : tfind E.tys 108 = some (TyI.mk (TK.int IntKind.u8) 1 1 ((Value.int IntKind.u8 (0 : Int)) :: []) false false) := rfl
@[go_sem] theorem ty109 : tfind E.tys 109 = some (TyI.mk (TK.int IntKind.u8) 1 1 ((Value.int IntKind.u8 (0 : Int)) :: []) false false) := rfl
@[go_sem] theorem ty110 : tfind E.tys 110 = some (TyI.mk TK.func 1 8 (Value.nilFunc :: []) false false) := rfl
@[go_sem] theorem ty111 : tfind E.tys 111 = some (TyI.mk (TK.int IntKind.i32) 1 4 ((Value.int IntKind.i32 (0 : Int)) :: []) false false) := rfl
@[go_sem] theorem ty112 : tfind E.tys 112 = some (TyI.mk (TK.int IntKind.i32) 1 4 ((Value.int IntKind.i32 (0 : Int)) :: []) false false) := rfl
@[go_sem] theorem ty114 : tfind E.tys 114 = some (TyI.mk (TK.struct ((FI.mk 0 1 12 true false) :: ((FI.mk 1 1 12 true false) :: ((FI.mk 2 1 55 true false) :: ((FI.mk 3 1 108 true false) :: ((FI.mk 4 1 5 true false) :: ((FI.mk 5 1 5 true false) :: ((FI.mk 6 1 109 true false) :: ((FI.mk 7 1 110 true false) :: ((FI.mk 8 1 97 true false) :: ((FI.mk 9 1 111 true false) :: ((FI.mk 10 1 112 true false) :: [])))))))))))) 11 48 ((Value.int IntKind.u64 (0 : Int)) :: ((Value.int IntKind.u64 (0 : Int)) :: ((Value.int IntKind.u32 (0 : Int)) :: ((Value.int IntKind.u8 (0 : Int)) :: ((Value.int IntKind.u8 (0 : Int)) :: ((Value.int IntKind.u8 (0 : Int)) :: ((Value.int IntKind.u8 (0 : Int)) :: (Value.nilFunc :: ((Value.pointer none) :: ((Value.int IntKind.i32 (0 : Int)) :: ((Value.int IntKind.i32 (0 : Int)) :: []))))))))))) true false) := rfl
@[go_sem ↓] theorem wt2 (k : TyI → Prop) : withTy E 2 k = k (TyI.mk (TK.int IntKind.i64) 1 8 ((Value.int IntKind.i64 (0 : Int)) :: []) false false) := rfl
@[go_sem ↓] theorem wt3 (k : TyI → Prop) : withTy E 3 k = k (TyI.mk (TK.int IntKind.i64) 1 8 ((Value.int IntKind.i64 (0 : Int)) :: []) false false) := rfl
@[go_sem ↓] theorem wt4 (k : TyI → Prop) : withTy E 4 k = k (TyI.mk TK.bool 1 1 ((Value.bool false) :: []) false false) := rfl
@[go_sem ↓] theorem wt5 (k : TyI → Prop) : withTy E 5 k = k (TyI.mk (TK.int IntKind.u8) 1 1 ((Value.int IntKind.u8 (0 : Int)) :: []) false false) := rfl
@[go_sem ↓] theorem wt6 (k : TyI → Prop) : withTy E 6 k = k (TyI.mk (TK.int IntKind.u8) 1 1 ((Value.int IntKind.u8 (0 : Int)) :: []) false false) := rfl
@[go_sem ↓] theorem wt7 (k : TyI → Prop) : withTy E 7 k = k (TyI.mk (TK.struct ((FI.mk 0 1 2 true false) :: ((FI.mk 1 1 3 true false) :: ((FI.mk 2 1 4 true false) :: ((FI.mk 3 1 6 true false) :: []))))) 4 24 ((Value.int IntKind.i64 (0 : Int)) :: ((Value.int IntKind.i64 (0 : Int)) :: ((Value.bool false) :: ((Value.int IntKind.u8 (0 : Int)) :: [])))) false false) := rfl
@[go_sem ↓] theorem wt8 (k : TyI → Prop) : withTy E 8 k = k (TyI.mk (TK.struct ((FI.mk 0 1 2 true false) :: ((FI.mk 1 1 3 true false) :: ((FI.mk 2 1 4 true false) :: ((FI.mk 3 1 6 true false) :: []))))) 4 24 ((Value.int IntKind.i64 (0 : Int)) :: ((Value.int IntKind.i64 (0 : Int)) :: ((Value.bool false) :: ((Value.int IntKind.u8 (0 : Int)) :: [])))) false false) := rfl
@[go_sem ↓] theorem wt9 (k : TyI → Prop) : withTy E 9 k = k (TyI.mk TK.str 1 16 ((Value.string (ByteArray.mk (Array.mk []))) :: []) false false) := rfl
@[go_sem ↓] theorem wt10 (k : TyI → Prop) : withTy E 10 k = k (TyI.mk TK.str 1 16 ((Value.string (ByteArray.mk (Array.mk []))) :: []) false false) := rfl
@[go_sem ↓] theorem wt11 (k : TyI → Prop) : withTy E 11 k = k (TyI.mk TK.str 1 16 ((Value.string (ByteArray.mk (Array.mk []))) :: []) false false) := rfl
@[go_sem ↓] theorem wt12 (k : TyI → Prop) : withTy E 12 k = k (TyI.mk (TK.int IntKind.u64) 1 8 ((Value.int IntKind.u64 (0 : Int)) :: []) false false) := rfl
@[go_sem ↓] theorem wt13 (k : TyI → Prop) : withTy E 13 k = k (TyI.mk (TK.struct ((FI.mk 0 1 9 true false) :: ((FI.mk 1 1 12 true false) :: []))) 2 24 ((Value.string (ByteArray.mk (Array.mk []))) :: ((Value.int IntKind.u64 (0 : Int)) :: [])) true false) := rfl
@[go_sem ↓] theorem wt16 (k : TyI → Prop) : withTy E 16 k = k (TyI.mk (TK.ptr 106) 1 8 ((Value.pointer none) :: []) false false) := rfl
@[go_sem ↓] theorem wt17 (k : TyI → Prop) : withTy E 17 k = k (TyI.mk (TK.ptr 114) 1 8 ((Value.pointer none) :: []) false false) := rfl
@[go_sem ↓] theorem wt18 (k : TyI → Prop) : withTy E 18 k = k (TyI.mk (TK.struct ((FI.mk 0 1 17 true false) :: [])) 1 8 ((Value.pointer none) :: []) true false) := rfl
@[go_sem ↓] theorem wt20 (k : TyI → Prop) : withTy E 20 k = k (TyI.mk (TK.iface true) 1 16 (Value.nilIface :: []) false false) := rfl
@[go_sem ↓] theorem wt21 (k : TyI → Prop) : withTy E 21 k = k (TyI.mk (TK.int IntKind.i32) 1 4 ((Value.int IntKind.i32 (0 : Int)) :: []) false false) := rfl
@[go_sem ↓] theorem wt22 (k : TyI → Prop) : withTy E 22 k = k (TyI.mk (TK.int IntKind.u64) 1 8 ((Value.int IntKind.u64 (0 : Int)) :: []) false false) := rfl
@[go_sem ↓] theorem wt23 (k : TyI → Prop) : withTy E 23 k = k (TyI.mk (TK.int IntKind.u64) 1 8 ((Value.int IntKind.u64 (0 : Int)) :: []) false false) := rfl
@[go_sem ↓] theorem wt24 (k : TyI → Prop) : withTy E 24 k = k (TyI.mk TK.func 1 8 (Value.nilFunc :: []) false false) := rfl
@[go_sem ↓] theorem wt26 (k : TyI → Prop) : withTy E 26 k = k (TyI.mk TK.func 1 8 (Value.nilFunc :: []) false false) := rfl
@[go_sem ↓] theorem wt28 (k : TyI → Prop) : withTy E 28 k = k (TyI.mk (TK.int IntKind.i64) 1 8 ((Value.int IntKind.i64 (0 : Int)) :: []) false false) := rfl
@[go_sem ↓] theorem wt29 (k : TyI → Prop) : withTy E 29 k = k (TyI.mk TK.other 1 0 ((Value.tuple (Array.mk ((Value.int IntKind.u64 (0 : Int)) :: ((Value.int IntKind.i64 (0 : Int)) :: [])))) :: []) false false) := rfl
@[go_sem ↓] theorem wt31 (k : TyI → Prop) : withTy E 31 k = k (TyI.mk TK.other 1 0 ((Value.tuple (Array.mk ((Value.int IntKind.u64 (0 : Int)) :: ((Value.int IntKind.i64 (0 : Int)) :: [])))) :: []) false false) := rfl
@[go_sem ↓] theorem wt32 (k : TyI → Prop) : withTy E 32 k = k (TyI.mk TK.func 1 8 (Value.nilFunc :: []) false false) := rfl
@[go_sem ↓] theorem wt33 (k : TyI → Prop) : withTy E 33 k = k (TyI.mk (TK.int IntKind.u16) 1 2 ((Value.int IntKind.u16 (0 : Int)) :: []) false false) := rfl
@[go_sem ↓] theorem wt37 (k : TyI → Prop) : withTy E 37 k = k (TyI.mk TK.func 1 8 (Value.nilFunc :: []) false false) := rfl
@[go_sem ↓] theorem wt40 (k : TyI → Prop) : withTy E 40 k = k (TyI.mk TK.func 1 8 (Value.nilFunc :: []) false false) := rfl
@[go_sem ↓] theorem wt42 (k : TyI → Prop) : withTy E 42 k = k (TyI.mk TK.func 1 8 (Value.nilFunc :: []) false false) := rfl
@[go_sem ↓] theorem wt46 (k : TyI → Prop) : withTy E 46 k = k (TyI.mk TK.other 1 0 ((Value.tuple (Array.mk ((Value.int IntKind.u16 (0 : Int)) :: ((Value.bool false) :: [])))) :: []) false false) := rfl
@[go_sem ↓] theorem wt47 (k : TyI → Prop) : withTy E 47 k = k (TyI.mk TK.func 1 8 (Value.nilFunc :: []) false false) := rfl
@[go_sem ↓] theorem wt48 (k : TyI → Prop) : withTy E 48 k = k (TyI.mk TK.func 1 8 (Value.nilFunc :: []) false false) := rfl
@[go_sem ↓] theorem wt52 (k : TyI → Prop) : withTy E 52 k = k (TyI.mk TK.func 1 8 (Value.nilFunc :: []) false false) := rfl
@[go_sem ↓] theorem wt54 (k : TyI → Prop) : withTy E 54 k = k (TyI.mk (TK.int IntKind.u64) 1 8 ((Value.int IntKind.u64 (0 : Int)) :: []) false false) := rfl
@[go_sem ↓] theorem wt55 (k : TyI → Prop) : withTy E 55 k = k (TyI.mk (TK.int IntKind.u32) 1 4 ((Value.int IntKind.u32 (0 : Int)) :: []) false false) := rfl
@[go_sem ↓] theorem wt56 (k : TyI → Prop) : withTy E 56 k = k (TyI.mk (TK.slice 5 1 1 (Value.int IntKind.u8 (0 : Int))) 1 24 ((Value.slice none 0 0) :: []) false false) := rfl
@[go_sem ↓] theorem wt57 (k : TyI → Prop) : withTy E 57 k = k (TyI.mk TK.func 1 8 (Value.nilFunc :: []) false false) := rfl
@[go_sem ↓] theorem wt58 (k : TyI → Prop) : withTy E 58 k = k (TyI.mk TK.other 1 0 ((Value.tuple (Array.mk ((Value.string (ByteArray.mk (Array.mk []))) :: ((Value.string (ByteArray.mk (Array.mk []))) :: ((Value.bool false) :: []))))) :: []) false false) := rfl
@[go_sem ↓] theorem wt60 (k : TyI → Prop) : withTy E 60 k = k (TyI.mk TK.other 1 0 ((Value.tuple (Array.mk ((Value.int IntKind.u64 (0 : Int)) :: ((Value.bool false) :: [])))) :: []) false false) := rfl
@[go_sem ↓] theorem wt62 (k : TyI → Prop) : withTy E 62 k = k (TyI.mk TK.other 1 0 ((Value.tuple (Array.mk ((Value.int IntKind.u64 (0 : Int)) :: ((Value.string (ByteArray.mk (Array.mk []))) :: ((Value.bool false) :: []))))) :: []) false false) := rfl
@[go_sem ↓] theorem wt63 (k : TyI → Prop) : withTy E 63 k = k (TyI.mk TK.func 1 8 (Value.nilFunc :: []) false false) := rfl
@[go_sem ↓] theorem wt65 (k : TyI → Prop) : withTy E 65 k = k (TyI.mk (TK.iface false) 1 16 (Value.nilIface :: []) false true) := rfl
@[go_sem ↓] theorem wt66 (k : TyI → Prop) : withTy E 66 k = k (TyI.mk TK.other 1 0 ((Value.tuple (Array.mk ((Value.int IntKind.u64 (0 : Int)) :: (Value.nilIface :: [])))) :: []) false false) := rfl
@[go_sem ↓] theorem wt69 (k : TyI → Prop) : withTy E 69 k = k (TyI.mk (TK.arr 24 5 1 false) 24 24 ((Value.int IntKind.u8 (0 : Int)) :: ((Value.int IntKind.u8 (0 : Int)) :: ((Value.int IntKind.u8 (0 : Int)) :: ((Value.int IntKind.u8 (0 : Int)) :: ((Value.int IntKind.u8 (0 : Int)) :: ((Value.int IntKind.u8 (0 : Int)) :: ((Value.int IntKind.u8 (0 : Int)) :: ((Value.int IntKind.u8 (0 : Int)) :: ((Value.int IntKind.u8 (0 : Int)) :: ((Value.int IntKind.u8 (0 : Int)) :: ((Value.int IntKind.u8 (0 : Int)) :: ((Value.int IntKind.u8 (0 : Int)) :: ((Value.int IntKind.u8 (0 : Int)) :: ((Value.int IntKind.u8 (0 : Int)) :: ((Value.int IntKind.u8 (0 : Int)) :: ((Value.int IntKind.u8 (0 : Int)) :: ((Value.int IntKind.u8 (0 : Int)) :: ((Value.int IntKind.u8 (0 : Int)) :: ((Value.int IntKind.u8 (0 : Int)) :: ((Value.int IntKind.u8 (0 : Int)) :: ((Value.int IntKind.u8 (0 : Int)) :: ((Value.int IntKind.u8 (0 : Int)) :: ((Value.int IntKind.u8 (0 : Int)) :: ((Value.int IntKind.u8 (0 : Int)) :: [])))))))))))))))))))))))) false false) := rfl
@[go_sem ↓] theorem wt70 (k : TyI → Prop) : withTy E 70 k = k (TyI.mk TK.func 1 8 (Value.nilFunc :: []) false false) := rfl
@[go_sem ↓] theorem wt73 (k : TyI → Prop) : withTy E 73 k = k (TyI.mk TK.func 1 8 (Value.nilFunc :: []) false false) := rfl
@[go_sem ↓] theorem wt78 (k : TyI → Prop) : withTy E 78 k = k (TyI.mk (TK.arr 20 22 1 false) 20 160 ((Value.int IntKind.u64 (0 : Int)) :: ((Value.int IntKind.u64 (0 : Int)) :: ((Value.int IntKind.u64 (0 : Int)) :: ((Value.int IntKind.u64 (0 : Int)) :: ((Value.int IntKind.u64 (0 : Int)) :: ((Value.int IntKind.u64 (0 : Int)) :: ((Value.int IntKind.u64 (0 : Int)) :: ((Value.int IntKind.u64 (0 : Int)) :: ((Value.int IntKind.u64 (0 : Int)) :: ((Value.int IntKind.u64 (0 : Int)) :: ((Value.int IntKind.u64 (0 : Int)) :: ((Value.int IntKind.u64 (0 : Int)) :: ((Value.int IntKind.u64 (0 : Int)) :: ((Value.int IntKind.u64 (0 : Int)) :: ((Value.int IntKind.u64 (0 : Int)) :: ((Value.int IntKind.u64 (0 : Int)) :: ((Value.int IntKind.u64 (0 : Int)) :: ((Value.int IntKind.u64 (0 : Int)) :: ((Value.int IntKind.u64 (0 : Int)) :: ((Value.int IntKind.u64 (0 : Int)) :: [])))))))))))))))))))) false false) := rfl
@[go_sem ↓] theorem wt85 (k : TyI → Prop) : withTy E 85 k = k (TyI.mk (TK.ptr 93) 1 8 ((Value.pointer none) :: []) false false) := rfl
@[go_sem ↓] theorem wt92 (k : TyI → Prop) : withTy E 92 k = k (TyI.mk (TK.struct ((FI.mk 0 1 9 true false) :: ((FI.mk 1 1 9 true false) :: ((FI.mk 2 1 65 true false) :: [])))) 3 48 ((Value.string (ByteArray.mk (Array.mk []))) :: ((Value.string (ByteArray.mk (Array.mk []))) :: (Value.nilIface :: []))) false true) := rfl
@[go_sem ↓] theorem wt93 (k : TyI → Prop) : withTy E 93 k = k (TyI.mk (TK.struct ((FI.mk 0 1 9 true false) :: ((FI.mk 1 1 9 true false) :: ((FI.mk 2 1 65 true false) :: [])))) 3 48 ((Value.string (ByteArray.mk (Array.mk []))) :: ((Value.string (ByteArray.mk (Array.mk []))) :: (Value.nilIface :: []))) false true) := rfl
@[go_sem ↓] theorem wt97 (k : TyI → Prop) : withTy E 97 k = k (TyI.mk (TK.ptr 5) 1 8 ((Value.pointer none) :: []) false false) := rfl
@[go_sem ↓] theorem wt102 (k : TyI → Prop) : withTy E 102 k = k (TyI.mk (TK.struct ((FI.mk 0 1 17 true false) :: ((FI.mk 1 1 17 true false) :: ((FI.mk 2 1 17 true false) :: ((FI.mk 3 1 9 true false) :: []))))) 4 40 ((Value.pointer none) :: ((Value.pointer none) :: ((Value.pointer none) :: ((Value.string (ByteArray.mk (Array.mk []))) :: [])))) true false) := rfl
@[go_sem ↓] theorem wt104 (k : TyI → Prop) : withTy E 104 k = k (TyI.mk (TK.arr 0 16 1 false) 0 0 [] false false) := rfl
@[go_sem ↓] theorem wt106 (k : TyI → Prop) : withTy E 106 k = k (TyI.mk (TK.struct ((FI.mk 0 0 104 false true) :: [])) 0 0 [] true false) := rfl
@[go_sem ↓] theorem wt108 (k : TyI → Prop) : withTy E 108 k = k (TyI.mk (TK.int IntKind.u8) 1 1 ((Value.int IntKind.u8 (0 : Int)) :: []) false false) := rfl
@[go_sem ↓] theorem wt109 (k : TyI → Prop) : withTy E 109 k = k (TyI.mk (TK.int IntKind.u8) 1 1 ((Value.int IntKind.u8 (0 : Int)) :: []) false false) := rfl
@[go_sem ↓] theorem wt110 (k : TyI → Prop) : withTy E 110 k = k (TyI.mk TK.func 1 8 (Value.nilFunc :: []) false false) := rfl
@[go_sem ↓] theorem wt111 (k : TyI → Prop) : withTy E 111 k = k (TyI.mk (TK.int IntKind.i32) 1 4 ((Value.int IntKind.i32 (0 : Int)) :: []) false false) := rfl
@[go_sem ↓] theorem wt112 (k : TyI → Prop) : withTy E 112 k = k (TyI.mk (TK.int IntKind.i32) 1 4 ((Value.int IntKind.i32 (0 : Int)) :: []) false false) := rfl
@[go_sem ↓] theorem wt114 (k : TyI → Prop) : withTy E 114 k = k (TyI.mk (TK.struct ((FI.mk 0 1 12 true false) :: ((FI.mk 1 1 12 true false) :: ((FI.mk 2 1 55 true false) :: ((FI.mk 3 1 108 true false) :: ((FI.mk 4 1 5 true false) :: ((FI.mk 5 1 5 true false) :: ((FI.mk 6 1 109 true false) :: ((FI.mk 7 1 110 true false) :: ((FI.mk 8 1 97 true false) :: ((FI.mk 9 1 111 true false) :: ((FI.mk 10 1 112 true false) :: [])))))))))))) 11 48 ((Value.int IntKind.u64 (0 : Int)) :: ((Value.int IntKind.u64 (0 : Int)) :: ((Value.int IntKind.u32 (0 : Int)) :: ((Value.int IntKind.u8 (0 : Int)) :: ((Value.int IntKind.u8 (0 : Int)) :: ((Value.int IntKind.u8 (0 : Int)) :: ((Value.int IntKind.u8 (0 : Int)) :: (Value.nilFunc :: ((Value.pointer none) :: ((Value.int IntKind.i32 (0 : Int)) :: ((Value.int IntKind.i32 (0 : Int)) :: []))))))))))) true false) := rfl
end Go.Proofs.YtkmobahedfdikaaDoor
