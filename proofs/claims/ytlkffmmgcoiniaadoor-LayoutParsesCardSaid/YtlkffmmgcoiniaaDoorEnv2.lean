/- The types of this program, as tables, and what is known of its package-level variables. No conditions. -/
import Derived.Test.YtlkffmmgcoiniaaDoorAc4
import Derived.Test.YtlkffmmgcoiniaaDoorProg
import Derived.KernelRfl
namespace Go.Proofs.YtlkffmmgcoiniaaDoor
open Go Go.Ab
theorem gn0 : Tryd.prog.globalNamed "internal/strconv.uint64pow10" = some 2 := by kernel_rfl
theorem gnW : Tryd.prog.globalNamed "bedrock/layout.widths" = some 1 := by kernel_rfl
theorem gnN : Tryd.prog.globalNamed "bedrock/layout.typeNames" = some 0 := by kernel_rfl
/-- A variable's cells. -/
def VarIs (P : Program) (w : World) (name : String) (vs : List Value) : Prop := w.var? P name = some vs.toArray
theorem varIs_keep {P : Program} {w w' : World} {name : String} {vs : List Value} {g : Nat} (hg : P.globalNamed name = some g) (h : w'.heap[g]? = w.heap[g]?) (ht : VarIs P w name vs) : VarIs P w' name vs := by
  unfold VarIs World.var? at ht ⊢
  rw [hg] at ht ⊢
  simp only [Option.bind_some] at ht ⊢
  rw [h]; exact ht
theorem varIs_lt {P : Program} {w : World} {name : String} {vs : List Value} {g : Nat} (hg : P.globalNamed name = some g) (ht : VarIs P w name vs) : g < w.heap.size := by
  unfold VarIs World.var? at ht
  rw [hg] at ht
  simp only [Option.bind_some] at ht
  rcases Nat.lt_or_ge g w.heap.size with h | h
  · exact h
  · simp [Array.getElem?_eq_none h] at ht
def widthVs : List Value := [.int .i64 0, .int .i64 64, .int .i64 64, .int .i64 32, .int .i64 16, .int .i64 8, .int .i64 1, .int .i64 64]
def nameBs : List (List UInt8) := [[], [117, 54, 52], [105, 54, 52], [117, 51, 50], [117, 49, 54], [117, 56], [102, 108, 97, 103], [112, 111, 105, 110, 116, 101, 114]]
def nameVs : List Value := nameBs.map fun l => .string ⟨l.toArray⟩
/-- A variable of an interface's type. -/
def CellI (w : World) (g : Nat) : Prop := ∃ ev, w.cell? ⟨g, 0, none⟩ = some ev ∧ (ev = .nilIface ∨ ∃ te pe, ev = .iface te pe)
theorem cellI_keep {w w' : World} {g : Nat} (h : w'.heap[g]? = w.heap[g]?) (hc : CellI w g) : CellI w' g := by
  obtain ⟨ev, h1, h2⟩ := hc
  exact ⟨ev, by rw [← h1]; exact cell_of_heap h, h2⟩
/-- What is known of the package-level variables: the table of powers of ten; that the library's bound for a search is a number; the widths and the names of the types. -/
def Gl (Z : Nat → Prop) (w : World) : Prop := ((Z 2 ∧ Z 5) ∧ (Z 3 ∧ Z 4) ∧ CellI w 3 ∧ CellI w 4) ∧ Lib.TabIs Tryd.prog w "internal/strconv.uint64pow10" .u64 Lib.pow10Tab ∧ (∃ m, w.cell? ⟨5, 0, none⟩ = some (.int .i64 m)) ∧
  (Z 0 ∧ Z 1) ∧ VarIs Tryd.prog w "bedrock/layout.widths" widthVs ∧ VarIs Tryd.prog w "bedrock/layout.typeNames" nameVs
def mapVP : List Value → List PV
  | [] => []
  | x :: l => .v x :: mapVP l
theorem reps_vals {Z : Nat → Prop} {w : World} : ∀ (l : List Value), AllOne l → Reps Z w (mapVP l) l
  | [], _ => rfl
  | x :: l, h => by
    simp only [mapVP, Reps]
    exact ⟨x, l, rfl, by simp only [Rep]; exact ⟨trivial, h x List.mem_cons_self⟩, reps_vals l fun y hy => h y (List.mem_cons_of_mem _ hy)⟩
theorem varIs_at {P : Program} {w : World} {name : String} {vs : List Value} {g : Nat} (hg : P.globalNamed name = some g) (h : VarIs P w name vs) : At w g 0 vs := fun i u hi => by
  rw [World.var?_cell hg h (0 + i), Nat.zero_add]; simpa using hi
noncomputable instance : Glob where
  G := Gl
  mono := fun hz hk h => ⟨⟨⟨hz _ h.1.1.1, hz _ h.1.1.2⟩, ⟨hz _ h.1.2.1.1, hz _ h.1.2.1.2⟩, cellI_keep (hk _ h.1.2.1.1) h.1.2.2.1, cellI_keep (hk _ h.1.2.1.2) h.1.2.2.2⟩, tabIs_keep gn0 (hk _ h.1.1.1) h.2.1, by obtain ⟨m, hm⟩ := h.2.2.1; exact ⟨m, by rw [← hm]; exact cell_of_heap (hk _ h.1.1.2)⟩,
    ⟨hz _ h.2.2.2.1.1, hz _ h.2.2.2.1.2⟩, varIs_keep gnW (hk _ h.2.2.2.1.2) h.2.2.2.2.1, varIs_keep gnN (hk _ h.2.2.2.1.1) h.2.2.2.2.2⟩
  tab := [(1, mapVP widthVs), (0, mapVP nameVs)]
  bld := 103
  slots := slotOf [(14, 2)]
  ok := fun {Z w g cs} h hg => by
    simp only [gfind] at hg
    split at hg
    · rename_i h1
      have h1 := Nat.eq_of_beq_eq_true h1
      simp only [Option.some.injEq] at hg
      subst h1 hg
      exact ⟨h.2.2.2.1.2, widthVs, reps_vals _ (by unfold AllOne widthVs; decide), (by unfold AllOne widthVs; decide), varIs_at gnW h.2.2.2.2.1⟩
    · split at hg
      · rename_i h1
        have h1 := Nat.eq_of_beq_eq_true h1
        simp only [Option.some.injEq] at hg
        subst h1 hg
        exact ⟨h.2.2.2.1.1, nameVs, reps_vals _ (fun x hx => by obtain ⟨l, _, rfl⟩ := List.mem_map.1 hx; rfl), (fun x hx => by obtain ⟨l, _, rfl⟩ := List.mem_map.1 hx; rfl), varIs_at gnN h.2.2.2.2.2⟩
      · simp at hg
@[go_sem] theorem bldE : (Glob.bld : TypeId) = 103 := rfl
@[go_sem] theorem slotsE (g : Nat) : Glob.slots g = slotOf [(14, 2)] g := rfl
def widthPs : List PV := [.v (.int .i64 0), .v (.int .i64 64), .v (.int .i64 64), .v (.int .i64 32), .v (.int .i64 16), .v (.int .i64 8), .v (.int .i64 1), .v (.int .i64 64)]
def namePs : List PV := nameBs.map fun l => .v (.string ⟨l.toArray⟩)
@[go_sem] theorem tabE1 : gfind (Glob.tab : List (Nat × List PV)) 1 = some [.v (.int .i64 0), .v (.int .i64 64), .v (.int .i64 64), .v (.int .i64 32), .v (.int .i64 16), .v (.int .i64 8), .v (.int .i64 1), .v (.int .i64 64)] := rfl
@[go_sem] theorem tabE0 : gfind (Glob.tab : List (Nat × List PV)) 0 = some [.v (.string ⟨[].toArray⟩), .v (.string ⟨[117, 54, 52].toArray⟩), .v (.string ⟨[105, 54, 52].toArray⟩), .v (.string ⟨[117, 51, 50].toArray⟩), .v (.string ⟨[117, 49, 54].toArray⟩), .v (.string ⟨[117, 56].toArray⟩), .v (.string ⟨[102, 108, 97, 103].toArray⟩), .v (.string ⟨[112, 111, 105, 110, 116, 101, 114].toArray⟩)] := rfl
noncomputable def tys : List (TypeId × TyI) := [
  (2, (TyI.mk (TK.int IntKind.i64) 1 8 ((Value.int IntKind.i64 (0 : Int)) :: []) false false)),
  (3, (TyI.mk (TK.int IntKind.i64) 1 8 ((Value.int IntKind.i64 (0 : Int)) :: []) false false)),
  (4, (TyI.mk TK.bool 1 1 ((Value.bool false) :: []) false false)),
  (5, (TyI.mk (TK.int IntKind.u8) 1 1 ((Value.int IntKind.u8 (0 : Int)) :: []) false false)),
  (6, (TyI.mk (TK.int IntKind.u8) 1 1 ((Value.int IntKind.u8 (0 : Int)) :: []) false false)),
  (7, (TyI.mk (TK.struct ((FI.mk 0 1 2 true false) :: ((FI.mk 1 1 3 true false) :: ((FI.mk 2 1 4 true false) :: ((FI.mk 3 1 6 true false) :: []))))) 4 24 ((Value.int IntKind.i64 (0 : Int)) :: ((Value.int IntKind.i64 (0 : Int)) :: ((Value.bool false) :: ((Value.int IntKind.u8 (0 : Int)) :: [])))) false false)),
  (8, (TyI.mk (TK.struct ((FI.mk 0 1 2 true false) :: ((FI.mk 1 1 3 true false) :: ((FI.mk 2 1 4 true false) :: ((FI.mk 3 1 6 true false) :: []))))) 4 24 ((Value.int IntKind.i64 (0 : Int)) :: ((Value.int IntKind.i64 (0 : Int)) :: ((Value.bool false) :: ((Value.int IntKind.u8 (0 : Int)) :: [])))) false false)),
  (9, (TyI.mk TK.str 1 16 ((Value.string (ByteArray.mk (Array.mk []))) :: []) false false)),
  (10, (TyI.mk TK.str 1 16 ((Value.string (ByteArray.mk (Array.mk []))) :: []) false false)),
  (11, (TyI.mk TK.str 1 16 ((Value.string (ByteArray.mk (Array.mk []))) :: []) false false)),
  (12, (TyI.mk (TK.int IntKind.u64) 1 8 ((Value.int IntKind.u64 (0 : Int)) :: []) false false)),
  (16, (TyI.mk (TK.ptr 176) 1 8 ((Value.pointer none) :: []) false false)),
  (17, (TyI.mk (TK.ptr 183) 1 8 ((Value.pointer none) :: []) false false)),
  (22, (TyI.mk (TK.slice 45 3 32 (Value.agg (Array.mk ((Value.string (ByteArray.mk (Array.mk []))) :: ((Value.int IntKind.u8 (0 : Int)) :: ((Value.int IntKind.i64 (0 : Int)) :: [])))))) 1 24 ((Value.slice none 0 0) :: []) false false)),
  (24, (TyI.mk (TK.struct ((FI.mk 0 1 9 true false) :: ((FI.mk 1 1 3 true false) :: ((FI.mk 2 1 22 true false) :: [])))) 3 48 ((Value.string (ByteArray.mk (Array.mk []))) :: ((Value.int IntKind.i64 (0 : Int)) :: ((Value.slice none 0 0) :: []))) false false)),
  (27, (TyI.mk (TK.slice 47 6 56 (Value.agg (Array.mk ((Value.string (ByteArray.mk (Array.mk []))) :: ((Value.int IntKind.u8 (0 : Int)) :: ((Value.int IntKind.i64 (0 : Int)) :: ((Value.int IntKind.i64 (0 : Int)) :: ((Value.int IntKind.i64 (0 : Int)) :: ((Value.int IntKind.i64 (0 : Int)) :: []))))))))) 1 24 ((Value.slice none 0 0) :: []) false false)),
  (28, (TyI.mk (TK.struct ((FI.mk 0 1 9 true false) :: ((FI.mk 1 1 3 true false) :: ((FI.mk 2 1 27 true false) :: ((FI.mk 3 1 3 true false) :: []))))) 4 56 ((Value.string (ByteArray.mk (Array.mk []))) :: ((Value.int IntKind.i64 (0 : Int)) :: ((Value.slice none 0 0) :: ((Value.int IntKind.i64 (0 : Int)) :: [])))) false false)),
  (29, (TyI.mk (TK.struct ((FI.mk 0 1 9 true false) :: ((FI.mk 1 1 3 true false) :: ((FI.mk 2 1 27 true false) :: ((FI.mk 3 1 3 true false) :: []))))) 4 56 ((Value.string (ByteArray.mk (Array.mk []))) :: ((Value.int IntKind.i64 (0 : Int)) :: ((Value.slice none 0 0) :: ((Value.int IntKind.i64 (0 : Int)) :: [])))) false false)),
  (30, (TyI.mk (TK.int IntKind.i64) 1 8 ((Value.int IntKind.i64 (0 : Int)) :: []) false false)),
  (31, (TyI.mk TK.other 1 0 ((Value.tuple (Array.mk ((Value.agg (Array.mk ((Value.string (ByteArray.mk (Array.mk []))) :: ((Value.int IntKind.i64 (0 : Int)) :: ((Value.slice none 0 0) :: ((Value.int IntKind.i64 (0 : Int)) :: [])))))) :: ((Value.int IntKind.i64 (0 : Int)) :: [])))) :: []) false false)),
  (32, (TyI.mk TK.func 1 8 (Value.nilFunc :: []) false false)),
  (34, (TyI.mk (TK.slice 86 3 32 (Value.agg (Array.mk ((Value.string (ByteArray.mk (Array.mk []))) :: ((Value.int IntKind.i64 (0 : Int)) :: ((Value.int IntKind.i64 (0 : Int)) :: [])))))) 1 24 ((Value.slice none 0 0) :: []) false false)),
  (36, (TyI.mk (TK.struct ((FI.mk 0 1 9 true false) :: ((FI.mk 1 1 3 true false) :: ((FI.mk 2 1 34 true false) :: [])))) 3 48 ((Value.string (ByteArray.mk (Array.mk []))) :: ((Value.int IntKind.i64 (0 : Int)) :: ((Value.slice none 0 0) :: []))) false false)),
  (37, (TyI.mk TK.func 1 8 (Value.nilFunc :: []) false false)),
  (39, (TyI.mk (TK.slice 42 5 40 (Value.agg (Array.mk ((Value.int IntKind.i64 (0 : Int)) :: ((Value.int IntKind.i64 (0 : Int)) :: ((Value.int IntKind.i64 (0 : Int)) :: ((Value.int IntKind.i64 (0 : Int)) :: ((Value.int IntKind.i64 (0 : Int)) :: [])))))))) 1 24 ((Value.slice none 0 0) :: []) false false)),
  (40, (TyI.mk TK.func 1 8 (Value.nilFunc :: []) false false)),
  (42, (TyI.mk (TK.struct ((FI.mk 0 1 3 true false) :: ((FI.mk 1 1 3 true false) :: ((FI.mk 2 1 3 true false) :: ((FI.mk 3 1 3 true false) :: ((FI.mk 4 1 3 true false) :: [])))))) 5 40 ((Value.int IntKind.i64 (0 : Int)) :: ((Value.int IntKind.i64 (0 : Int)) :: ((Value.int IntKind.i64 (0 : Int)) :: ((Value.int IntKind.i64 (0 : Int)) :: ((Value.int IntKind.i64 (0 : Int)) :: []))))) false false)),
  (43, (TyI.mk (TK.int IntKind.u8) 1 1 ((Value.int IntKind.u8 (0 : Int)) :: []) false false)),
  (45, (TyI.mk (TK.struct ((FI.mk 0 1 9 true false) :: ((FI.mk 1 1 43 true false) :: ((FI.mk 2 1 3 true false) :: [])))) 3 32 ((Value.string (ByteArray.mk (Array.mk []))) :: ((Value.int IntKind.u8 (0 : Int)) :: ((Value.int IntKind.i64 (0 : Int)) :: []))) false false)),
  (47, (TyI.mk (TK.struct ((FI.mk 0 3 45 true true) :: ((FI.mk 3 1 3 true false) :: ((FI.mk 4 1 3 true false) :: ((FI.mk 5 1 3 true false) :: []))))) 6 56 ((Value.string (ByteArray.mk (Array.mk []))) :: ((Value.int IntKind.u8 (0 : Int)) :: ((Value.int IntKind.i64 (0 : Int)) :: ((Value.int IntKind.i64 (0 : Int)) :: ((Value.int IntKind.i64 (0 : Int)) :: ((Value.int IntKind.i64 (0 : Int)) :: [])))))) false false)),
  (48, (TyI.mk TK.other 1 0 ((Value.tuple (Array.mk ((Value.agg (Array.mk ((Value.string (ByteArray.mk (Array.mk []))) :: ((Value.int IntKind.u8 (0 : Int)) :: ((Value.int IntKind.i64 (0 : Int)) :: ((Value.int IntKind.i64 (0 : Int)) :: ((Value.int IntKind.i64 (0 : Int)) :: ((Value.int IntKind.i64 (0 : Int)) :: [])))))))) :: ((Value.int IntKind.i64 (0 : Int)) :: [])))) :: []) false false)),
  (50, (TyI.mk TK.func 1 8 (Value.nilFunc :: []) false false)),
  (56, (TyI.mk (TK.int IntKind.u64) 1 8 ((Value.int IntKind.u64 (0 : Int)) :: []) false false)),
  (57, (TyI.mk TK.other 1 0 ((Value.tuple (Array.mk ((Value.slice none 0 0) :: ((Value.int IntKind.i64 (0 : Int)) :: [])))) :: []) false false)),
  (63, (TyI.mk (TK.int IntKind.u16) 1 2 ((Value.int IntKind.u16 (0 : Int)) :: []) false false)),
  (64, (TyI.mk TK.other 1 0 ((Value.tuple (Array.mk ((Value.int IntKind.u64 (0 : Int)) :: ((Value.int IntKind.i64 (0 : Int)) :: [])))) :: []) false false)),
  (65, (TyI.mk TK.func 1 8 (Value.nilFunc :: []) false false)),
  (67, (TyI.mk TK.func 1 8 (Value.nilFunc :: []) false false)),
  (73, (TyI.mk TK.func 1 8 (Value.nilFunc :: []) false false)),
  (75, (TyI.mk (TK.slice 9 1 16 (Value.string (ByteArray.mk (Array.mk [])))) 1 24 ((Value.slice none 0 0) :: []) false false)),
  (76, (TyI.mk TK.func 1 8 (Value.nilFunc :: []) false false)),
  (78, (TyI.mk TK.func 1 8 (Value.nilFunc :: []) false false)),
  (80, (TyI.mk (TK.map 9 4 (Value.bool false)) 1 8 ((Value.map none) :: []) false false)),
  (82, (TyI.mk (TK.struct ((FI.mk 0 1 3 true false) :: ((FI.mk 1 1 3 true false) :: []))) 2 16 ((Value.int IntKind.i64 (0 : Int)) :: ((Value.int IntKind.i64 (0 : Int)) :: [])) false false)),
  (83, (TyI.mk TK.other 1 0 ((Value.tuple (Array.mk ((Value.agg (Array.mk ((Value.string (ByteArray.mk (Array.mk []))) :: ((Value.int IntKind.u8 (0 : Int)) :: ((Value.int IntKind.i64 (0 : Int)) :: ((Value.int IntKind.i64 (0 : Int)) :: ((Value.int IntKind.i64 (0 : Int)) :: ((Value.int IntKind.i64 (0 : Int)) :: [])))))))) :: ((Value.agg (Array.mk ((Value.int IntKind.i64 (0 : Int)) :: ((Value.int IntKind.i64 (0 : Int)) :: [])))) :: [])))) :: []) false false)),
  (85, (TyI.mk (TK.struct ((FI.mk 0 1 9 true false) :: ((FI.mk 1 1 3 true false) :: ((FI.mk 2 1 3 true false) :: [])))) 3 32 ((Value.string (ByteArray.mk (Array.mk []))) :: ((Value.int IntKind.i64 (0 : Int)) :: ((Value.int IntKind.i64 (0 : Int)) :: []))) false false)),
  (86, (TyI.mk (TK.struct ((FI.mk 0 1 9 true false) :: ((FI.mk 1 1 3 true false) :: ((FI.mk 2 1 3 true false) :: [])))) 3 32 ((Value.string (ByteArray.mk (Array.mk []))) :: ((Value.int IntKind.i64 (0 : Int)) :: ((Value.int IntKind.i64 (0 : Int)) :: []))) false false)),
  (96, (TyI.mk TK.func 1 8 (Value.nilFunc :: []) false false)),
  (100, (TyI.mk (TK.ptr 103) 1 8 ((Value.pointer none) :: []) false false)),
  (101, (TyI.mk (TK.slice 5 1 1 (Value.int IntKind.u8 (0 : Int))) 1 24 ((Value.slice none 0 0) :: []) false false)),
  (103, (TyI.mk (TK.struct ((FI.mk 0 1 100 true false) :: ((FI.mk 1 1 101 true false) :: []))) 2 32 ((Value.pointer none) :: ((Value.slice none 0 0) :: [])) false false)),
  (105, (TyI.mk (TK.iface false) 1 16 (Value.nilIface :: []) false true)),
  (106, (TyI.mk TK.other 1 0 ((Value.tuple (Array.mk ((Value.int IntKind.i64 (0 : Int)) :: (Value.nilIface :: [])))) :: []) false false)),
  (109, (TyI.mk (TK.arr 8 9 1 false) 8 128 ((Value.string (ByteArray.mk (Array.mk []))) :: ((Value.string (ByteArray.mk (Array.mk []))) :: ((Value.string (ByteArray.mk (Array.mk []))) :: ((Value.string (ByteArray.mk (Array.mk []))) :: ((Value.string (ByteArray.mk (Array.mk []))) :: ((Value.string (ByteArray.mk (Array.mk []))) :: ((Value.string (ByteArray.mk (Array.mk []))) :: ((Value.string (ByteArray.mk (Array.mk []))) :: [])))))))) false false)),
  (110, (TyI.mk TK.other 1 0 ((Value.tuple (Array.mk ((Value.agg (Array.mk ((Value.string (ByteArray.mk (Array.mk []))) :: ((Value.int IntKind.i64 (0 : Int)) :: ((Value.slice none 0 0) :: ((Value.int IntKind.i64 (0 : Int)) :: [])))))) :: ((Value.bool false) :: [])))) :: []) false false)),
  (113, (TyI.mk (TK.arr 8 3 1 false) 8 64 ((Value.int IntKind.i64 (0 : Int)) :: ((Value.int IntKind.i64 (0 : Int)) :: ((Value.int IntKind.i64 (0 : Int)) :: ((Value.int IntKind.i64 (0 : Int)) :: ((Value.int IntKind.i64 (0 : Int)) :: ((Value.int IntKind.i64 (0 : Int)) :: ((Value.int IntKind.i64 (0 : Int)) :: ((Value.int IntKind.i64 (0 : Int)) :: [])))))))) false false)),
  (116, (TyI.mk (TK.ptr 5) 1 8 ((Value.pointer none) :: []) false false)),
  (118, (TyI.mk TK.other 1 0 ((Value.tuple (Array.mk ((Value.string (ByteArray.mk (Array.mk []))) :: ((Value.bool false) :: [])))) :: []) false false)),
  (120, (TyI.mk TK.other 1 0 ((Value.tuple (Array.mk ((Value.agg (Array.mk ((Value.string (ByteArray.mk (Array.mk []))) :: ((Value.int IntKind.u8 (0 : Int)) :: ((Value.int IntKind.i64 (0 : Int)) :: []))))) :: ((Value.bool false) :: [])))) :: []) false false)),
  (127, (TyI.mk TK.other 1 0 ((Value.tuple (Array.mk ((Value.string (ByteArray.mk (Array.mk []))) :: ((Value.string (ByteArray.mk (Array.mk []))) :: ((Value.bool false) :: []))))) :: []) false false)),
  (128, (TyI.mk TK.func 1 8 (Value.nilFunc :: []) false false)),
  (143, (TyI.mk TK.func 1 8 (Value.nilFunc :: []) false false)),
  (145, (TyI.mk (TK.int IntKind.u32) 1 4 ((Value.int IntKind.u32 (0 : Int)) :: []) false false)),
  (148, (TyI.mk TK.func 1 8 (Value.nilFunc :: []) false false)),
  (153, (TyI.mk TK.other 1 0 ((Value.tuple (Array.mk ((Value.int IntKind.u64 (0 : Int)) :: (Value.nilIface :: [])))) :: []) false false)),
  (158, (TyI.mk TK.func 1 8 (Value.nilFunc :: []) false false)),
  (163, (TyI.mk (TK.struct ((FI.mk 0 1 9 true false) :: [])) 1 16 ((Value.string (ByteArray.mk (Array.mk []))) :: []) false false)),
  (173, (TyI.mk (TK.struct ((FI.mk 0 1 17 true false) :: ((FI.mk 1 1 17 true false) :: ((FI.mk 2 1 17 true false) :: ((FI.mk 3 1 9 true false) :: []))))) 4 40 ((Value.pointer none) :: ((Value.pointer none) :: ((Value.pointer none) :: ((Value.string (ByteArray.mk (Array.mk []))) :: [])))) true false)),
  (174, (TyI.mk (TK.arr 0 16 1 false) 0 0 [] false false)),
  (176, (TyI.mk (TK.struct ((FI.mk 0 0 174 false true) :: [])) 0 0 [] true false)),
  (177, (TyI.mk (TK.int IntKind.u8) 1 1 ((Value.int IntKind.u8 (0 : Int)) :: []) false false)),
  (178, (TyI.mk (TK.int IntKind.u8) 1 1 ((Value.int IntKind.u8 (0 : Int)) :: []) false false)),
  (179, (TyI.mk TK.func 1 8 (Value.nilFunc :: []) false false)),
  (180, (TyI.mk (TK.int IntKind.i32) 1 4 ((Value.int IntKind.i32 (0 : Int)) :: []) false false)),
  (181, (TyI.mk (TK.int IntKind.i32) 1 4 ((Value.int IntKind.i32 (0 : Int)) :: []) false false)),
  (183, (TyI.mk (TK.struct ((FI.mk 0 1 12 true false) :: ((FI.mk 1 1 12 true false) :: ((FI.mk 2 1 145 true false) :: ((FI.mk 3 1 177 true false) :: ((FI.mk 4 1 5 true false) :: ((FI.mk 5 1 5 true false) :: ((FI.mk 6 1 178 true false) :: ((FI.mk 7 1 179 true false) :: ((FI.mk 8 1 116 true false) :: ((FI.mk 9 1 180 true false) :: ((FI.mk 10 1 181 true false) :: [])))))))))))) 11 48 ((Value.int IntKind.u64 (0 : Int)) :: ((Value.int IntKind.u64 (0 : Int)) :: ((Value.int IntKind.u32 (0 : Int)) :: ((Value.int IntKind.u8 (0 : Int)) :: ((Value.int IntKind.u8 (0 : Int)) :: ((Value.int IntKind.u8 (0 : Int)) :: ((Value.int IntKind.u8 (0 : Int)) :: (Value.nilFunc :: ((Value.pointer none) :: ((Value.int IntKind.i32 (0 : Int)) :: ((Value.int IntKind.i32 (0 : Int)) :: []))))))))))) true false))
]
theorem tysOk : tys.map (fun p => tyOf Tryd.prog p.1) = tys.map (fun p => some p.2) := by kernel_rfl
theorem mixed : Tryd.prog.follows .mixedOrders = true := by kernel_rfl
noncomputable def E : Env := ⟨Tryd.prog, tys, tfind_ok tysOk, mixed⟩
@[go_sem] theorem ty2 : tfind E.tys 2 = some (TyI.mk (TK.int IntKind.i64) 1 8 ((Value.int IntKind.i64 (0 : Int)) :: []) false false) := rfl
@[go_sem] theorem ty3 : tfind E.tys 3 = some (TyI.mk (TK.int IntKind.i64) 1 8 ((Value.int IntKind.i64 (0 : Int)) :: []) false false) := rfl
@[go_sem] theorem ty4 : tfind E.tys 4 = some (TyI.mk TK.bool 1 1 ((Value.bool false) :: []) false false) := rfl
@[go_sem] theorem ty5 : tfind E.tys 5 = some (TyI.mk (TK.int IntKind.u8) 1 1 ((Value.int IntKind.u8 (0 : Int)) :: []) false false) := rfl
@[go_sem] theorem ty6 : tfind E.tys 6 = some (TyI.mk (TK.int IntKind.u8) 1 1 ((Value.int IntKind.u8 (0 : Int)) :: []) false false) := rfl
@[go_sem] theorem ty7 : tfind E.tys 7 = some (TyI.mk (TK.struct ((FI.mk 0 1 2 true false) :: ((FI.mk 1 1 3 true false) :: ((FI.mk 2 1 4 true false) :: ((FI.mk 3 1 6 true false) :: []))))) 4 24 ((Value.int IntKind.i64 (0 : Int)) :: ((Value.int IntKind.i64 (0 : Int)) :: ((Value.bool false) :: ((Value.int IntKind.u8 (0 : Int)) :: [])))) false false) := rfl
@[go_sem] theorem ty8 : tfind E.tys 8 = some (TyI.mk (TK.struct ((FI.mk 0 1 2 true false) :: ((FI.mk 1 1 3 true false) :: ((FI.mk 2 1 4 true false) :: ((FI.mk 3 1 6 true false) :: []))))) 4 24 ((Value.int IntKind.i64 (0 : Int)) :: ((Value.int IntKind.i64 (0 : Int)) :: ((Value.bool false) :: ((Value.int IntKind.u8 (0 : Int)) :: [])))) false false) := rfl
@[go_sem] theorem ty9 : tfind E.tys 9 = some (TyI.mk TK.str 1 16 ((Value.string (ByteArray.mk (Array.mk []))) :: []) false false) := rfl
@[go_sem] theorem ty10 : tfind E.tys 10 = some (TyI.mk TK.str 1 16 ((Value.string (ByteArray.mk (Array.mk []))) :: []) false false) := rfl
@[go_sem] theorem ty11 : tfind E.tys 11 = some (TyI.mk TK.str 1 16 ((Value.string (ByteArray.mk (Array.mk []))) :: []) false false) := rfl
@[go_sem] theorem ty12 : tfind E.tys 12 = some (TyI.mk (TK.int IntKind.u64) 1 8 ((Value.int IntKind.u64 (0 : Int)) :: []) false false) := rfl
@[go_sem] theorem ty16 : tfind E.tys 16 = some (TyI.mk (TK.ptr 176) 1 8 ((Value.pointer none) :: []) false false) := rfl
@[go_sem] theorem ty17 : tfind E.tys 17 = some (TyI.mk (TK.ptr 183) 1 8 ((Value.pointer none) :: []) false false) := rfl
@[go_sem] theorem ty22 : tfind E.tys 22 = some (TyI.mk (TK.slice 45 3 32 (Value.agg (Array.mk ((Value.string (ByteArray.mk (Array.mk []))) :: ((Value.int IntKind.u8 (0 : Int)) :: ((Value.int IntKind.i64 (0 : Int)) :: [])))))) 1 24 ((Value.slice none 0 0) :: []) false false) := rfl
@[go_sem] theorem ty24 : tfind E.tys 24 = some (TyI.mk (TK.struct ((FI.mk 0 1 9 true false) :: ((FI.mk 1 1 3 true false) :: ((FI.mk 2 1 22 true false) :: [])))) 3 48 ((Value.string (ByteArray.mk (Array.mk []))) :: ((Value.int IntKind.i64 (0 : Int)) :: ((Value.slice none 0 0) :: []))) false false) := rfl
@[go_sem] theorem ty27 : tfind E.tys 27 = some (TyI.mk (TK.slice 47 6 56 (Value.agg (Array.mk ((Value.string (ByteArray.mk (Array.mk []))) :: ((Value.int IntKind.u8 (0 : Int)) :: ((Value.int IntKind.i64 (0 : Int)) :: ((Value.int IntKind.i64 (0 : Int)) :: ((Value.int IntKind.i64 (0 : Int)) :: ((Value.int IntKind.i64 (0 : Int)) :: []))))))))) 1 24 ((Value.slice none 0 0) :: []) false false) := rfl
@[go_sem] theorem ty28 : tfind E.tys 28 = some (TyI.mk (TK.struct ((FI.mk 0 1 9 true false) :: ((FI.mk 1 1 3 true false) :: ((FI.mk 2 1 27 true false) :: ((FI.mk 3 1 3 true false) :: []))))) 4 56 ((Value.string (ByteArray.mk (Array.mk []))) :: ((Value.int IntKind.i64 (0 : Int)) :: ((Value.slice none 0 0) :: ((Value.int IntKind.i64 (0 : Int)) :: [])))) false false) := rfl
@[go_sem] theorem ty29 : tfind E.tys 29 = some (TyI.mk (TK.struct ((FI.mk 0 1 9 true false) :: ((FI.mk 1 1 3 true false) :: ((FI.mk 2 1 27 true false) :: ((FI.mk 3 1 3 true false) :: []))))) 4 56 ((Value.string (ByteArray.mk (Array.mk []))) :: ((Value.int IntKind.i64 (0 : Int)) :: ((Value.slice none 0 0) :: ((Value.int IntKind.i64 (0 : Int)) :: [])))) false false) := rfl
@[go_sem] theorem ty30 : tfind E.tys 30 = some (TyI.mk (TK.int IntKind.i64) 1 8 ((Value.int IntKind.i64 (0 : Int)) :: []) false false) := rfl
@[go_sem] theorem ty31 : tfind E.tys 31 = some (TyI.mk TK.other 1 0 ((Value.tuple (Array.mk ((Value.agg (Array.mk ((Value.string (ByteArray.mk (Array.mk []))) :: ((Value.int IntKind.i64 (0 : Int)) :: ((Value.slice none 0 0) :: ((Value.int IntKind.i64 (0 : Int)) :: [])))))) :: ((Value.int IntKind.i64 (0 : Int)) :: [])))) :: []) false false) := rfl
@[go_sem] theorem ty32 : tfind E.tys 32 = some (TyI.mk TK.func 1 8 (Value.nilFunc :: []) false false) := rfl
@[go_sem] theorem ty34 : tfind E.tys 34 = some (TyI.mk (TK.slice 86 3 32 (Value.agg (Array.mk ((Value.string (ByteArray.mk (Array.mk []))) :: ((Value.int IntKind.i64 (0 : Int)) :: ((Value.int IntKind.i64 (0 : Int)) :: [])))))) 1 24 ((Value.slice none 0 0) :: []) false false) := rfl
@[go_sem] theorem ty36 : tfind E.tys 36 = some (TyI.mk (TK.struct ((FI.mk 0 1 9 true false) :: ((FI.mk 1 1 3 true false) :: ((FI.mk 2 1 34 true false) :: [])))) 3 48 ((Value.string (ByteArray.mk (Array.mk []))) :: ((Value.int IntKind.i64 (0 : Int)) :: ((Value.slice none 0 0) :: []))) false false) := rfl
@[go_sem] theorem ty37 : tfind E.tys 37 = some (TyI.mk TK.func 1 8 (Value.nilFunc :: []) false false) := rfl
@[go_sem] theorem ty39 : tfind E.tys 39 = some (TyI.mk (TK.slice 42 5 40 (Value.agg (Array.mk ((Value.int IntKind.i64 (0 : Int)) :: ((Value.int IntKind.i64 (0 : Int)) :: ((Value.int IntKind.i64 (0 : Int)) :: ((Value.int IntKind.i64 (0 : Int)) :: ((Value.int IntKind.i64 (0 : Int)) :: [])))))))) 1 24 ((Value.slice none 0 0) :: []) false false) := rfl
@[go_sem] theorem ty40 : tfind E.tys 40 = some (TyI.mk TK.func 1 8 (Value.nilFunc :: []) false false) := rfl
@[go_sem] theorem ty42 : tfind E.tys 42 = some (TyI.mk (TK.struct ((FI.mk 0 1 3 true false) :: ((FI.mk 1 1 3 true false) :: ((FI.mk 2 1 3 true false) :: ((FI.mk 3 1 3 true false) :: ((FI.mk 4 1 3 true false) :: [])))))) 5 40 ((Value.int IntKind.i64 (0 : Int)) :: ((Value.int IntKind.i64 (0 : Int)) :: ((Value.int IntKind.i64 (0 : Int)) :: ((Value.int IntKind.i64 (0 : Int)) :: ((Value.int IntKind.i64 (0 : Int)) :: []))))) false false) := rfl
@[go_sem] theorem ty43 : tfind E.tys 43 = some (TyI.mk (TK.int IntKind.u8) 1 1 ((Value.int IntKind.u8 (0 : Int)) :: []) false false) := rfl
@[go_sem] theorem ty45 : tfind E.tys 45 = some (TyI.mk (TK.struct ((FI.mk 0 1 9 true false) :: ((FI.mk 1 1 43 true false) :: ((FI.mk 2 1 3 true false) :: [])))) 3 32 ((Value.string (ByteArray.mk (Array.mk []))) :: ((Value.int IntKind.u8 (0 : Int)) :: ((Value.int IntKind.i64 (0 : Int)) :: []))) false false) := rfl
@[go_sem] theorem ty47 : tfind E.tys 47 = some (TyI.mk (TK.struct ((FI.mk 0 3 45 true true) :: ((FI.mk 3 1 3 true false) :: ((FI.mk 4 1 3 true false) :: ((FI.mk 5 1 3 true false) :: []))))) 6 56 ((Value.string (ByteArray.mk (Array.mk []))) :: ((Value.int IntKind.u8 (0 : Int)) :: ((Value.int IntKind.i64 (0 : Int)) :: ((Value.int IntKind.i64 (0 : Int)) :: ((Value.int IntKind.i64 (0 : Int)) :: ((Value.int IntKind.i64 (0 : Int)) :: [])))))) false false) := rfl
@[go_sem] theorem ty48 : tfind E.tys 48 = some (TyI.mk TK.other 1 0 ((Value.tuple (Array.mk ((Value.agg (Array.mk ((Value.string (ByteArray.mk (Array.mk []))) :: ((Value.int IntKind.u8 (0 : Int)) :: ((Value.int IntKind.i64 (0 : Int)) :: ((Value.int IntKind.i64 (0 : Int)) :: ((Value.int IntKind.i64 (0 : Int)) :: ((Value.int IntKind.i64 (0 : Int)) :: [])))))))) :: ((Value.int IntKind.i64 (0 : Int)) :: [])))) :: []) false false) := rfl
@[go_sem] theorem ty50 : tfind E.tys 50 = some (TyI.mk TK.func 1 8 (Value.nilFunc :: []) false false) := rfl
@[go_sem] theorem ty56 : tfind E.tys 56 = some (TyI.mk (TK.int IntKind.u64) 1 8 ((Value.int IntKind.u64 (0 : Int)) :: []) false false) := rfl
@[go_sem] theorem ty57 : tfind E.tys 57 = some (TyI.mk TK.other 1 0 ((Value.tuple (Array.mk ((Value.slice none 0 0) :: ((Value.int IntKind.i64 (0 : Int)) :: [])))) :: []) false false) := rfl
@[go_sem] theorem ty63 : tfind E.tys 63 = some (TyI.mk (TK.int IntKind.u16) 1 2 ((Value.int IntKind.u16 (0 : Int)) :: []) false false) := rfl
@[go_sem] theorem ty64 : tfind E.tys 64 = some (TyI.mk TK.other 1 0 ((Value.tuple (Array.mk ((Value.int IntKind.u64 (0 : Int)) :: ((Value.int IntKind.i64 (0 : Int)) :: [])))) :: []) false false) := rfl
@[go_sem] theorem ty65 : tfind E.tys 65 = some (TyI.mk TK.func 1 8 (Value.nilFunc :: []) false false) := rfl
@[go_sem] theorem ty67 : tfind E.tys 67 = some (TyI.mk TK.func 1 8 (Value.nilFunc :: []) false false) := rfl
@[go_sem] theorem ty73 : tfind E.tys 73 = some (TyI.mk TK.func 1 8 (Value.nilFunc :: []) false false) := rfl
@[go_sem] theorem ty75 : tfind E.tys 75 = some (TyI.mk (TK.slice 9 1 16 (Value.string (ByteArray.mk (Array.mk [])))) 1 24 ((Value.slice none 0 0) :: []) false false) := rfl
@[go_sem] theorem ty76 : tfind E.tys 76 = some (TyI.mk TK.func 1 8 (Value.nilFunc :: []) false false) := rfl
@[go_sem] theorem ty78 : tfind E.tys 78 = some (TyI.mk TK.func 1 8 (Value.nilFunc :: []) false false) := rfl
@[go_sem] theorem ty80 : tfind E.tys 80 = some (TyI.mk (TK.map 9 4 (Value.bool false)) 1 8 ((Value.map none) :: []) false false) := rfl
@[go_sem] theorem ty82 : tfind E.tys 82 = some (TyI.mk (TK.struct ((FI.mk 0 1 3 true false) :: ((FI.mk 1 1 3 true false) :: []))) 2 16 ((Value.int IntKind.i64 (0 : Int)) :: ((Value.int IntKind.i64 (0 : Int)) :: [])) false false) := rfl
@[go_sem] theorem ty83 : tfind E.tys 83 = some (TyI.mk TK.other 1 0 ((Value.tuple (Array.mk ((Value.agg (Array.mk ((Value.string (ByteArray.mk (Array.mk []))) :: ((Value.int IntKind.u8 (0 : Int)) :: ((Value.int IntKind.i64 (0 : Int)) :: ((Value.int IntKind.i64 (0 : Int)) :: ((Value.int IntKind.i64 (0 : Int)) :: ((Value.int IntKind.i64 (0 : Int)) :: [])))))))) :: ((Value.agg (Array.mk ((Value.int IntKind.i64 (0 : Int)) :: ((Value.int IntKind.i64 (0 : Int)) :: [])))) :: [])))) :: []) false false) := rfl
@[go_sem] theorem ty85 : tfind E.tys 85 = some (TyI.mk (TK.struct ((FI.mk 0 1 9 true false) :: ((FI.mk 1 1 3 true false) :: ((FI.mk 2 1 3 true false) :: [])))) 3 32 ((Value.string (ByteArray.mk (Array.mk []))) :: ((Value.int IntKind.i64 (0 : Int)) :: ((Value.int IntKind.i64 (0 : Int)) :: []))) false false) := rfl
@[go_sem] theorem ty86 : tfind E.tys 86 = some (TyI.mk (TK.struct ((FI.mk 0 1 9 true false) :: ((FI.mk 1 1 3 true false) :: ((FI.mk 2 1 3 true false) :: [])))) 3 32 ((Value.string (ByteArray.mk (Array.mk []))) :: ((Value.int IntKind.i64 (0 : Int)) :: ((Value.int IntKind.i64 (0 : Int)) :: []))) false false) := rfl
@[go_sem] theorem ty96 : tfind E.tys 96 = some (TyI.mk TK.func 1 8 (Value.nilFunc :: []) false false) := rfl
@[go_sem] theorem ty100 : tfind E.tys 100 = some (TyI.mk (TK.ptr 103) 1 8 ((Value.pointer none) :: []) false false) := rfl
@[go_sem] theorem ty101 : tfind E.tys 101 = some (TyI.mk (TK.slice 5 1 1 (Value.int IntKind.u8 (0 : Int))) 1 24 ((Value.slice none 0 0) :: []) false false) := rfl
@[go_sem] theorem ty103 : tfind E.tys 103 = some (TyI.mk (TK.struct ((FI.mk 0 1 100 true false) :: ((FI.mk 1 1 101 true false) :: []))) 2 32 ((Value.pointer none) :: ((Value.slice none 0 0) :: [])) false false) := rfl
@[go_sem] theorem ty105 : tfind E.tys 105 = some (TyI.mk (TK.iface false) 1 16 (Value.nilIface :: []) false true) := rfl
@[go_sem] theorem ty106 : tfind E.tys 106 = some (TyI.mk TK.other 1 0 ((Value.tuple (Array.mk ((Value.int IntKind.i64 (0 : Int)) :: (Value.nilIface :: [])))) :: []) false false) := rfl
@[go_sem] theorem ty109 : tfind E.tys 109 = some (TyI.mk (TK.arr 8 9 1 false) 8 128 ((Value.string (ByteArray.mk (Array.mk []))) :: ((Value.string (ByteArray.mk (Array.mk []))) :: ((Value.string (ByteArray.mk (Array.mk []))) :: ((Value.string (ByteArray.mk (Array.mk []))) :: ((Value.string (ByteArray.mk (Array.mk []))) :: ((Value.string (ByteArray.mk (Array.mk []))) :: ((Value.string (ByteArray.mk (Array.mk []))) :: ((Value.string (ByteArray.mk (Array.mk []))) :: [])))))))) false false) := rfl
@[go_sem] theorem ty110 : tfind E.tys 110 = some (TyI.mk TK.other 1 0 ((Value.tuple (Array.mk ((Value.agg (Array.mk ((Value.string (ByteArray.mk (Array.mk []))) :: ((Value.int IntKind.i64 (0 : Int)) :: ((Value.slice none 0 0) :: ((Value.int IntKind.i64 (0 : Int)) :: [])))))) :: ((Value.bool false) :: [])))) :: []) false false) := rfl
@[go_sem] theorem ty113 : tfind E.tys 113 = some (TyI.mk (TK.arr 8 3 1 false) 8 64 ((Value.int IntKind.i64 (0 : Int)) :: ((Value.int IntKind.i64 (0 : Int)) :: ((Value.int IntKind.i64 (0 : Int)) :: ((Value.int IntKind.i64 (0 : Int)) :: ((Value.int IntKind.i64 (0 : Int)) :: ((Value.int IntKind.i64 (0 : Int)) :: ((Value.int IntKind.i64 (0 : Int)) :: ((Value.int IntKind.i64 (0 : Int)) :: [])))))))) false false) := rfl
@[go_sem] theorem ty116 : tfind E.tys 116 = some (TyI.mk (TK.ptr 5) 1 8 ((Value.pointer none) :: []) false false) := rfl
@[go_sem] theorem ty118 : tfind E.tys 118 = some (TyI.mk TK.other 1 0 ((Value.tuple (Array.mk ((Value.string (ByteArray.mk (Array.mk []))) :: ((Value.bool false) :: [])))) :: []) false false) := rfl
@[go_sem] theorem ty120 : tfind E.tys 120 = some (TyI.mk TK.other 1 0 ((Value.tuple (Array.mk ((Value.agg (Array.mk ((Value.string (ByteArray.mk (Array.mk []))) :: ((Value.int IntKind.u8 (0 : Int)) :: ((Value.int IntKind.i64 (0 : Int)) :: []))))) :: ((Value.bool false) :: [])))) :: []) false false) := rfl
@[go_sem] theorem ty127 : tfind E.tys 127 = some (TyI.mk TK.other 1 0 ((Value.tuple (Array.mk ((Value.string (ByteArray.mk (Array.mk []))) :: ((Value.string (ByteArray.mk (Array.mk []))) :: ((Value.bool false) :: []))))) :: []) false false) := rfl
@[go_sem] theorem ty128 : tfind E.tys 128 = some (TyI.mk TK.func 1 8 (Value.nilFunc :: []) false false) := rfl
@[go_sem] theorem ty143 : tfind E.tys 143 = some (TyI.mk TK.func 1 8 (Value.nilFunc :: []) false false) := rfl
@[go_sem] theorem ty145 : tfind E.tys 145 = some (TyI.mk (TK.int IntKind.u32) 1 4 ((Value.int IntKind.u32 (0 : Int)) :: []) false false) := rfl
@[go_sem] theorem ty148 : tfind E.tys 148 = some (TyI.mk TK.func 1 8 (Value.nilFunc :: []) false false) := rfl
@[go_sem] theorem ty153 : tfind E.tys 153 = some (TyI.mk TK.other 1 0 ((Value.tuple (Array.mk ((Value.int IntKind.u64 (0 : Int)) :: (Value.nilIface :: [])))) :: []) false false) := rfl
@[go_sem] theorem ty158 : tfind E.tys 158 = some (TyI.mk TK.func 1 8 (Value.nilFunc :: []) false false) := rfl
@[go_sem] theorem ty163 : tfind E.tys 163 = some (TyI.mk (TK.struct ((FI.mk 0 1 9 true false) :: [])) 1 16 ((Value.string (ByteArray.mk (Array.mk []))) :: []) false false) := rfl
@[go_sem] theorem ty173 : tfind E.tys 173 = some (TyI.mk (TK.struct ((FI.mk 0 1 17 true false) :: ((FI.mk 1 1 17 true false) :: ((FI.mk 2 1 17 true false) :: ((FI.mk 3 1 9 true false) :: []))))) 4 40 ((Value.pointer none) :: ((Value.pointer none) :: ((Value.pointer none) :: ((Value.string (ByteArray.mk (Array.mk []))) :: [])))) true false) := rfl
@[go_sem] theorem ty174 : tfind E.tys 174 = some (TyI.mk (TK.arr 0 16 1 false) 0 0 [] false false) := rfl
@[go_sem] theorem ty176 : tfind E.tys 176 = some (TyI.mk (TK.struct ((FI.mk 0 0 174 false true) :: [])) 0 0 [] true false) := rfl
@[go_sem] theorem ty177 : tfind E.tys 177 = some (TyI.mk (TK.int IntKind.u8) 1 1 ((Value.int IntKind.u8 (0 : Int)) :: []) false false) := rfl
@[go_sem] theorem ty178 : tfind E.tys 178 = some (TyI.mk (TK.int IntKind.u8) 1 1 ((Value.int IntKind.u8 (0 : Int)) :: []) false false) := rfl
@[go_sem] theorem ty179 : tfind E.tys 179 = some (TyI.mk TK.func 1 8 (Value.nilFunc :: []) false false) := rfl
@[go_sem] theorem ty180 : tfind E.tys 180 = some (TyI.mk (TK.int IntKind.i32) 1 4 ((Value.int IntKind.i32 (0 : Int)) :: []) false false) := rfl
@[go_sem] theorem ty181 : tfind E.tys 181 = some (TyI.mk (TK.int IntKind.i32) 1 4 ((Value.int IntKind.i32 (0 : Int)) :: []) false false) := rfl
@[go_sem] theorem ty183 : tfind E.tys 183 = some (TyI.mk (TK.struct ((FI.mk 0 1 12 true false) :: ((FI.mk 1 1 12 true false) :: ((FI.mk 2 1 145 true false) :: ((FI.mk 3 1 177 true false) :: ((FI.mk 4 1 5 true false) :: ((FI.mk 5 1 5 true false) :: ((FI.mk 6 1 178 true false) :: ((FI.mk 7 1 179 true false) :: ((FI.mk 8 1 116 true false) :: ((FI.mk 9 1 180 true false) :: ((FI.mk 10 1 181 true false) :: [])))))))))))) 11 48 ((Value.int IntKind.u64 (0 : Int)) :: ((Value.int IntKind.u64 (0 : Int)) :: ((Value.int IntKind.u32 (0 : Int)) :: ((Value.int IntKind.u8 (0 : Int)) :: ((Value.int IntKind.u8 (0 : Int)) :: ((Value.int IntKind.u8 (0 : Int)) :: ((Value.int IntKind.u8 (0 : Int)) :: (Value.nilFunc :: ((Value.pointer none) :: ((Value.int IntKind.i32 (0 : Int)) :: ((Value.int IntKind.i32 (0 : Int)) :: []))))))))))) true false) := rfl
@[go_sem ↓] theorem wt2 (k : TyI → Prop) : withTy E 2 k = k (TyI.mk (TK.int IntKind.i64) 1 8 ((Value.int IntKind.i64 (0 : Int)) :: []) false false) := rfl
@[go_sem ↓] theorem wt3 (k : TyI → Prop) : withTy E 3 k = k (TyI.mk (TK.int IntKind.i64) 1 8 ((Value.int IntKind.i64 (0 : Int)) :: []) false false) := rfl
@[go_sem ↓] theorem wt4 (k : TyI → Prop) : withTy E 4 k = k (TyI.mk TK.bool 1 1 ((Value.bool false) :: []) false false) := rfl
@[go_sem ↓] theorem wt5 (k : TyI → Prop) : withTy E 5 k = k (TyI.mk (TK.int IntKind.u8) 1 1 ((Value.int IntKind.u8 (0 : Int)) :: []) false false) := rfl
@[go_sem ↓] theorem wt6 (k : TyI → Prop) : withTy E 6 k = k (TyI.mk (TK.int IntKind.u8) 1 1 ((Value.int IntKind.u8 (0 : Int)) :: []) false false) := rfl
@[go_sem ↓] theorem wt7 (k : TyI → Prop) : withTy E 7 k = k (TyI.mk (TK.struct ((FI.mk 0 1 2 true false) :: ((FI.mk 1 1 3 true false) :: ((FI.mk 2 1 4 true false) :: ((FI.mk 3 1 6 true false) :: []))))) 4 24 ((Value.int IntKind.i64 (0 : Int)) :: ((Value.int IntKind.i64 (0 : Int)) :: ((Value.bool false) :: ((Value.int IntKind.u8 (0 : Int)) :: [])))) false false) := rfl
@[go_sem ↓] theorem wt8 (k : TyI → Prop) : withTy E 8 k = k (TyI.mk (TK.struct ((FI.mk 0 1 2 true false) :: ((FI.mk 1 1 3 true false) :: ((FI.mk 2 1 4 true false) :: ((FI.mk 3 1 6 true false) :: []))))) 4 24 ((Value.int IntKind.i64 (0 : Int)) :: ((Value.int IntKind.i64 (0 : Int)) :: ((Value.bool false) :: ((Value.int IntKind.u8 (0 : Int)) :: [])))) false false) := rfl
@[go_sem ↓] theorem wt9 (k : TyI → Prop) : withTy E 9 k = k (TyI.mk TK.str 1 16 ((Value.string (ByteArray.mk (Array.mk []))) :: []) false false) := rfl
@[go_sem ↓] theorem wt10 (k : TyI → Prop) : withTy E 10 k = k (TyI.mk TK.str 1 16 ((Value.string (ByteArray.mk (Array.mk []))) :: []) false false) := rfl
@[go_sem ↓] theorem wt11 (k : TyI → Prop) : withTy E 11 k = k (TyI.mk TK.str 1 16 ((Value.string (ByteArray.mk (Array.mk []))) :: []) false false) := rfl
@[go_sem ↓] theorem wt12 (k : TyI → Prop) : withTy E 12 k = k (TyI.mk (TK.int IntKind.u64) 1 8 ((Value.int IntKind.u64 (0 : Int)) :: []) false false) := rfl
@[go_sem ↓] theorem wt16 (k : TyI → Prop) : withTy E 16 k = k (TyI.mk (TK.ptr 176) 1 8 ((Value.pointer none) :: []) false false) := rfl
@[go_sem ↓] theorem wt17 (k : TyI → Prop) : withTy E 17 k = k (TyI.mk (TK.ptr 183) 1 8 ((Value.pointer none) :: []) false false) := rfl
@[go_sem ↓] theorem wt22 (k : TyI → Prop) : withTy E 22 k = k (TyI.mk (TK.slice 45 3 32 (Value.agg (Array.mk ((Value.string (ByteArray.mk (Array.mk []))) :: ((Value.int IntKind.u8 (0 : Int)) :: ((Value.int IntKind.i64 (0 : Int)) :: [])))))) 1 24 ((Value.slice none 0 0) :: []) false false) := rfl
@[go_sem ↓] theorem wt24 (k : TyI → Prop) : withTy E 24 k = k (TyI.mk (TK.struct ((FI.mk 0 1 9 true false) :: ((FI.mk 1 1 3 true false) :: ((FI.mk 2 1 22 true false) :: [])))) 3 48 ((Value.string (ByteArray.mk (Array.mk []))) :: ((Value.int IntKind.i64 (0 : Int)) :: ((Value.slice none 0 0) :: []))) false false) := rfl
@[go_sem ↓] theorem wt27 (k : TyI → Prop) : withTy E 27 k = k (TyI.mk (TK.slice 47 6 56 (Value.agg (Array.mk ((Value.string (ByteArray.mk (Array.mk []))) :: ((Value.int IntKind.u8 (0 : Int)) :: ((Value.int IntKind.i64 (0 : Int)) :: ((Value.int IntKind.i64 (0 : Int)) :: ((Value.int IntKind.i64 (0 : Int)) :: ((Value.int IntKind.i64 (0 : Int)) :: []))))))))) 1 24 ((Value.slice none 0 0) :: []) false false) := rfl
@[go_sem ↓] theorem wt28 (k : TyI → Prop) : withTy E 28 k = k (TyI.mk (TK.struct ((FI.mk 0 1 9 true false) :: ((FI.mk 1 1 3 true false) :: ((FI.mk 2 1 27 true false) :: ((FI.mk 3 1 3 true false) :: []))))) 4 56 ((Value.string (ByteArray.mk (Array.mk []))) :: ((Value.int IntKind.i64 (0 : Int)) :: ((Value.slice none 0 0) :: ((Value.int IntKind.i64 (0 : Int)) :: [])))) false false) := rfl
@[go_sem ↓] theorem wt29 (k : TyI → Prop) : withTy E 29 k = k (TyI.mk (TK.struct ((FI.mk 0 1 9 true false) :: ((FI.mk 1 1 3 true false) :: ((FI.mk 2 1 27 true false) :: ((FI.mk 3 1 3 true false) :: []))))) 4 56 ((Value.string (ByteArray.mk (Array.mk []))) :: ((Value.int IntKind.i64 (0 : Int)) :: ((Value.slice none 0 0) :: ((Value.int IntKind.i64 (0 : Int)) :: [])))) false false) := rfl
@[go_sem ↓] theorem wt30 (k : TyI → Prop) : withTy E 30 k = k (TyI.mk (TK.int IntKind.i64) 1 8 ((Value.int IntKind.i64 (0 : Int)) :: []) false false) := rfl
@[go_sem ↓] theorem wt31 (k : TyI → Prop) : withTy E 31 k = k (TyI.mk TK.other 1 0 ((Value.tuple (Array.mk ((Value.agg (Array.mk ((Value.string (ByteArray.mk (Array.mk []))) :: ((Value.int IntKind.i64 (0 : Int)) :: ((Value.slice none 0 0) :: ((Value.int IntKind.i64 (0 : Int)) :: [])))))) :: ((Value.int IntKind.i64 (0 : Int)) :: [])))) :: []) false false) := rfl
@[go_sem ↓] theorem wt32 (k : TyI → Prop) : withTy E 32 k = k (TyI.mk TK.func 1 8 (Value.nilFunc :: []) false false) := rfl
@[go_sem ↓] theorem wt34 (k : TyI → Prop) : withTy E 34 k = k (TyI.mk (TK.slice 86 3 32 (Value.agg (Array.mk ((Value.string (ByteArray.mk (Array.mk []))) :: ((Value.int IntKind.i64 (0 : Int)) :: ((Value.int IntKind.i64 (0 : Int)) :: [])))))) 1 24 ((Value.slice none 0 0) :: []) false false) := rfl
@[go_sem ↓] theorem wt36 (k : TyI → Prop) : withTy E 36 k = k (TyI.mk (TK.struct ((FI.mk 0 1 9 true false) :: ((FI.mk 1 1 3 true false) :: ((FI.mk 2 1 34 true false) :: [])))) 3 48 ((Value.string (ByteArray.mk (Array.mk []))) :: ((Value.int IntKind.i64 (0 : Int)) :: ((Value.slice none 0 0) :: []))) false false) := rfl
@[go_sem ↓] theorem wt37 (k : TyI → Prop) : withTy E 37 k = k (TyI.mk TK.func 1 8 (Value.nilFunc :: []) false false) := rfl
@[go_sem ↓] theorem wt39 (k : TyI → Prop) : withTy E 39 k = k (TyI.mk (TK.slice 42 5 40 (Value.agg (Array.mk ((Value.int IntKind.i64 (0 : Int)) :: ((Value.int IntKind.i64 (0 : Int)) :: ((Value.int IntKind.i64 (0 : Int)) :: ((Value.int IntKind.i64 (0 : Int)) :: ((Value.int IntKind.i64 (0 : Int)) :: [])))))))) 1 24 ((Value.slice none 0 0) :: []) false false) := rfl
@[go_sem ↓] theorem wt40 (k : TyI → Prop) : withTy E 40 k = k (TyI.mk TK.func 1 8 (Value.nilFunc :: []) false false) := rfl
@[go_sem ↓] theorem wt42 (k : TyI → Prop) : withTy E 42 k = k (TyI.mk (TK.struct ((FI.mk 0 1 3 true false) :: ((FI.mk 1 1 3 true false) :: ((FI.mk 2 1 3 true false) :: ((FI.mk 3 1 3 true false) :: ((FI.mk 4 1 3 true false) :: [])))))) 5 40 ((Value.int IntKind.i64 (0 : Int)) :: ((Value.int IntKind.i64 (0 : Int)) :: ((Value.int IntKind.i64 (0 : Int)) :: ((Value.int IntKind.i64 (0 : Int)) :: ((Value.int IntKind.i64 (0 : Int)) :: []))))) false false) := rfl
@[go_sem ↓] theorem wt43 (k : TyI → Prop) : withTy E 43 k = k (TyI.mk (TK.int IntKind.u8) 1 1 ((Value.int IntKind.u8 (0 : Int)) :: []) false false) := rfl
@[go_sem ↓] theorem wt45 (k : TyI → Prop) : withTy E 45 k = k (TyI.mk (TK.struct ((FI.mk 0 1 9 true false) :: ((FI.mk 1 1 43 true false) :: ((FI.mk 2 1 3 true false) :: [])))) 3 32 ((Value.string (ByteArray.mk (Array.mk []))) :: ((Value.int IntKind.u8 (0 : Int)) :: ((Value.int IntKind.i64 (0 : Int)) :: []))) false false) := rfl
@[go_sem ↓] theorem wt47 (k : TyI → Prop) : withTy E 47 k = k (TyI.mk (TK.struct ((FI.mk 0 3 45 true true) :: ((FI.mk 3 1 3 true false) :: ((FI.mk 4 1 3 true false) :: ((FI.mk 5 1 3 true false) :: []))))) 6 56 ((Value.string (ByteArray.mk (Array.mk []))) :: ((Value.int IntKind.u8 (0 : Int)) :: ((Value.int IntKind.i64 (0 : Int)) :: ((Value.int IntKind.i64 (0 : Int)) :: ((Value.int IntKind.i64 (0 : Int)) :: ((Value.int IntKind.i64 (0 : Int)) :: [])))))) false false) := rfl
@[go_sem ↓] theorem wt48 (k : TyI → Prop) : withTy E 48 k = k (TyI.mk TK.other 1 0 ((Value.tuple (Array.mk ((Value.agg (Array.mk ((Value.string (ByteArray.mk (Array.mk []))) :: ((Value.int IntKind.u8 (0 : Int)) :: ((Value.int IntKind.i64 (0 : Int)) :: ((Value.int IntKind.i64 (0 : Int)) :: ((Value.int IntKind.i64 (0 : Int)) :: ((Value.int IntKind.i64 (0 : Int)) :: [])))))))) :: ((Value.int IntKind.i64 (0 : Int)) :: [])))) :: []) false false) := rfl
@[go_sem ↓] theorem wt50 (k : TyI → Prop) : withTy E 50 k = k (TyI.mk TK.func 1 8 (Value.nilFunc :: []) false false) := rfl
@[go_sem ↓] theorem wt56 (k : TyI → Prop) : withTy E 56 k = k (TyI.mk (TK.int IntKind.u64) 1 8 ((Value.int IntKind.u64 (0 : Int)) :: []) false false) := rfl
@[go_sem ↓] theorem wt57 (k : TyI → Prop) : withTy E 57 k = k (TyI.mk TK.other 1 0 ((Value.tuple (Array.mk ((Value.slice none 0 0) :: ((Value.int IntKind.i64 (0 : Int)) :: [])))) :: []) false false) := rfl
@[go_sem ↓] theorem wt63 (k : TyI → Prop) : withTy E 63 k = k (TyI.mk (TK.int IntKind.u16) 1 2 ((Value.int IntKind.u16 (0 : Int)) :: []) false false) := rfl
@[go_sem ↓] theorem wt64 (k : TyI → Prop) : withTy E 64 k = k (TyI.mk TK.other 1 0 ((Value.tuple (Array.mk ((Value.int IntKind.u64 (0 : Int)) :: ((Value.int IntKind.i64 (0 : Int)) :: [])))) :: []) false false) := rfl
@[go_sem ↓] theorem wt65 (k : TyI → Prop) : withTy E 65 k = k (TyI.mk TK.func 1 8 (Value.nilFunc :: []) false false) := rfl
@[go_sem ↓] theorem wt67 (k : TyI → Prop) : withTy E 67 k = k (TyI.mk TK.func 1 8 (Value.nilFunc :: []) false false) := rfl
@[go_sem ↓] theorem wt73 (k : TyI → Prop) : withTy E 73 k = k (TyI.mk TK.func 1 8 (Value.nilFunc :: []) false false) := rfl
@[go_sem ↓] theorem wt75 (k : TyI → Prop) : withTy E 75 k = k (TyI.mk (TK.slice 9 1 16 (Value.string (ByteArray.mk (Array.mk [])))) 1 24 ((Value.slice none 0 0) :: []) false false) := rfl
@[go_sem ↓] theorem wt76 (k : TyI → Prop) : withTy E 76 k = k (TyI.mk TK.func 1 8 (Value.nilFunc :: []) false false) := rfl
@[go_sem ↓] theorem wt78 (k : TyI → Prop) : withTy E 78 k = k (TyI.mk TK.func 1 8 (Value.nilFunc :: []) false false) := rfl
@[go_sem ↓] theorem wt80 (k : TyI → Prop) : withTy E 80 k = k (TyI.mk (TK.map 9 4 (Value.bool false)) 1 8 ((Value.map none) :: []) false false) := rfl
@[go_sem ↓] theorem wt82 (k : TyI → Prop) : withTy E 82 k = k (TyI.mk (TK.struct ((FI.mk 0 1 3 true false) :: ((FI.mk 1 1 3 true false) :: []))) 2 16 ((Value.int IntKind.i64 (0 : Int)) :: ((Value.int IntKind.i64 (0 : Int)) :: [])) false false) := rfl
@[go_sem ↓] theorem wt83 (k : TyI → Prop) : withTy E 83 k = k (TyI.mk TK.other 1 0 ((Value.tuple (Array.mk ((Value.agg (Array.mk ((Value.string (ByteArray.mk (Array.mk []))) :: ((Value.int IntKind.u8 (0 : Int)) :: ((Value.int IntKind.i64 (0 : Int)) :: ((Value.int IntKind.i64 (0 : Int)) :: ((Value.int IntKind.i64 (0 : Int)) :: ((Value.int IntKind.i64 (0 : Int)) :: [])))))))) :: ((Value.agg (Array.mk ((Value.int IntKind.i64 (0 : Int)) :: ((Value.int IntKind.i64 (0 : Int)) :: [])))) :: [])))) :: []) false false) := rfl
@[go_sem ↓] theorem wt85 (k : TyI → Prop) : withTy E 85 k = k (TyI.mk (TK.struct ((FI.mk 0 1 9 true false) :: ((FI.mk 1 1 3 true false) :: ((FI.mk 2 1 3 true false) :: [])))) 3 32 ((Value.string (ByteArray.mk (Array.mk []))) :: ((Value.int IntKind.i64 (0 : Int)) :: ((Value.int IntKind.i64 (0 : Int)) :: []))) false false) := rfl
@[go_sem ↓] theorem wt86 (k : TyI → Prop) : withTy E 86 k = k (TyI.mk (TK.struct ((FI.mk 0 1 9 true false) :: ((FI.mk 1 1 3 true false) :: ((FI.mk 2 1 3 true false) :: [])))) 3 32 ((Value.string (ByteArray.mk (Array.mk []))) :: ((Value.int IntKind.i64 (0 : Int)) :: ((Value.int IntKind.i64 (0 : Int)) :: []))) false false) := rfl
@[go_sem ↓] theorem wt96 (k : TyI → Prop) : withTy E 96 k = k (TyI.mk TK.func 1 8 (Value.nilFunc :: []) false false) := rfl
@[go_sem ↓] theorem wt100 (k : TyI → Prop) : withTy E 100 k = k (TyI.mk (TK.ptr 103) 1 8 ((Value.pointer none) :: []) false false) := rfl
@[go_sem ↓] theorem wt101 (k : TyI → Prop) : withTy E 101 k = k (TyI.mk (TK.slice 5 1 1 (Value.int IntKind.u8 (0 : Int))) 1 24 ((Value.slice none 0 0) :: []) false false) := rfl
@[go_sem ↓] theorem wt103 (k : TyI → Prop) : withTy E 103 k = k (TyI.mk (TK.struct ((FI.mk 0 1 100 true false) :: ((FI.mk 1 1 101 true false) :: []))) 2 32 ((Value.pointer none) :: ((Value.slice none 0 0) :: [])) false false) := rfl
@[go_sem ↓] theorem wt105 (k : TyI → Prop) : withTy E 105 k = k (TyI.mk (TK.iface false) 1 16 (Value.nilIface :: []) false true) := rfl
@[go_sem ↓] theorem wt106 (k : TyI → Prop) : withTy E 106 k = k (TyI.mk TK.other 1 0 ((Value.tuple (Array.mk ((Value.int IntKind.i64 (0 : Int)) :: (Value.nilIface :: [])))) :: []) false false) := rfl
@[go_sem ↓] theorem wt109 (k : TyI → Prop) : withTy E 109 k = k (TyI.mk (TK.arr 8 9 1 false) 8 128 ((Value.string (ByteArray.mk (Array.mk []))) :: ((Value.string (ByteArray.mk (Array.mk []))) :: ((Value.string (ByteArray.mk (Array.mk []))) :: ((Value.string (ByteArray.mk (Array.mk []))) :: ((Value.string (ByteArray.mk (Array.mk []))) :: ((Value.string (ByteArray.mk (Array.mk []))) :: ((Value.string (ByteArray.mk (Array.mk []))) :: ((Value.string (ByteArray.mk (Array.mk []))) :: [])))))))) false false) := rfl
@[go_sem ↓] theorem wt110 (k : TyI → Prop) : withTy E 110 k = k (TyI.mk TK.other 1 0 ((Value.tuple (Array.mk ((Value.agg (Array.mk ((Value.string (ByteArray.mk (Array.mk []))) :: ((Value.int IntKind.i64 (0 : Int)) :: ((Value.slice none 0 0) :: ((Value.int IntKind.i64 (0 : Int)) :: [])))))) :: ((Value.bool false) :: [])))) :: []) false false) := rfl
@[go_sem ↓] theorem wt113 (k : TyI → Prop) : withTy E 113 k = k (TyI.mk (TK.arr 8 3 1 false) 8 64 ((Value.int IntKind.i64 (0 : Int)) :: ((Value.int IntKind.i64 (0 : Int)) :: ((Value.int IntKind.i64 (0 : Int)) :: ((Value.int IntKind.i64 (0 : Int)) :: ((Value.int IntKind.i64 (0 : Int)) :: ((Value.int IntKind.i64 (0 : Int)) :: ((Value.int IntKind.i64 (0 : Int)) :: ((Value.int IntKind.i64 (0 : Int)) :: [])))))))) false false) := rfl
@[go_sem ↓] theorem wt116 (k : TyI → Prop) : withTy E 116 k = k (TyI.mk (TK.ptr 5) 1 8 ((Value.pointer none) :: []) false false) := rfl
@[go_sem ↓] theorem wt118 (k : TyI → Prop) : withTy E 118 k = k (TyI.mk TK.other 1 0 ((Value.tuple (Array.mk ((Value.string (ByteArray.mk (Array.mk []))) :: ((Value.bool false) :: [])))) :: []) false false) := rfl
@[go_sem ↓] theorem wt120 (k : TyI → Prop) : withTy E 120 k = k (TyI.mk TK.other 1 0 ((Value.tuple (Array.mk ((Value.agg (Array.mk ((Value.string (ByteArray.mk (Array.mk []))) :: ((Value.int IntKind.u8 (0 : Int)) :: ((Value.int IntKind.i64 (0 : Int)) :: []))))) :: ((Value.bool false) :: [])))) :: []) false false) := rfl
@[go_sem ↓] theorem wt127 (k : TyI → Prop) : withTy E 127 k = k (TyI.mk TK.other 1 0 ((Value.tuple (Array.mk ((Value.string (ByteArray.mk (Array.mk []))) :: ((Value.string (ByteArray.mk (Array.mk []))) :: ((Value.bool false) :: []))))) :: []) false false) := rfl
@[go_sem ↓] theorem wt128 (k : TyI → Prop) : withTy E 128 k = k (TyI.mk TK.func 1 8 (Value.nilFunc :: []) false false) := rfl
@[go_sem ↓] theorem wt143 (k : TyI → Prop) : withTy E 143 k = k (TyI.mk TK.func 1 8 (Value.nilFunc :: []) false false) := rfl
@[go_sem ↓] theorem wt145 (k : TyI → Prop) : withTy E 145 k = k (TyI.mk (TK.int IntKind.u32) 1 4 ((Value.int IntKind.u32 (0 : Int)) :: []) false false) := rfl
@[go_sem ↓] theorem wt148 (k : TyI → Prop) : withTy E 148 k = k (TyI.mk TK.func 1 8 (Value.nilFunc :: []) false false) := rfl
@[go_sem ↓] theorem wt153 (k : TyI → Prop) : withTy E 153 k = k (TyI.mk TK.other 1 0 ((Value.tuple (Array.mk ((Value.int IntKind.u64 (0 : Int)) :: (Value.nilIface :: [])))) :: []) false false) := rfl
@[go_sem ↓] theorem wt158 (k : TyI → Prop) : withTy E 158 k = k (TyI.mk TK.func 1 8 (Value.nilFunc :: []) false false) := rfl
@[go_sem ↓] theorem wt163 (k : TyI → Prop) : withTy E 163 k = k (TyI.mk (TK.struct ((FI.mk 0 1 9 true false) :: [])) 1 16 ((Value.string (ByteArray.mk (Array.mk []))) :: []) false false) := rfl
@[go_sem ↓] theorem wt173 (k : TyI → Prop) : withTy E 173 k = k (TyI.mk (TK.struct ((FI.mk 0 1 17 true false) :: ((FI.mk 1 1 17 true false) :: ((FI.mk 2 1 17 true false) :: ((FI.mk 3 1 9 true false) :: []))))) 4 40 ((Value.pointer none) :: ((Value.pointer none) :: ((Value.pointer none) :: ((Value.string (ByteArray.mk (Array.mk []))) :: [])))) true false) := rfl
@[go_sem ↓] theorem wt174 (k : TyI → Prop) : withTy E 174 k = k (TyI.mk (TK.arr 0 16 1 false) 0 0 [] false false) := rfl
@[go_sem ↓] theorem wt176 (k : TyI → Prop) : withTy E 176 k = k (TyI.mk (TK.struct ((FI.mk 0 0 174 false true) :: [])) 0 0 [] true false) := rfl
@[go_sem ↓] theorem wt177 (k : TyI → Prop) : withTy E 177 k = k (TyI.mk (TK.int IntKind.u8) 1 1 ((Value.int IntKind.u8 (0 : Int)) :: []) false false) := rfl
@[go_sem ↓] theorem wt178 (k : TyI → Prop) : withTy E 178 k = k (TyI.mk (TK.int IntKind.u8) 1 1 ((Value.int IntKind.u8 (0 : Int)) :: []) false false) := rfl
@[go_sem ↓] theorem wt179 (k : TyI → Prop) : withTy E 179 k = k (TyI.mk TK.func 1 8 (Value.nilFunc :: []) false false) := rfl
@[go_sem ↓] theorem wt180 (k : TyI → Prop) : withTy E 180 k = k (TyI.mk (TK.int IntKind.i32) 1 4 ((Value.int IntKind.i32 (0 : Int)) :: []) false false) := rfl
@[go_sem ↓] theorem wt181 (k : TyI → Prop) : withTy E 181 k = k (TyI.mk (TK.int IntKind.i32) 1 4 ((Value.int IntKind.i32 (0 : Int)) :: []) false false) := rfl
@[go_sem ↓] theorem wt183 (k : TyI → Prop) : withTy E 183 k = k (TyI.mk (TK.struct ((FI.mk 0 1 12 true false) :: ((FI.mk 1 1 12 true false) :: ((FI.mk 2 1 145 true false) :: ((FI.mk 3 1 177 true false) :: ((FI.mk 4 1 5 true false) :: ((FI.mk 5 1 5 true false) :: ((FI.mk 6 1 178 true false) :: ((FI.mk 7 1 179 true false) :: ((FI.mk 8 1 116 true false) :: ((FI.mk 9 1 180 true false) :: ((FI.mk 10 1 181 true false) :: [])))))))))))) 11 48 ((Value.int IntKind.u64 (0 : Int)) :: ((Value.int IntKind.u64 (0 : Int)) :: ((Value.int IntKind.u32 (0 : Int)) :: ((Value.int IntKind.u8 (0 : Int)) :: ((Value.int IntKind.u8 (0 : Int)) :: ((Value.int IntKind.u8 (0 : Int)) :: ((Value.int IntKind.u8 (0 : Int)) :: (Value.nilFunc :: ((Value.pointer none) :: ((Value.int IntKind.i32 (0 : Int)) :: ((Value.int IntKind.i32 (0 : Int)) :: []))))))))))) true false) := rfl
end Go.Proofs.YtlkffmmgcoiniaaDoor
