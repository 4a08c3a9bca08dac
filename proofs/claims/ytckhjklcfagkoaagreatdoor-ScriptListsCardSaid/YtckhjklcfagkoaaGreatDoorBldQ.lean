/- strings.Builder's writing methods at this program, with the frame that the walk needs. No conditions beyond the bounds. -/
import Derived.Test.YtckhjklcfagkoaaGreatDoorShelfQ
import Derived.Test.YtckhjklcfagkoaaGreatDoorAc4
import Derived.Lib.Walk
import Derived.WalkKit
import Derived.BigCall
import Derived.BigGuard
set_option linter.unusedVariables false
namespace Go.Ab
open Go.RowKit Go.Shelf Go.Lib Go.Proofs
theorem Tryz.bInfo : (Tryz.prog.info? 5).map (fun i => (i.zero, i.size, i.bytes)) = some (some (.int .u8 0), 1, 1) := by kernel_rfl
theorem Tryz.bSize : (Tryz.prog.info? 130).map (·.size) = some 2 := by kernel_rfl
theorem Tryz.bLies : liesAt Tryz.prog Tryz.prog.depth 130 (2 / Tryz.prog.cellsOf 130) 0 130 1 = true := by kernel_rfl
set_option maxHeartbeats 1000000 in
set_option maxRecDepth 100000 in
theorem Tryz.b_used (b : Nat) (w : World) (h0 : w.cell? ⟨b, 0, none⟩ = some (.pointer (some ⟨b, 0, none⟩))) :
  Calls Tryz.prog 93 #[.pointer (some ⟨b, 0, none⟩)] w fun e w' => e = .returned (.tuple #[]) ∧ w' = w := by
 obtain ⟨j, hj, _⟩ := Option.map_eq_some_iff.1 Tryz.bSize
 go_enter Tryz.func93, Tryz.ntmps93
 go_wp2
 rw [Lib.run_neq_ptr_same w _ Tryz.underlying128 hj]
 go_wp2
 go_end0
 exact ⟨rfl, rfl⟩
set_option maxHeartbeats 1000000 in
set_option maxRecDepth 100000 in
theorem Tryz.b_fresh (b : Nat) (w : World) (h0 : w.cell? ⟨b, 0, none⟩ = some (.pointer none)) (hsh : w.shape? b = some (130, 2)) (hfz : w.frozen? ⟨b, 0, none⟩ = false) :
  Calls Tryz.prog 93 #[.pointer (some ⟨b, 0, none⟩)] w fun e w' => e = .returned (.tuple #[]) ∧ w' = w.setCell ⟨b, 0, none⟩ (.pointer (some ⟨b, 0, none⟩)) := by
 obtain ⟨j, hj, hjs⟩ := Option.map_eq_some_iff.1 Tryz.bSize
 go_enter Tryz.func93, Tryz.ntmps93
 go_wp2
 rw [Lib.run_to_unsafe w ⟨b, 0, none⟩ Tryz.underlying128 Tryz.underlying172 hj (by rw [hjs]; decide) hsh (Nat.zero_lt_succ 1)]
 simp only [Result.andThen]
 rw [Oper.upon_value]
 go_wp2
 rw [run_callFunc_extern Tryz.func107 (by kernel_rfl) (by kernel_rfl) (by kernel_rfl) (e := Extern.AbiNoEscape.same) (by kernel_rfl)]
 rw [Lib.run_noEscape]
 simp only [Result.andThen]
 rw [Oper.upon_value]
 go_wp2
 rw [Lib.run_from_unsafe w ⟨b, 0, none⟩ Tryz.underlying172 Tryz.underlying128 hj hsh Tryz.bLies]
 simp only [Result.andThen]
 rw [Oper.upon_value]
 go_wp2
 go_end0
 exact ⟨rfl, rfl⟩
theorem Tryz.b_check (b : Nat) (p v : Value) (bs : List Value) (w : World) (hp : p = .pointer none ∨ p = .pointer (some ⟨b, 0, none⟩)) (h : BAt 130 5 b p v bs w) :
  Calls Tryz.prog 93 #[.pointer (some ⟨b, 0, none⟩)] w fun e w' => e = .returned (.tuple #[]) ∧ BAt 130 5 b (.pointer (some ⟨b, 0, none⟩)) v bs w' ∧ BFr b v v w w' ∧ w'.heap.size = w.heap.size := by
 have c0 : w.cell? ⟨b, 0, none⟩ = some p := by rw [Lib.cell_of_heap h.blk]; rfl
 rcases hp with rfl | rfl
 ·refine (Tryz.b_fresh b w c0 (by simp [World.shape?, h.blk]) (Lib.frozen_of_heap h.blk 0)).mono ?_
  rintro e w' ⟨rfl, rfl⟩
  have hb' : (w.setCell ⟨b, 0, none⟩ (.pointer (some ⟨b, 0, none⟩))).heap[b]? = some (.cells #[.pointer (some ⟨b, 0, none⟩), v] 130 (0, 0)) := by
   simp [World.setCell, Array.getElem?_modify, h.blk]
  have hoth : ∀ k, k ≠ b → (w.setCell ⟨b, 0, none⟩ (.pointer (some ⟨b, 0, none⟩))).heap[k]? = w.heap[k]? := fun k hk => by
   simp only [World.setCell, Array.getElem?_modify]
   rw [if_neg (fun e => hk e.symm)]
  refine ⟨rfl, ⟨hb', ⟨h.own.1, ?_⟩, h.ne⟩, ⟨rfl, rfl, rfl, by simp [World.setCell], fun k _ hk _ => hoth k hk, fun k hk => .inl hk, fun k _ => ?_⟩, by simp [World.setCell]⟩
  ·rcases h.own.2 with hn | ⟨g, cap, cur, fz, hv, h0, hg, r⟩
   ·exact .inl hn
   ·refine .inr ⟨g, cap, cur, fz, hv, h0, ?_, r⟩
    rw [hoth g (fun e => h.ne (by rw [hv, e]; rfl))]; exact hg
  ·by_cases hk : k = b
   ·subst hk; rw [bsize_row hb', bsize_row h.blk]; rfl
   ·exact bsize_eq (hoth k hk)
 ·refine (Tryz.b_used b w c0).mono ?_
  rintro e w' ⟨rfl, rfl⟩
  exact ⟨rfl, h, ⟨rfl, rfl, rfl, Nat.le_refl _, fun _ _ _ _ => rfl, fun k hk => .inl hk, fun _ _ => rfl⟩, rfl⟩
set_option maxHeartbeats 2000000 in
set_option maxRecDepth 100000 in
theorem Tryz.b_writeString (b : Nat) (p v : Value) (bs : List Value) (s : ByteArray) (w : World) (hp : p = .pointer none ∨ p = .pointer (some ⟨b, 0, none⟩)) (h : BAt 130 5 b p v bs w)
  (hlen : bs.length + s.size ≤ 140737488355328) :
  Calls Tryz.prog 71 #[.pointer (some ⟨b, 0, none⟩), .string s] w fun e w' => e = .returned (.tuple #[.int .i64 s.size, .nilIface]) ∧ ∃ v', BAt 130 5 b (.pointer (some ⟨b, 0, none⟩)) v' (bs ++ strCells s) w' ∧ BFr b v v' w w' := by
 obtain ⟨i0, hi, hz0, hz1, hz2⟩ := info_parts Tryz.bInfo
 go_enter Tryz.func71, Tryz.ntmps71
 go_wp2_with (go_at_call 93; refine (Tryz.b_check b p v bs _ hp h).mono ?_)
 rintro e w1 ⟨rfl, h1, f1, s1⟩
 have c0 : w1.cell? ⟨b, 0, none⟩ = some (.pointer (some ⟨b, 0, none⟩)) := by rw [Lib.cell_of_heap h1.blk]; rfl
 have c1 : w1.cell? ⟨b, 1, none⟩ = some v := by rw [Lib.cell_of_heap h1.blk]; rfl
 go_wp2_with (at_builtin; refine wpList_append_stringX _ rfl _ _ 33 9 rfl 5 i0 Tryz.underlying33 Tryz.underlying9 hi hz0 hz1 hz2 _ _ _ rfl h1.own s rfl ?c3 ?c4 ?_)
 case c3 => unfold maxLen; omega
 case c4 => omega
 intro v' w2 hown' hgrow
 have hlt : b < w1.heap.size := by
  rcases Nat.lt_or_ge b w1.heap.size with h' | h'
  ·exact h'
  ·have := h1.blk; simp [Array.getElem?_eq_none h'] at this
 have hb2 : w2.heap[b]? = some (.cells #[.pointer (some ⟨b, 0, none⟩), v] 130 (0, 0)) := by
  rw [hgrow.by_.block b hlt (fun e => h1.ne e.symm)]
  exact h1.blk
 have d0 : w2.cell? ⟨b, 0, none⟩ = some (.pointer (some ⟨b, 0, none⟩)) := by rw [Lib.cell_of_heap hb2]; rfl
 have d1 : w2.cell? ⟨b, 1, none⟩ = some v := by rw [Lib.cell_of_heap hb2]; rfl
 have f1' : w2.frozen? ⟨b, 1, none⟩ = false := Lib.frozen_of_heap hb2 1
 obtain ⟨ao, n', cap, rfl⟩ : ∃ ao n' cap, v' = .slice ao n' cap := by
  rcases hown'.2 with ⟨hv, _⟩ | ⟨g, cap, cur, fz, hv, _⟩
  ·exact ⟨_, _, _, hv⟩
  ·exact ⟨_, _, _, hv⟩
 obtain ⟨r1, r2⟩ := b_store h1 (bs' := bs ++ strCells s) (by simpa [Lib.strCells_length] using hown') hgrow
 have r3 := f1.trans s1 rfl r2
 clear hgrow hown' r2
 go_wp2
 go_ret2
 exact ⟨rfl, _, r1, r3⟩
set_option maxHeartbeats 2000000 in
set_option maxRecDepth 100000 in
theorem Tryz.b_writeByte (b : Nat) (p v : Value) (bs : List Value) (c : Int) (w : World) (hp : p = .pointer none ∨ p = .pointer (some ⟨b, 0, none⟩)) (h : BAt 130 5 b p v bs w)
  (hlen : bs.length + 1 ≤ 140737488355328) :
  Calls Tryz.prog 73 #[.pointer (some ⟨b, 0, none⟩), .int .u8 c] w fun e w' => e = .returned .nilIface ∧ ∃ v', BAt 130 5 b (.pointer (some ⟨b, 0, none⟩)) v' (bs ++ [.int .u8 c]) w' ∧ BFr b v v' w w' := by
 obtain ⟨i0, hi, hz0, hz1, hz2⟩ := info_parts Tryz.bInfo
 go_enter Tryz.func73, Tryz.ntmps73
 go_wp2_with (go_at_call 93; refine (Tryz.b_check b p v bs _ hp h).mono ?_)
 rintro e w1 ⟨rfl, h1, f1, s1⟩
 replace s1 := s1.symm
 have c0 : w1.cell? ⟨b, 0, none⟩ = some (.pointer (some ⟨b, 0, none⟩)) := by rw [Lib.cell_of_heap h1.blk]; rfl
 have c1 : w1.cell? ⟨b, 1, none⟩ = some v := by rw [Lib.cell_of_heap h1.blk]; rfl
 have hlt : b < w1.heap.size := by
  rcases Nat.lt_or_ge b w1.heap.size with h' | h'
  ·exact h'
  ·have := h1.blk; simp [Array.getElem?_eq_none h'] at this
 go_wp2_with (at_builtin; refine wpList_append_X _ rfl _ _ 33 rfl 5 i0 (.int .u8 0) Tryz.underlying33 hi hz0 hz1 hz2 rfl _ _ _ rfl (h1.own.alloc _) ⟨w1.heap.size, 0, none⟩ 1 1 [.int .u8 c] rfl rfl ?c1 ?c2 ?c3 ?c4 ?_)
 case c1 =>
  intro j u hj
  match j, hj with
  | 0, hj => simp at hj; subst hj; simp [Addr.add]
 case c2 => intro u hu; simp at hu; subst hu; rfl
 case c3 => unfold maxLen; omega
 case c4 => omega
 intro v' w2 hown' hgrow
 have hgrow1 : GrownX w1 w2 v v' := by
  have hal : ∀ (o : Obj) k, k < w1.heap.size → (w1.alloc o).heap[k]? = w1.heap[k]? := fun o k hk => Lib.alloc_old w1 o k hk
  refine ⟨⟨hgrow.by_.os, hgrow.by_.tape, hgrow.by_.output, by have := hgrow.by_.size; simp at this; omega, fun k hk hkv => ?_⟩, fun k hk => (hgrow.blk k hk).imp id fun h => by simp at h; omega, fun k hk => ?_⟩
  ·rw [hgrow.by_.block k (by simp; omega) hkv]; exact hal _ k hk
  ·rw [hgrow.bs k (by simp; omega)]; exact bsize_eq (hal _ k hk)
 have hb2 : w2.heap[b]? = some (.cells #[.pointer (some ⟨b, 0, none⟩), v] 130 (0, 0)) := by
  rw [hgrow1.by_.block b hlt (fun e => h1.ne e.symm)]
  exact h1.blk
 have d0 : w2.cell? ⟨b, 0, none⟩ = some (.pointer (some ⟨b, 0, none⟩)) := by rw [Lib.cell_of_heap hb2]; rfl
 have d1 : w2.cell? ⟨b, 1, none⟩ = some v := by rw [Lib.cell_of_heap hb2]; rfl
 have f1' : w2.frozen? ⟨b, 1, none⟩ = false := Lib.frozen_of_heap hb2 1
 obtain ⟨g, cap, rfl⟩ : ∃ g cap, v' = .slice (some ⟨g, 0, none⟩) (bs.length + 1) cap := by
  rcases hown'.2 with ⟨_, h0⟩ | ⟨g, cap, cur, fz, hv, _⟩
  ·omega
  ·exact ⟨g, cap, hv⟩
 obtain ⟨r1, r2⟩ := b_store h1 (bs' := bs ++ [.int .u8 c]) (by simpa using hown') hgrow1
 have r3 := f1.trans s1.symm rfl r2
 clear hgrow hgrow1 hown' r2
 go_wp2
 go_ret
 exact ⟨rfl, _, r1, r3⟩
end Go.Ab