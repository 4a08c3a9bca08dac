/- Part 4 of a framework of lemmas that the proofs of this seat use: what a function computes, told by plain values. No conditions. -/
import Derived.Test.YtcnbngflehiphaaDoorAc3
import Derived.Shelf.Strings.BuilderF
import Derived.Lib.FrozenHead2
import Derived.Shelf.Strings.BuilderK
import Derived.Laws.IdiomRangeMap
namespace Go.Ab
open Go.RowKit Go.Shelf Go.Lib Go.Proofs
structure GrownX (w w' : World) (v v' : Value) : Prop where
 by_ : w.grownBy w' v.ownBlock
 blk : ∀ k, v'.ownBlock = some k → v.ownBlock = some k ∨ w.heap.size ≤ k
 bs : ∀ k, k < w.heap.size → bsize w' k = bsize w k
theorem bsize_eq {w w' : World} {k : Nat} (h : w'.heap[k]? = w.heap[k]?) : bsize w' k = bsize w k := by simp only [bsize, h]
theorem heap_old {w : World} {o : Obj} {k : Nat} (h : k < w.heap.size) : (w.drew.alloc o).heap[k]? = w.heap[k]? := by
 show (w.heap.push o)[k]? = _
 rw [Array.getElem?_push_lt h]
 simp [h]
theorem bsize_row {w : World} {k : Nat} {c : Array Value} {e : TypeId} {fz : Nat × Nat} (h : w.heap[k]? = some (.cells c e fz)) : bsize w k = c.size := by simp [bsize, h]
section
variable {P : Program} (w : World)
theorem run_append_stringX (t u ty e : TypeId) (i : TypeInfo) (ht : P.underlying t = some (.slice e)) (hu : P.underlying u = some .string) (hi : P.info? e = some i) (hz : i.zero = some (.int .u8 0))
  (hsize : i.size = 1) (hby : i.bytes = 1)
  (v : Value) (n : Nat) (xs : List Value) (hown : w.ownsRowF 0 e 1 v n xs) (s : ByteArray)
  (h63 : n + s.size ≤ maxLen) (hbytes : n + s.size ≤ 140737488355328) :
  ∃ v' w', (Builtin.append_ #[t, u] ty #[v, .string s]).run P w = .ok v' w' ∧ w'.ownsRowF 0 e 1 v' (n + s.size) (xs ++ strCells s) ∧ GrownX w w' v v' := by
 rcases hown.2 with ⟨rfl, rfl⟩ | ⟨g, cap, cur, fz, rfl, hbg, hg, hfz, hnc, hcm, hcs, htake⟩
 ·obtain ⟨v', w', h1, h2, h3, h4⟩ := run_append_own_string (P := P) w w.heap.size t u ty e i ht hu hi hz hsize hby (.slice none 0 0) 0 xs ⟨hown.1, .inl ⟨rfl, rfl⟩⟩ s h63 hbytes (Nat.le_refl _)
  refine ⟨v', w', h1, World.ownsRowF_of ⟨h2.1, h2.2.imp id fun ⟨g, cap, cur, a, b, r⟩ => ⟨g, cap, cur, a, Nat.zero_le _, r⟩⟩, h3, fun k hk => .inr ?_, fun k hk => bsize_eq (h3.block k hk (by simp [Value.ownBlock]))⟩
  exact ((World.ownsRowF_of h2).lt k hk).1
 ·have hsmall : n + s.size ≤ 9223372036854775807 := by simp only [maxLen] at h63; omega
  have hxl : xs.length = n := by simpa using hown.1
  have hlen : (xs ++ strCells s).length = (n + s.size) * 1 := by rw [List.length_append, hxl, strCells_length, Nat.mul_one]
  by_cases hroom : n + s.size ≤ cap
  ·have hcs' : cur.size = cap := by simpa using hcs
   have hr := run_append_room_stringF (P := P) w t u ty e i ht hu hi hsize g n cap cur fz hg (by simpa using hfz) s hroom (by omega)
   have hsz : (cur.toList.take n ++ strCells s ++ cur.toList.drop (n + s.size)).toArray.size = cap := by
    simp only [List.size_toArray, List.length_append, List.length_take, List.length_drop, Array.length_toList, strCells_length]
    omega
   refine ⟨_, _, hr, ⟨hlen, .inr ⟨g, cap, _, fz, rfl, hbg, setRow_heap w g cur _ e _ hg, by omega, hroom, hcm, by rw [hsz, Nat.mul_one], ?_⟩⟩, ⟨rfl, rfl, rfl, by simp, fun k _ hk => setRow_other w g k _ (fun e => hk (by simp [Value.ownBlock, e]))⟩, fun k hk => .inl hk, fun k hk => ?_⟩
   ·have ht' : cur.toList.take n = xs := by simpa using htake
    rw [ht', ← hlen]
    exact List.take_left
   ·by_cases hkg : k = g
    ·subst hkg
     rw [bsize_row (setRow_heap w k cur _ e _ hg), bsize_row hg, hsz, hcs']
    ·exact bsize_eq (setRow_other w g k _ hkg)
  ·have holds : ∀ j u, xs[j]? = some u → w.cell? ((⟨g, 0, none⟩ : Addr).add j) = some u := hown.cells (g := g) rfl
   have hr := run_append_grow_string (P := P) w t u ty e i (.int .u8 0) ht hu hi hz ⟨g, 0, none⟩ n cap xs (by rw [hsize]; simpa using hxl) holds s (by omega) (by omega) (by rw [hby]; exact growslice_fits (by omega) (by omega))
   have hge := grownCap_ge w (n + s.size) cap e
   have hcm2 : grownCap w (n + s.size) cap e ≤ maxLen := grownCap_le_maxLen w (n + s.size) cap e h63
   refine ⟨_, _, hr, ⟨hlen, .inr ⟨w.heap.size, _, _, (0, 0), rfl, Nat.zero_le _, heap_alloc_new w.drew _, Nat.zero_le _, hge, hcm2, ?_, ?_⟩⟩, ⟨rfl, rfl, rfl, by simp, fun k hk _ => heap_old hk⟩, fun k hk => .inr ?_, fun k hk => bsize_eq (heap_old hk)⟩
   ·have hz1 : (Value.int IntKind.u8 0).cells.size = 1 := rfl
    simp only [Array.size_append, List.size_toArray, size_zeroCells, hz1, hxl, strCells_length]
    omega
   ·simp only [Array.toList_append, List.append_assoc]
    rw [← List.append_assoc, ← hlen]
    exact List.take_left
   ·simp [Value.ownBlock] at hk; omega
theorem run_append_X (t ty e : TypeId) (i : TypeInfo) (z : Value) (ht : P.underlying t = some (.slice e)) (hi : P.info? e = some i) (hz : i.zero = some z)
  (hsize : i.size = 1) (hby : i.bytes = 1) (hzs : z.cells.size = 1)
  (v : Value) (n : Nat) (xs : List Value) (hown : w.ownsRowF 0 e 1 v n xs)
  (a : Addr) (m c : Nat) (news : List Value) (hl : news.length = m * 1) (hnews : ∀ j u, news[j]? = some u → w.cell? (a.add j) = some u) (h1 : ∀ u ∈ news, u.oneCell' = true)
  (h63 : n + m ≤ maxLen) (hbytes : (n + m) * 1 ≤ 140737488355328) :
  ∃ v' w', (Builtin.append_ #[t, t] ty #[v, .slice (some a) m c]).run P w = .ok v' w' ∧ w'.ownsRowF 0 e 1 v' (n + m) (xs ++ news) ∧ GrownX w w' v v' := by
 rcases hown.2 with ⟨rfl, rfl⟩ | ⟨g, cap, cur, fz, rfl, hbg, hg, hfz, hnc, hcm, hcs, htake⟩
 ·obtain ⟨v', w', r1, h2, h3, r4⟩ := run_append_own (P := P) w w.heap.size t ty e i z 1 1 ht hi hz hsize hby hzs (by decide) (.slice none 0 0) 0 xs ⟨hown.1, .inl ⟨rfl, rfl⟩⟩ a m c news hl hnews h1 h63 hbytes (Nat.le_refl _)
  refine ⟨v', w', r1, World.ownsRowF_of ⟨h2.1, h2.2.imp id fun ⟨g, cap, cur, a, b, r⟩ => ⟨g, cap, cur, a, Nat.zero_le _, r⟩⟩, h3, fun k hk => .inr ?_, fun k hk => bsize_eq (h3.block k hk (by simp [Value.ownBlock]))⟩
  exact ((World.ownsRowF_of h2).lt k hk).1
 ·have hsmall : n + m ≤ 9223372036854775807 := by simp only [maxLen] at h63; omega
  have hlen : (xs ++ news).length = (n + m) * 1 := by rw [List.length_append, hown.1, hl, Nat.add_mul]
  have hcs' : cur.size = cap := by simpa using hcs
  have hnl : news.length = m := by omega
  by_cases hroom : n + m ≤ cap
  ·have hr := run_append_roomF (P := P) w t ty e i ht hi g n cap cur fz hg (by rw [hsize]; exact hfz) a m c news (by rw [hsize]; exact hl) hnews h1 hroom (by rw [hsize]; omega)
   rw [hsize] at hr
   have hsz : (cur.toList.take (n * 1) ++ news ++ cur.toList.drop (n * 1 + news.length)).toArray.size = cap := by
    simp only [List.size_toArray, List.length_append, List.length_take, List.length_drop, Array.length_toList]
    omega
   refine ⟨_, _, hr, ⟨hlen, .inr ⟨g, cap, _, fz, rfl, hbg, setRow_heap w g cur _ e _ hg, by omega, hroom, hcm, by rw [hsz, Nat.mul_one], ?_⟩⟩, ⟨rfl, rfl, rfl, by simp, fun k _ hk => setRow_other w g k _ (fun e => hk (by simp [Value.ownBlock, e]))⟩, fun k hk => .inl hk, fun k hk => ?_⟩
   ·rw [htake, ← hlen]
    exact List.take_left
   ·by_cases hkg : k = g
    ·subst hkg
     rw [bsize_row (setRow_heap w k cur _ e _ hg), bsize_row hg, hsz, hcs']
    ·exact bsize_eq (setRow_other w g k _ hkg)
  ·have holds : ∀ j u, xs[j]? = some u → w.cell? ((⟨g, 0, none⟩ : Addr).add j) = some u := hown.cells (g := g) rfl
   have hr := run_append_grow (P := P) w t ty e i z ht hi hz ⟨g, 0, none⟩ n cap xs (by rw [hsize]; exact hown.1) holds a m c news (by rw [hsize]; exact hl) hnews (by omega) (by omega) (growslice_fits (by omega) (by rw [hby]; exact hbytes))
   have hge := grownCap_ge w (n + m) cap e
   have hcm2 : grownCap w (n + m) cap e ≤ maxLen := grownCap_le_maxLen w (n + m) cap e h63
   refine ⟨_, _, hr, ⟨hlen, .inr ⟨w.heap.size, _, _, (0, 0), rfl, Nat.zero_le _, heap_alloc_new w.drew _, Nat.zero_le _, hge, hcm2, ?_, ?_⟩⟩, ⟨rfl, rfl, rfl, by simp, fun k hk _ => heap_old hk⟩, fun k hk => .inr ?_, fun k hk => bsize_eq (heap_old hk)⟩
   ·simp only [Array.size_append, List.size_toArray, size_zeroCells, hzs, hown.1, hl, ← Nat.add_mul]
    omega
   ·simp only [Array.toList_append, List.append_assoc]
    rw [← List.append_assoc, ← hlen]
    exact List.take_left
   ·simp [Value.ownBlock] at hk; omega
theorem wpList_append_stringX {ops : Array Oper} {rest : List Oper} {o : Oper} {a : Act} {Q : Exit → Act → World → Prop} (hgd : o.guard = none) (sl x : Operand) (t u : TypeId)
  (ho : o.op = .call { callee := .builtin .append, args := #[sl, x], argTypes := #[t, u] })
  (e : TypeId) (i : TypeInfo) (ht : P.underlying t = some (.slice e)) (hu : P.underlying u = some .string) (hi : P.info? e = some i) (hz : i.zero = some (.int .u8 0))
  (hsize : i.size = 1) (hby : i.bytes = 1)
  (v : Value) (n : Nat) (xs : List Value) (hs : a.eval sl = v) (hown : w.ownsRowF 0 e 1 v n xs) (s : ByteArray) (hx : a.eval x = .string s)
  (h63 : n + s.size ≤ maxLen) (hbytes : n + s.size ≤ 140737488355328)
  (h : ∀ v' w', w'.ownsRowF 0 e 1 v' (n + s.size) (xs ++ strCells s) → GrownX w w' v v' → wpList P ops Q rest (a.put o.dst v') w') : wpList P ops Q (o :: rest) a w := by
 refine wpList_plain hgd fun K hK => ?_
 obtain ⟨v', w', hr, h2, h3⟩ := run_append_stringX (P := P) w t u o.type e i ht hu hi hz hsize hby v n xs hown s h63 hbytes
 unfold Oper.wp execOp
 simp only [ho, resolve, invoke, builtin, Sem.run_bind, Sem.run_pure, Result.andThen_ok, List.map_toArray, List.map_cons, List.map_nil, hs, hx, hr]
 exact hK _ _ (h v' w' h2 h3)
theorem wpList_append_X {ops : Array Oper} {rest : List Oper} {o : Oper} {a : Act} {Q : Exit → Act → World → Prop} (hgd : o.guard = none) (s x : Operand) (t : TypeId)
  (ho : o.op = .call { callee := .builtin .append, args := #[s, x], argTypes := #[t, t] })
  (e : TypeId) (i : TypeInfo) (z : Value) (ht : P.underlying t = some (.slice e)) (hi : P.info? e = some i) (hz : i.zero = some z)
  (hsize : i.size = 1) (hby : i.bytes = 1) (hzs : z.cells.size = 1)
  (v : Value) (n : Nat) (xs : List Value) (hs : a.eval s = v) (hown : w.ownsRowF 0 e 1 v n xs)
  (ad : Addr) (m c : Nat) (news : List Value) (hx : a.eval x = .slice (some ad) m c) (hl : news.length = m * 1) (hnews : ∀ j u, news[j]? = some u → w.cell? (ad.add j) = some u) (h1 : ∀ u ∈ news, u.oneCell' = true)
  (h63 : n + m ≤ maxLen) (hbytes : (n + m) * 1 ≤ 140737488355328)
  (h : ∀ v' w', w'.ownsRowF 0 e 1 v' (n + m) (xs ++ news) → GrownX w w' v v' → wpList P ops Q rest (a.put o.dst v') w') : wpList P ops Q (o :: rest) a w := by
 refine wpList_plain hgd fun K hK => ?_
 obtain ⟨v', w', hr, h2, h3⟩ := run_append_X (P := P) w t o.type e i z ht hi hz hsize hby hzs v n xs hown ad m c news hl hnews h1 h63 hbytes
 unfold Oper.wp execOp
 simp only [ho, resolve, invoke, builtin, Sem.run_bind, Sem.run_pure, Result.andThen_ok, List.map_toArray, List.map_cons, List.map_nil, hs, hx, hr]
 exact hK _ _ (h v' w' h2 h3)
end
structure BAt (T e : TypeId) (b : Nat) (p v : Value) (bs : List Value) (w : World) : Prop where
 blk : w.heap[b]? = some (.cells #[p, v] T (0, 0))
 own : w.ownsRowF 0 e 1 v bs.length bs
 ne : v.ownBlock ≠ some b
structure BFr (b : Nat) (v v' : Value) (w w' : World) : Prop where
 os : w'.os = w.os
 tape : w'.tape = w.tape
 output : w'.output = w.output
 size : w.heap.size ≤ w'.heap.size
 other : ∀ k, k < w.heap.size → k ≠ b → v.ownBlock ≠ some k → w'.heap[k]? = w.heap[k]?
 row : ∀ k, v'.ownBlock = some k → v.ownBlock = some k ∨ w.heap.size ≤ k
 bs : ∀ k, k < w.heap.size → bsize w' k = bsize w k
theorem BFr.trans {b : Nat} {v v1 v2 : Value} {w w1 w2 : World} (h : BFr b v v1 w w1) (hs : w1.heap.size = w.heap.size) (hv : v1 = v) (k : BFr b v1 v2 w1 w2) : BFr b v v2 w w2 := by
 subst hv
 exact ⟨k.os.trans h.os, k.tape.trans h.tape, k.output.trans h.output, by have := k.size; omega, fun q hq hb hr => (k.other q (by omega) hb hr).trans (h.other q hq hb hr), fun q hq => (k.row q hq).imp id fun h => by omega, fun q hq => (k.bs q (by omega)).trans (h.bs q hq)⟩
theorem b_store {T e : TypeId} {b : Nat} {p v v' : Value} {bs bs' : List Value} {w w2 : World} (h : BAt T e b p v bs w) (hown : w2.ownsRowF 0 e 1 v' bs'.length bs') (hg : GrownX w w2 v v') :
  BAt T e b p v' bs' (w2.setCell ⟨b, 1, none⟩ v') ∧ BFr b v v' w (w2.setCell ⟨b, 1, none⟩ v') := by
 have hlt : b < w.heap.size := by
  rcases Nat.lt_or_ge b w.heap.size with h' | h'
  ·exact h'
  ·have := h.blk; simp [Array.getElem?_eq_none h'] at this
 have hb2 : w2.heap[b]? = some (.cells #[p, v] T (0, 0)) := by rw [hg.by_.block b hlt (fun e => h.ne e.symm)]; exact h.blk
 have hne' : v'.ownBlock ≠ some b := fun hv => by
  rcases hg.blk b hv with h1 | h1
  ·exact h.ne h1
  ·omega
 have hb3 : (w2.setCell ⟨b, 1, none⟩ v').heap[b]? = some (.cells #[p, v'] T (0, 0)) := by simp [World.setCell, Array.getElem?_modify, hb2]
 have hoth : ∀ k, k ≠ b → (w2.setCell ⟨b, 1, none⟩ v').heap[k]? = w2.heap[k]? := fun k hk => by
  simp only [World.setCell, Array.getElem?_modify]
  rw [if_neg (fun e => hk e.symm)]
 refine ⟨⟨hb3, ⟨hown.1, ?_⟩, hne'⟩, ⟨hg.by_.os, hg.by_.tape, hg.by_.output, by have := hg.by_.size; simpa [World.setCell] using this, fun k hk hkb hkv => (hoth k hkb).trans (hg.by_.block k hk (fun e => hkv e.symm)), hg.blk, fun k hk => ?_⟩⟩
 ·rcases hown.2 with hn | ⟨g, cap, cur, fz, hv, h0, hgg, r⟩
  ·exact .inl hn
  ·refine .inr ⟨g, cap, cur, fz, hv, h0, ?_, r⟩
   rw [hoth g (fun e => hne' (by rw [hv, e]; rfl))]; exact hgg
 ·by_cases hkb : k = b
  ·subst hkb; rw [bsize_row hb3, bsize_row h.blk]; rfl
  ·exact (bsize_eq (hoth k hkb)).trans (hg.bs k hk)
end Go.Ab
namespace Go.Ab
open Go.RowKit Go.Shelf Go.Lib Go.Proofs
section
variable {P : Program} {ρ : Ren}
set_option maxHeartbeats 1000000 in
set_option maxRecDepth 100000 in
theorem b_string (L : Lays.n169 P ρ) (X : Builder.Extra P ρ) (b : Nat) (p v : Value) (l : List UInt8) (w : World) (h : BAt (ρ.t 72) (ρ.t 5) b p v (Lib.byteCells l) w) (h0 : l ≠ []) :
  Calls P (ρ.f 169) #[.pointer (some ⟨b, 0, none⟩)] w fun e w' => e = .returned (.string ⟨l.toArray⟩) ∧ BAt (ρ.t 72) (ρ.t 5) b p v (Lib.byteCells l) w' ∧ BFr b v v w w' := by
 obtain ⟨hbk, hown, hne⟩ := h
 have hl0 : l.length ≠ 0 := by simpa using h0
 rw [Lib.byteCells_length] at hown
 obtain ⟨g, cap, cur, fz, rfl, hbg, hg, hfz, hnc, hcm, hcs, htake⟩ : ∃ g cap cur fz, v = .slice (some ⟨g, 0, none⟩) l.length cap ∧ 0 ≤ g ∧ w.heap[g]? = some (.cells cur (ρ.t 5) fz) ∧ fz.2 ≤ l.length * 1 ∧ l.length ≤ cap ∧ cap ≤ maxLen ∧ cur.size = cap * 1 ∧ cur.toList.take (l.length * 1) = Lib.byteCells l := by
  rcases hown.2 with ⟨_, hz⟩ | ⟨g, cap, cur, fz, hv, r⟩
  ·exact absurd hz hl0
  ·exact ⟨g, cap, cur, fz, hv, r⟩
 have c1 : w.drew.cell? ⟨b, 1, none⟩ = some (.slice (some ⟨g, 0, none⟩) l.length cap) := by
  have : w.drew.heap[b]? = some (.cells #[p, .slice (some ⟨g, 0, none⟩) l.length cap] (ρ.t 72) (0, 0)) := hbk
  rw [Lib.cell_of_heap this]; rfl
 have hSD : (Builtin.unsafeSliceData_ #[(ρ.t 37)] (ρ.t 127) #[.slice (some ⟨g, 0, none⟩) l.length cap]).run P w.drew = .ok (.pointer (some ⟨g, 0, none⟩)) w.drew :=
  Lib.run_unsafeSliceData_row _ _ _ _ _ _ (by omega)
 have hUS : (Builtin.unsafeString_ #[(ρ.t 127), (ρ.t 3)] (ρ.t 9) #[.pointer (some ⟨g, 0, none⟩), .int .i64 l.length]).run P w.drew = .ok (.string ⟨l.toArray⟩) (w.drew.freeze ⟨g, 0, none⟩ l.length) := by
  refine Lib.run_unsafeString_row w.drew (ρ.t 127) (ρ.t 3) (ρ.t 9) (ρ.t 5) L.t127 X.cellsByte g cur.size (by have hg' : w.drew.heap[g]? = some (.cells cur (ρ.t 5) fz) := hg; simp [World.shape?, hg']) l h0 (by omega) (by unfold maxLen at hcm; omega) ?_
  intro j x hx
  have := hown.cells (g := g) rfl j (.int .u8 x.toNat) (by simp [Lib.byteCells, hx])
  exact this
 have hgb : g ≠ b := fun e => hne (by rw [e]; rfl)
 have hoth : ∀ k, k ≠ g → (w.drew.freeze ⟨g, 0, none⟩ l.length).heap[k]? = w.heap[k]? := fun k hk => by
  simp only [World.freeze, if_neg hl0, Array.getElem?_modify]
  rw [if_neg (fun e => hk e.symm)]; rfl
 have hgg : ∃ fz', (w.drew.freeze ⟨g, 0, none⟩ l.length).heap[g]? = some (.cells cur (ρ.t 5) fz') ∧ fz'.2 ≤ l.length := by
  have hg' : w.drew.heap[g]? = some (.cells cur (ρ.t 5) fz) := hg
  refine ⟨if fz.1 == fz.2 then (0, 0 + l.length) else (min fz.1 0, max fz.2 (0 + l.length)), ?_, ?_⟩
  ·simp only [World.freeze, if_neg hl0, Array.getElem?_modify, if_pos, hg', Option.map_some]
  ·split
   ·simp
   ·simp only [Nat.zero_add]; omega
 obtain ⟨fz', hg2, hf2⟩ := hgg
 have hkeep : BAt (ρ.t 72) (ρ.t 5) b p (.slice (some ⟨g, 0, none⟩) l.length cap) (Lib.byteCells l) (w.drew.freeze ⟨g, 0, none⟩ l.length) :=
  ⟨(hoth b (Ne.symm hgb)).trans hbk, by rw [Lib.byteCells_length]; exact ⟨hown.1, .inr ⟨g, cap, cur, fz', rfl, hbg, hg2, by omega, hnc, hcm, hcs, htake⟩⟩, hne⟩
 have hfr : BFr b (.slice (some ⟨g, 0, none⟩) l.length cap) (.slice (some ⟨g, 0, none⟩) l.length cap) w (w.drew.freeze ⟨g, 0, none⟩ l.length) := by
  refine ⟨?_, ?_, ?_, ?_, fun k _ _ hk => hoth k (fun e => hk (by rw [e]; rfl)), fun k hk => .inl hk, fun k hk => ?_⟩
  ·simp only [World.freeze, if_neg hl0]; rfl
  ·simp only [World.freeze, if_neg hl0]; rfl
  ·simp only [World.freeze, if_neg hl0]; rfl
  ·simp only [World.freeze, if_neg hl0, Array.size_modify]; exact Nat.le_refl _
  ·by_cases hkg : k = g
   ·subst hkg; rw [bsize_row hg2, bsize_row hg]
   ·exact bsize_eq (hoth k hkg)
 clear hoth hg2
 have mixed := L.mixed
 have t72 := L.t72; have a72 := L.a72; have z72 := L.z72; have v72 := L.v72; have u72 := run_underlying L.t72
 have t70 := L.t70; have a70 := L.a70; have z70 := L.z70; have v70 := L.v70; have u70 := run_underlying L.t70
 have t37 := L.t37; have a37 := L.a37; have z37 := L.z37; have v37 := L.v37; have u37 := run_underlying L.t37
 have t127 := L.t127; have a127 := L.a127; have z127 := L.z127; have v127 := L.v127; have u127 := run_underlying L.t127
 have t3 := L.t3; have a3 := L.a3; have z3 := L.z3; have v3 := L.v3; have u3 := run_underlying L.t3
 have t9 := L.t9; have a9 := L.a9; have z9 := L.z9; have v9 := L.v9; have u9 := run_underlying L.t9
 have t5 := X.t5; have a5 := X.a5; have z5 := X.z5; have v5 := X.v5; have u5 := run_underlying X.t5
 go_enter L.f169, Body.n169_ntmps ρ
 go_wp2
 go_region_o
 all_goals (go_wp2; go_ret; exact ⟨rfl, hkeep, hfr⟩)
end
section
theorem bcells_eq (l : List UInt8) : Lib.byteCells l = l.map fun x => Value.int .u8 (x.toNat : Int) := rfl
section
variable [Glob]
theorem bld_start {Z : Nat → Prop} {lb : Lb} {w : World} {T e : TypeId} {bs : List UInt8} (hne : bs ≠ []) (o : Own Z lb ([Ob.bld T (.sl 1 1 0 bs.length), .byt e bs].map some) w) :
  ∃ b g p v, lb = [some (some b), some (some g)] ∧ ¬ Z b ∧ ¬ Z g ∧ b < w.heap.size ∧ g < w.heap.size ∧ (p = .pointer none ∨ p = .pointer (some ⟨b, 0, none⟩)) ∧ v.ownBlock = some g ∧ BAt T e b p v (Lib.byteCells bs) w := by
 obtain ⟨x, h1, h2⟩ := o.obj 0 _ rfl
 obtain ⟨y, k1, k2⟩ := o.obj 1 _ rfl
 cases x with
 | none => exact h2.elim
 | some b =>
 cases y with
 | none => exact absurd k2 hne
 | some g =>
 obtain ⟨hz, hlt, p, v, hb, hp, hv, hcap⟩ := h2
 obtain ⟨kz, klt, cur, fz, hg, hfz, htake⟩ := k2
 have hlen := o.len
 have hlb : lb = [some (some b), some (some g)] := by
  match lb, hlen, h1, k1 with
  | [x, y], _, h1, k1 => simp at h1 k1; rw [h1, k1]
 have hne : b ≠ g := fun e => by
  have := o.inj 0 1 _ _ b rfl rfl trivial trivial h1 (by rw [e]; exact k1)
  omega
 simp only [ARep] at hv
 rcases hv with ⟨_, _, h3, _⟩ | ⟨g', cap, h3, rfl, h5, h6⟩
 ·rw [k1] at h3; simp at h3
 ·rw [k1] at h3
  obtain rfl : g = g' := by simpa using h3
  obtain ⟨c1, c2, c3⟩ := hcap _ _ _ rfl
  have hbs : bsize w g = cur.size := bsize_row hg
  simp only at c3
  refine ⟨b, g, p, _, hlb, hz, kz, hlt, klt, hp, rfl, hb, ⟨by simp, .inr ⟨g, cap, cur, fz, by simp [Lib.byteCells_length], Nat.zero_le _, hg, by rw [Lib.byteCells_length]; omega, by rw [Lib.byteCells_length]; exact h5, by simpa [maxLen] using c1, by omega, ?_⟩⟩, fun e => hne (by simp [Value.ownBlock] at e; exact e.symm)⟩
  rw [Lib.byteCells_length, Nat.mul_one]
  exact htake
end
section
variable [Glob]
end
section
variable [Glob]
theorem bld_fresh {Z : Nat → Prop} {lb : Lb} {w : World} {T e : TypeId} (o : Own Z lb ([Ob.bld T (.p (.v (.slice none 0 0)))].map some) w) :
  ∃ b p, lb = [some (some b)] ∧ ¬ Z b ∧ b < w.heap.size ∧ (p = .pointer none ∨ p = .pointer (some ⟨b, 0, none⟩)) ∧ BAt T e b p (.slice none 0 0) (Lib.byteCells []) w := by
 obtain ⟨x, h1, h2⟩ := o.obj 0 _ rfl
 cases x with
 | none => exact h2.elim
 | some b =>
 obtain ⟨hz, hlt, p, v, hb, hp, hv, hcap⟩ := h2
 have hlen := o.len
 have hlb : lb = [some (some b)] := by
  match lb, hlen, h1 with
  | [x], _, h1 => simp at h1; rw [h1]
 simp only [ARep, Rep] at hv
 obtain ⟨rfl, _⟩ := hv
 exact ⟨b, p, hlb, hz, hlt, hp, hb, ⟨rfl, .inl ⟨rfl, rfl⟩⟩, by simp [Value.ownBlock]⟩
end
section
variable [Glob]
theorem bld_end [Quick] {Z : Nat → Prop} {lb : Lb} {w w' : World} {T e : TypeId} {b : Nat} {p v v' : Value} {bs : List UInt8} {D : List Ob} {L : List (Option Ob)} (hD : ∀ o, o ∈ D → o = .dead) (hl : lb.length = D.length + 1) (h0 : lb[0]? = some (some (some b)))
  (hz : ¬ Z b) (hlt : b < w.heap.size) (hvg : ∀ g, v.ownBlock = some g → ¬ Z g ∧ ∃ i : Nat, lb[i]? = some (some (some g))) (o : Own Z lb L w) (hp : p = .pointer none ∨ p = .pointer (some ⟨b, 0, none⟩)) (A : BAt T e b p v' (Lib.byteCells bs) w') (F : BFr b v v' w w') (hne : bs ≠ []) (hnn : ∀ x, x ∈ lb → x ≠ none) :
  ∃ lb', Own Z lb' ((.bld T (.sl (D.length + 1) 1 0 bs.length) :: (D ++ [.byt e bs])).map some) w' ∧ w'.os = w.os ∧ w'.tape = w.tape ∧ OutD w w' ∧ w.heap.size ≤ w'.heap.size ∧ Keep Z w w' ∧ (∀ b, Z b → Z b) ∧ (∀ b, Z b → b < w.heap.size → Z b ∨ ∃ i : Nat, lb[i]? = some (some (some b))) ∧ BsLe w w' ∧
  (∀ b, b < w.heap.size → (∀ i : Nat, lb[i]? ≠ some (some (some b))) → w'.heap[b]? = w.heap[b]?) ∧ (∀ (i : Nat) b, lb'[i]? = some (some (some b)) → (∃ j : Nat, lb[j]? = some (some (some b))) ∨ w.heap.size ≤ b) ∧
  (∀ (i : Nat) x, i < D.length + 1 → lb[i]? = some (some x) → lb'[i]? = some (some x)) := by
 obtain ⟨hbk, hown, hnb⟩ := A
 have hl0 : bs.length ≠ 0 := by simpa using hne
 rw [Lib.byteCells_length] at hown
 obtain ⟨g, cap, cur, fz, rfl, hbg, hg, hfz, hnc, hcm, hcs, htake⟩ : ∃ g cap cur fz, v' = .slice (some ⟨g, 0, none⟩) bs.length cap ∧ 0 ≤ g ∧ w'.heap[g]? = some (.cells cur e fz) ∧ fz.2 ≤ bs.length * 1 ∧ bs.length ≤ cap ∧ cap ≤ maxLen ∧ cur.size = cap * 1 ∧ cur.toList.take (bs.length * 1) = Lib.byteCells bs := by
  rcases hown.2 with ⟨_, hz⟩ | ⟨g, cap, cur, fz, hv, r⟩
  ·exact absurd hz hl0
  ·exact ⟨g, cap, cur, fz, hv, r⟩
 have hgb : g ≠ b := fun e => hnb (by rw [e]; rfl)
 have hzg : ¬ Z g := by
  rcases F.row g rfl with h | h
  ·exact (hvg g h).1
  ·exact fun hz => by have := o.zlt.lt g hz; omega
 have hglt : g < w'.heap.size := by
  rcases Nat.lt_or_ge g w'.heap.size with h | h
  ·exact h
  ·simp [Array.getElem?_eq_none h] at hg
 have hbs : bsize w' g = cur.size := bsize_row hg
 have hkeep : Keep Z w w' := fun k hk => F.other k (o.zlt.lt k hk) (fun e => hz (e ▸ hk)) (fun e => (hvg k e).1 hk)
 have hg1 : (lb ++ [some (some g)])[D.length + 1]? = some (some (some g)) := by rw [List.getElem?_append_right (by omega), hl]; simp
 have hold : ∀ (i : Nat) x, i < D.length + 1 → lb[i]? = some x → (lb ++ [some (some g)])[i]? = some x := fun i x hi h => by rw [List.getElem?_append_left (by omega)]; exact h
 have hb1 := hold 0 _ (by omega) h0
 have hget : ∀ (i : Nat) ob, ((.bld T (.sl (D.length + 1) 1 0 bs.length) :: (D ++ [.byt e bs])).map some)[i]? = some (some ob) → (i = 0 ∧ ob = .bld T (.sl (D.length + 1) 1 0 bs.length)) ∨ (i < D.length + 1 ∧ ob = .dead) ∨ (i = D.length + 1 ∧ ob = .byt e bs) := fun i ob hi => by
  cases i with
  | zero => simp at hi; exact .inl ⟨rfl, hi.symm⟩
  | succ i =>
   rw [List.map_cons, List.getElem?_cons_succ, List.getElem?_map] at hi
   rcases Nat.lt_or_ge i D.length with h | h
   ·rw [List.getElem?_append_left h] at hi
    simp at hi
    exact .inr (.inl ⟨by omega, hD _ (List.mem_of_getElem? hi)⟩)
   ·rw [List.getElem?_append_right h] at hi
    rcases Nat.eq_zero_or_pos (i - D.length) with h' | h'
    ·rw [h'] at hi; simp at hi; exact .inr (.inr ⟨by omega, hi.symm⟩)
    ·rw [List.getElem?_eq_none (by simp; omega)] at hi; simp at hi
 refine ⟨lb ++ [some (some g)], ⟨by simp [hl], ?_, ?_, ?_, ⟨fun k hk => Nat.lt_of_lt_of_le (o.zlt.lt k hk) F.size, Glob.mono (fun _ h => h) hkeep o.zlt.gl⟩⟩, F.os, F.tape, OutD.quick F.output, F.size, hkeep, fun _ h => h, fun _ h _ => .inl h, fun k hk => F.bs k hk, fun k hk hn => F.other k hk (fun e => hn 0 (by rw [e]; exact h0)) (fun e => ?_), fun i k hi => ?_, fun i x hi h => hold i _ hi h⟩
 ·intro i ob hi
  rcases hget i ob hi with ⟨rfl, rfl⟩ | ⟨h1, rfl⟩ | ⟨rfl, rfl⟩
  ·refine ⟨some b, hb1, hz, Nat.lt_of_lt_of_le hlt F.size, p, _, hbk, hp, ?_, ?_⟩
   ·simp only [ARep]
    exact .inr ⟨g, cap, hg1, by simp, hnc, by omega⟩
   ·intro a n c hv
    simp only [Value.slice.injEq, Option.some.injEq] at hv
    obtain ⟨rfl, rfl, rfl⟩ := hv
    exact ⟨by simpa [maxLen] using hcm, hglt, by simp only; omega⟩
  ·rcases Nat.lt_or_ge i lb.length with hi' | hi'
   ·have h2 : lb[i]? = some lb[i] := List.getElem?_eq_getElem hi'
    cases hx : lb[i] with
    | some x => exact ⟨x, hold i _ h1 (by rw [h2, hx]), trivial⟩
    | none => exact absurd hx (hnn _ (List.getElem_mem hi'))
   ·omega
  ·exact ⟨some g, hg1, hzg, hglt, cur, fz, hg, by omega, by rw [← bcells_eq, ← htake, Nat.mul_one]⟩
 ·intro i hi
  rcases Nat.lt_or_ge i (((.bld T (.sl (D.length + 1) 1 0 bs.length) :: (D ++ [.byt e bs])).map some).length) with h | h
  ·rw [List.getElem?_eq_getElem h, List.getElem_map] at hi; simp at hi
  ·rw [List.getElem?_eq_none h] at hi; simp at hi
 ·intro i j o1 o2 k hi hj l1 l2 e1 e2
  rcases hget i o1 hi with ⟨rfl, rfl⟩ | ⟨_, rfl⟩ | ⟨rfl, rfl⟩
  ·rcases hget j o2 hj with ⟨rfl, rfl⟩ | ⟨_, rfl⟩ | ⟨rfl, rfl⟩
   ·rfl
   ·exact l2.elim
   ·rw [hb1] at e1; rw [hg1] at e2; simp at e1 e2; omega
  ·exact l1.elim
  ·rcases hget j o2 hj with ⟨rfl, rfl⟩ | ⟨_, rfl⟩ | ⟨rfl, rfl⟩
   ·rw [hb1] at e2; rw [hg1] at e1; simp at e1 e2; omega
   ·exact l2.elim
   ·rfl
 ·obtain ⟨_, i, hi⟩ := hvg k e
  exact hn i hi
 ·rcases Nat.lt_or_ge i lb.length with h | h
  ·rw [List.getElem?_append_left h] at hi; exact .inl ⟨i, hi⟩
  ·rw [List.getElem?_append_right h] at hi
   rcases Nat.eq_zero_or_pos (i - lb.length) with h' | h'
   ·rw [h'] at hi; simp at hi; subst hi
    rcases F.row g rfl with h2 | h2
    ·exact .inl (hvg g h2).2
    ·exact .inr h2
   ·rw [List.getElem?_eq_none (by simp; omega)] at hi; simp at hi
end
variable {P : Program}
theorem str_bytes (s : ByteArray) : Lib.strCells s = Lib.byteCells s.data.toList := rfl
theorem bcells_app (a b : List UInt8) : Lib.byteCells a ++ Lib.byteCells b = Lib.byteCells (a ++ b) := by simp [Lib.byteCells]
section
variable [Glob]
theorem ac_writeString0 [Quick] {f : FuncId} {T e : TypeId} (hc : Callable P f) (hW : ∀ (b : Nat) (p v : Value) (bs : List Value) (s : ByteArray) (w : World), (p = .pointer none ∨ p = .pointer (some ⟨b, 0, none⟩)) → BAt T e b p v bs w → bs.length + s.size ≤ 140737488355328 → Calls P f #[.pointer (some ⟨b, 0, none⟩), .string s] w fun x w' => x = .returned (.tuple #[.int .i64 s.size, .nilIface]) ∧ ∃ v', BAt T e b (.pointer (some ⟨b, 0, none⟩)) v' (bs ++ Lib.strCells s) w' ∧ BFr b v v' w w') (s : ByteArray) (h0 : s.size ≠ 0) (hlen : s.size ≤ 140737488355328) :
  ACalls P f [.loc 0 0, .p (.v (.string s))] [.bld T (.p (.v (.slice none 0 0)))] (.p (.tup [.v (.int .i64 s.size), .v .nilIface])) [.bld T (.sl 1 1 0 s.data.toList.length), .byt e s.data.toList] := by
 refine ⟨hc, by simp, fun Z lb w vals o hv => ?_⟩
 obtain ⟨b, p, rfl, hz, hlt, hp, hB⟩ := bld_fresh (e := e) o
 simp only [AReps, ARep, Rep] at hv
 obtain ⟨_, _, rfl, ⟨b', hb', rfl⟩, _, _, rfl, ⟨rfl, _⟩, rfl⟩ := hv
 obtain rfl : b = b' := by simpa using hb'
 refine (hW b p _ (Lib.byteCells []) s w hp hB (by simpa [Lib.byteCells] using hlen)).mono ?_
 rintro e' w' ⟨rfl, v', hA, hF⟩
 rw [str_bytes, bcells_app, List.nil_append] at hA
 have hd : s.data.toList ≠ [] := fun e => h0 (by show s.data.size = 0; rw [← Array.length_toList, e]; rfl)
 obtain ⟨lb', o', r1, r2, r3, r4, r5, r6, r7, r8, r9, r10, r11⟩ := bld_end (D := []) (by simp) (by simp) (by rfl) hz hlt (by simp [Value.ownBlock]) o (.inr rfl) hA hF hd (by simp)
 exact ⟨_, Z, lb', rfl, o', by simp only [ARep, Rep, Reps]; exact ⟨_, ⟨_, _, rfl, ⟨rfl, rfl⟩, _, _, rfl, ⟨rfl, rfl⟩, rfl⟩, rfl⟩, r1, r2, r3, r4, r5, r6, r7, r8, r9, r10, fun i x hi h => r11 i x (by simpa using hi) h⟩
end
section
variable [Glob]
theorem ac_writeString [Quick] {f : FuncId} {T e : TypeId} (hc : Callable P f) (hW : ∀ (b : Nat) (p v : Value) (bs : List Value) (s : ByteArray) (w : World), (p = .pointer none ∨ p = .pointer (some ⟨b, 0, none⟩)) → BAt T e b p v bs w → bs.length + s.size ≤ 140737488355328 → Calls P f #[.pointer (some ⟨b, 0, none⟩), .string s] w fun x w' => x = .returned (.tuple #[.int .i64 s.size, .nilIface]) ∧ ∃ v', BAt T e b (.pointer (some ⟨b, 0, none⟩)) v' (bs ++ Lib.strCells s) w' ∧ BFr b v v' w w') (bs : List UInt8) (s : ByteArray) (h0 : bs.length ≠ 0) (hlen : bs.length + s.size ≤ 140737488355328) :
  ACalls P f [.loc 0 0, .p (.v (.string s))] [.bld T (.sl 1 1 0 bs.length), .byt e bs] (.p (.tup [.v (.int .i64 s.size), .v .nilIface])) [.bld T (.sl 2 1 0 (bs ++ s.data.toList).length), .dead, .byt e (bs ++ s.data.toList)] := by
 refine ⟨hc, by simp, fun Z lb w vals o hv => ?_⟩
 obtain ⟨b, g, p, v, rfl, hz, hzg, hlt, hgl, hp, hvg, hB⟩ := bld_start (fun e => h0 (by rw [e]; rfl)) o
 simp only [AReps, ARep, Rep] at hv
 obtain ⟨_, _, rfl, ⟨b', hb', rfl⟩, _, _, rfl, ⟨rfl, _⟩, rfl⟩ := hv
 obtain rfl : b = b' := by simpa using hb'
 refine (hW b p _ (Lib.byteCells bs) s w hp hB (by simpa [Lib.byteCells] using hlen)).mono ?_
 rintro e' w' ⟨rfl, v', hA, hF⟩
 rw [str_bytes, bcells_app] at hA
 have hd : bs ++ s.data.toList ≠ [] := fun e => h0 (by simp at e; simp [e.1])
 obtain ⟨lb', o', r1, r2, r3, r4, r5, r6, r7, r8, r9, r10, r11⟩ := bld_end (D := [.dead]) (by simp) (by simp) (by rfl) hz hlt (fun k hk => by rw [hvg] at hk; simp at hk; subst hk; exact ⟨hzg, 1, rfl⟩) o (.inr rfl) hA hF hd (by simp)
 exact ⟨_, Z, lb', rfl, o', by simp only [ARep, Rep, Reps]; exact ⟨_, ⟨_, _, rfl, ⟨rfl, rfl⟩, _, _, rfl, ⟨rfl, rfl⟩, rfl⟩, rfl⟩, r1, r2, r3, r4, r5, r6, r7, r8, r9, r10, fun i x hi h => r11 i x (by simpa using hi) h⟩
end
section
variable [Glob]
end
section
variable [Glob]
theorem ac_writeByte [Quick] {f : FuncId} {T e : TypeId} (hc : Callable P f) (hW : ∀ (b : Nat) (p v : Value) (bs : List Value) (c : Int) (w : World), (p = .pointer none ∨ p = .pointer (some ⟨b, 0, none⟩)) → BAt T e b p v bs w → bs.length + 1 ≤ 140737488355328 → Calls P f #[.pointer (some ⟨b, 0, none⟩), .int .u8 c] w fun x w' => x = .returned .nilIface ∧ ∃ v', BAt T e b (.pointer (some ⟨b, 0, none⟩)) v' (bs ++ [.int .u8 c]) w' ∧ BFr b v v' w w') (bs : List UInt8) (c : Int) (hc0 : 0 ≤ c ∧ c ≤ 255) (h0 : bs.length ≠ 0) (hlen : bs.length + 1 ≤ 140737488355328) :
  ACalls P f [.loc 0 0, .p (.v (.int .u8 c))] [.bld T (.sl 1 1 0 bs.length), .byt e bs] (.p (.v .nilIface)) [.bld T (.sl 2 1 0 (bs ++ [UInt8.ofNat c.toNat]).length), .dead, .byt e (bs ++ [UInt8.ofNat c.toNat])] := by
 refine ⟨hc, by simp, fun Z lb w vals o hv => ?_⟩
 obtain ⟨b, g, p, v, rfl, hz, hzg, hlt, hgl, hp, hvg, hB⟩ := bld_start (fun e => h0 (by rw [e]; rfl)) o
 simp only [AReps, ARep, Rep] at hv
 obtain ⟨_, _, rfl, ⟨b', hb', rfl⟩, _, _, rfl, ⟨rfl, _⟩, rfl⟩ := hv
 obtain rfl : b = b' := by simpa using hb'
 refine (hW b p _ (Lib.byteCells bs) c w hp hB (by simpa [Lib.byteCells] using hlen)).mono ?_
 rintro e' w' ⟨rfl, v', hA, hF⟩
 have e1 : [Value.int .u8 c] = Lib.byteCells [UInt8.ofNat c.toNat] := by
  have : ((UInt8.ofNat c.toNat).toNat : Int) = c := by simp; omega
  show [Value.int .u8 c] = [Value.int .u8 ((UInt8.ofNat c.toNat).toNat : Int)]
  rw [this]
 rw [e1, bcells_app] at hA
 obtain ⟨lb', o', r1, r2, r3, r4, r5, r6, r7, r8, r9, r10, r11⟩ := bld_end (D := [.dead]) (by simp) (by simp) (by rfl) hz hlt (fun k hk => by rw [hvg] at hk; simp at hk; subst hk; exact ⟨hzg, 1, rfl⟩) o (.inr rfl) hA hF (by simp) (by simp)
 exact ⟨_, Z, lb', rfl, o', by simp [ARep, Rep, oneB], r1, r2, r3, r4, r5, r6, r7, r8, r9, r10, fun i x hi h => r11 i x (by simpa using hi) h⟩
end
section
variable [Glob]
theorem ac_string [Quick] {f : FuncId} {T e : TypeId} (hc : Callable P f) (hW : ∀ (b : Nat) (p v : Value) (l : List UInt8) (w : World), BAt T e b p v (Lib.byteCells l) w → l ≠ [] → Calls P f #[.pointer (some ⟨b, 0, none⟩)] w fun x w' => x = .returned (.string ⟨l.toArray⟩) ∧ BAt T e b p v (Lib.byteCells l) w' ∧ BFr b v v w w') (bs : List UInt8) (h0 : bs.length ≠ 0) :
  ACalls P f [.loc 0 0] [.bld T (.sl 1 1 0 bs.length), .byt e bs] (.p (.v (.string ⟨bs.toArray⟩))) [.bld T (.sl 2 1 0 bs.length), .dead, .byt e bs] := by
 refine ⟨hc, by simp, fun Z lb w vals o hv => ?_⟩
 obtain ⟨b, g, p, v, rfl, hz, hzg, hlt, hgl, hp, hvg, hB⟩ := bld_start (fun e => h0 (by rw [e]; rfl)) o
 simp only [AReps, ARep] at hv
 obtain ⟨_, _, rfl, ⟨b', hb', rfl⟩, rfl⟩ := hv
 obtain rfl : b = b' := by simpa using hb'
 have hd : bs ≠ [] := fun e => h0 (by simp [e])
 refine (hW b p _ bs w hB hd).mono ?_
 rintro e' w' ⟨rfl, hA, hF⟩
 obtain ⟨lb', o', r1, r2, r3, r4, r5, r6, r7, r8, r9, r10, r11⟩ := bld_end (D := [.dead]) (by simp) (by simp) (by rfl) hz hlt (fun k hk => by rw [hvg] at hk; simp at hk; subst hk; exact ⟨hzg, 1, rfl⟩) o hp hA hF hd (by simp)
 exact ⟨_, Z, lb', rfl, o', by simp [ARep, Rep, oneB], r1, r2, r3, r4, r5, r6, r7, r8, r9, r10, fun i x hi h => r11 i x (by simpa using hi) h⟩
end
end
end Go.Ab
namespace Go.Ab
open Go.RowKit Go.Shelf Go.Lib Go.Proofs
section
variable {P : Program} {ρ : Ren}
end
variable {P : Program}
section
variable [Glob]
end
end Go.Ab
namespace Go.Ab
section
variable [Glob]
def rowP (c0 c1 : Value) : Nat → List AV
 | 0 => []
 | k + 1 => .p (.v c0) :: .p (.v c1) :: rowP c0 c1 k
end
section
variable [Glob]
def rowV (c0 c1 : Value) : Nat → List Value
 | 0 => []
 | k + 1 => c0 :: c1 :: rowV c0 c1 k
end
section
variable [Glob]
end
section
variable [Glob]
end
end Go.Ab
namespace Go.Ab
section
variable [Glob]
end
section
variable [Glob]
end
section
variable [Glob]
end
section
variable [Glob]
end
section
variable [Glob]
end
section
variable [Glob]
def roundQ (P : Program) (nb : Nat) (c : Code) (Q : Exit → ASt → Prop) : Nat → ASt → Prop
 | 0, _ => False
 | n + 1, s => awp P nb c (fun e s => match e with | .normal => roundQ P nb c Q n s | e => Q e s) s
end
section
variable [Glob]
theorem roundQ_i {P : Program} {nb : Nat} {c : Code} {Q : Exit → ASt → Prop} {n : Nat} {s : ASt} (h : awp P nb c (fun e s => match e with | .normal => roundQ P nb c Q n s | e => Q e s) s) : roundQ P nb c Q (n + 1) s := h
end
section
variable [Glob]
theorem r_rounds {P : Program} {nb : Nat} {c : Code} {Q : Exit → ASt → Prop} {s : ASt} (n : Nat) (h : roundQ P nb c Q n s) : awp P nb (.loop c) Q s := by
 refine ⟨fun Z lb a w hs => ?_⟩
 have key : ∀ n s, roundQ P nb c Q n s → ∀ Z' lb' a' w', Ext nb Z lb w Z' lb' w' → St Z' lb' s a' w' → Code.rounds P c (lift nb Z lb w Q) n a' w' := by
  intro n
  induction n with
  | zero => intro s h; exact h.elim
  | succ n ih =>
   intro s h Z' lb' a' w' he hst
   rw [rounds_succ]
   refine Code.wp_mono ?_ (h.run Z' lb' a' w' hst)
   rintro e a2 w2 ⟨Z2, lb2, s2, e2, st2, hq⟩
   cases e with
   | normal => exact ih s2 hq Z2 lb2 a2 w2 (he.trans e2) st2
   | _ => exact ⟨Z2, lb2, s2, he.trans e2, st2, hq⟩
 exact wp_loop_rounds n (key n s h Z lb a w (Ext.refl _ _ _ _) hs)
end
end Go.Ab
set_option linter.unusedVariables false
set_option linter.unusedSimpArgs false
namespace Go.Ab
section
variable [Glob]
def GSound (E : Env) (o : Oper) (V : Vop) : Prop := ∀ ρ ℓ K, V ρ ℓ K → ∀ s : ASt, okDst s.n o.dst = true → (∀ x, x ∈ o.op.operands → ev s.t x = ρ x) → (∀ k : Nat, s.L[k]? = ℓ k) → ∀ Z lb a w, St Z lb s a w →
 ∀ (K' : Act → World → Prop) (Q : Exit → Act → World → Prop), (∀ e, K e → ∀ Z' lb' a' w', Stp Z lb w Z' lb' w' → St Z' lb' (s.app o.dst e) a' w' → K' a' w') → o.wp E.P a w K' Q
end
section
variable [Glob]
def ACallsX (P : Program) (f : FuncId) (args : List AV) (L : List Ob) {G : Type} (r : G → AV) (L' : G → List Ob) : Prop := Callable P f ∧ (∀ g, L.length ≤ (L' g).length) ∧ ∀ Z lb w vals, Own Z lb (L.map some) w → AReps Z lb w args vals →
 Calls P f vals.toArray w fun e w' => ∃ g u Z' lb', e = .returned u ∧ Own Z' lb' ((L' g).map some) w' ∧ ARep Z' lb' w' (r g) u ∧
  w'.os = w.os ∧ w'.tape = w.tape ∧ OutD w w' ∧ w.heap.size ≤ w'.heap.size ∧ Keep Z w w' ∧ (∀ b, Z b → Z' b) ∧ (∀ b, Z' b → b < w.heap.size → Z b ∨ ∃ i : Nat, lb[i]? = some (some (some b))) ∧ BsLe w w' ∧
  (∀ b, b < w.heap.size → (∀ i : Nat, lb[i]? ≠ some (some (some b))) → w'.heap[b]? = w.heap[b]?) ∧ (∀ (i : Nat) b, lb'[i]? = some (some (some b)) → (∃ j : Nat, lb[j]? = some (some (some b))) ∨ w.heap.size ≤ b) ∧
  (∀ (i : Nat) x, i < L.length → lb[i]? = some (some x) → lb'[i]? = some (some x))
end
section
variable [Glob]
theorem ACalls.x {P : Program} {f : FuncId} {args : List AV} {L : List Ob} {r : AV} {L' : List Ob} (h : ACalls P f args L r L') : ACallsX P f args L (fun _ : Unit => r) (fun _ => L') :=
 ⟨h.1, fun _ => h.2.1, fun Z lb w vals ho hr => (h.2.2 Z lb w vals ho hr).mono fun e w' ⟨u, Z', lb', h⟩ => ⟨(), u, Z', lb', h⟩⟩
end
section
variable [Glob]
theorem ACallsX.to {P : Program} {f : FuncId} {args : List AV} {L : List Ob} {G H : Type} {r : G → AV} {L' : G → List Ob} {r2 : H → AV} {L2 : H → List Ob} (h : ACallsX P f args L r L') (hl : ∀ g, L.length ≤ (L2 g).length) (k : ∀ g, ∃ q, r2 q = r g ∧ L2 q = L' g) : ACallsX P f args L r2 L2 := by
 refine ⟨h.1, hl, fun Z lb w vals ho hr => (h.2.2 Z lb w vals ho hr).mono ?_⟩
 rintro e w' ⟨g, u, Z', lb', h1, h2, h3, h4⟩
 obtain ⟨q, e1, e2⟩ := k g
 exact ⟨q, u, Z', lb', h1, by rw [e2]; exact h2, by rw [e1]; exact h3, h4⟩
end
section
variable [Glob]
def callX (E : Env) (g : FuncId) (cas : List AV) (Lc : List Ob) (K : AV → List Ob → Prop) (_ : Tag K) : Prop := ∃ (G : Type) (r : G → AV) (L' : G → List Ob), ACallsX E.P g cas Lc r L' ∧ ∀ q, K (r q) (L' q)
end
section
variable [Glob]
end
section
variable [Glob]
@[congr] theorem callX_congr {E : Env} {g : FuncId} {cas cas' : List AV} {Lc Lc' : List Ob} {K : AV → List Ob → Prop} {t : Tag K} (h : cas = cas') (h2 : Lc = Lc') : callX E g cas Lc K t = callX E g cas' Lc' K t := by rw [h, h2]
end
section
variable [Glob]
def lendX (E : Env) (rank : Nat) (g : FuncId) (ℓ : Nat → Option (Option Ob)) (xa : List AV) (K : Eff → Prop) : Prop :=
 forceN (dfsX ℓ xa) fun σ => forceA (renAs (fun j => posN σ j 0) xa) fun cas => forceB (lentObs ℓ (fun j => posN σ j 0) σ) fun Lc =>
  (renAs (atF σ rank) cas = xa ∧ inBs σ.length cas = true ∧ lentOk ℓ (atF σ rank) σ.length σ Lc ∧ freshN σ = true) ∧
   callX E g cas Lc (fun r L' => afterA ℓ rank σ σ L' [] fun wr => K ⟨some (renA (atF σ rank) r), [], wr⟩) ⟨⟩
end
section
variable [Glob]
def gCall (E : Env) (rank : Nat) (f : Operand) (args : List Operand) : Vop := fun ρ ℓ K => withV (ρ f) fun
 | .p (.fn g caps) => withC (gatherA ρ args) fun xa => lendX E rank g ℓ (appA xa (mapP caps)) K
 | _ => False
end
section
variable [Glob]
end
section
variable [Glob]
def gAppend (E : Env) (rank : Nat) (T T2 : TypeId) (s x : Operand) : Vop := fun ρ ℓ K => onB (isHole (ℓ rank)) <| isSliceTy E T fun _ esz eb => isSliceTy E T2 fun _ _ _ => onB (Nat.blt 0 esz) <|
 withV (ρ s) fun y => withV (ρ x) fun z => match elemsOf esz ℓ z with
  | some (xs, ks) => (match z with | .sl _ _ _ n => xs.length = n | _ => True) ∧ (match y with
   | .sl k sz st n => withO (ℓ k) fun
    | .arr sz' es => (Nat.beq sz esz = true ∧ Nat.beq sz' esz = true ∧ es.length = st + n ∧ (st + n + xs.length ≤ big ∧ (st + n + xs.length) * eb ≤ big)) ∧
      K ⟨some (.sl rank esz st (n + xs.length)), ks, [(k, some .dead), (rank, some (.arr esz (es ++ xs)))]⟩ ∧ K ⟨some (.sl rank esz 0 (n + xs.length)), ks, [(k, some .dead), (rank, some (.arr esz (es.drop st ++ xs)))]⟩
    | _ => False
   | _ => False)
  | none => False
end
section
variable [Glob]
end
section
variable [Glob]
def gop (E : Env) (o : Oper) (rank : Nat) : Vop := match o.op with
 | .call c => match c.callee with
  | .value f => gCall E rank f c.args.toList
  | .builtin .append => match c.args.toList, c.argTypes.toList with
   | [s, x], [T, T2] => gAppend E rank T T2 s x
   | _, _ => fun _ _ _ => False
  | _ => fun _ _ _ => False
 | _ => fun _ _ _ => False
end
section
variable [Glob]
end
section
variable [Glob]
end
section
variable [Glob]
def gstep (E : Env) (o : Oper) (rank : Nat) (s : ASt) (K : Eff → Prop) : Prop := onB (okDst s.n o.dst) (gop E o rank (ev s.t) (nth s.L) K)
end
section
variable [Glob]
def isG (gs : List Nat) (o : Oper) : Bool := match o.guard with
 | some _ => false
 | none => match o.op with
  | .call c => match c.callee with
   | .value (.func g) => elN (g + 1) gs
   | .builtin .append => elN 0 gs
   | _ => false
  | _ => false
end
section
variable [Glob]
end
section
variable [Glob]
end
section
variable [Glob]
end
section
variable [Glob]
end
section
variable [Glob]
end
section
variable [Glob]
end
section
variable [Glob]
end
section
variable [Glob]
end
section
variable [Glob]
end
section
variable [Glob]
end
section
variable [Glob]
end
section
variable [Glob]
end
section
variable [Glob]
end
section
variable [Glob]
structure endX (E : Env) (rs : List ResultVar) (nb : Nat) {G : Type} (r : G → AV) (L' : G → List Ob) (ex : Exit) (s : ASt) : Prop where
 run : ∃ g, endA E rs nb (r g) (L' g) ex s
end
@[congr] theorem endX_congr {E : Env} {rs : List ResultVar} {nb : Nat} {G : Type} {r : G → AV} {L' : G → List Ob} {ex : Exit} {s s' : ASt} (h : s = s') : endX E rs nb r L' ex s = endX E rs nb r L' ex s' := by rw [h]
section
variable [Glob]
end
@[congr] theorem renAs_congr {f : Nat → Nat} {l l' : List AV} (h : l = l') : renAs f l = renAs f l' := by rw [h]
@[congr] theorem renA_congr {f : Nat → Nat} {l l' : AV} (h : l = l') : renA f l = renA f l' := by rw [h]
@[congr] theorem renO_congr {f : Nat → Nat} {l l' : Ob} (h : l = l') : renO f l = renO f l' := by rw [h]
@[congr] theorem lentObs_congr {ℓ : Nat → Option (Option Ob)} {f : Nat → Nat} {l l' : List Nat} (h : l = l') : lentObs ℓ f l = lentObs ℓ f l' := by rw [h]
attribute [go_sem] gstep gop gCall gAppend lendX
end Go.Ab