/- Part 2 of a framework of lemmas that the proofs of this seat use: what a function computes, told by plain values. No conditions. -/
import Derived.Test.YtegekpjkbedngaaGreatAc1
import Derived.Lib.AppendZerosOnto
import Derived.Laws.IdiomStrings
import Derived.Laws.BytesString
import Derived.Lib.AppendStr
import Derived.Laws.IdiomRangeMap
set_option linter.unusedVariables false
set_option linter.unusedSimpArgs false
set_option linter.unusedSectionVars false
set_option warn.classDefReducibility false
set_option linter.unusedSectionVars false
namespace Go.Ab
variable [Glob]
def pzero : Value → PV
 | .agg cs => .agg (cs.toList.map .v)
 | v => .v v
theorem reps_v {Z : Nat → Prop} {w : World} : ∀ {l : List Value}, AllOne l → Reps Z w (l.map .v) l
 | [], _ => rfl
 | x :: l, h => by
  simp only [List.map_cons, Reps]
  exact ⟨x, l, rfl, by simp only [Rep]; exact ⟨trivial, h x List.mem_cons_self⟩, reps_v fun y hy => h y (List.mem_cons_of_mem _ hy)⟩
theorem pzero_rep {Z : Nat → Prop} {w : World} {v : Value} (h : AllOne (vcells v)) : Rep Z w (pzero v) v := by
 cases v with
 | agg cs =>
  simp only [pzero, Rep]
  exact ⟨cs.toList, reps_v h, by simp, h⟩
 | _ => simp only [pzero, Rep]; exact ⟨trivial, h _ (by simp [vcells, Value.cells])⟩
theorem reps_replicate {Z : Nat → Prop} {w : World} {x : PV} {u : Value} (h : Rep Z w x u) : ∀ n, Reps Z w (List.replicate n x) (List.replicate n u)
 | 0 => rfl
 | n + 1 => by simp only [List.replicate_succ, Reps]; exact ⟨u, _, rfl, h, reps_replicate h n⟩
def vMake (E : Env) (rank : Nat) (T : TypeId) (x y : Operand) : Vop := fun ρ ℓ K => onB (isHole (ℓ rank)) <| withTy E T fun i => match i.k with
 | .slice _ esz eb ez => onB (Nat.beq (vcells ez).length esz) <| onB (allOneB (vcells ez)) <| onB (Nat.blt 0 esz) <| withV (ρ x) fun a => withV (ρ y) fun b => match a, b with
  | .p (.v (.int _ n)), .p (.v (.int _ c)) => (0 ≤ n ∧ n ≤ c ∧ c ≤ (big : Int) ∧ (eb : Int) * c ≤ (big : Int)) ∧ K ⟨some (.sl rank esz 0 n.toNat), [], [(rank, some (.arr esz (List.replicate n.toNat (pzero ez))))]⟩
  | _, _ => False
 | _ => False
theorem sMake (E : Env) (o : Oper) (rank : Nat) (T : TypeId) (x y : Operand) (ho : o.op = .makeSlice T x y) : Sound E o (vMake E rank T x y) := by
 intro ρ ℓ K h0
 obtain ⟨hh, h1⟩ := onB_some h0
 obtain ⟨i, d, inf, z, h, F⟩ := withTy_some h1
 clear h0 h1
 split at h
 ·rename_i e esz eb ez hk
  obtain ⟨q1, h1⟩ := onB_some h
  obtain ⟨q2, h2⟩ := onB_some h1
  obtain ⟨q3, h3⟩ := onB_some h2
  obtain ⟨a0, ha, h4⟩ := withV_some h3
  obtain ⟨b0, hb, h5⟩ := withV_some h4
  clear h h1 h2 h3 h4
  have q1 := Nat.eq_of_beq_eq_true q1
  have q2 := allOneB_ok q2
  have q3 : 0 < esz := Nat.le_of_ble_eq_true q3
  have hxm : x ∈ o.op.operands := by simp [ho, Op.operands]
  have hym : y ∈ o.op.operands := by simp [ho, Op.operands]
  split at h5
  ·rename_i kn n kc c
   obtain ⟨⟨c1, c2, c3, c4⟩, h⟩ := h5
   refine ⟨_, h, fun s hd hq ht => opAt_chg hd fun Z lb a w hs => ?_⟩
   have hr : s.L[rank]? = some none := (ht rank (by simp [touch])).trans (isHole_eq hh)
   obtain ⟨rfl, j, zz, i1, i2, i3, i4, i5⟩ := F.slice hk
   subst i5
   have hrun := run_make (P := E.P) w T e j zz F.und i1 i2 kn kc n c c1 c2 (by rw [i4]; unfold big at c4; omega) (by unfold big at c3; omega)
   have hzs : zz.cells.size = esz := by rw [← q1, vcells]; simp
   obtain ⟨lb', st, own, hb'⟩ := hs.own.new hr (ob := .cells (madeCells zz.cells (c.toNat * j.size)) e) (o' := .arr esz (List.replicate n.toNat (pzero zz))) (fun lb' st hz =>
    obAt_arr hz st q3 (reps_replicate (pzero_rep q2) n.toNat) (fun q hq => by rw [List.eq_of_mem_replicate hq]; exact ⟨q1, q2⟩) (fun k u hk q v hv => by
     have hkn : k < n.toNat := by
      rcases Nat.lt_or_ge k n.toNat with h' | h'
      ·exact h'
      ·simp [List.getElem?_eq_none, h'] at hk
     have hu : u = zz := by
      have := List.mem_of_getElem? hk
      exact List.eq_of_mem_replicate this
     subst hu
     have hql : q < esz := by
      rcases Nat.lt_or_ge q (vcells u).length with h' | h'
      ·omega
      ·simp [List.getElem?_eq_none h'] at hv
     have hbound : k * esz + q < c.toNat * esz := by
      have : (k + 1) * esz ≤ c.toNat * esz := Nat.mul_le_mul_right esz (by omega)
      rw [Nat.succ_mul] at this; omega
     simp only [madeCells, i3, Array.getElem?_map]
     rw [Array.getElem?_range, if_pos hbound]
     simp only [Option.map_some, hzs]
     rw [Nat.add_comm, Nat.add_mul_mod_self_right, Nat.mod_eq_of_lt hql]
     rw [vcells, Array.getElem?_toList] at hv
     rw [getElem!_def, hv]) (by simp; omega) (by rw [size_madeCells, List.length_replicate, i3]; exact Nat.mul_le_mul_right _ (by omega)))
   refine ⟨.slice (some ⟨w.heap.size, 0, none⟩) n.toNat c.toNat, _, Z, lb', ?_, st, by simpa [setAll, setL_eq] using own, ?_⟩
   ·simp only [execOp, ho, rep_v (ev_rep hs (find_ev hq hxm ha)), rep_v (ev_rep hs (find_ev hq hym hb)), Sem.run_bind, hrun, Result.andThen_ok, Sem.run_pure]
   ·simp only [ARep]
    refine .inr ⟨_, c.toNat, hb', by rw [Nat.zero_mul], by omega, ?_⟩
    rw [bsize_of alloc_heap_new, size_madeCells, i3, Nat.zero_add]
    exact Nat.le_refl _
  ·exact h5.elim
 ·exact h.elim
def vAppendZ (E : Env) (rank : Nat) (T T2 : TypeId) (s x : Operand) : Vop := fun ρ ℓ K => onB (isHole (ℓ rank)) <| withTy E T fun i => withTy E T2 fun i2 => match i.k, i2.k with
 | .slice _ esz eb ez, .int _ => onB (Nat.beq (vcells ez).length esz) <| onB (allOneB (vcells ez)) <| onB (Nat.blt 0 esz) <| withV (ρ s) fun a => withV (ρ x) fun b => match a, b with
  | .p (.v (.slice none 0 0)), .p (.v (.int _ n)) => (0 < n ∧ n ≤ (big : Int) ∧ n * (eb : Int) ≤ (big : Int)) ∧ K ⟨some (.sl rank esz 0 n.toNat), [], [(rank, some (.arr esz (List.replicate n.toNat (pzero ez))))]⟩
  | _, _ => False
 | _, _ => False
theorem zeroCells_get {z : Array Value} {sz n : Nat} (hz : z.size = sz) {k q : Nat} {v : Value} (hk : k < n) (hv : z.toList[q]? = some v) : (Builtin.zeroCells z n)[k * sz + q]? = some v := by
 have hql : q < sz := by
  rcases Nat.lt_or_ge q z.toList.length with h' | h'
  ·simpa [hz] using h'
  ·simp [List.getElem?_eq_none h'] at hv
 have hbound : k * sz + q < n * sz := by
  have : (k + 1) * sz ≤ n * sz := Nat.mul_le_mul_right sz hk
  rw [Nat.succ_mul] at this; omega
 simp only [Builtin.zeroCells, hz, Array.getElem?_map]
 rw [Array.getElem?_range, if_pos hbound]
 simp only [Option.map_some]
 rw [Nat.add_comm, Nat.add_mul_mod_self_right, Nat.mod_eq_of_lt hql]
 rw [Array.getElem?_toList] at hv
 rw [getElem!_def, hv]
theorem sAppendZ (E : Env) (o : Oper) (rank : Nat) (T T2 : TypeId) (sx x : Operand) (ho : o.op = .call { callee := .builtin .append, args := #[sx, x], argTypes := #[T, T2] }) : Sound E o (vAppendZ E rank T T2 sx x) := by
 intro ρ ℓ K h0
 obtain ⟨hh, h1⟩ := onB_some h0
 obtain ⟨i, d, inf, z, h2, F⟩ := withTy_some h1
 obtain ⟨i2, d2, inf2, z2, h, F2⟩ := withTy_some h2
 clear h0 h1 h2
 split at h
 ·rename_i e esz eb ez kn hk hk2
  obtain ⟨q1, h1⟩ := onB_some h
  obtain ⟨q2, h2⟩ := onB_some h1
  obtain ⟨q3, h3⟩ := onB_some h2
  obtain ⟨a0, ha, h4⟩ := withV_some h3
  obtain ⟨b0, hb, h5⟩ := withV_some h4
  clear h h1 h2 h3 h4
  have q1 := Nat.eq_of_beq_eq_true q1
  have q2 := allOneB_ok q2
  have q3 : 0 < esz := Nat.le_of_ble_eq_true q3
  have hxm : sx ∈ o.op.operands := by simp [ho, Op.operands, Call.operands]
  have hym : x ∈ o.op.operands := by simp [ho, Op.operands, Call.operands]
  split at h5
  ·rename_i kq n
   obtain ⟨⟨c1, c2, c3⟩, h⟩ := h5
   refine ⟨_, h, fun s hd hq ht => opAt_chg hd fun Z lb a w hs => ?_⟩
   have hr : s.L[rank]? = some none := (ht rank (by simp [touch])).trans (isHole_eq hh)
   obtain ⟨rfl, j, zz, i1, i2', i3, i4, i5⟩ := F.slice hk
   subst i5
   have hd2 := F2.int hk2
   subst hd2
   obtain ⟨m, rfl⟩ : ∃ m : Nat, n = m := ⟨n.toNat, by omega⟩
   have hmb : m * eb ≤ big := by
    have : (m : Int) * (eb : Int) = ((m * eb : Nat) : Int) := by rw [Int.natCast_mul]
    omega
   have hbig : big = 140737488355328 := rfl
   have hrun := Lib.run_append_grow_zeros (P := E.P) w T T2 o.type e j zz kq kn F.und F2.und i1 i2' none 0 0 [] (run_firstCells_none w.drew j.size 0 0 0) m (by omega) (by omega) (by omega) (by omega) (by rw [i4]; omega) (growslice_fits (by omega) (by rw [i4, Nat.zero_add]; omega))
   have hzs : zz.cells.size = esz := by rw [← q1, vcells]; simp
   have st0 : Stp Z lb w Z lb w.drew := stp_heap rfl rfl rfl (od_drew _)
   have own0 : Own Z lb s.L w.drew := hs.own.heap rfl rfl rfl (od_drew _)
   have hzc : ∀ k, (Builtin.zeroCells zz.cells k).size = k * esz := fun k => by simp [Builtin.zeroCells, hzs]
   obtain ⟨lb', st, own, hb'⟩ := own0.new hr (ob := .cells (([] : List Value).toArray ++ Builtin.zeroCells zz.cells m ++ Builtin.zeroCells zz.cells (grownCap w (0 + m) 0 e - (0 + m))) e) (o' := .arr esz (List.replicate (m : Int).toNat (pzero zz))) (fun lb' st hz =>
    obAt_arr hz st q3 (reps_replicate (pzero_rep q2) _) (fun q hq => by rw [List.eq_of_mem_replicate hq]; exact ⟨q1, q2⟩) (fun k u hk q v hv => by
     have hkn : k < m := by
      rcases Nat.lt_or_ge k m with h' | h'
      ·exact h'
      ·simp [h'] at hk
     have hu : u = zz := List.eq_of_mem_replicate (List.mem_of_getElem? hk)
     subst hu
     have hg := zeroCells_get hzs hkn (by simpa [vcells] using hv)
     rw [Array.getElem?_append_left]
     ·simpa using hg
     ·have : k * esz + q < (Builtin.zeroCells u.cells m).size := by
       rcases Nat.lt_or_ge (k * esz + q) (Builtin.zeroCells u.cells m).size with h' | h'
       ·exact h'
       ·simp [Array.getElem?_eq_none h'] at hg
      simpa using this) (by simp; omega) (by simp [hzc]))
   refine ⟨.slice (some ⟨w.heap.size, 0, none⟩) (0 + m) (grownCap w (0 + m) 0 e), _, Z, lb', ?_, st0.trans st, by simpa [setAll, setL_eq] using own, ?_⟩
   ·have e1 := rep_v (ev_rep hs (find_ev hq hxm ha))
    have e2 := rep_v (ev_rep hs (find_ev hq hym hb))
    simp [execOp, ho, resolve, invoke, builtin, e1, e2, hrun]
   ·simp only [ARep]
    have hge := grownCap_ge w (0 + m) 0 e
    refine .inr ⟨_, grownCap w (0 + m) 0 e, hb', ?_, by simp only [Int.toNat_natCast]; omega, ?_⟩
    ·rw [Nat.zero_mul]; simp
    ·rw [bsize_of alloc_heap_new]
     simp only [Array.size_append, hzc, Nat.zero_add, List.size_toArray, List.length_nil]
     rw [← Nat.add_mul]
     exact Nat.mul_le_mul_right _ (by omega)
  ·exact h5.elim
 ·exact h.elim
def vLen (E : Env) (T : TypeId) (x : Operand) : Vop := fun ρ _ K => withTy E T fun i => withV (ρ x) fun y => match i.k, y with
 | .str, .p (.v (.string s)) => K ⟨some (vOk (.int .i64 s.size)), [], []⟩
 | .slice _ _ _ _, .p (.view _ es) => K ⟨some (vOk (.int .i64 es.length)), [], []⟩
 | .slice _ _ _ _, .p (.v (.slice _ n _)) => K ⟨some (vOk (.int .i64 n)), [], []⟩
 | .slice _ _ _ _, .sl _ _ _ n => K ⟨some (vOk (.int .i64 n)), [], []⟩
 | .arr n _ _ _, _ => K ⟨some (vOk (.int .i64 n)), [], []⟩
 | _, _ => False
theorem sLen (E : Env) (o : Oper) (T : TypeId) (x : Operand) (ho : o.op = .call { callee := .builtin .len, args := #[x], argTypes := #[T] }) : Sound E o (vLen E T x) := by
 intro ρ ℓ K h0
 obtain ⟨i, d, inf, z, h1, F⟩ := withTy_some h0
 obtain ⟨y, hy, h⟩ := withV_some h1
 clear h0 h1
 have hxm : x ∈ o.op.operands := by simp [ho, Op.operands, Call.operands]
 have go : ∀ {n : Nat}, K ⟨some (vOk (.int .i64 n)), [], []⟩ → (∀ Z lb (w : World) u, ARep Z lb w y u → (Builtin.len_ #[T] o.type #[u]).run E.P w = .ok (goInt n) w) →
   ∃ e, K e ∧ ∀ s : ASt, okDst s.n o.dst = true → (∀ x, x ∈ o.op.operands → ev s.t x = ρ x) → (∀ k, k ∈ touch e → s.L[k]? = ℓ k) → OpAt E.P o s e := by
  intro n hK hrun
  refine ⟨_, hK, fun s hd hq ht => opAt_val hd fun Z lb a w hs => ⟨.int .i64 n, ?_, arep_v rfl⟩⟩
  have := hrun Z lb w _ (ev_rep hs (find_ev hq hxm hy))
  simp [execOp, ho, resolve, invoke, builtin, this, goInt]
 split at h
 ·rename_i bs hk
  have := F.str hk
  subst this
  refine go h fun Z lb w u hu => ?_
  rw [rep_v hu]
  simp [Builtin.len_, F.run_und]
 ·rename_i e esz eb ez sz es hk
  obtain ⟨rfl, _⟩ := F.slice hk
  refine go h fun Z lb w u hu => ?_
  simp only [ARep, Rep] at hu
  obtain ⟨vs, base, cap, g1, rfl, _⟩ := hu
  simp [Builtin.len_, F.run_und, g1.length]
 ·rename_i e esz eb ez b n c hk
  obtain ⟨rfl, _⟩ := F.slice hk
  refine go h fun Z lb w u hu => ?_
  rw [rep_v hu]
  simp [Builtin.len_, F.run_und]
 ·rename_i e esz eb ez k sz st n hk
  obtain ⟨rfl, _⟩ := F.slice hk
  refine go h fun Z lb w u hu => ?_
  simp only [ARep] at hu
  rcases hu with ⟨_, rfl, _, rfl⟩ | ⟨b, cap, _, rfl, _⟩
  ·simp [Builtin.len_, F.run_und]
  ·simp [Builtin.len_, F.run_und]
 ·rename_i y' n e esz ea hk
  obtain ⟨rfl, _⟩ := F.arr hk
  refine go h fun Z lb w u hu => ?_
  simp [Builtin.len_, F.run_und]
 ·exact h.elim
def vCap (E : Env) (T : TypeId) (x : Operand) : Vop := fun ρ _ K => withTy E T fun i => withV (ρ x) fun y => match i.k, y with
 | .slice _ _ _ _, .p (.v (.slice _ _ n)) => K ⟨some (vOk (.int .i64 n)), [], []⟩
 | _, _ => False
theorem sCap (E : Env) (o : Oper) (T : TypeId) (x : Operand) (ho : o.op = .call { callee := .builtin .cap, args := #[x], argTypes := #[T] }) : Sound E o (vCap E T x) := by
 intro ρ ℓ K h0
 obtain ⟨i, d, inf, z, h1, F⟩ := withTy_some h0
 obtain ⟨y, hy, h⟩ := withV_some h1
 clear h0 h1
 have hxm : x ∈ o.op.operands := by simp [ho, Op.operands, Call.operands]
 split at h
 ·rename_i e esz eb ez b n c hk
  obtain ⟨rfl, _⟩ := F.slice hk
  refine ⟨_, h, fun s hd hq ht => opAt_val hd fun Z lb a w hs => ⟨.int .i64 c, ?_, arep_v rfl⟩⟩
  have := rep_v (ev_rep hs (find_ev hq hxm hy))
  simp [execOp, ho, resolve, invoke, builtin, this, Builtin.cap_, F.run_und, goInt]
 ·exact h.elim
def vMinMax (mx : Bool) (x y : Operand) : Vop := fun ρ _ K => withV (ρ x) fun a => withV (ρ y) fun b => match a, b with
 | .p (.v (.int k m)), .p (.v (.int _ n)) => K ⟨some (vOk (.int k (match mx with | true => max m n | false => min m n))), [], []⟩
 | _, _ => False
theorem sMinMax (E : Env) (o : Oper) (mx : Bool) (ts : Array TypeId) (x y : Operand) (ho : o.op = .call { callee := .builtin (match mx with | true => .max | false => .min), args := #[x, y], argTypes := ts }) : Sound E o (vMinMax mx x y) := by
 intro ρ ℓ K h0
 obtain ⟨a0, ha, h1⟩ := withV_some h0
 obtain ⟨b0, hb, h⟩ := withV_some h1
 clear h0 h1
 have hxm : x ∈ o.op.operands := by simp [ho, Op.operands, Call.operands]
 have hym : y ∈ o.op.operands := by simp [ho, Op.operands, Call.operands]
 split at h
 ·rename_i k m k' n
  refine ⟨_, h, fun s hd hq ht => opAt_val hd fun Z lb a w hs => ⟨_, ?_, arep_v rfl⟩⟩
  have e1 := rep_v (ev_rep hs (find_ev hq hxm ha))
  have e2 := rep_v (ev_rep hs (find_ev hq hym hb))
  cases mx with
  | true =>
   have : (if n > m then n else m) = max m n := by split <;> omega
   simp [execOp, ho, resolve, invoke, builtin, Builtin.max_, Builtin.max2, e1, e2, this]
  | false =>
   have : (if n < m then n else m) = min m n := by split <;> omega
   simp [execOp, ho, resolve, invoke, builtin, Builtin.min_, Builtin.min2, e1, e2, this]
 ·exact h.elim
def Callable (P : Program) (f : FuncId) : Prop := ∃ fn, P.funcs[f]? = some fn ∧ fn.body.isNone = false ∧ (fn.name == "runtime.NumGoroutine") = false
theorem run_callFunc {P : Program} {f : FuncId} (h : Callable P f) (args : Array Value) (w : World) : (callFunc f args).run P w = .ok (.enter f args) w := by
 obtain ⟨fn, h1, h2, h3⟩ := h
 have h3' : ¬ (fn.name == "runtime.NumGoroutine") = true := by rw [h3]; exact Bool.false_ne_true
 have h2' : ¬ fn.body.isNone = true := by rw [h2]; exact Bool.false_ne_true
 simp only [callFunc, Sem.run_bind, run_program, Result.andThen_ok, h1, if_neg h3', if_neg h2', Sem.run_pure]
structure PCalls (P : Program) (f : FuncId) (args : List PV) (r : PV) : Prop where
 callable : Callable P f
 calls : ∀ Z w vals, ZOk Z w → Reps Z w args vals →
 Calls P f vals.toArray w fun e w' => ∃ u Z', e = .returned u ∧ Stp Z [] w Z' [] w' ∧ ZOk Z' w' ∧ Rep Z' w' r u
theorem Stp.lift {Z Z' : Nat → Prop} {lb : Lb} {w w' : World} (h : Stp Z [] w Z' [] w') : Stp Z lb w Z' lb w' where
 os := h.os
 tape := h.tape
 output := h.output
 size := h.size
 keep := h.keep
 z1 := h.z1
 z2 := fun b hb hlt => by
  rcases h.z2 b hb hlt with h1 | ⟨i, h1⟩
  ·exact .inl h1
  ·simp at h1
 bs := h.bs
 hp := fun b hb _ => h.hp b hb (by simp)
 le := fun _ _ h => h
 fresh := fun i _ h => .inl ⟨i, h⟩
 len := rfl
theorem Own.called {Z Z' : Nat → Prop} {lb : Lb} {L : List (Option Ob)} {w w' : World} (o : Own Z lb L w) (h : Stp Z [] w Z' [] w') (hz : ZOk Z' w') : Own Z' lb L w' :=
 ⟨o.len, fun i ob hi => by
  obtain ⟨x, h1, h2⟩ := o.obj i ob hi
  refine ⟨x, h1, h2.mono h.lift fun b hl hb => ?_⟩
  subst hb
  obtain ⟨g1, g2⟩ := h2.block hl
  refine ⟨h.hp b g2 (by simp), fun hzb => ?_⟩
  rcases h.z2 b hzb g2 with h3 | ⟨j, h3⟩
  ·exact g1 h3
  ·simp at h3, o.hole, o.inj, hz⟩
def gatherP (ρ : Operand → Option AV) : List Operand → Option (List PV)
 | [] => some []
 | x :: r => match ρ x with
  | some (.p e) => match gatherP ρ r with
   | some l => some (e :: l)
   | none => none
  | _ => none
theorem gatherP_rep {Z : Nat → Prop} {lb : Lb} {s : ASt} {a : Act} {w : World} {ρ : Operand → Option AV} (hs : St Z lb s a w) : ∀ {l : List Operand} {ps : List PV}, (∀ x, x ∈ l → ev s.t x = ρ x) → gatherP ρ l = some ps → Reps Z w ps (l.map a.eval)
 | [], ps, _, h => by simp only [gatherP, Option.some.injEq] at h; subst h; rfl
 | x :: l, ps, hq, h => by
  simp only [gatherP] at h
  split at h
  ·rename_i e he
   split at h
   ·rename_i l' hl
    simp only [Option.some.injEq] at h
    subst h
    simp only [List.map_cons, Reps]
    have := ev_rep hs ((hq x List.mem_cons_self).trans he)
    exact ⟨_, _, rfl, by simpa [ARep] using this, gatherP_rep hs (fun z hz => hq z (List.mem_cons_of_mem _ hz)) hl⟩
   ·simp at h
  ·simp at h
def appP : List PV → List PV → List PV
 | [], ys => ys
 | x :: xs, ys => x :: appP xs ys
theorem appP_eq : ∀ xs ys, appP xs ys = xs ++ ys
 | [], _ => rfl
 | x :: xs, ys => by simp [appP, appP_eq xs]
mutual
def renA (f : Nat → Nat) : AV → AV
 | .p x => .p x
 | .loc i o => .loc (f i) o
 | .eloc i sz k o => .eloc (f i) sz k o
 | .sl i sz st n => .sl (f i) sz st n
 | .mref i => .mref (f i)
 | .agg cs => .agg (renAs f cs)
 | .tup cs => .tup (renAs f cs)
 | .fn g cs => .fn g (renAs f cs)
 | .ifc t x => .ifc t (renA f x)
def renAs (f : Nat → Nat) : List AV → List AV
 | [] => []
 | x :: xs => renA f x :: renAs f xs
end
def renO (f : Nat → Nat) : Ob → Ob
 | .var cs => .var (renAs f cs)
 | .arr sz es => .arr sz es
 | .dead => .dead
 | .bld T q => .bld T (renA f q)
 | .byt e bs => .byt e bs
 | .mp kk ek => .mp kk ek
 | .pvar m cs => .pvar m (renAs f cs)
 | .mpx kk es cl => .mpx kk es cl
 | .it q since seen last => .it (renA f q) since seen last
 | .lp l mk n ds cs => .lp l mk n ds (renAs f cs)
mutual
def inB (n : Nat) : AV → Bool
 | .p _ => true
 | .loc i _ => Nat.blt i n
 | .eloc i _ _ _ => Nat.blt i n
 | .sl i _ _ _ => Nat.blt i n
 | .mref i => Nat.blt i n
 | .agg cs => inBs n cs
 | .tup cs => inBs n cs
 | .fn _ cs => inBs n cs
 | .ifc _ x => inB n x
def inBs (n : Nat) : List AV → Bool
 | [] => true
 | x :: xs => match inB n x with
  | true => inBs n xs
  | false => false
end
def inBO (n : Nat) : Ob → Bool
 | .var cs => inBs n cs
 | .pvar _ cs => inBs n cs
 | .it q _ _ _ => inB n q
 | .bld _ q => inB n q
 | .lp _ _ _ _ cs => inBs n cs
 | _ => true
mutual
theorem arep_ren {Z : Nat → Prop} {lb lb' : Lb} {w : World} {f : Nat → Nat} {n : Nat} (h : ∀ i x, i < n → lb[f i]? = some (some x) → lb'[i]? = some (some x)) : ∀ (x : AV) (u : Value), inB n x = true → ARep Z lb w (renA f x) u → ARep Z lb' w x u
 | .p x, u, _, hr => by simpa [renA, ARep] using hr
 | .loc i o, u, hb, hr => by
  simp only [renA, ARep] at hr ⊢
  obtain ⟨b, h1, h2⟩ := hr
  exact ⟨b, h i _ (Nat.le_of_ble_eq_true hb) h1, h2⟩
 | .mref i, u, hb, hr => by
  simp only [renA, ARep] at hr ⊢
  obtain ⟨b, h1, h2⟩ := hr
  exact ⟨b, h i _ (Nat.le_of_ble_eq_true hb) h1, h2⟩
 | .eloc i sz k o, u, hb, hr => by
  simp only [renA, ARep] at hr ⊢
  obtain ⟨b, h1, h2⟩ := hr
  exact ⟨b, h i _ (Nat.le_of_ble_eq_true hb) h1, h2⟩
 | .sl i sz st m, u, hb, hr => by
  simp only [renA, ARep] at hr ⊢
  rcases hr with ⟨a1, a2, a3, a4⟩ | ⟨b, cap, a1, a2⟩
  ·exact .inl ⟨a1, a2, h i _ (Nat.le_of_ble_eq_true hb) a3, a4⟩
  ·exact .inr ⟨b, cap, h i _ (Nat.le_of_ble_eq_true hb) a1, a2⟩
 | .agg cs, u, hb, hr => by
  simp only [renA, ARep] at hr ⊢
  obtain ⟨vs, h1, h2⟩ := hr
  exact ⟨vs, areps_ren h cs vs hb h1, h2⟩
 | .tup cs, u, hb, hr => by
  simp only [renA, ARep] at hr ⊢
  obtain ⟨vs, h1, h2⟩ := hr
  exact ⟨vs, areps_ren h cs vs hb h1, h2⟩
 | .fn g cs, u, hb, hr => by
  simp only [renA, ARep] at hr ⊢
  obtain ⟨vs, h1, h2⟩ := hr
  exact ⟨vs, areps_ren h cs vs hb h1, h2⟩
 | .ifc t x, u, hb, hr => by
  simp only [renA, ARep] at hr ⊢
  obtain ⟨y, h1, h2⟩ := hr
  exact ⟨y, arep_ren h x y hb h1, h2⟩
theorem areps_ren {Z : Nat → Prop} {lb lb' : Lb} {w : World} {f : Nat → Nat} {n : Nat} (h : ∀ i x, i < n → lb[f i]? = some (some x) → lb'[i]? = some (some x)) : ∀ (xs : List AV) (us : List Value), inBs n xs = true → AReps Z lb w (renAs f xs) us → AReps Z lb' w xs us
 | [], us, _, hr => by simpa [renAs, AReps] using hr
 | x :: xs, us, hb, hr => by
  simp only [inBs] at hb
  split at hb
  ·rename_i h1
   simp only [renAs, AReps] at hr ⊢
   obtain ⟨u, us', rfl, h2, h3⟩ := hr
   exact ⟨u, us', rfl, arep_ren h x u h1 h2, areps_ren h xs us' hb h3⟩
  ·simp at hb
end
mutual
theorem arep_unren {Z : Nat → Prop} {lb lb' : Lb} {w : World} {f : Nat → Nat} (h : ∀ (i : Nat) x, lb[i]? = some (some x) → lb'[f i]? = some (some x)) : ∀ (x : AV) (u : Value), ARep Z lb w x u → ARep Z lb' w (renA f x) u
 | .p x, u, hr => by simpa [renA, ARep] using hr
 | .loc i o, u, hr => by
  simp only [renA, ARep] at hr ⊢
  obtain ⟨b, h1, h2⟩ := hr
  exact ⟨b, h i _ h1, h2⟩
 | .mref i, u, hr => by
  simp only [renA, ARep] at hr ⊢
  obtain ⟨b, h1, h2⟩ := hr
  exact ⟨b, h i _ h1, h2⟩
 | .eloc i sz k o, u, hr => by
  simp only [renA, ARep] at hr ⊢
  obtain ⟨b, h1, h2⟩ := hr
  exact ⟨b, h i _ h1, h2⟩
 | .sl i sz st m, u, hr => by
  simp only [renA, ARep] at hr ⊢
  rcases hr with ⟨a1, a2, a3, a4⟩ | ⟨b, cap, a1, a2⟩
  ·exact .inl ⟨a1, a2, h i _ a3, a4⟩
  ·exact .inr ⟨b, cap, h i _ a1, a2⟩
 | .agg cs, u, hr => by
  simp only [renA, ARep] at hr ⊢
  obtain ⟨vs, h1, h2⟩ := hr
  exact ⟨vs, areps_unren h cs vs h1, h2⟩
 | .tup cs, u, hr => by
  simp only [renA, ARep] at hr ⊢
  obtain ⟨vs, h1, h2⟩ := hr
  exact ⟨vs, areps_unren h cs vs h1, h2⟩
 | .fn g cs, u, hr => by
  simp only [renA, ARep] at hr ⊢
  obtain ⟨vs, h1, h2⟩ := hr
  exact ⟨vs, areps_unren h cs vs h1, h2⟩
 | .ifc t x, u, hr => by
  simp only [renA, ARep] at hr ⊢
  obtain ⟨y, h1, h2⟩ := hr
  exact ⟨y, arep_unren h x y h1, h2⟩
theorem areps_unren {Z : Nat → Prop} {lb lb' : Lb} {w : World} {f : Nat → Nat} (h : ∀ (i : Nat) x, lb[i]? = some (some x) → lb'[f i]? = some (some x)) : ∀ (xs : List AV) (us : List Value), AReps Z lb w xs us → AReps Z lb' w (renAs f xs) us
 | [], us, hr => by simpa [renAs, AReps] using hr
 | x :: xs, us, hr => by
  simp only [renAs, AReps] at hr ⊢
  obtain ⟨u, us', rfl, h2, h3⟩ := hr
  exact ⟨u, us', rfl, arep_unren h x u h2, areps_unren h xs us' h3⟩
end
theorem obAt_ren {Z : Nat → Prop} {lb lb' : Lb} {w : World} {f : Nat → Nat} {n : Nat} (h : ∀ i x, i < n → lb[f i]? = some (some x) → lb'[i]? = some (some x)) {o : Ob} {x : Option Nat} (hb : inBO n o = true) (hr : ObAt Z lb w (renO f o) x) : ObAt Z lb' w o x := by
 cases o with
 | dead => trivial
 | arr sz es => cases x <;> exact hr
 | var cs =>
  cases x with
  | none => exact hr
  | some b =>
   obtain ⟨h1, h2, vs, ty, fr, h3, h4⟩ := hr
   exact ⟨h1, h2, vs, ty, fr, areps_ren h cs vs hb h3, h4⟩
 | pvar m cs =>
  cases x with
  | none => exact hr
  | some b =>
   obtain ⟨h1, h2, vs, arr, ty, fr, h3, h4⟩ := hr
   exact ⟨h1, h2, vs, arr, ty, fr, areps_ren h cs vs hb h3, h4⟩
 | bld T q =>
  cases x with
  | none => exact hr
  | some b =>
   obtain ⟨h1, h2, p, v, h3, h4, h5, h6⟩ := hr
   exact ⟨h1, h2, p, v, h3, h4, arep_ren h q v hb h5, h6⟩
 | byt e bs => cases x <;> exact hr
 | mp kk ek => cases x <;> exact hr
 | mpx kk es cl => cases x <;> exact hr
 | it q since seen last =>
  cases x with
  | none => exact hr
  | some b =>
   obtain ⟨h1, h2, mo, h3, h4⟩ := hr
   exact ⟨h1, h2, mo, arep_ren h q _ hb h3, h4⟩
 | lp l mk n ds cs =>
  cases x with
  | none => exact hr
  | some b =>
   obtain ⟨h1, h2, h2', vs, tm, h3, h4⟩ := hr
   exact ⟨h1, h2, h2', vs, tm, areps_ren h cs vs hb h3, h4⟩
theorem obAt_unren {Z : Nat → Prop} {lb lb' : Lb} {w : World} {f : Nat → Nat} (h : ∀ (i : Nat) x, lb[i]? = some (some x) → lb'[f i]? = some (some x)) {o : Ob} {x : Option Nat} (hr : ObAt Z lb w o x) : ObAt Z lb' w (renO f o) x := by
 cases o with
 | dead => trivial
 | arr sz es => cases x <;> exact hr
 | var cs =>
  cases x with
  | none => exact hr
  | some b =>
   obtain ⟨h1, h2, vs, ty, fr, h3, h4⟩ := hr
   exact ⟨h1, h2, vs, ty, fr, areps_unren h cs vs h3, h4⟩
 | pvar m cs =>
  cases x with
  | none => exact hr
  | some b =>
   obtain ⟨h1, h2, vs, arr, ty, fr, h3, h4⟩ := hr
   exact ⟨h1, h2, vs, arr, ty, fr, areps_unren h cs vs h3, h4⟩
 | bld T q =>
  cases x with
  | none => exact hr
  | some b =>
   obtain ⟨h1, h2, p, v, h3, h4, h5, h6⟩ := hr
   exact ⟨h1, h2, p, v, h3, h4, arep_unren h q v h5, h6⟩
 | byt e bs => cases x <;> exact hr
 | mp kk ek => cases x <;> exact hr
 | mpx kk es cl => cases x <;> exact hr
 | it q since seen last =>
  cases x with
  | none => exact hr
  | some b =>
   obtain ⟨h1, h2, mo, h3, h4⟩ := hr
   exact ⟨h1, h2, mo, arep_unren h q _ h3, h4⟩
 | lp l mk n ds cs =>
  cases x with
  | none => exact hr
  | some b =>
   obtain ⟨h1, h2, h2', vs, tm, h3, h4⟩ := hr
   exact ⟨h1, h2, h2', vs, tm, areps_unren h cs vs h3, h4⟩
theorem renO_live (f : Nat → Nat) (o : Ob) : (renO f o).live ↔ o.live := by cases o <;> exact Iff.rfl
def ACalls (P : Program) (g : FuncId) (args : List AV) (L : List Ob) (r : AV) (L' : List Ob) : Prop := Callable P g ∧ L.length ≤ L'.length ∧ ∀ Z lb w vals, Own Z lb (L.map some) w → LtB lb w → AReps Z lb w args vals →
 Calls P g vals.toArray w fun e w' => ∃ u Z' lb', e = .returned u ∧ Own Z' lb' (L'.map some) w' ∧ ARep Z' lb' w' r u ∧
  w'.os = w.os ∧ w'.tape = w.tape ∧ OutD w w' ∧ w.heap.size ≤ w'.heap.size ∧ Keep Z w w' ∧ (∀ b, Z b → Z' b) ∧ (∀ b, Z' b → b < w.heap.size → Z b ∨ ∃ i : Nat, lb[i]? = some (some (some b))) ∧ BsLe w w' ∧
  (∀ b, b < w.heap.size → (∀ i : Nat, lb[i]? ≠ some (some (some b))) → w'.heap[b]? = w.heap[b]?) ∧ (∀ (i : Nat) b, lb'[i]? = some (some (some b)) → (∃ j : Nat, lb[j]? = some (some (some b))) ∨ (w.heap.size ≤ b ∧ b < w'.heap.size)) ∧
  (∀ (i : Nat) x, i < L.length → lb[i]? = some (some x) → lb'[i]? = some (some x))
def gatherA (ρ : Operand → Option AV) : List Operand → Option (List AV)
 | [] => some []
 | x :: r => match ρ x, gatherA ρ r with
  | some e, some l => some (e :: l)
  | _, _ => none
theorem gatherA_rep {Z : Nat → Prop} {lb : Lb} {s : ASt} {a : Act} {w : World} {ρ : Operand → Option AV} (hs : St Z lb s a w) : ∀ {l : List Operand} {ps : List AV}, (∀ x, x ∈ l → ev s.t x = ρ x) → gatherA ρ l = some ps → AReps Z lb w ps (l.map a.eval)
 | [], ps, _, h => by simp only [gatherA, Option.some.injEq] at h; subst h; rfl
 | x :: l, ps, hq, h => by
  simp only [gatherA] at h
  split at h
  ·rename_i e l' he hl
   simp only [Option.some.injEq] at h
   subst h
   simp only [List.map_cons, AReps]
   exact ⟨_, _, rfl, ev_rep hs ((hq x List.mem_cons_self).trans he), gatherA_rep hs (fun z hz => hq z (List.mem_cons_of_mem _ hz)) hl⟩
  ·simp at h
def appA : List AV → List AV → List AV
 | [], ys => ys
 | x :: xs, ys => x :: appA xs ys
theorem appA_eq : ∀ xs ys, appA xs ys = xs ++ ys
 | [], _ => rfl
 | x :: xs, ys => by simp [appA, appA_eq xs]
def atF (σ : List Nat) (rank : Nat) (i : Nat) : Nat := match nth σ i with
 | some j => j
 | none => rank + (i - σ.length)
def lentOk (ℓ : Nat → Option (Option Ob)) (f : Nat → Nat) (n : Nat) : List Nat → List Ob → Prop
 | [], [] => True
 | j :: σ, o :: L => (ℓ j = some (some (renO f o)) ∧ o.live ∧ inBO n o = true) ∧ lentOk ℓ f n σ L
 | _, _ => False
def freshN : List Nat → Bool
 | [] => true
 | j :: σ => !(elemB j σ) && freshN σ
where elemB : Nat → List Nat → Bool
 | _, [] => false
 | x, y :: l => Nat.beq x y || elemB x l
def zipW (f : Nat → Nat) : List Nat → List Ob → List (Nat × Option Ob)
 | j :: σ, o :: L => (j, some (renO f o)) :: zipW f σ L
 | _, _ => []
def nwW (f : Nat → Nat) : Nat → List Ob → List (Nat × Option Ob)
 | _, [] => []
 | r, q :: l => (r, some (renO f q)) :: nwW f (r + 1) l
def holesOk (ℓ : Nat → Option (Option Ob)) : Nat → List Ob → Prop
 | _, [] => True
 | r, _ :: l => isHole (ℓ r) = true ∧ holesOk ℓ (r + 1) l
theorem holesOk_get {ℓ : Nat → Option (Option Ob)} : ∀ {nw : List Ob} {r i : Nat}, holesOk ℓ r nw → i < nw.length → isHole (ℓ (r + i)) = true
 | [], _, _, _, h => by simp at h
 | _ :: l, r, 0, h, _ => h.1
 | _ :: l, r, i + 1, h, hi => by
  have := holesOk_get (i := i) h.2 (by simpa using hi)
  rw [show r + (i + 1) = r + 1 + i by omega]; exact this
end Go.Ab
namespace Go.Ab
variable [Glob]
theorem setAll_length : ∀ (wr : List (Nat × Option Ob)) (L : List (Option Ob)), (setAll L wr).length = L.length
 | [], _ => rfl
 | (k, o) :: r, L => by rw [setAll, setAll_length r, setL_eq, List.length_set]
theorem setAll_other : ∀ (wr : List (Nat × Option Ob)) (L : List (Option Ob)) (k : Nat), k ∉ wr.map (·.1) → (setAll L wr)[k]? = L[k]?
 | [], _, _, _ => rfl
 | (j, o) :: r, L, k, h => by
  simp only [List.map_cons, List.mem_cons, not_or] at h
  rw [setAll, setAll_other r _ k h.2, setL_eq, List.getElem?_set_ne (fun hh => h.1 hh.symm)]
theorem nodup_idx {α : Type} : ∀ {l : List α}, l.Nodup → ∀ {i j : Nat} {a : α}, l[i]? = some a → l[j]? = some a → i = j
 | [], _, i, j, a, h, _ => by simp at h
 | x :: l, hn, i, j, a, hi, hj => by
  obtain ⟨n1, n2⟩ := List.nodup_cons.1 hn
  cases i with
  | zero =>
   cases j with
   | zero => rfl
   | succ j =>
    simp at hi hj
    subst hi
    exact absurd (List.mem_of_getElem? hj) n1
  | succ i =>
   cases j with
   | zero =>
    simp at hi hj
    subst hj
    exact absurd (List.mem_of_getElem? hi) n1
   | succ j => exact congrArg Nat.succ (nodup_idx n2 (by simpa using hi) (by simpa using hj))
theorem elemB_mem : ∀ {x : Nat} {l : List Nat}, freshN.elemB x l = false → x ∉ l
 | x, [], _ => by simp
 | x, y :: l, h => by
  simp only [freshN.elemB, Bool.or_eq_false_iff] at h
  simp only [List.mem_cons, not_or]
  exact ⟨fun hh => by subst hh; simp at h, elemB_mem h.2⟩
theorem freshN_nodup : ∀ {σ : List Nat}, freshN σ = true → σ.Nodup
 | [], _ => List.nodup_nil
 | j :: σ, h => by
  simp only [freshN, Bool.and_eq_true, Bool.not_eq_true'] at h
  exact List.nodup_cons.2 ⟨elemB_mem h.1, freshN_nodup h.2⟩
theorem lentOk_get {ℓ : Nat → Option (Option Ob)} {f : Nat → Nat} {n : Nat} : ∀ {σ : List Nat} {L : List Ob}, lentOk ℓ f n σ L → L.length = σ.length ∧ ∀ (i j : Nat) o, σ[i]? = some j → L[i]? = some o → ℓ j = some (some (renO f o)) ∧ o.live ∧ inBO n o = true
 | [], [], _ => ⟨rfl, fun i j o h => by simp at h⟩
 | [], _ :: _, h => h.elim
 | _ :: _, [], h => h.elim
 | j :: σ, o :: L, h => by
  obtain ⟨h1, h2⟩ := h
  obtain ⟨g1, g2⟩ := lentOk_get h2
  refine ⟨by simp [g1], fun i j' o' hi ho => ?_⟩
  cases i with
  | zero => simp at hi ho; subst hi; subst ho; exact h1
  | succ i => exact g2 i j' o' (by simpa using hi) (by simpa using ho)
theorem zipW_key {f : Nat → Nat} : ∀ {σ : List Nat} {L : List Ob}, L.length = σ.length → (zipW f σ L).map (·.1) = σ
 | [], [], _ => rfl
 | [], _ :: _, h => by simp at h
 | _ :: _, [], h => by simp at h
 | j :: σ, o :: L, h => by simp [zipW, zipW_key (σ := σ) (L := L) (by simpa using h)]
theorem setAll_append : ∀ (a b : List (Nat × Option Ob)) (L : List (Option Ob)), setAll L (a ++ b) = setAll (setAll L a) b
 | [], _, _ => rfl
 | (k, o) :: a, b, L => by simp [setAll, setAll_append a b]
theorem setAll_zipW {f : Nat → Nat} : ∀ {σ : List Nat} {M : List Ob} (L : List (Option Ob)), M.length = σ.length → σ.Nodup → (∀ j, j ∈ σ → j < L.length) → ∀ (i j : Nat) o, σ[i]? = some j → M[i]? = some o → (setAll L (zipW f σ M))[j]? = some (some (renO f o))
 | [], _, _, _, _, _, i, j, o, h, _ => by simp at h
 | _ :: _, [], _, h, _, _, _, _, _, _, _ => by simp at h
 | j0 :: σ, o0 :: M, L, hl, hn, hb, i, j, o, hi, ho => by
  obtain ⟨n1, n2⟩ := List.nodup_cons.1 hn
  rw [zipW, setAll, setL_eq]
  cases i with
  | zero =>
   simp at hi ho
   subst hi; subst ho
   rw [setAll_other _ _ _ (by rw [zipW_key (by simpa using hl)]; exact n1), List.getElem?_set_self (hb _ List.mem_cons_self)]
  | succ i => exact setAll_zipW (L.set j0 (some (renO f o0))) (by simpa using hl) n2 (fun j hj => by rw [List.length_set]; exact hb j (List.mem_cons_of_mem _ hj)) i j o (by simpa using hi) (by simpa using ho)
section lend
variable {Z : Nat → Prop} {lb : Lb} {L : List (Option Ob)} {w : World} {σ : List Nat} {Lc : List Ob} {rank : Nat}
def lbOf (lb : Lb) (σ : List Nat) : Lb := σ.map fun j => (match lb[j]? with | some x => x | none => none)
theorem lbOf_get (σ : List Nat) {i j : Nat} (h : σ[i]? = some j) {x : Option Nat} (hx : lb[j]? = some (some x)) : (lbOf lb σ)[i]? = some (some x) := by
 simp [lbOf, h, hx]
theorem lbOf_back {σ : List Nat} {i : Nat} {x : Option Nat} (h : (lbOf lb σ)[i]? = some (some x)) : ∃ j, σ[i]? = some j ∧ lb[j]? = some (some x) := by
 simp only [lbOf, List.getElem?_map] at h
 cases hj : σ[i]? with
 | none => simp [hj] at h
 | some j =>
  refine ⟨j, rfl, ?_⟩
  simp only [hj, Option.map_some, Option.some.injEq] at h
  split at h
  ·rename_i y hy; rw [hy, h]
  ·simp at h
theorem ltB_of {σ : List Nat} (h : LtB lb w) : LtB (lbOf lb σ) w := fun i b hi => by
 obtain ⟨j, _, h2⟩ := lbOf_back hi
 exact h j b h2
theorem atF_lt {i j : Nat} (h : σ[i]? = some j) : atF σ rank i = j := by simp [atF, nth_eq, h]
theorem Own.lend (o : Own Z lb L w) (hl : lentOk (fun k => L[k]?) (atF σ rank) σ.length σ Lc) (hn : σ.Nodup) : Own Z (lbOf lb σ) (Lc.map some) w := by
 obtain ⟨h1, h2⟩ := lentOk_get hl
 have hf : ∀ i x, i < σ.length → lb[atF σ rank i]? = some (some x) → (lbOf lb σ)[i]? = some (some x) := by
  intro i x hi hx
  have hj : σ[i]? = some σ[i] := by simp [hi]
  rw [atF_lt hj] at hx
  exact lbOf_get σ hj hx
 have get : ∀ (i : Nat) o', (Lc.map some)[i]? = some (some o') → ∃ j, σ[i]? = some j ∧ L[j]? = some (some (renO (atF σ rank) o')) ∧ o'.live ∧ inBO σ.length o' = true := by
  intro i o' hi
  have hi' : Lc[i]? = some o' := by simpa using hi
  have hil : i < Lc.length := by
   rcases Nat.lt_or_ge i Lc.length with h' | h'
   ·exact h'
   ·simp [List.getElem?_eq_none h'] at hi'
  have hj : σ[i]? = some (σ[i]'(by omega)) := by simp [show i < σ.length by omega]
  exact ⟨_, hj, h2 i _ o' hj hi'⟩
 refine ⟨by simp [lbOf, h1], ?_, ?_, ?_, o.zlt⟩
 ·intro i o' hi
  obtain ⟨j, hj, hL, hlv, hb⟩ := get i o' hi
  obtain ⟨x, k1, k2⟩ := o.obj j _ hL
  exact ⟨x, lbOf_get σ hj k1, obAt_ren hf hb k2⟩
 ·intro i hi
  simp at hi
 ·intro i j o1 o2 b hi hj l1 l2 hb1 hb2
  obtain ⟨a, ha, hLa, _⟩ := get i o1 hi
  obtain ⟨a', ha', hLa', _⟩ := get j o2 hj
  obtain ⟨c, hc, hc2⟩ := lbOf_back hb1
  obtain ⟨c', hc', hc2'⟩ := lbOf_back hb2
  rw [ha] at hc; rw [ha'] at hc'
  simp only [Option.some.injEq] at hc hc'
  subst hc; subst hc'
  have := o.inj a a' _ _ b hLa hLa' ((renO_live _ _).2 l1) ((renO_live _ _).2 l2) hc2 hc2'
  subst this
  exact nodup_idx hn ha ha'
theorem nwW_key {f : Nat → Nat} : ∀ {nw : List Ob} {r k : Nat}, k ∈ (nwW f r nw).map (·.1) ↔ ∃ i, i < nw.length ∧ k = r + i
 | [], r, k => by simp [nwW]
 | q :: l, r, k => by
  simp only [nwW, List.map_cons, List.mem_cons, nwW_key (nw := l), List.length_cons]
  constructor
  ·rintro (rfl | ⟨i, h, rfl⟩)
   ·exact ⟨0, by omega, rfl⟩
   ·exact ⟨i + 1, by omega, by omega⟩
  ·rintro ⟨i, h, rfl⟩
   cases i with
   | zero => exact .inl rfl
   | succ i => exact .inr ⟨i, by omega, by omega⟩
theorem setAll_nwW {f : Nat → Nat} : ∀ (nw : List Ob) (r : Nat) (L : List (Option Ob)), (∀ i, i < nw.length → r + i < L.length) → ∀ (i : Nat) q, nw[i]? = some q → (setAll L (nwW f r nw))[r + i]? = some (some (renO f q))
 | [], r, L, _, i, q, h => by simp at h
 | q0 :: l, r, L, hb, i, q, h => by
  rw [nwW, setAll, setL_eq]
  cases i with
  | zero =>
   simp only [List.getElem?_cons_zero, Option.some.injEq] at h
   subst h
   have hr := hb 0 (by simp)
   rw [setAll_other _ _ _ (by rw [nwW_key]; rintro ⟨i, _, h⟩; omega), Nat.add_zero, List.getElem?_set_self (by omega)]
  | succ i =>
   have := setAll_nwW (f := f) l (r + 1) (L.set r (some (renO f q0))) (fun k hk => by rw [List.length_set]; have := hb (k + 1) (by simp; omega); omega) i q (by simpa using h)
   rw [show r + (i + 1) = r + 1 + i by omega]; exact this
def lbNew : Lb → Nat → Lb → Lb
 | lb, _, [] => lb
 | lb, r, x :: l => lbNew (lb.set r x) (r + 1) l
theorem lbNew_length : ∀ (l lb : Lb) (r : Nat), (lbNew lb r l).length = lb.length
 | [], _, _ => rfl
 | x :: l, lb, r => by rw [lbNew, lbNew_length l]; simp
theorem lbNew_other : ∀ (l lb : Lb) (r k : Nat), k < r ∨ r + l.length ≤ k → (lbNew lb r l)[k]? = lb[k]?
 | [], _, _, _, _ => rfl
 | x :: l, lb, r, k, h => by
  simp only [List.length_cons] at h
  rw [lbNew, lbNew_other l _ _ _ (by omega), List.getElem?_set_ne (by omega)]
theorem lbNew_at : ∀ (l lb : Lb) (r i : Nat), i < l.length → r + i < lb.length → (lbNew lb r l)[r + i]? = l[i]?
 | [], _, _, _, h, _ => by simp at h
 | x :: l, lb, r, i, h, hb => by
  rw [lbNew]
  cases i with
  | zero => rw [lbNew_other _ _ _ _ (by omega), Nat.add_zero, List.getElem?_set_self (by omega)]; rfl
  | succ i =>
   have := lbNew_at l (lb.set r x) (r + 1) i (by simpa using h) (by simp; omega)
   rw [show r + (i + 1) = r + 1 + i by omega, this]; rfl
theorem Own.back {Z' : Nat → Prop} {lbc' : Lb} {w' : World} {M : List Ob} {nw : List Ob} (o : Own Z lb L w) (hl : lentOk (fun k => L[k]?) (atF σ rank) σ.length σ Lc) (hn : σ.Nodup) (hM : M.length = σ.length)
  (hnw : ∀ i, i < nw.length → L[rank + i]? = some none)
  (o' : Own Z' lbc' ((M ++ nw).map some) w') (hsz : w.heap.size ≤ w'.heap.size) (hkeep : Keep Z w w') (hz1 : ∀ b, Z b → Z' b)
  (hz2 : ∀ b, Z' b → b < w.heap.size → Z b ∨ ∃ i : Nat, (lbOf lb σ)[i]? = some (some (some b))) (hbs : BsLe w w')
  (hhp : ∀ b, b < w.heap.size → (∀ i : Nat, (lbOf lb σ)[i]? ≠ some (some (some b))) → w'.heap[b]? = w.heap[b]?)
  (hfr : ∀ (i : Nat) b, lbc'[i]? = some (some (some b)) → (∃ j : Nat, (lbOf lb σ)[j]? = some (some (some b))) ∨ (w.heap.size ≤ b ∧ b < w'.heap.size))
  (hkp : ∀ (i : Nat) x, i < Lc.length → (lbOf lb σ)[i]? = some (some x) → lbc'[i]? = some (some x))
  (hos : w'.os = w.os) (htp : w'.tape = w.tape) (hou : OutD w w') :
  ∃ lb', Stp Z lb w Z' lb' w' ∧ Own Z' lb' (setAll L (zipW (atF σ rank) σ M ++ nwW (atF σ rank) rank nw)) w' ∧ ∀ (i : Nat) x, lbc'[i]? = some (some x) → lb'[atF σ rank i]? = some (some x) := by
 obtain ⟨h1, h2⟩ := lentOk_get hl
 have hσL : ∀ j, j ∈ σ → j < L.length := by
  intro j hj
  obtain ⟨i, hi⟩ := List.mem_iff_getElem?.1 hj
  have hil : i < σ.length := by
   rcases Nat.lt_or_ge i σ.length with h' | h'
   ·exact h'
   ·simp [List.getElem?_eq_none h'] at hi
  have := (h2 i j (Lc[i]'(by omega)) hi (by simp [show i < Lc.length by omega])).1
  rcases Nat.lt_or_ge j L.length with h' | h'
  ·exact h'
  ·simp [List.getElem?_eq_none h'] at this
 have hlive : ∀ j, j ∈ σ → ∃ ob, L[j]? = some (some ob) ∧ ob.live := by
  intro j hj
  obtain ⟨i, hi⟩ := List.mem_iff_getElem?.1 hj
  have hil : i < σ.length := by
   rcases Nat.lt_or_ge i σ.length with h' | h'
   ·exact h'
   ·simp [List.getElem?_eq_none h'] at hi
  obtain ⟨g1, g2, _⟩ := h2 i j (Lc[i]'(by omega)) hi (by simp [show i < Lc.length by omega])
  exact ⟨_, g1, (renO_live _ _).2 g2⟩
 have hlen' : lbc'.length = M.length + nw.length := by rw [o'.len]; simp
 have hlbσ : ∀ (i j : Nat), σ[i]? = some j → ∃ x, lb[j]? = some (some x) ∧ lbc'[i]? = some (some x) := by
  intro i j hi
  obtain ⟨ob, g1, _⟩ := hlive j (List.mem_of_getElem? hi)
  obtain ⟨x, k1, _⟩ := o.obj j ob g1
  have hil : i < σ.length := by
   rcases Nat.lt_or_ge i σ.length with h' | h'
   ·exact h'
   ·simp [List.getElem?_eq_none h'] at hi
  exact ⟨x, k1, hkp i x (by omega) (lbOf_get σ hi k1)⟩
 have hnewσ : ∀ k, k ∈ σ → k ∉ (nwW (atF σ rank) rank nw).map (·.1) := by
  intro k hk hkr
  obtain ⟨i, hi, rfl⟩ := nwW_key.1 hkr
  obtain ⟨ob2, g1, _⟩ := hlive _ hk
  have := hnw i hi
  rw [g1] at this; simp at this
 have hnewL0 : ∀ i, i < nw.length → rank + i < L.length := by
  intro i hi
  have := hnw i hi
  rcases Nat.lt_or_ge (rank + i) L.length with h' | h'
  ·exact h'
  ·simp [List.getElem?_eq_none h'] at this
 have hat : ∀ i, atF σ rank (M.length + i) = rank + i := by
  intro i
  simp only [atF, nth_eq]
  rw [List.getElem?_eq_none (by omega)]
  show rank + (M.length + i - σ.length) = rank + i
  omega
 -- what lies beside the lent objects
 have hother : ∀ (k : Nat) ob b, k ∉ σ → L[k]? = some (some ob) → ob.live → lb[k]? = some (some (some b)) → w'.heap[b]? = w.heap[b]? ∧ ¬ Z' b ∧ ∀ i : Nat, lbc'[i]? ≠ some (some (some b)) := by
  intro k ob b hk hL hlv hb
  obtain ⟨x, k1, k2⟩ := o.obj k ob hL
  rw [hb] at k1
  simp only [Option.some.injEq] at k1
  subst k1
  obtain ⟨z1, z2⟩ := k2.block hlv
  have hno : ∀ i : Nat, (lbOf lb σ)[i]? ≠ some (some (some b)) := by
   intro i hi
   obtain ⟨j, hj, hj2⟩ := lbOf_back hi
   obtain ⟨ob2, g1, g2⟩ := hlive j (List.mem_of_getElem? hj)
   have := o.inj k j ob ob2 b hL g1 hlv g2 hb hj2
   subst this
   exact hk (List.mem_of_getElem? hj)
  refine ⟨hhp b z2 hno, fun hzb => ?_, fun i hi => ?_⟩
  ·rcases hz2 b hzb z2 with h | ⟨i, h⟩
   ·exact z1 h
   ·exact hno i h
  ·rcases hfr i b hi with ⟨j, h⟩ | h
   ·exact hno j h
   ·omega
 have fin : ∀ (lb' : Lb), lb'.length = lb.length → LbLe lb lb' → (∀ (i : Nat) x, lbc'[i]? = some (some x) → lb'[atF σ rank i]? = some (some x)) →
   (∀ (k : Nat) b, lb'[k]? = some (some (some b)) → lb[k]? = some (some (some b)) ∨ ∃ i : Nat, lbc'[i]? = some (some (some b))) →
   (∀ k : Nat, L[k]? = some none → (∃ i, i < nw.length ∧ k = rank + i) ∨ lb'[k]? = some none) → ∃ lb', Stp Z lb w Z' lb' w' ∧ Own Z' lb' (setAll L (zipW (atF σ rank) σ M ++ nwW (atF σ rank) rank nw)) w' ∧ ∀ (i : Nat) x, lbc'[i]? = some (some x) → lb'[atF σ rank i]? = some (some x) := by
  intro lb' hl' hle hun hback hhole
  have st : Stp Z lb w Z' lb' w' := {
   os := hos, tape := htp, output := hou, size := hsz, keep := hkeep, z1 := hz1
   z2 := fun b hb hlt => by
    rcases hz2 b hb hlt with h | ⟨i, h⟩
    ·exact .inl h
    ·obtain ⟨j, _, hj⟩ := lbOf_back h; exact .inr ⟨j, hj⟩
   bs := hbs
   hp := fun b hb hno => hhp b hb fun i hi => by obtain ⟨j, _, hj⟩ := lbOf_back hi; exact hno j hj
   le := hle
   fresh := fun i b hb => by
    rcases hback i b hb with h | ⟨k, h⟩
    ·exact .inl ⟨i, h⟩
    ·rcases hfr k b h with ⟨j, h⟩ | h
     ·obtain ⟨j', _, hj'⟩ := lbOf_back h; exact .inl ⟨j', hj'⟩
     ·exact .inr h
   len := hl' }
  refine ⟨lb', st, ?_, hun⟩
  -- the objects, one by one
  have hnewL : ∀ (k : Nat) ob, (setAll L (zipW (atF σ rank) σ M ++ nwW (atF σ rank) rank nw))[k]? = some (some ob) →
    (∃ (i : Nat) (ob0 : Ob), (M ++ nw)[i]? = some ob0 ∧ ob = renO (atF σ rank) ob0 ∧ k = atF σ rank i) ∨ (k ∉ σ ∧ L[k]? = some (some ob)) := by
   intro k ob hk
   rw [setAll_append] at hk
   by_cases hks : k ∈ σ
   ·obtain ⟨i, hi⟩ := List.mem_iff_getElem?.1 hks
    have hil : i < σ.length := by
     rcases Nat.lt_or_ge i σ.length with h' | h'
     ·exact h'
     ·simp [List.getElem?_eq_none h'] at hi
    have hMi : M[i]? = some (M[i]'(by omega)) := by simp [show i < M.length by omega]
    have hkr := hnewσ k hks
    rw [setAll_other _ _ _ hkr, setAll_zipW L hM hn hσL i k _ hi hMi] at hk
    simp only [Option.some.injEq] at hk
    refine .inl ⟨i, M[i]'(by omega), by rw [List.getElem?_append_left (by omega)]; exact hMi, hk.symm, (atF_lt hi).symm⟩
   ·by_cases hkr : k ∈ (nwW (atF σ rank) rank nw).map (·.1)
    ·obtain ⟨i, hi, rfl⟩ := nwW_key.1 hkr
     rw [setAll_nwW nw rank _ (fun i hi => by rw [setAll_length]; exact hnewL0 i hi) i nw[i] (by simp [hi])] at hk
     simp only [Option.some.injEq] at hk
     exact .inl ⟨M.length + i, nw[i], by rw [List.getElem?_append_right (by omega)]; simp [hi], hk.symm, (hat i).symm⟩
    ·rw [setAll_other _ _ _ hkr, setAll_other _ _ _ (by rw [zipW_key hM]; exact hks)] at hk
     exact .inr ⟨hks, hk⟩
  have hobj : ∀ (k : Nat) ob, (setAll L (zipW (atF σ rank) σ M ++ nwW (atF σ rank) rank nw))[k]? = some (some ob) → ∃ x, lb'[k]? = some (some x) ∧ ObAt Z' lb' w' ob x ∧
    ∀ b, x = some b → ob.live → ((∃ (i : Nat) (ob0 : Ob), (M ++ nw)[i]? = some ob0 ∧ ob0.live ∧ k = atF σ rank i ∧ lbc'[i]? = some (some (some b))) ∨ (k ∉ σ ∧ L[k]? = some (some ob) ∧ lb[k]? = some (some (some b)))) := by
   intro k ob hk
   rcases hnewL k ob hk with ⟨i, ob0, h3, rfl, rfl⟩ | ⟨h3, h4⟩
   ·obtain ⟨x, k1, k2⟩ := o'.obj i ob0 (by rw [List.getElem?_map, h3]; rfl)
    exact ⟨x, hun i x k1, obAt_unren hun k2, fun b hb hlv => .inl ⟨i, ob0, h3, (renO_live _ _).1 hlv, rfl, by rw [k1, hb]⟩⟩
   ·obtain ⟨x, k1, k2⟩ := o.obj k ob h4
    refine ⟨x, hle k x k1, k2.mono st fun b hlv hb => ?_, fun b hb hlv => .inr ⟨h3, h4, by rw [k1, hb]⟩⟩
    subst hb
    obtain ⟨g1, g2, _⟩ := hother k ob b h3 h4 hlv k1
    exact ⟨g1, g2⟩
  refine ⟨by rw [setAll_length, hl', o.len], fun k ob hk => ?_, fun k hk => ?_, ?_, o'.zlt⟩
  ·obtain ⟨x, h3, h4, _⟩ := hobj k ob hk
   exact ⟨x, h3, h4⟩
  ·have hkσ : k ∉ σ := fun hks => by
    obtain ⟨i, hi⟩ := List.mem_iff_getElem?.1 hks
    have hil : i < σ.length := by
     rcases Nat.lt_or_ge i σ.length with h' | h'
     ·exact h'
     ·simp [List.getElem?_eq_none h'] at hi
    rw [setAll_append] at hk
    have hkr := hnewσ k hks
    rw [setAll_other _ _ _ hkr, setAll_zipW L hM hn hσL i k (M[i]'(by omega)) hi (by simp [show i < M.length by omega])] at hk
    simp at hk
   have hLk : L[k]? = some none ∧ ¬ (∃ i, i < nw.length ∧ k = rank + i) := by
    rw [setAll_append] at hk
    by_cases hkr : k ∈ (nwW (atF σ rank) rank nw).map (·.1)
    ·obtain ⟨i, hi, rfl⟩ := nwW_key.1 hkr
     rw [setAll_nwW nw rank _ (fun i hi => by rw [setAll_length]; exact hnewL0 i hi) i nw[i] (by simp [hi])] at hk
     simp at hk
    ·rw [setAll_other _ _ _ hkr, setAll_other _ _ _ (by rw [zipW_key hM]; exact hkσ)] at hk
     exact ⟨hk, fun hh => hkr (nwW_key.2 hh)⟩
   exact (hhole k hLk.1).resolve_left hLk.2
  ·intro k k' ob ob' b hk hk' hlv hlv' hb hb'
   obtain ⟨x, h3, _, h5⟩ := hobj k ob hk
   obtain ⟨x', h3', _, h5'⟩ := hobj k' ob' hk'
   rw [h3] at hb; rw [h3'] at hb'
   simp only [Option.some.injEq] at hb hb'
   rcases h5 b hb hlv with ⟨i, ob0, a1, a2, rfl, a4⟩ | ⟨a1, a2, a3⟩
   ·rcases h5' b hb' hlv' with ⟨i', ob0', b1, b2, rfl, b4⟩ | ⟨b1, b2, b3⟩
    ·rw [o'.inj i i' ob0 ob0' b (by rw [List.getElem?_map, a1]; rfl) (by rw [List.getElem?_map, b1]; rfl) a2 b2 a4 b4]
    ·exact absurd a4 ((hother k' ob' b b1 b2 hlv' b3).2.2 i)
   ·rcases h5' b hb' hlv' with ⟨i', ob0', b1, b2, rfl, b4⟩ | ⟨b1, b2, b3⟩
    ·exact absurd b4 ((hother k ob b a1 a2 hlv a3).2.2 i')
    ·exact o.inj k k' ob ob' b a2 b2 hlv hlv' a3 b3
 have hdl : (lbc'.drop M.length).length = nw.length := by rw [List.length_drop]; omega
 have hin : ∀ k, (∃ i, i < nw.length ∧ k = rank + i) ∨ (lbNew lb rank (lbc'.drop M.length))[k]? = lb[k]? := by
  intro k
  by_cases h : k < rank ∨ rank + nw.length ≤ k
  ·exact .inr (lbNew_other _ _ _ _ (by rw [hdl]; exact h))
  ·exact .inl ⟨k - rank, by omega, by omega⟩
 have hnat : ∀ i, i < nw.length → (lbNew lb rank (lbc'.drop M.length))[rank + i]? = lbc'[M.length + i]? := by
  intro i hi
  rw [lbNew_at _ _ _ _ (by omega) (by rw [o.len]; exact hnewL0 i hi), List.getElem?_drop]
 refine fin (lbNew lb rank (lbc'.drop M.length)) (lbNew_length _ _ _) (fun i x hi => ?_) (fun i x hi => ?_) (fun k b h => ?_) (fun k hk => ?_)
 ·rcases hin i with ⟨j, hj, rfl⟩ | h
  ·rw [o.hole _ (hnw j hj)] at hi; simp at hi
  ·rw [h]; exact hi
 ·by_cases hil : i < σ.length
  ·have hj : σ[i]? = some σ[i] := by simp [hil]
   obtain ⟨y, g1, g2⟩ := hlbσ i _ hj
   rw [hi] at g2
   simp only [Option.some.injEq] at g2
   subst g2
   rw [atF_lt hj]
   rcases hin σ[i] with ⟨j, hj2, hj3⟩ | h
   ·obtain ⟨ob2, q1, _⟩ := hlive _ (List.mem_of_getElem? hj)
    rw [hj3, hnw j hj2] at q1; simp at q1
   ·rw [h]; exact g1
  ·have hil' : i < lbc'.length := by
    rcases Nat.lt_or_ge i lbc'.length with h' | h'
    ·exact h'
    ·simp [List.getElem?_eq_none h'] at hi
   obtain ⟨j, rfl⟩ : ∃ j, i = M.length + j := ⟨i - M.length, by omega⟩
   rw [hat, hnat j (by omega)]; exact hi
 ·rcases hin k with ⟨j, hj, rfl⟩ | h'
  ·rw [hnat j hj] at h; exact .inr ⟨_, h⟩
  ·rw [h'] at h; exact .inl h
 ·rcases hin k with h | h
  ·exact .inl h
  ·rw [h]; exact .inr (o.hole k hk)
end lend
def subE (st n : Nat) (es : List PV) : List PV := match st with
 | 0 => es.take n
 | st => (es.drop st).take n
theorem subE_eq (st n : Nat) (es : List PV) : subE st n es = (es.drop st).take n := by cases st <;> simp [subE]
mutual
def canF : AV → Bool
 | .p _ => true
 | .sl _ _ _ _ => true
 | .agg cs => canFs cs
 | .tup cs => canFs cs
 | .fn _ cs => canFs cs
 | _ => false
def canFs : List AV → Bool
 | [] => true
 | x :: xs => match canF x with
  | true => canFs xs
  | false => false
end
mutual
def frA (ℓ : Nat → Option (Option Ob)) : AV → List Nat → (PV → List Nat → Prop) → Prop
 | .p x, ks, k => k x ks
 | .sl j sz st n, ks, k => withO (ℓ j) fun
  | .arr sz' es => Nat.beq sz sz' = true ∧ ∃ es', subE st n es = es' ∧ es'.length = n ∧ k (.view sz es') (j :: ks)
  | _ => False
 | .agg cs, ks, k => frAs ℓ cs ks fun l ks => k (.agg l) ks
 | .tup cs, ks, k => frAs ℓ cs ks fun l ks => k (.tup l) ks
 | .fn f cs, ks, k => frAs ℓ cs ks fun l ks => k (.fn f l) ks
 | _, _, _ => False
def frAs (ℓ : Nat → Option (Option Ob)) : List AV → List Nat → (List PV → List Nat → Prop) → Prop
 | [], ks, k => k [] ks
 | x :: xs, ks, k => frA ℓ x ks fun y ks => frAs ℓ xs ks fun ys ks => k (y :: ys) ks
end
def canF1 (ℓ : Nat → Option (Option Ob)) : AV → Bool
 | .loc j _ => match ℓ j with
  | some (some (.var cs)) => canFs cs
  | _ => false
 | .p _ => true
 | .sl _ _ _ _ => true
 | .agg cs => canFs cs
 | .tup cs => canFs cs
 | .fn _ cs => canFs cs
 | .eloc _ _ _ _ => false
 | .mref _ => false
 | .ifc _ _ => false
def canF1s (ℓ : Nat → Option (Option Ob)) : List AV → Bool
 | [] => true
 | x :: xs => match canF1 ℓ x with
  | true => canF1s ℓ xs
  | false => false
def frA1 (ℓ : Nat → Option (Option Ob)) : AV → List Nat → (PV → List Nat → Prop) → Prop
 | .loc j off, ks, k => withO (ℓ j) fun
  | .var cs => frAs ℓ cs (j :: ks) fun ps ks => k (.eptr ps off) ks
  | _ => False
 | .p x, ks, k => k x ks
 | .sl j sz st n, ks, k => frA ℓ (.sl j sz st n) ks k
 | .agg cs, ks, k => frA ℓ (.agg cs) ks k
 | .tup cs, ks, k => frA ℓ (.tup cs) ks k
 | .fn f cs, ks, k => frA ℓ (.fn f cs) ks k
 | .eloc _ _ _ _, _, _ => False
 | .mref _, _, _ => False
 | .ifc _ _, _, _ => False
def frA1s (ℓ : Nat → Option (Option Ob)) : List AV → List Nat → (List PV → List Nat → Prop) → Prop
 | [], ks, k => k [] ks
 | x :: xs, ks, k => frA1 ℓ x ks fun y ks => frA1s ℓ xs ks fun ys ks => k (y :: ys) ks
def lentZ (Z : Nat → Prop) (lb : Lb) (ks : List Nat) : Nat → Prop := fun b => Z b ∨ ∃ k, k ∈ ks ∧ lb[k]? = some (some (some b))
def ArrAll (L : List (Option Ob)) (ks : List Nat) : Prop := ∀ k, k ∈ ks → ∃ o, L[k]? = some (some o) ∧ o.live
theorem lentZ_sub {Z : Nat → Prop} {lb : Lb} {ks ks' : List Nat} (h : ∀ k, k ∈ ks → k ∈ ks') {b : Nat} (hb : lentZ Z lb ks b) : lentZ Z lb ks' b := hb.imp id fun ⟨k, h1, h2⟩ => ⟨k, h k h1, h2⟩
mutual
theorem frA_rep {ℓ : Nat → Option (Option Ob)} : ∀ (x : AV) (ks : List Nat) (k : PV → List Nat → Prop), frA ℓ x ks k →
  ∃ y ks', k y ks' ∧ (∀ j, j ∈ ks → j ∈ ks') ∧ ∀ (L : List (Option Ob)) (Z : Nat → Prop) (lb : Lb) (w : World), Own Z lb L w → (∀ j, j ∈ ks' → L[j]? = ℓ j) → ArrAll L ks → ArrAll L ks' ∧ ∀ u, ARep Z lb w x u → Rep (lentZ Z lb ks') w y u
 | .p x, ks, k, h => ⟨x, ks, h, fun _ h => h, fun L Z lb w _ _ ha => ⟨ha, fun u hr => Rep.mono (fun _ h => .inl h) (fun _ _ => rfl) _ _ (by simpa [ARep] using hr)⟩⟩
 | .loc i off, ks, k, h => h.elim
 | .eloc i sz kk off, ks, k, h => h.elim
 | .mref i, ks, k, h => h.elim
 | .ifc _ _, ks, k, h => h.elim
 | .sl j sz st n, ks, k, h => by
  simp only [frA] at h
  obtain ⟨o, hj, h⟩ := withO_some h
  split at h
  ·rename_i sz' es
   obtain ⟨h1, es', h3, h4, h5⟩ := h
   have h1 := Nat.eq_of_beq_eq_true h1
   subst h1
   refine ⟨_, j :: ks, h5, fun _ h => List.mem_cons_of_mem _ h, fun L Z lb w ho hL ha => ?_⟩
   have hLj : L[j]? = some (some (.arr sz es)) := (hL j List.mem_cons_self).trans hj
   refine ⟨fun k hk => ?_, fun u hr => ?_⟩
   ·rcases List.mem_cons.1 hk with rfl | hk
    ·exact ⟨_, hLj, trivial⟩
    ·exact ha k hk
   rw [subE_eq] at h3
   simp only [ARep] at hr
   rcases hr with ⟨a1, a2, a3, rfl⟩ | ⟨b, cap, a1, rfl, a3, a4⟩
   ·subst a1 a2
    have : es' = [] := List.length_eq_zero_iff.1 h4
    subst this
    simp only [Rep]
    obtain ⟨x, k1, k2⟩ := ho.obj j _ hLj
    rw [a3] at k1
    simp only [Option.some.injEq] at k1
    subst k1
    exact ⟨[], none, 0, rfl, rfl, k2.2, by simp, by simp, rfl, rfl⟩
   ·obtain ⟨vs, arr, ty, fr, g1, g2, g3, g4, g5, g6, g7, g8⟩ := obj_arr ho hLj a1
    have hz : lentZ Z lb (j :: ks) b := .inr ⟨j, List.mem_cons_self, a1⟩
    have hr2 := (g1.drop st).take n
    rw [h3] at hr2
    have hl := hr2.length
    simp only [Rep]
    refine ⟨_, some ⟨b, st * sz, none⟩, cap, Reps.mono (fun _ h => .inl h) (fun _ _ => rfl) _ _ hr2, by rw [hl, h4], g2, fun x hx => g3 x (List.mem_of_mem_drop (List.mem_of_mem_take hx)), ?_, ?_⟩
    ·rw [List.length_take, List.length_drop]; omega
    ·refine ⟨by rw [hl, h4]; exact a3, .inr ⟨rfl, hz, fun m v hm q c hq => ?_⟩⟩
     have hml : m < ((vs.drop st).take n).length := by
      rcases Nat.lt_or_ge m ((vs.drop st).take n).length with h' | h'
      ·exact h'
      ·simp [List.getElem?_eq_none h'] at hm
     rw [List.getElem?_take_of_lt (by simp at hml; omega), List.getElem?_drop] at hm
     have := g6 (st + m) v hm q c hq
     rw [← Nat.add_mul]
     simp [World.cell?, g4, this]
  ·exact h.elim
 | .agg cs, ks, k, h => by
  simp only [frA] at h
  obtain ⟨ys, ks', g1, g2, g3⟩ := frAs_rep cs ks _ h
  refine ⟨_, ks', g1, g2, fun L Z lb w ho hL ha => ⟨(g3 L Z lb w ho hL ha).1, fun u hr => ?_⟩⟩
  simp only [ARep] at hr
  obtain ⟨vs, h1, h2, h3⟩ := hr
  simp only [Rep]
  exact ⟨vs, (g3 L Z lb w ho hL ha).2 _ h1, h2, h3⟩
 | .tup cs, ks, k, h => by
  simp only [frA] at h
  obtain ⟨ys, ks', g1, g2, g3⟩ := frAs_rep cs ks _ h
  refine ⟨_, ks', g1, g2, fun L Z lb w ho hL ha => ⟨(g3 L Z lb w ho hL ha).1, fun u hr => ?_⟩⟩
  simp only [ARep] at hr
  obtain ⟨vs, h1, h2⟩ := hr
  simp only [Rep]
  exact ⟨vs, (g3 L Z lb w ho hL ha).2 _ h1, h2⟩
 | .fn f cs, ks, k, h => by
  simp only [frA] at h
  obtain ⟨ys, ks', g1, g2, g3⟩ := frAs_rep cs ks _ h
  refine ⟨_, ks', g1, g2, fun L Z lb w ho hL ha => ⟨(g3 L Z lb w ho hL ha).1, fun u hr => ?_⟩⟩
  simp only [ARep] at hr
  obtain ⟨vs, h1, h2⟩ := hr
  simp only [Rep]
  exact ⟨vs, (g3 L Z lb w ho hL ha).2 _ h1, h2⟩
theorem frAs_rep {ℓ : Nat → Option (Option Ob)} : ∀ (xs : List AV) (ks : List Nat) (k : List PV → List Nat → Prop), frAs ℓ xs ks k →
  ∃ ys ks', k ys ks' ∧ (∀ j, j ∈ ks → j ∈ ks') ∧ ∀ (L : List (Option Ob)) (Z : Nat → Prop) (lb : Lb) (w : World), Own Z lb L w → (∀ j, j ∈ ks' → L[j]? = ℓ j) → ArrAll L ks → ArrAll L ks' ∧ ∀ us, AReps Z lb w xs us → Reps (lentZ Z lb ks') w ys us
 | [], ks, k, h => ⟨[], ks, h, fun _ h => h, fun L Z lb w _ _ ha => ⟨ha, fun us hr => by simp only [AReps] at hr; subst hr; rfl⟩⟩
 | x :: xs, ks, k, h => by
  simp only [frAs] at h
  obtain ⟨y, ks1, h1, m1, r1⟩ := frA_rep x ks _ h
  obtain ⟨ys, ks2, h2, m2, r2⟩ := frAs_rep xs ks1 _ h1
  refine ⟨y :: ys, ks2, h2, fun j hj => m2 j (m1 j hj), fun L Z lb w ho hL ha => ?_⟩
  obtain ⟨a1, b1⟩ := r1 L Z lb w ho (fun j hj => hL j (m2 j hj)) ha
  obtain ⟨a2, b2⟩ := r2 L Z lb w ho hL a1
  refine ⟨a2, fun us hr => ?_⟩
  simp only [AReps] at hr
  obtain ⟨u, us', rfl, q1, q2⟩ := hr
  simp only [Reps]
  exact ⟨u, us', rfl, Rep.mono (fun b hb => lentZ_sub m2 hb) (fun _ _ => rfl) _ _ (b1 u q1), b2 us' q2⟩
end
theorem frA1_rep {ℓ : Nat → Option (Option Ob)} (x : AV) (ks : List Nat) (k : PV → List Nat → Prop) (h : frA1 ℓ x ks k) :
  ∃ y ks', k y ks' ∧ (∀ j, j ∈ ks → j ∈ ks') ∧ ∀ (L : List (Option Ob)) (Z : Nat → Prop) (lb : Lb) (w : World), Own Z lb L w → (∀ j, j ∈ ks' → L[j]? = ℓ j) → ArrAll L ks → ArrAll L ks' ∧ ∀ u, ARep Z lb w x u → Rep (lentZ Z lb ks') w y u := by
 cases x with
 | loc j off =>
  simp only [frA1] at h
  obtain ⟨o, hj, h⟩ := withO_some h
  split at h
  ·rename_i cs
   obtain ⟨ps, ks', g1, g2, g3⟩ := frAs_rep cs (j :: ks) _ h
   refine ⟨_, ks', g1, fun i hi => g2 i (List.mem_cons_of_mem _ hi), fun L Z lb w ho hL ha => ?_⟩
   have hjk := g2 j List.mem_cons_self
   have hLj : L[j]? = some (some (.var cs)) := (hL j hjk).trans hj
   obtain ⟨a1, a2⟩ := g3 L Z lb w ho hL (fun i hi => by
    rcases List.mem_cons.1 hi with rfl | hi
    ·exact ⟨_, hLj, trivial⟩
    ·exact ha i hi)
   refine ⟨a1, fun u hr => ?_⟩
   simp only [ARep] at hr
   obtain ⟨b, hb, rfl⟩ := hr
   obtain ⟨x, k1, k2⟩ := ho.obj j _ hLj
   rw [hb] at k1
   simp only [Option.some.injEq] at k1
   subst k1
   obtain ⟨z1, z2, vs, ty, fr, k3, k4, k5, k6⟩ := k2
   simp only [Rep]
   refine ⟨vs, b, 0, a2 _ k3, k4, by rw [Nat.zero_add], .inr ⟨j, hjk, hb⟩, fun i u hi => ?_⟩
   simp only [World.cell?, Nat.zero_add, k5]
   simpa using hi
  ·exact h.elim
 | p x => exact frA_rep (.p x) ks k (by simpa [frA, frA1] using h)
 | sl j sz st n => exact frA_rep (.sl j sz st n) ks k h
 | agg cs => exact frA_rep (.agg cs) ks k h
 | tup cs => exact frA_rep (.tup cs) ks k h
 | fn f cs => exact frA_rep (.fn f cs) ks k h
 | eloc i sz st off => exact h.elim
 | mref i => exact h.elim
 | ifc t x => exact h.elim
theorem frA1s_rep {ℓ : Nat → Option (Option Ob)} : ∀ (xs : List AV) (ks : List Nat) (k : List PV → List Nat → Prop), frA1s ℓ xs ks k →
  ∃ ys ks', k ys ks' ∧ (∀ j, j ∈ ks → j ∈ ks') ∧ ∀ (L : List (Option Ob)) (Z : Nat → Prop) (lb : Lb) (w : World), Own Z lb L w → (∀ j, j ∈ ks' → L[j]? = ℓ j) → ArrAll L ks → ArrAll L ks' ∧ ∀ us, AReps Z lb w xs us → Reps (lentZ Z lb ks') w ys us
 | [], ks, k, h => ⟨[], ks, h, fun _ h => h, fun L Z lb w _ _ ha => ⟨ha, fun us hr => by simp only [AReps] at hr; subst hr; rfl⟩⟩
 | x :: xs, ks, k, h => by
  simp only [frA1s] at h
  obtain ⟨y, ks1, h1, m1, r1⟩ := frA1_rep x ks _ h
  obtain ⟨ys, ks2, h2, m2, r2⟩ := frA1s_rep xs ks1 _ h1
  refine ⟨y :: ys, ks2, h2, fun j hj => m2 j (m1 j hj), fun L Z lb w ho hL ha => ?_⟩
  obtain ⟨a1, b1⟩ := r1 L Z lb w ho (fun j hj => hL j (m2 j hj)) ha
  obtain ⟨a2, b2⟩ := r2 L Z lb w ho hL a1
  refine ⟨a2, fun us hr => ?_⟩
  simp only [AReps] at hr
  obtain ⟨u, us', rfl, q1, q2⟩ := hr
  simp only [Reps]
  exact ⟨u, us', rfl, Rep.mono (fun b hb => lentZ_sub m2 hb) (fun _ _ => rfl) _ _ (b1 u q1), b2 us' q2⟩
section fr
variable {L : List (Option Ob)} {lb : Lb} {Z : Nat → Prop} {w : World}
def deads : List Nat → List (Nat × Option Ob)
 | [] => []
 | k :: r => (k, some .dead) :: deads r
theorem deads_key : ∀ ks, (deads ks).map (·.1) = ks
 | [] => rfl
 | k :: r => by simp [deads, deads_key r]
theorem setAll_deads : ∀ (ks : List Nat) (L : List (Option Ob)) (i : Nat), i < L.length → (setAll L (deads ks))[i]? = if i ∈ ks then some (some .dead) else L[i]?
 | [], L, i, _ => by simp [deads, setAll]
 | k :: r, L, i, h => by
  simp only [deads, setAll, setL_eq]
  rw [setAll_deads r _ i (by simpa using h)]
  by_cases h1 : i ∈ r
  ·simp [h1]
  ·by_cases h2 : i = k
   ·subst h2; simp [h]
   ·rw [List.getElem?_set_ne (fun hh => h2 hh.symm)]; simp [h1, h2]
theorem lentZ_arr (ho : Own Z lb L w) {ks : List Nat} (ha : ArrAll L ks) {i b : Nat} {o : Ob} (hi : L[i]? = some (some o)) (hl : o.live) (hb : lb[i]? = some (some (some b))) (hz : lentZ Z lb ks b) : i ∈ ks := by
 rcases hz with h | ⟨k, h1, h2⟩
 ·obtain ⟨x, g1, g2⟩ := ho.obj i o hi
  rw [hb] at g1
  simp only [Option.some.injEq] at g1
  subst g1
  exact absurd h (g2.block hl).1
 ·obtain ⟨o3, h3, hl3⟩ := ha k h1
  have := ho.inj i k o _ b hi h3 hl hl3 hb h2
  subst this; exact h1
theorem lentZ_lt (ho : Own Z lb L w) {ks : List Nat} (ha : ArrAll L ks) : ZOk (lentZ Z lb ks) w := by
 refine ⟨fun b hb => ?_, Glob.mono (fun _ h => .inl h) (fun _ _ => rfl) ho.zlt.gl⟩
 rcases hb with h | ⟨k, h1, h2⟩
 ·exact ho.zlt.lt b h
 ·obtain ⟨o3, h3, hl3⟩ := ha k h1
  obtain ⟨x, g1, g2⟩ := ho.obj k _ h3
  rw [h2] at g1
  simp only [Option.some.injEq] at g1
  subst g1
  exact (g2.block hl3).2
theorem Own.freeze (ho : Own Z lb L w) {ks : List Nat} (ha : ArrAll L ks) : Own (lentZ Z lb ks) lb (setAll L (deads ks)) w ∧ Stp Z lb w (lentZ Z lb ks) lb w := by
 have hlen : (setAll L (deads ks)).length = L.length := setAll_length _ _
 have hget : ∀ (i : Nat) o, (setAll L (deads ks))[i]? = some o → i < L.length := fun i o h => by
  rcases Nat.lt_or_ge i L.length with h' | h'
  ·exact h'
  ·rw [List.getElem?_eq_none (by omega)] at h; simp at h
 refine ⟨⟨by rw [hlen]; exact ho.len, fun i o hi => ?_, fun i hi => ?_, fun i j o o' b hi hj hl hl' hb hb' => ?_, lentZ_lt ho ha⟩, ⟨rfl, rfl, OutD.refl _, Nat.le_refl _, fun _ _ => rfl, fun _ h => .inl h, fun b hb _ => ?_, fun _ _ => rfl, fun _ _ _ => rfl, fun _ _ h => h, fun i b h => .inl ⟨i, h⟩, rfl⟩⟩
 ·have hlt := hget i _ hi
  rw [setAll_deads ks L i hlt] at hi
  split at hi
  ·simp only [Option.some.injEq] at hi
   subst hi
   rename_i hk
   obtain ⟨_, h3, _⟩ := ha i hk
   obtain ⟨x, g1, _⟩ := ho.obj i _ h3
   exact ⟨x, g1, trivial⟩
  ·rename_i hk
   obtain ⟨x, g1, g2⟩ := ho.obj i _ hi
   refine ⟨x, g1, g2.mono ⟨rfl, rfl, OutD.refl _, Nat.le_refl _, fun _ _ => rfl, fun _ h => .inl h, fun b hb _ => ?_, fun _ _ => rfl, fun _ _ _ => rfl, fun _ _ h => h, fun i b h => .inl ⟨i, h⟩, rfl⟩ fun b hl hb => ⟨rfl, fun hz => ?_⟩⟩
   ·rcases hb with h | ⟨k, h1, h2⟩
    ·exact .inl h
    ·exact .inr ⟨k, h2⟩
   ·subst hb
    exact hk (lentZ_arr ho ha hi hl g1 hz)
 ·have hlt := hget i _ hi
  rw [setAll_deads ks L i hlt] at hi
  split at hi
  ·simp at hi
  ·exact ho.hole i hi
 ·have hlt := hget i _ hi
  have hlt' := hget j _ hj
  rw [setAll_deads ks L _ hlt] at hi
  rw [setAll_deads ks L _ hlt'] at hj
  split at hi
  ·simp only [Option.some.injEq] at hi; subst hi; exact hl.elim
  ·split at hj
   ·simp only [Option.some.injEq] at hj; subst hj; exact hl'.elim
   ·exact ho.inj i j o o' b hi hj hl hl' hb hb'
 ·rcases hb with h | ⟨k, h1, h2⟩
  ·exact .inl h
  ·exact .inr ⟨k, h2⟩
end fr
mutual
def scal : PV → Bool
 | .v _ => true
 | .agg cs => scals cs
 | .tup cs => scals cs
 | .view _ es => (match es with
  | [] => true
  | _ :: _ => false)
 | _ => false
def scals : List PV → Bool
 | [] => true
 | x :: xs => match scal x with
  | true => scals xs
  | false => false
end
mutual
theorem scal_rep {Z Z' : Nat → Prop} {w w' : World} : ∀ (x : PV) (u : Value), scal x = true → Rep Z w x u → Rep Z' w' x u
 | .v x, u, _, h => by simpa [Rep] using h
 | .agg cs, u, hs, h => by
  simp only [Rep] at h ⊢
  obtain ⟨vs, h1, h2⟩ := h
  exact ⟨vs, scals_rep cs vs hs h1, h2⟩
 | .tup cs, u, hs, h => by
  simp only [Rep] at h ⊢
  obtain ⟨vs, h1, h2⟩ := h
  exact ⟨vs, scals_rep cs vs hs h1, h2⟩
 | .view sz es, u, hs, h => by
  cases es with
  | cons e es => simp [scal] at hs
  | nil =>
   simp only [Rep, Reps] at h ⊢
   obtain ⟨vs, base, cap, rfl, h2, h3, h4, h5, h6⟩ := h
   refine ⟨[], base, cap, rfl, h2, h3, h4, h5, ?_⟩
   cases base with
   | none => exact h6
   | some a => exact ⟨h6.1, .inl rfl⟩
 | .nview _ _, _, hs, _ => by simp [scal] at hs
 | .eptr _ _, _, hs, _ => by simp [scal] at hs
 | .fn _ _, _, hs, _ => by simp [scal] at hs
 | .ifc _ _, _, hs, _ => by simp [scal] at hs
 | .rv _ _, _, hs, _ => by simp [scal] at hs
theorem scals_rep {Z Z' : Nat → Prop} {w w' : World} : ∀ (xs : List PV) (us : List Value), scals xs = true → Reps Z w xs us → Reps Z' w' xs us
 | [], us, _, h => by simpa [Reps] using h
 | x :: xs, us, hs, h => by
  simp only [scals] at hs
  split at hs
  ·rename_i h0
   simp only [Reps] at h ⊢
   obtain ⟨u, us', h1, h2, h3⟩ := h
   exact ⟨u, us', h1, scal_rep x u h0 h2, scals_rep xs us' hs h3⟩
  ·simp at hs
end
def callF (E : Env) (g : FuncId) (ps : List PV) (A : Prop) (K1 K2 : PV → Prop) (_ : Tag A) (_ : Tag K1) (_ : Tag K2) : Prop := (∃ r, PCalls E.P g ps r ∧ K1 r) ∨ (∃ r, PCalls E.P g ps r ∧ scal r = true ∧ K2 r) ∨ A
theorem zF {E : Env} {g : FuncId} {ps : List PV} {A : Prop} {K1 K2 : PV → Prop} {r : PV} {t : Tag A} {u : Tag K1} {v : Tag K2} (h : PCalls E.P g ps r) (hK : K1 r) : callF E g ps A K1 K2 t u v := .inl ⟨r, h, hK⟩
theorem zE {E : Env} {g : FuncId} {ps : List PV} {A : Prop} {K1 K2 : PV → Prop} {r : PV} {t : Tag A} {u : Tag K1} {v : Tag K2} (h : PCalls E.P g ps r) (hs : scal r = true) (hK : K2 r) : callF E g ps A K1 K2 t u v := .inr (.inl ⟨r, h, hs, hK⟩)
theorem callF_own {E : Env} {g : FuncId} {ps : List PV} {A : Prop} {K1 K2 : PV → Prop} {t : Tag A} {u : Tag K1} {v : Tag K2} (h : A) : callF E g ps A K1 K2 t u v := .inr (.inr h)
def vCallA (E : Env) (rank : Nat) (g : FuncId) (args : List Operand) (caps : List AV) : Vop := fun ρ ℓ K => withC (gatherA ρ args) fun as => ∃ σ cargs Lc r M, ∃ nw : List Ob,
 (renAs (atF σ rank) cargs = appA as caps ∧ inBs σ.length cargs = true) ∧ lentOk ℓ (atF σ rank) σ.length σ Lc ∧ freshN σ = true ∧ M.length = σ.length ∧ holesOk ℓ rank nw ∧
  ACalls E.P g cargs Lc r (M ++ nw) ∧ K ⟨some (renA (atF σ rank) r), [], zipW (atF σ rank) σ M ++ nwW (atF σ rank) rank nw⟩
def callK (E : Env) (g : FuncId) (ps : List PV) (A : Prop) (K : PV → Prop) (_ : Tag A) (_ : Tag K) : Prop := (∃ r, PCalls E.P g ps r ∧ K r) ∨ A
theorem zD {E : Env} {g : FuncId} {ps : List PV} {A : Prop} {K : PV → Prop} {r : PV} {t : Tag A} {u : Tag K} (h : PCalls E.P g ps r) (hK : K r) : callK E g ps A K t u := .inl ⟨r, h, hK⟩
theorem callK_own {E : Env} {g : FuncId} {ps : List PV} {A : Prop} {K : PV → Prop} {t : Tag A} {u : Tag K} (h : A) : callK E g ps A K t u := .inr h
def vCall (E : Env) (rank : Nat) (f : Operand) (args : List Operand) : Vop := fun ρ ℓ K => withV (ρ f) fun
 | .p (.fn g caps) => onO (gatherP ρ args) (withC (gatherA ρ args) fun as => match canF1s ℓ as with
   | true => frA1s ℓ as [] fun ps ks => callF E g (appP ps caps) (vCallA E rank g args (mapP caps) ρ ℓ K) (fun r => K ⟨some (.p r), [], deads ks⟩) (fun r => K ⟨some (.p r), ks, []⟩) ⟨⟩ ⟨⟩ ⟨⟩
   | false => hideP (vCallA E rank g args (mapP caps) ρ ℓ K) ⟨⟩) fun ps => callK E g (appP ps caps) (vCallA E rank g args (mapP caps) ρ ℓ K) (fun r => K ⟨some (.p r), [], []⟩) ⟨⟩ ⟨⟩
 | .fn g caps => hideP (vCallA E rank g args caps ρ ℓ K) ⟨⟩
 | _ => False
theorem lentOk_congr {ℓ ℓ' : Nat → Option (Option Ob)} {f : Nat → Nat} {n : Nat} : ∀ {σ : List Nat} {L : List Ob}, (∀ j, j ∈ σ → ℓ' j = ℓ j) → lentOk ℓ f n σ L → lentOk ℓ' f n σ L
 | [], [], _, _ => trivial
 | [], _ :: _, _, h => h.elim
 | _ :: _, [], _, h => h.elim
 | j :: σ, o :: L, hq, h => ⟨⟨by rw [hq j List.mem_cons_self]; exact h.1.1, h.1.2⟩, lentOk_congr (fun k hk => hq k (List.mem_cons_of_mem _ hk)) h.2⟩
theorem sCall (E : Env) (o : Oper) (rank : Nat) (f : Operand) (args : Array Operand) (ts : Array TypeId) (ho : o.op = .call { callee := .value f, args := args, argTypes := ts }) : Sound E o (vCall E rank f args.toList) := by
 intro ρ ℓ K h0
 obtain ⟨y, hy, h⟩ := withV_some h0
 clear h0
 have hfm : f ∈ o.op.operands := by simp [ho, Op.operands, Call.operands]
 have ham : ∀ {s : ASt}, (∀ q, q ∈ o.op.operands → ev s.t q = ρ q) → ∀ x, x ∈ args.toList → ev s.t x = ρ x := fun hq x hx => hq x (by simp only [ho, Op.operands, Call.operands]; simp; exact .inr (Array.mem_toList_iff.1 hx))
 have hrun : ∀ {a : Act} {w : World} {g : FuncId} {vs : List Value}, Callable E.P g → a.eval f = .func (.func g) #[] vs.toArray → (execOp a.eval o).run E.P w = .ok (.enter g (args.toList.map a.eval ++ vs).toArray) w := by
  intro a w g vs hc g2
  have hargs : args.map a.eval = (args.toList.map a.eval).toArray := by apply Array.ext'; simp
  simp [execOp, ho, resolve, Deferred.ofValue, g2, invoke, run_callFunc hc, hargs]
 have general : ∀ {g : FuncId} {caps : List AV}, (∀ Z lb (w : World) u, ARep Z lb w y u → ∃ vs, AReps Z lb w caps vs ∧ u = .func (.func g) #[] vs.toArray) → vCallA E rank g args.toList caps ρ ℓ K →
   ∃ e, K e ∧ ∀ s : ASt, okDst s.n o.dst = true → (∀ x, x ∈ o.op.operands → ev s.t x = ρ x) → (∀ k, k ∈ touch e → s.L[k]? = ℓ k) → OpAt E.P o s e := by
  intro g caps hfn hv
  obtain ⟨as, has, σ, cargs, Lc, r, M, nw, ⟨hren, hin⟩, hlent, hfr, hM, hnw, hcall, hK⟩ := withC_some hv
  refine ⟨_, hK, fun s hd hq ht => ?_⟩
  intro Z lb a w hs K' Q hK'
  obtain ⟨vs, g1, g2⟩ := hfn Z lb w _ (ev_rep hs (find_ev hq hfm hy))
  have ga := (gatherA_rep hs (ham hq) has).append g1
  rw [← appA_eq, ← hren] at ga
  have hnd := freshN_nodup hfr
  have htouch : ∀ j, j ∈ σ → s.L[j]? = ℓ j := fun j hj => ht j (by
   simp only [touch, List.mem_append, List.map_append]
   exact .inr (.inl (by rw [zipW_key hM]; exact hj)))
  have hl' := lentOk_congr htouch hlent
  have hlend := hs.own.lend (rank := rank) hl' hnd
  have hnw' : ∀ i, i < nw.length → s.L[rank + i]? = some none := by
   intro i hi
   refine (ht (rank + i) ?_).trans (isHole_eq (holesOk_get hnw hi))
   simp only [touch, List.mem_append, List.map_append]
   exact .inr (.inr (nwW_key.2 ⟨i, hi, rfl⟩))
  have hargs := areps_ren (f := atF σ rank) (n := σ.length) (lb' := lbOf lb σ) (fun i x hi hx => by
   have hj : σ[i]? = some σ[i] := by simp [hi]
   rw [atF_lt hj] at hx
   exact lbOf_get σ hj hx) _ _ hin ga
  unfold Oper.wp
  rw [hrun hcall.1 g2, Oper.upon_enter]
  refine (hcall.2.2 Z _ w _ hlend (ltB_of hs.df.1) hargs).mono ?_
  rintro e w' ⟨u, Z', lbc', rfl, c1, c2, c3, c4, c5, c6, c7, c8, c9, c10, c11, c12, c13⟩
  obtain ⟨lb', st, own, hun⟩ := hs.own.back hl' hnd hM hnw' c1 c6 c7 c8 c9 c10 c11 c12 c13 c3 c4 c5
  refine hK' Z' lb' _ w' st (hs.put st own hd fun q hq' => ?_) put_df
  cases hq'
  exact arep_unren hun r u c2
 split at h
 ·rename_i g caps
  have hA : vCallA E rank g args.toList (mapP caps) ρ ℓ K → _ := general (g := g) (caps := mapP caps) (fun Z lb w u hu => by
   simp only [ARep, Rep] at hu
   obtain ⟨vs, k1, k2⟩ := hu
   exact ⟨vs, by rw [mapP_eq, areps_p]; exact k1, k2⟩)
  unfold onO at h
  split at h
  ·rename_i ps hps
   rcases h with ⟨r, hc, h⟩ | h
   ·refine ⟨_, h, fun s hd hq ht => ?_⟩
    intro Z lb a w hs K' Q hK
    have hf := ev_rep hs (find_ev hq hfm hy)
    simp only [ARep, Rep] at hf
    obtain ⟨vs, g1, g2⟩ := hf
    have ga := gatherP_rep hs (ham hq) hps
    unfold Oper.wp
    rw [hrun hc.1 g2, Oper.upon_enter]
    have hz : ZOk Z w := hs.own.zlt
    rw [appP_eq] at hc
    refine (hc.2 Z w _ hz (ga.append g1)).mono ?_
    rintro e w' ⟨u, Z', rfl, st, hz', hr⟩
    refine hK Z' lb _ w' st.lift (hs.put st.lift (hs.own.called st hz') hd fun q hq' => ?_) put_df
    cases hq'
    simpa [ARep] using hr
   ·exact hA h
  ·obtain ⟨as, has, h⟩ := withC_some h
   split at h
   ·have key : ∀ (s : ASt) {Z : Nat → Prop} {lb : Lb} {a : Act} {w : World}, (∀ x, x ∈ o.op.operands → ev s.t x = ρ x) → St Z lb s a w → ∃ vs, AReps Z lb w as (args.toList.map a.eval) ∧ Reps Z w caps vs ∧ a.eval f = .func (.func g) #[] vs.toArray := by
     intro s Z lb a w hq hs
     have hf := ev_rep hs (find_ev hq hfm hy)
     simp only [ARep, Rep] at hf
     obtain ⟨vs, g1, g2⟩ := hf
     exact ⟨vs, gatherA_rep hs (ham hq) has, g1, g2⟩
    obtain ⟨ps, ks, hcf, _, hrd⟩ := frA1s_rep as [] _ h
    rcases hcf with ⟨r, hc, h⟩ | ⟨r, hc, hsc, h⟩ | h
    ·refine ⟨_, h, fun s hd hq ht => ?_⟩
     intro Z lb a w hs K' Q hK
     obtain ⟨vs, ga, g1, g2⟩ := key s hq hs
     obtain ⟨hall, hre⟩ := hrd s.L Z lb w hs.own (fun j hj => ht j (by simp only [touch, deads_key, List.nil_append]; exact hj)) (fun k hk => by simp at hk)
     obtain ⟨ow1, st1⟩ := hs.own.freeze hall
     unfold Oper.wp
     rw [hrun hc.1 g2, Oper.upon_enter]
     rw [appP_eq] at hc
     refine (hc.2 _ w _ (lentZ_lt hs.own hall) ((hre _ ga).append (Reps.mono (fun _ h => .inl h) (fun _ _ => rfl) _ _ g1))).mono ?_
     rintro e w' ⟨u, Z', rfl, st, hz', hr⟩
     refine hK Z' lb _ w' (st1.trans st.lift) (hs.put (st1.trans st.lift) (ow1.called st hz') hd fun q hq' => ?_) put_df
     cases hq'
     simpa [ARep] using hr
    ·refine ⟨_, h, fun s hd hq ht => ?_⟩
     intro Z lb a w hs K' Q hK
     obtain ⟨vs, ga, g1, g2⟩ := key s hq hs
     obtain ⟨hall, hre⟩ := hrd s.L Z lb w hs.own (fun j hj => ht j (by simp only [touch, List.map_nil, List.append_nil]; exact hj)) (fun k hk => by simp at hk)
     unfold Oper.wp
     rw [hrun hc.1 g2, Oper.upon_enter]
     rw [appP_eq] at hc
     refine (hc.2 _ w _ (lentZ_lt hs.own hall) ((hre _ ga).append (Reps.mono (fun _ h => .inl h) (fun _ _ => rfl) _ _ g1))).mono ?_
     rintro e w' ⟨u, Z', rfl, st, hz', hr⟩
     have hnl : ∀ b, Z b → ¬ ∃ k, k ∈ ks ∧ lb[k]? = some (some (some b)) := by
      rintro b hb ⟨k, h1, h2⟩
      obtain ⟨o3, h3, hl3⟩ := hall k h1
      obtain ⟨x, q1, q2⟩ := hs.own.obj k _ h3
      rw [h2] at q1
      simp only [Option.some.injEq] at q1
      subst q1
      exact (q2.block hl3).1 hb
     have st' : Stp Z [] w (fun b => Z' b ∧ ¬ ∃ k, k ∈ ks ∧ lb[k]? = some (some (some b))) [] w' :=
      ⟨st.os, st.tape, st.output, st.size, fun b hb => st.keep b (.inl hb), fun b hb => ⟨st.z1 b (.inl hb), hnl b hb⟩, fun b hb hlt => by
       rcases st.z2 b hb.1 hlt with (h | h) | ⟨i, h⟩
       ·exact .inl h
       ·exact absurd h hb.2
       ·simp at h, st.bs, st.hp, st.le, st.fresh, rfl⟩
     have hz'' : ZOk (fun b => Z' b ∧ ¬ ∃ k, k ∈ ks ∧ lb[k]? = some (some (some b))) w' := ⟨fun b hb => hz'.lt b hb.1, Glob.mono (Z := Z) (fun b hb => ⟨st.z1 b (.inl hb), hnl b hb⟩) (fun b hb => st.keep b (.inl hb)) hs.own.zlt.gl⟩
     refine hK _ lb _ w' st'.lift (hs.put st'.lift (hs.own.called st' hz'') hd fun q hq' => ?_) put_df
     cases hq'
     simp only [ARep]
     exact scal_rep r u hsc hr
    ·exact hA h
   ·exact hA h
 ·rename_i g caps
  exact general (fun Z lb w u hu => by
   simp only [ARep] at hu
   exact hu) h
 ·exact h.elim
end Go.Ab
namespace Go.Ab
variable [Glob]
def gatherQ (sz : Nat) : Nat → List (Nat × Operand) → List PV → Option (List PV)
 | _, [], [] => some []
 | k, (i, _) :: r, e :: ps => match Nat.beq i k, fitB sz e, gatherQ sz (k + 1) r ps with
  | true, true, some l => some (e :: l)
  | _, _, _ => none
 | _, _, _ => none
def snds : List (Nat × Operand) → List Operand
 | [] => []
 | (_, x) :: r => x :: snds r
theorem snds_eq : ∀ l, snds l = l.map (·.2)
 | [] => rfl
 | (_, x) :: r => by simp [snds, snds_eq r]
def vBuildSliceF (E : Env) (rank : Nat) (T : TypeId) (n : Nat) (parts : List (Nat × Operand)) : Vop := fun ρ ℓ K => onB (isHole (ℓ rank)) <| withTy E T fun i => match i.k with
 | .slice _ esz _ _ => onB (Nat.blt 0 esz) <| onB (Nat.ble (n * esz) 16777216) <| withC (gatherA ρ (snds parts)) fun as => frAs ℓ as [] fun ps ks => match gatherQ esz 0 parts ps with
  | some es => onB (Nat.beq es.length n) <| K ⟨some (.sl rank esz 0 n), [], deads ks ++ [(rank, some (.arr esz es))]⟩
  | none => False
 | _ => False
theorem gatherQ_rep {Z : Nat → Prop} {w : World} {a : Act} {sz : Nat} (hsz : 0 < sz) : ∀ {parts : List (Nat × Operand)} {k : Nat} {ps es : List PV}, Reps Z w ps ((snds parts).map a.eval) → gatherQ sz k parts ps = some es →
  ∃ us, Reps Z w es us ∧ (∀ x, x ∈ us → Fit sz x) ∧ ∀ c : Array Value, (k + us.length) * sz ≤ c.size →
   ∃ c', Instr.fill (fun i => some (i * sz, sz)) c (parts.map fun q => (q.1, a.eval q.2)) = some c' ∧ c'.size = c.size ∧
    (∀ (m : Nat) u, us[m]? = some u → ∀ (j : Nat) x, (vcells u)[j]? = some x → c'[(k + m) * sz + j]? = some x) ∧ (∀ q, q < k * sz → c'[q]? = c[q]?)
 | [], k, ps, es, hr, h => by
  cases ps with
  | cons p ps => simp [gatherQ] at h
  | nil =>
   simp only [gatherQ, Option.some.injEq] at h
   subst h
   exact ⟨[], rfl, by simp, fun c _ => ⟨c, rfl, rfl, by simp, fun _ _ => rfl⟩⟩
 | (i, x) :: r, k, ps, es, hr, h => by
  cases ps with
  | nil => simp [gatherQ] at h
  | cons e ps =>
  simp only [gatherQ] at h
  split at h
  ·rename_i l hi hfit hl
   have hi := Nat.eq_of_beq_eq_true hi
   subst hi
   simp only [Option.some.injEq] at h
   subst h
   simp only [snds, List.map_cons, Reps] at hr
   obtain ⟨u0, us0, q0, hru, hr2⟩ := hr
   simp only [List.cons.injEq] at q0
   obtain ⟨rfl, rfl⟩ := q0
   obtain ⟨us, g1, g2, g3⟩ := gatherQ_rep hsz hr2 hl
   obtain ⟨f1, f2⟩ := fitB_rep hfit hru
   refine ⟨a.eval x :: us, by simp only [Reps]; exact ⟨_, _, rfl, hru, g1⟩, ?_, ?_⟩
   ·intro y hy
    rcases List.mem_cons.1 hy with rfl | hy
    ·exact ⟨f1, f2⟩
    ·exact g2 y hy
   ·intro c hc
    simp only [List.length_cons] at hc
    have e1 : (i + (us.length + 1)) * sz = (i + 1 + us.length) * sz := by rw [show i + (us.length + 1) = i + 1 + us.length by omega]
    have e2 : i * sz + sz ≤ (i + 1 + us.length) * sz := by rw [← Nat.succ_mul]; exact Nat.mul_le_mul_right sz (by omega)
    obtain ⟨c', k1, k2, k3, k4⟩ := g3 (arrSplice c (i * sz) (vcells (a.eval x))) (by rw [arrSplice_size]; omega)
    refine ⟨c', ?_, by rw [k2, arrSplice_size], ?_, ?_⟩
    ·simp only [List.map_cons]
     rw [fill_step _ rfl _ _ _ f1 (by omega)]
     exact k1
    ·intro m u hm j y hy
     cases m with
     | zero =>
      simp only [List.getElem?_cons_zero, Option.some.injEq] at hm
      subst hm
      have hjl : j < (vcells (a.eval x)).length := by
       rcases Nat.lt_or_ge j (vcells (a.eval x)).length with h' | h'
       ·exact h'
       ·simp [List.getElem?_eq_none h'] at hy
      rw [Nat.add_zero, k4 _ (by rw [Nat.succ_mul]; omega), arrSplice_get _ _ _ _ (by omega), if_pos (by omega), show i * sz + j - i * sz = j by omega]
      exact hy
     | succ m =>
      have := k3 m u (by simpa using hm) j y hy
      rw [show i + (m + 1) = i + 1 + m by omega]; exact this
    ·intro q hq'
     rw [k4 q (by rw [Nat.succ_mul]; omega), arrSplice_get _ _ _ _ (by omega), if_neg (by omega)]
  ·simp at h
theorem sBuildSliceF (E : Env) (o : Oper) (rank : Nat) (T : TypeId) (n : Nat) (parts : Array (Nat × Operand)) (ho : o.op = .buildSlice T n parts) : Sound E o (vBuildSliceF E rank T n parts.toList) := by
 intro ρ ℓ K h0
 obtain ⟨hh, h1⟩ := onB_some h0
 obtain ⟨i, d, inf, z, h, F⟩ := withTy_some h1
 clear h0 h1
 split at h
 ·rename_i e esz eb ez hk
  obtain ⟨hp, hh_⟩ := onB_some h; clear h; have h := hh_; clear hh_
  obtain ⟨hb, hh_⟩ := onB_some h; clear h; have h := hh_; clear hh_
  have hp : 0 < esz := Nat.le_of_ble_eq_true hp
  have hb := Nat.le_of_ble_eq_true hb
  obtain ⟨as, has, h'⟩ := withC_some h; clear h
  obtain ⟨ps, ks, h, _, hrd⟩ := frAs_rep as [] _ h'; clear h'
  split at h
  ·rename_i es hg
   obtain ⟨hl, hh_⟩ := onB_some h; clear h; have h := hh_; clear hh_
   have hl := Nat.eq_of_beq_eq_true hl
   refine ⟨_, h, fun s hd hq ht => opAt_chg hd fun Z lb a w hs => ?_⟩
   have hr0 : s.L[rank]? = some none := (ht rank (by simp [touch])).trans (isHole_eq hh)
   have ga := gatherA_rep hs (l := snds parts.toList) (fun x hx => hq x (by
    rw [snds_eq] at hx
    obtain ⟨q, hq1, rfl⟩ := List.mem_map.1 hx
    simp only [ho, Op.operands]; simp; exact ⟨q.1, Array.mem_toList_iff.1 hq1⟩)) has
   obtain ⟨hall, hre⟩ := hrd s.L Z lb w hs.own (fun j hj => ht j (by simp only [touch, List.map_append, List.mem_append, deads_key]; exact .inr (.inl hj))) (fun k hk => by simp at hk)
   obtain ⟨ow1, st1⟩ := hs.own.freeze hall
   have hr : (setAll s.L (deads ks))[rank]? = some none := by
    have hlt : rank < s.L.length := by
     rcases Nat.lt_or_ge rank s.L.length with h' | h'
     ·exact h'
     ·simp [List.getElem?_eq_none h'] at hr0
    rw [setAll_deads _ _ _ hlt, if_neg, hr0]
    intro hk
    obtain ⟨_, hk2, _⟩ := hall _ hk
    rw [hr0] at hk2; simp at hk2
   obtain ⟨us, g1, g2, g3⟩ := gatherQ_rep hp (hre _ ga) hg
   have hlen := g1.length
   obtain ⟨rfl, j, zz, i1, i2, i3, i4, i5⟩ := F.slice hk
   have hsz : (sizeOf e).run E.P w = .ok esz w := by unfold sizeOf; simp [run_typeInfo w i1, i3]
   have hzr : (zeroValue e).run E.P w = .ok zz w := by unfold zeroValue; simp [run_typeInfo w i1, i2]
   have hmap : (parts.map fun x => (x.1, a.eval x.2)).toList = parts.toList.map fun q => (q.1, a.eval q.2) := by simp
   obtain ⟨c', k1, k2, k3, _⟩ := g3 ((Array.range (n * esz)).map fun q => (if n * esz = 0 then #[] else zz.cells)[q % (if n * esz = 0 then (#[] : Array Value) else zz.cells).size]!) (by simp; rw [hlen, hl]; exact Nat.le_refl _)
   simp only [Array.size_map, Array.size_range] at k2
   have hbig : n ≤ big := by
    have : n * 1 ≤ n * esz := Nat.mul_le_mul_left n hp
    unfold big; omega
   obtain ⟨lb', st, own, hb'⟩ := ow1.new hr (ob := .cells c' e) (o' := .arr esz es) (fun lb' st hz => obAt_arr hz st hp g1 g2 (fun k u hu j x hx => by simpa using k3 k u hu j x hx) (by omega) (by rw [hlen, hl]; omega))
   refine ⟨.slice (some ⟨w.heap.size, 0, none⟩) n n, _, _, lb', ?_, st1.trans st, by rw [setAll_append]; simpa [setAll, setL_eq] using own, ?_⟩
   ·have : ¬ (16777216 < n * esz) := by omega
    by_cases hz0 : n * esz = 0
    ·have k1' : Instr.fill (fun i => some (i * esz, esz)) ((Array.range 0).map fun _ => (default : Value)) (parts.toList.map fun x => (x.1, a.eval x.2)) = some c' := by
      rw [← k1]; congr 1; simp [hz0]
     simp only [execOp, ho, Instr.buildSlice, Sem.run_bind, F.run_und, Result.andThen_ok, hsz, hmap]
     simp [hz0, k1', newRow]
    ·simp only [hz0, if_false] at k1
     simp only [execOp, ho, Instr.buildSlice, Sem.run_bind, F.run_und, Result.andThen_ok, hsz, hmap]
     simp [hz0, this, k1, hzr, newRow]
   ·simp only [ARep]
    refine .inr ⟨_, n, hb', by rw [Nat.zero_mul], Nat.le_refl _, ?_⟩
    rw [bsize_of alloc_heap_new, k2, Nat.zero_add]
    exact Nat.le_refl _
  ·exact h.elim
 ·exact h.elim
def inN : Nat → List Nat → Bool
 | _, [] => false
 | x, y :: l => match Nat.beq x y with
  | true => true
  | false => inN x l
theorem inN_iff (x : Nat) : ∀ l, inN x l = true ↔ x ∈ l
 | [] => by simp [inN]
 | y :: l => by
  simp only [inN, List.mem_cons]
  cases h : Nat.beq x y with
  | true => simp [Nat.eq_of_beq_eq_true h]
  | false =>
   have hne : x ≠ y := fun e => by subst e; rw [Nat.beq_refl] at h; cases h
   simp [inN_iff x l, hne]
def rho2 (b : Nat) (px : AV) (p : PV) : Operand → Option AV
 | .tmp d => match Nat.beq d b with
  | true => some (.p p)
  | false => some px
 | _ => none
def deadO (ks : List Nat) (ℓ : Nat → Option (Option Ob)) : Nat → Option (Option Ob) := fun k => match inN k ks with
 | true => some (some .dead)
 | false => ℓ k
def vStoreF (E : Env) (T : TypeId) (x y : Operand) : Vop := fun ρ ℓ K => match x, y with
 | .tmp a, .tmp b => withV (ρ (.tmp a)) fun u => withV (ρ (.tmp b)) fun v => match u, v with
  | .eloc k sz j off, .sl q szq st n => withO (ℓ k) fun
   | .arr _ _ => Nat.beq a b = false ∧ frA ℓ (.sl q szq st n) [] fun p ks => vStore E T (.tmp a) (.tmp b) (rho2 b (.eloc k sz j off) p) (deadO ks ℓ) fun e => K ⟨e.val, e.rd, deads ks ++ e.wr⟩
   | _ => vStore E T (.tmp a) (.tmp b) ρ ℓ K
  | _, _ => vStore E T (.tmp a) (.tmp b) ρ ℓ K
 | _, _ => vStore E T x y ρ ℓ K
theorem sStoreF (E : Env) (o : Oper) (T : TypeId) (x y : Operand) (ho : o.op = .store T x y) : Sound E o (vStoreF E T x y) := by
 intro ρ ℓ K h
 unfold vStoreF at h
 split at h
 ·rename_i a b
  obtain ⟨ua, ha, h1⟩ := withV_some h
  obtain ⟨ub, hb, h⟩ := withV_some h1
  clear h1
  split at h
  ·rename_i k sz j off q szq st n
   obtain ⟨ob, hob, h⟩ := withO_some h
   split at h
   rotate_left
   ·exact sStore E o T _ _ ho ρ ℓ K h
   obtain ⟨hab, h⟩ := h
   have hne : ¬ a = b := fun e => by subst e; rw [Nat.beq_refl] at hab; cases hab
   obtain ⟨p, ks, h, _, hrd⟩ := frA_rep _ [] _ h
   obtain ⟨e, h1, h2, h3⟩ := sStoreK E o T _ _ ho h
   obtain ⟨v, rd, wr⟩ := e
   simp only at h2
   subst h2
   refine ⟨_, h1, fun s hd hq ht => opAt_skip hd fun Z lb act w hs => ?_⟩
   have hops : o.op.operands = #[Operand.tmp a, Operand.tmp b] := by rw [ho]; rfl
   have hva : ev s.t (.tmp a) = some (.eloc k sz j off) := by rw [hq _ (by rw [hops]; simp), ha]
   have hvb : ev s.t (.tmp b) = some (.sl q szq st n) := by rw [hq _ (by rw [hops]; simp), hb]
   obtain ⟨hall, hre⟩ := hrd s.L Z lb w hs.own (fun i hi => ht i (by simp only [touch, List.map_append, List.mem_append, deads_key]; exact .inr (.inl hi))) (fun k hk => by simp at hk)
   obtain ⟨ow1, st1⟩ := hs.own.freeze hall
   have hs' : St (lentZ Z lb ks) lb { n := s.n, t := (b, some (.p p)) :: s.t, L := setAll s.L (deads ks) } act w := by
    refine ⟨ow1, ?_, hs.df.stp st1, hs.sz⟩
    intro d z hz
    simp only [tget] at hz
    split at hz
    ·rename_i hd
     have hd := Nat.eq_of_beq_eq_true hd
     subst hd
     simp only [Option.some.injEq] at hz
     subst hz
     obtain ⟨u, g1, g2⟩ := hs.tm _ _ (show tget s.t _ = some _ from hvb)
     exact ⟨u, g1, by simp only [ARep]; exact hre u g2⟩
    ·obtain ⟨u, g1, g2⟩ := hs.tm _ _ hz
     exact ⟨u, g1, st1.arep g2⟩
   obtain ⟨w', Z', lb', r1, r2, r3⟩ := h3 { n := s.n, t := (b, some (.p p)) :: s.t, L := setAll s.L (deads ks) } (fun z hz => by
    rw [hops] at hz
    have hz : z = .tmp a ∨ z = .tmp b := by simpa using hz
    rcases hz with rfl | rfl
    ·show tget ((b, some (.p p)) :: s.t) a = rho2 b _ p (.tmp a)
     simp only [tget, rho2]
     rw [show Nat.beq a b = false from hab, show Nat.beq b a = false from by
      cases hh : Nat.beq b a with
      | false => rfl
      | true => exact absurd (Nat.eq_of_beq_eq_true hh).symm hne]
     exact hva
    ·show tget ((b, some (.p p)) :: s.t) b = rho2 b _ p (.tmp b)
     simp only [tget, rho2, Nat.beq_refl]) (fun i hi => by
    have hti := ht i (by simp only [touch, List.map_append, List.mem_append] at hi ⊢; rcases hi with hi | hi; exact .inl hi; exact .inr (.inr hi))
    show (setAll s.L (deads ks))[i]? = deadO ks ℓ i
    unfold deadO
    by_cases hlt : i < s.L.length
    ·rw [setAll_deads _ _ _ hlt]
     by_cases hm : i ∈ ks
     ·rw [if_pos hm, (inN_iff _ _).2 hm]
     ·rw [if_neg hm, hti]
      cases he : inN i ks with
      | true => exact absurd ((inN_iff _ _).1 he) hm
      | false => rfl
    ·have hnone : s.L[i]? = none := List.getElem?_eq_none (by omega)
     rw [List.getElem?_eq_none (by rw [setAll_length]; omega)]
     cases he : inN i ks with
     | true =>
      obtain ⟨_, g, _⟩ := hall i ((inN_iff _ _).1 he)
      rw [hnone] at g; cases g
     | false => rw [← hti, hnone]) _ lb act w hs'
   exact ⟨w', Z', lb', r1, st1.trans r2, by rw [setAll_append]; exact r3⟩
  ·exact sStore E o T _ _ ho ρ ℓ K h
 ·exact sStore E o T _ _ ho ρ ℓ K h
theorem run_equalIn_same {P : Program} (w : World) (d n : Nat) {T e : TypeId} (h : P.underlying T = some (.pointer e)) (hs : (sizeOf e).run P w = .ok n w) (a : Addr) : (Op.equalIn (d + 1) T (.pointer (some a)) (.pointer (some a))).run P w = .ok true w := by
 simp [Op.equalIn, run_underlying h, hs, sameAddr]
theorem run_noView {P : Program} (w : World) {a : Addr} {c : Array Value} {t : TypeId} {f : Nat × Nat} (h : w.heap[a.block]? = some (.cells c t f)) : (noView a).run P w = .ok () w := by
 have hs : w.shape? a.block = some (t, c.size) := by simp [World.shape?, h]
 simp [noView, viewAt, hs]
theorem run_stringish {P : Program} (w : World) {a : Addr} {c : Array Value} {t : TypeId} {f : Nat × Nat} (h : w.heap[a.block]? = some (.cells c t f)) (hf : ¬ (f.1 ≤ a.off ∧ a.off < f.2)) (hn : ¬ (f.1 ≤ c.size ∧ c.size < f.2)) : (stringish a).run P w = .ok false w := by
 have hs : w.shape? a.block = some (t, c.size) := by simp [World.shape?, h]
 simp [stringish, h, World.frozen?, hf]
 rw [hs]
 simp [h, World.frozen?]
 omega
theorem run_sameAddr_ne {P : Program} (w : World) {a b : Addr} {c c' : Array Value} {t t' : TypeId} {f f' : Nat × Nat} (hab : a.block ≠ b.block) (h : w.heap[a.block]? = some (.cells c t f)) (hf : ¬ (f.1 ≤ a.off ∧ a.off < f.2)) (hn : ¬ (f.1 ≤ c.size ∧ c.size < f.2))
  (h' : w.heap[b.block]? = some (.cells c' t' f')) (hf' : ¬ (f'.1 ≤ b.off ∧ b.off < f'.2)) (hn' : ¬ (f'.1 ≤ c'.size ∧ c'.size < f'.2)) : (sameAddr a b).run P w = .ok false w := by
 have m : (mayBeOne a b).run P w = .ok false w := by
  simp [mayBeOne, run_stringish w h hf hn, run_stringish w h' hf' hn']
 have fa : w.frozen? a = false := by simp [World.frozen?, h]; omega
 simp [sameAddr, hab, fa, run_noView w h, run_noView w h', m]
theorem run_equalIn_ne {P : Program} (w : World) (d n : Nat) {T e : TypeId} (h : P.underlying T = some (.pointer e)) (hs : (sizeOf e).run P w = .ok n w) (hn : n ≠ 0) {a b : Addr} (hab : (sameAddr a b).run P w = .ok false w) : (Op.equalIn (d + 1) T (.pointer (some a)) (.pointer (some b))).run P w = .ok false w := by
 simp [Op.equalIn, run_underlying h, hs, hn, hab]
def vEqP (E : Env) (neg : Bool) (T : TypeId) (i a j b : Nat) (ℓ : Nat → Option (Option Ob)) (K : AV → List Nat → Prop) : Prop := withTy E T fun t => match t.k with
 | .ptr e => withTy E e fun te => match Nat.beq i j with
  | true => onB (Nat.beq a b) (K (vOk (.bool (!neg))) [])
  | false => onB (Nat.blt 0 te.size) <| withO (ℓ i) fun
   | .var cs => onB (Nat.ble a cs.length) <| withO (ℓ j) fun
    | .var ds => onB (Nat.ble b ds.length) (K (vOk (.bool neg)) [i, j])
    | _ => False
   | _ => False
 | _ => False
def vBinP (E : Env) (op : BinOp) (T : TypeId) (x y : Operand) : Vop := fun ρ ℓ K => withV (ρ x) fun a => withV (ρ y) fun b => match a, b with
 | .loc i c, .loc j d => (match op with
  | .eql => vEqP E false T i c j d ℓ fun v rd => K ⟨some v, rd, []⟩
  | .neq => vEqP E true T i c j d ℓ fun v rd => K ⟨some v, rd, []⟩
  | _ => False)
 | .p (.v (.int k m)), .p (.v (.int k' n)) => match isShift op with
  | true => vshift op k m n fun v => K ⟨some v, [], []⟩
  | false => onB (kbeq k k') <| vbinInt op k m n fun v => K ⟨some v, [], []⟩
 | .p (.v (.string m)), .p (.v (.string n)) => vbinStr op m n fun v => K ⟨some v, [], []⟩
 | .p (.v .nilIface), .p (.v .nilIface) => onB (isCst x || isCst y) <| vNilI E op T true fun v => K ⟨some v, [], []⟩
 | .p (.ifc _ _), .p (.v .nilIface) => vNilI E op T false fun v => K ⟨some v, [], []⟩
 | .ifc _ _, .p (.v .nilIface) => vNilI E op T false fun v => K ⟨some v, [], []⟩
 | a, b => match op with
  | .eql => vEq E false T a b fun v => K ⟨some v, [], []⟩
  | .neq => vEq E true T a b fun v => K ⟨some v, [], []⟩
  | _ => False
theorem sBinP (E : Env) (o : Oper) (op : BinOp) (T yT : TypeId) (x y : Operand) (ho : o.op = .binOp op T x y yT) : Sound E o (vBinP E op T x y) := by
 intro ρ ℓ K h
 have hxm : x ∈ o.op.operands := by simp [ho, Op.operands]
 have hym : y ∈ o.op.operands := by simp [ho, Op.operands]
 unfold vBinP at h
 obtain ⟨va, hx, h1⟩ := withV_some h
 obtain ⟨vb, hy, h2⟩ := withV_some h1
 clear h h1
 have hvb : (∀ i c j d, va = .loc i c → vb = .loc j d → False) → (∀ t v, va = .ifc t v → vb = .p (.v .nilIface) → False) → vBin E op T x y ρ ℓ K := fun hn hn2 => by
  have e : vBin E op T x y ρ ℓ K = vBin E op T x y ρ ℓ K := rfl
  conv at e => rhs; unfold vBin
  rw [hx, hy] at e
  rw [e]
  clear e
  simp only [withV]
  split at h2
  ·exact (hn _ _ _ _ rfl rfl).elim
  ·exact h2
  ·exact h2
  ·exact h2
  ·exact h2
  ·exact (hn2 _ _ rfl rfl).elim
  ·rename_i n1 n2 n3 n4 n5 n6
   split
   ·exact (n2 _ _ _ _ rfl rfl).elim
   ·exact (n3 _ _ rfl rfl).elim
   ·exact (n4 rfl rfl).elim
   ·exact (n5 _ _ rfl rfl).elim
   ·exact h2
 have h := h2
 clear h2
 split at h
 ·rename_i i a j b
  have core : ∀ (neg : Bool), isEq op = true → (∀ (w : World) (p q : Option Addr) (r : Bool), (Op.equal T (.pointer p) (.pointer q)).run E.P w = .ok r w → (binOp op T (.pointer p) (.pointer q)).run E.P w = .ok (.bool (match neg with | true => !r | false => r)) w) →
    vEqP E neg T i a j b ℓ (fun v rd => K ⟨some v, rd, []⟩) → ∃ e, K e ∧ ∀ s : ASt, okDst s.n o.dst = true → (∀ x, x ∈ o.op.operands → ev s.t x = ρ x) → (∀ k, k ∈ touch e → s.L[k]? = ℓ k) → OpAt E.P o s e := by
   intro neg hio hbin hv
   unfold vEqP at hv
   obtain ⟨ti, d, inf, z, hh, F⟩ := withTy_some hv
   clear hv
   split at hh
   ·rename_i e hk
    have := F.ptr hk
    subst this
    obtain ⟨te, d2, inf2, z2, hv, F2⟩ := withTy_some hh
    have hsz : ∀ w, (sizeOf e).run E.P w = .ok te.size w := fun w => by unfold sizeOf; simp [run_typeInfo w F2.hi, F2.size]
    split at hv
    ·rename_i hij
     obtain ⟨hab, hv2⟩ := onB_some hv
     clear hv
     have hij := Nat.eq_of_beq_eq_true hij
     have hab := Nat.eq_of_beq_eq_true hab
     subst hij; subst hab
     refine ⟨_, hv2, fun s hd hq ht => opAt_val hd fun Z lb ac w hs => ?_⟩
     have r1 := ev_rep hs (find_ev hq hxm hx)
     have r2 := ev_rep hs (find_ev hq hym hy)
     simp only [ARep] at r1 r2
     obtain ⟨p, h1, h2⟩ := r1
     obtain ⟨q, h3, h4⟩ := r2
     rw [h1] at h3
     simp only [Option.some.injEq] at h3
     subst h3
     refine ⟨.bool (!neg), ?_, arep_v rfl⟩
     have he := run_equalIn_same w 9999 te.size F.und (hsz w) ⟨p, a, none⟩
     have g2 := hbin w _ _ _ he
     have gg : (eqGuard op T x y (.pointer (some ⟨p, a, none⟩)) (.pointer (some ⟨p, a, none⟩))).run E.P w = .ok () w := run_eqGuard_yes _ _ _ _ _ _ _ _ hio trivial
     simp only [execOp, ho, Sem.run_bind, h2, h4, gg, Result.andThen_ok, g2, Sem.run_pure]
     cases neg <;> rfl
    ·rename_i hij
     obtain ⟨hps, hv2⟩ := onB_some hv
     obtain ⟨oi, hoi, hv3⟩ := withO_some hv2
     clear hv hv2
     split at hv3
     ·rename_i cs
      obtain ⟨hal, hv4⟩ := onB_some hv3
      obtain ⟨oj, hoj, hv5⟩ := withO_some hv4
      clear hv3 hv4
      split at hv5
      ·rename_i ds
       obtain ⟨hbl, hv6⟩ := onB_some hv5
       clear hv5
       refine ⟨_, hv6, fun s hd hq ht => opAt_val hd fun Z lb ac w hs => ?_⟩
       have hne : i ≠ j := fun e => by subst e; rw [Nat.beq_refl] at hij; cases hij
       have hki : s.L[i]? = some (some (.var cs)) := (ht i (by simp [touch])).trans hoi
       have hkj : s.L[j]? = some (some (.var ds)) := (ht j (by simp [touch])).trans hoj
       have r1 := ev_rep hs (find_ev hq hxm hx)
       have r2 := ev_rep hs (find_ev hq hym hy)
       simp only [ARep] at r1 r2
       obtain ⟨p, h1, h2⟩ := r1
       obtain ⟨q, h3, h4⟩ := r2
       obtain ⟨vs, ty, fr, g1, g2, g3, g4⟩ := obj_var hs.own hki h1
       obtain ⟨vs', ty', fr', g1', g2', g3', g4'⟩ := obj_var hs.own hkj h3
       have hpq : p ≠ q := fun e => by subst e; exact hne (hs.own.inj i j _ _ p hki hkj trivial trivial h1 h3)
       have hl1 := g1.length
       have hl2 := g1'.length
       have hal := Nat.le_of_ble_eq_true hal
       have hbl := Nat.le_of_ble_eq_true hbl
       have hsa := run_sameAddr_ne (P := E.P) w (a := ⟨p, a, none⟩) (b := ⟨q, b, none⟩) hpq g3 (g4.no a (by omega)) (by simpa using g4.no vs.length (by omega)) g3' (g4'.no b (by omega)) (by simpa using g4'.no vs'.length (by omega))
       have hp0 : te.size ≠ 0 := fun e => by rw [e] at hps; cases hps
       refine ⟨.bool neg, ?_, arep_v rfl⟩
       have he := run_equalIn_ne w 9999 te.size F.und (hsz w) hp0 hsa
       have gb := hbin w _ _ _ he
       have gg : (eqGuard op T x y (.pointer (some ⟨p, a, none⟩)) (.pointer (some ⟨q, b, none⟩))).run E.P w = .ok () w := run_eqGuard_yes _ _ _ _ _ _ _ _ hio trivial
       simp only [execOp, ho, Sem.run_bind, h2, h4, gg, Result.andThen_ok, gb, Sem.run_pure]
       cases neg <;> rfl
      ·exact hv5.elim
     ·exact hv3.elim
   ·exact hh.elim
  split at h
  ·exact core false rfl (fun w p q r he => by simp [binOp, he]) h
  ·exact core true rfl (fun w p q r he => by simp [binOp, he]) h
  ·exact h.elim
 ·exact sBin E o op T yT x y ho ρ ℓ K (hvb (by intro i c j d h1; cases h1) (by intro t v h1; cases h1))
 ·exact sBin E o op T yT x y ho ρ ℓ K (hvb (by intro i c j d h1; cases h1) (by intro t v h1; cases h1))
 ·exact sBin E o op T yT x y ho ρ ℓ K (hvb (by intro i c j d h1; cases h1) (by intro t v h1; cases h1))
 ·exact sBin E o op T yT x y ho ρ ℓ K (hvb (by intro i c j d h1; cases h1) (by intro t v h1; cases h1))
 ·rename_i tt av
  obtain ⟨i, d, inf, z, h, F⟩ := withTy_some h
  split at h
  ·rename_i em hk
   obtain ⟨ms, rfl, _⟩ := F.iface hk
   have he : ∀ (v : Value) (w : World), (Op.equal T (.iface tt v) .nilIface).run E.P w = .ok false w := fun v w => run_equalIn_in w 9999 F.und
   have hgd : ∀ (v : Value) (w : World), (eqGuard op T x y (.iface tt v) .nilIface).run E.P w = .ok () w := fun v w => by
    cases hi : isEq op with
    | false => exact run_eqGuard_no _ _ _ _ _ _ _ _ hi
    | true => exact run_eqGuard_yes _ _ _ _ _ _ _ _ hi trivial
   have fin : ∀ (r : Bool), K ⟨some (vOk (.bool r)), [], []⟩ → (∀ (v : Value) (w : World), (binOp op T (.iface tt v) .nilIface).run E.P w = .ok (.bool r) w) → ∃ e, K e ∧ ∀ s : ASt, okDst s.n o.dst = true → (∀ x, x ∈ o.op.operands → ev s.t x = ρ x) → (∀ k, k ∈ touch e → s.L[k]? = ℓ k) → OpAt E.P o s e := by
    intro r hK hb
    refine ⟨_, hK, fun s hd hq ht => opAt_val hd fun Z lb ac w hs => ?_⟩
    have r1 := ev_rep hs (find_ev hq hxm hx)
    have r2 := ev_rep hs (find_ev hq hym hy)
    simp only [ARep] at r1
    obtain ⟨v, _, e1⟩ := r1
    have e2 := rep_v r2
    exact ⟨.bool r, by simp only [execOp, ho, Sem.run_bind, e1, e2, hgd, Result.andThen_ok, hb, Sem.run_pure], arep_v rfl⟩
   cases op <;> first | exact h.elim | skip
   ·exact fin _ h fun v w => by simp [binOp, he v w]
   ·exact fin _ h fun v w => by simp [binOp, he v w]
  ·exact h.elim
 ·rename_i hne _ _ _ _ hn6
  exact sBin E o op T yT x y ho ρ ℓ K (hvb (by intro i c j d h1 h2; first | exact hne i c j d h1 h2 | (subst h1 h2; trace_state; simp_all)) (by intro t v h1 h2; exact hn6 t v h1 h2))
end Go.Ab
namespace Go.Ab
variable [Glob]
def eB (b : UInt8) : PV := .v (.int .u8 (b.toNat : Int))
def isB : PV → Bool | .v (.int .u8 _) => true | _ => false
def toB : PV → UInt8 | .v (.int _ n) => UInt8.ofNat n.toNat | _ => 0
def allB : List PV → Bool
 | [] => true
 | x :: xs => match isB x with
  | true => allB xs
  | false => false
def toBs : List PV → List UInt8
 | [] => []
 | x :: xs => toB x :: toBs xs
theorem allB_app : ∀ (xs ys : List PV), allB (xs ++ ys) = (allB xs && allB ys)
 | [], ys => by simp [allB]
 | x :: xs, ys => by simp only [List.cons_append, allB]; cases isB x <;> simp [allB_app xs ys]
theorem toBs_app : ∀ (xs ys : List PV), toBs (xs ++ ys) = toBs xs ++ toBs ys
 | [], ys => rfl
 | x :: xs, ys => by simp only [List.cons_append, toBs, toBs_app xs ys]
theorem toB_eB (b : UInt8) : toB (eB b) = b := by simp [toB, eB]
theorem allB_map : ∀ l : List UInt8, allB (l.map eB) = true
 | [] => rfl
 | x :: xs => by simp only [List.map_cons, allB, eB, isB]; exact allB_map xs
theorem toBs_map : ∀ l : List UInt8, toBs (l.map eB) = l
 | [] => rfl
 | x :: xs => by simp only [List.map_cons, toBs, toB_eB, toBs_map xs]
theorem allB_rep (x : Int) : ∀ n, allB (List.replicate n (.v (.int .u8 x))) = true
 | 0 => rfl
 | n + 1 => by simp only [List.replicate_succ, allB, isB]; exact allB_rep x n
theorem toBs_rep (x : Int) : ∀ n, toBs (List.replicate n (.v (.int .u8 x))) = List.replicate n (UInt8.ofNat x.toNat)
 | 0 => rfl
 | n + 1 => by simp only [List.replicate_succ, toBs, toB, toBs_rep x n]
theorem bytes_rep {Z : Nat → Prop} {w : World} : ∀ {es : List PV} {vs : List Value}, allB es = true → Reps Z w es vs → ∃ ns : List Int, vs = ns.map (Value.int .u8) ∧ toBs es = ns.map fun n => UInt8.ofNat n.toNat
 | [], vs, _, h => by simp only [Reps] at h; subst h; exact ⟨[], rfl, rfl⟩
 | x :: xs, vs, hb, h => by
  simp only [Reps] at h
  obtain ⟨u, us, rfl, h1, h2⟩ := h
  simp only [allB] at hb
  split at hb
  ·rename_i hx
   obtain ⟨ns, rfl, e2⟩ := bytes_rep hb h2
   unfold isB at hx
   split at hx
   ·rename_i n
    simp only [Rep] at h1
    obtain ⟨rfl, _⟩ := h1
    exact ⟨n :: ns, rfl, by simp only [toBs, toB, e2, List.map_cons]⟩
   ·simp at hx
  ·simp at hb
theorem flat_ints (ns : List Int) : flat (ns.map (Value.int .u8)) = ns.map (Value.int .u8) := by
 induction ns with
 | nil => rfl
 | cons n ns ih => rw [List.map_cons, flat_cons, ih]; rfl
theorem foldl_push : ∀ (ns : List Int) (r : ByteArray), ns.foldl (fun r n => r.push (UInt8.ofNat n.toNat)) r = ⟨r.data ++ (ns.map fun n => UInt8.ofNat n.toNat).toArray⟩
 | [], r => by simp
 | n :: ns, r => by
  simp only [List.foldl_cons, foldl_push ns, List.map_cons]
  congr 1
  apply Array.ext'
  simp [ByteArray.push]
def u8Ty (E : Env) (e : TypeId) : Bool := match tfind E.tys e with
 | some i => match i.k with
  | .int .u8 => true
  | _ => false
 | none => false
theorem u8Ty_und {E : Env} {e : TypeId} (h : u8Ty E e = true) : E.P.underlying e = some (.int .u8) := by
 unfold u8Ty at h
 split at h
 ·rename_i i hi
  obtain ⟨d, inf, z, F⟩ := tyOf_some (E.ok _ _ hi)
  split at h
  ·rename_i hk
   rw [F.und, F.int hk]
  ·simp at h
 ·simp at h
theorem freeze_at {w : World} {b n : Nat} {c : Array Value} {ty : TypeId} {fr : Nat × Nat} (h : w.heap[b]? = some (.cells c ty fr)) :
  (w.freeze ⟨b, n, none⟩ 1).heap[b]? = some (.cells c ty (if fr.1 == fr.2 then (n, n + 1) else (min fr.1 n, max fr.2 (n + 1)))) := by
 simp [World.freeze, Array.getElem?_modify, h]
theorem freeze_other {w : World} {b n k : Nat} (h : k ≠ b) : (w.freeze ⟨b, n, none⟩ 1).heap[k]? = w.heap[k]? := by
 simp only [World.freeze]
 rw [if_neg (by decide)]
 simp only [Array.getElem?_modify]
 rw [if_neg (by omega)]
theorem freeze_size {w : World} {b n : Nat} : (w.freeze ⟨b, n, none⟩ 1).heap.size = w.heap.size := by simp [World.freeze]
theorem unfrozen_mark {fr : Nat × Nat} {n : Nat} (h : Unfrozen fr n) : Unfrozen (if fr.1 == fr.2 then (n, n + 1) else (min fr.1 n, max fr.2 (n + 1))) n := by
 obtain ⟨h1, h2⟩ := h
 by_cases he : fr.1 = fr.2
 ·rw [if_pos (by simp [he])]
  exact ⟨by dsimp only; omega, fun o ho hh => by dsimp only at hh; omega⟩
 ·rw [if_neg (by simp [he])]
  refine ⟨by dsimp only; omega, fun o ho hh => ?_⟩
  dsimp only at hh
  rcases Nat.lt_or_ge fr.1 n with h3 | h3
  ·exact h2 fr.1 h3 ⟨Nat.le_refl _, by omega⟩
  ·omega
theorem stp_mark {Z : Nat → Prop} {lb : Lb} {w : World} {b k n : Nat} {c : Array Value} {ty : TypeId} {fr : Nat × Nat} (hz : ¬ Z b) (hk : lb[k]? = some (some (some b)))
  (h : w.heap[b]? = some (.cells c ty fr)) : Stp Z lb w Z lb (w.freeze ⟨b, n, none⟩ 1) where
 os := rfl
 tape := rfl
 output := ⟨rfl, fun _ => Nat.le_refl _⟩
 size := by rw [freeze_size]; exact Nat.le_refl _
 keep := fun x hx => freeze_other (fun hh => hz (hh ▸ hx))
 z1 := fun _ h => h
 z2 := fun _ h _ => .inl h
 bs := fun x _ => by
  by_cases hxb : x = b
  ·subst hxb; rw [bsize_of (freeze_at h), bsize_of h]
  ·simp [bsize, freeze_other hxb]
 hp := fun x _ hn => freeze_other (fun hh => hn k (hh ▸ hk))
 le := fun _ _ h => h
 fresh := fun i _ h => .inl ⟨i, h⟩
 len := rfl
theorem Own.mark {Z : Nat → Prop} {lb : Lb} {L : List (Option Ob)} {w : World} (h : Own Z lb L w) {k b n : Nat} {o o' : Ob} (hk : L[k]? = some (some o)) (hl : o.live) (hb : lb[k]? = some (some (some b)))
  {c : Array Value} {ty : TypeId} {fr : Nat × Nat} (hh : w.heap[b]? = some (.cells c ty fr))
  (hob : Stp Z lb w Z lb (w.freeze ⟨b, n, none⟩ 1) → ObAt Z lb (w.freeze ⟨b, n, none⟩ 1) o' (some b)) : Stp Z lb w Z lb (w.freeze ⟨b, n, none⟩ 1) ∧ Own Z lb (L.set k (some o')) (w.freeze ⟨b, n, none⟩ 1) := by
 obtain ⟨x, h1, h2⟩ := h.obj k o hk
 rw [hb] at h1
 simp only [Option.some.injEq] at h1
 subst h1
 obtain ⟨g1, g2⟩ := h2.block hl
 have st : Stp Z lb w Z lb (w.freeze ⟨b, n, none⟩ 1) := stp_mark g1 hb hh
 refine ⟨st, h.upd st ?_ hb (hob st) ?_ (fun i _ hi => h.hole i hi) fun x hx => by rw [freeze_size]; exact h.zlt.lt x hx⟩
 ·rcases Nat.lt_or_ge k L.length with h' | h'
  ·exact h'
  ·simp [List.getElem?_eq_none h'] at hk
 ·intro i o1 b1 hik hi hl1 hb1
  have hne : b1 ≠ b := fun hh => by subst hh; exact hik (h.inj i k o1 o b1 hi hk hl1 hl hb1 hb)
  obtain ⟨x, h3, h4⟩ := h.obj i o1 hi
  rw [hb1] at h3
  simp only [Option.some.injEq] at h3
  subst h3
  exact ⟨freeze_other hne, (h4.block hl1).1, fun hh => hne (by simpa using hh.symm)⟩
theorem run_convert_mark {P : Program} (w : World) (src e : TypeId) (a : Addr) (n c : Nat) (hs : P.underlying src = some (.slice e)) (he : P.underlying e = some (.int .u8)) {arr : Array Value} {ty : TypeId} {fr : Nat × Nat} (h : w.heap[a.block]? = some (.cells arr ty fr)) :
  (convert src src (.slice (some a) n c)).run P w = .ok (.slice (some a) n c) (w.freeze ⟨a.block, arr.size, none⟩ 1) := by
 have hsh : w.shape? a.block = some (ty, arr.size) := by simp [World.shape?, h]
 simp [convert, run_underlying hs, run_underlying he, markStringish, hsh]
def vConvX (E : Env) (rank : Nat) (src dst : TypeId) (x : Operand) : Vop := fun ρ ℓ K => withTy E src fun i => withTy E dst fun j => match i.k, j.k with
 | .slice e _ _ _, .str => onB (u8Ty E e) <| withV (ρ x) fun a => match elemsOf 1 ℓ a with
  | some (es, ks) => (match a with | .sl _ _ _ n => es.length = n | _ => True) ∧ onB (allB es) (K ⟨some (vOk (.string ⟨(toBs es).toArray⟩)), ks, []⟩)
  | none => False
 | .str, .slice e _ _ _ => onB (isHole (ℓ rank)) <| onB (u8Ty E e) <| withV (ρ x) fun
  | .p (.v (.string s)) => s.size ≤ big ∧ K ⟨some (.sl rank 1 0 s.size), [], [(rank, some (.arr 1 (s.data.toList.map eB)))]⟩
  | _ => False
 | .slice e _ _ _, .slice _ _ _ _ => onB (Nat.beq src dst) <| onB (u8Ty E e) <| withV (ρ x) fun
  | .sl k sz st n => onB (Nat.blt 0 n) <| withO (ℓ k) fun
   | .arr sz' es => K ⟨some (.sl k sz st n), [], [(k, some (.arr sz' es))]⟩
   | _ => False
  | _ => False
 | _, _ => vConv E src dst x ρ ℓ K
theorem sConvX (E : Env) (o : Oper) (rank : Nat) (src dst : TypeId) (x : Operand) (ho : o.op = .convert src dst x) : Sound E o (vConvX E rank src dst x) := by
 intro ρ ℓ K h0
 have h0' := h0
 obtain ⟨i, d, inf, z, h1, F⟩ := withTy_some h0
 obtain ⟨j, d2, inf2, z2, h, G⟩ := withTy_some h1
 clear h0 h1
 have hxm : x ∈ o.op.operands := by simp [ho, Op.operands]
 split at h
 ·rename_i e esz eb ez hk hk2
  obtain ⟨hu8, h2⟩ := onB_some h
  obtain ⟨a0, ha, h⟩ := withV_some h2
  clear h2
  have hu8 := u8Ty_und hu8
  obtain ⟨rfl, _⟩ := F.slice hk
  have hd := G.str hk2
  subst hd
  split at h
  ·rename_i es ks hel
   obtain ⟨hsl, h2⟩ := h
   obtain ⟨hb, h⟩ := onB_some h2
   refine ⟨_, h, fun s hd hq ht => opAt_val hd fun Z lb a w hs => ?_⟩
   obtain ⟨vs, hr⟩ := elemsOf_rep hs.own (Nat.zero_lt_one) (fun k hk' => ht k (by simp [touch, hk'])) hel (ev_rep hs (find_ev hq hxm ha)) fun k sz' st n hz => by subst hz; exact hsl
   obtain ⟨ns, rfl, e2⟩ := bytes_rep hb hr.rep
   refine ⟨_, ?_, by simp only [vOk, ARep, Rep]; exact ⟨rfl, rfl⟩⟩
   simp only [execOp, ho, Sem.run_bind]
   rcases hr.val with ⟨c, hu, hv⟩ | ⟨ad, n, c, hu, hn, hcs⟩
   ·have : ns = [] := by simpa using hv
    subst this
    rw [hu, run_convert_bytes_string w src dst e none 0 c F.und hu8 G.und]
    simp [Conv.bytesToString, e2]
    rfl
   ·rw [hu, run_convert_bytes_string w src dst e (some ad) n c F.und hu8 G.und]
    have hl := run_loadCells_list (P := E.P) w ad (ns.map (Value.int .u8)) (fun q v hq' => hcs q v (by rw [flat_ints]; exact hq'))
    rw [← hn] at hl
    rw [run_bytesToString w ad n c ns hl, foldl_push]
    simp [e2]
  ·exact h.elim
 ·rename_i e esz eb ez hk hk2
  obtain ⟨hh, h2⟩ := onB_some h
  obtain ⟨hu8, h3⟩ := onB_some h2
  obtain ⟨a0, ha, h⟩ := withV_some h3
  clear h2 h3
  have hu8 := u8Ty_und hu8
  obtain ⟨rfl, _⟩ := G.slice hk2
  have hd := F.str hk
  subst hd
  split at h
  ·rename_i str
   obtain ⟨hsz, h⟩ := h
   refine ⟨_, h, fun s hd hq ht => opAt_chg hd fun Z lb a w hs => ?_⟩
   have hr : s.L[rank]? = some none := (ht rank (by simp [touch])).trans (isHole_eq hh)
   have hv := rep_v (ev_rep hs (find_ev hq hxm ha))
   have st0 : Stp Z lb w Z lb w.drew := stp_heap rfl rfl rfl (od_drew _)
   have own0 : Own Z lb s.L w.drew := hs.own.heap rfl rfl rfl (od_drew _)
   have hcap := grownCap_ge w str.size 0 e
   have hrow : (bytesRow str (grownCap w str.size 0 e)).size = grownCap w str.size 0 e := by
    simp [bytesRow]; show str.size + _ = _; omega
   obtain ⟨lb', st, own, hb'⟩ := own0.new hr (ob := .cells (bytesRow str (grownCap w str.size 0 e)) e ((bytesRow str (grownCap w str.size 0 e)).size, (bytesRow str (grownCap w str.size 0 e)).size + 1)) (o' := .arr 1 (str.data.toList.map eB)) (fun lb' st hz => by
    have hlen : (str.data.toList.map fun b => Value.int .u8 (b.toNat : Int)).length = str.size := by simp
    have hreps : ∀ l : List UInt8, Reps Z (w.drew.alloc (.cells (bytesRow str (grownCap w str.size 0 e)) e ((bytesRow str (grownCap w str.size 0 e)).size, (bytesRow str (grownCap w str.size 0 e)).size + 1))) (l.map eB) (l.map fun b => Value.int .u8 (b.toNat : Int)) := by
     intro l
     induction l with
     | nil => rfl
     | cons b l ih => simp only [List.map_cons, Reps, eB, Rep]; exact ⟨_, _, rfl, ⟨rfl, rfl⟩, ih⟩
    refine ⟨hz, by simp, str.data.toList.map fun b => Value.int .u8 (b.toNat : Int), _, e, _, hreps _, Nat.zero_lt_one, ?_, alloc_heap_new, ?_, ?_, by rw [hlen]; exact hsz, by rw [hlen, hrow]; omega⟩
    ·intro y hy
     obtain ⟨b, _, rfl⟩ := List.mem_map.1 hy
     refine ⟨rfl, fun q hq' => ?_⟩
     simp [vcells, Value.cells] at hq'
     subst hq'; rfl
    ·refine ⟨by dsimp only; omega, fun q hq' hh' => ?_⟩
     dsimp only at hh'; omega
    ·intro k u hk q c hc
     rw [List.getElem?_map] at hk
     cases hbk : str.data.toList[k]? with
     | none => rw [hbk] at hk; simp at hk
     | some b =>
      rw [hbk] at hk
      simp only [Option.map_some, Option.some.injEq] at hk
      subst hk
      have hq0 : q = 0 ∧ c = Value.int .u8 (b.toNat : Int) := by
       cases q with
       | zero => simp [vcells, Value.cells] at hc; exact ⟨rfl, hc.symm⟩
       | succ q => simp [vcells, Value.cells] at hc
      obtain ⟨rfl, rfl⟩ := hq0
      have hkl : k < str.data.size := by
       rcases Nat.lt_or_ge k str.data.size with h' | h'
       ·exact h'
       ·simp [List.getElem?_eq_none (show str.data.toList.length ≤ k by simpa using h')] at hbk
      simp only [Nat.mul_one, Nat.add_zero, bytesRow]
      rw [Array.getElem?_append_left (by simpa using hkl)]
      simp only [Array.getElem?_map]
      rw [show str.data[k]? = some b by simpa using hbk]
      rfl)
   refine ⟨.slice (some ⟨w.heap.size, 0, none⟩) str.size (grownCap w str.size 0 e), _, Z, lb', ?_, st0.trans st, by simpa [setAll, setL_eq] using own, ?_⟩
   ·simp only [execOp, ho, Sem.run_bind, hv]
    rw [run_bytes_of_string w src dst e str F.und G.und hu8]
    rfl
   ·simp only [ARep]
    refine .inr ⟨_, _, hb', by rw [Nat.zero_mul]; rfl, by omega, ?_⟩
    show _ ≤ bsize (w.drew.alloc _) _
    rw [bsize_of alloc_heap_new, hrow]; omega
  ·exact h.elim
 ·rename_i e esz eb ez e2 esz2 eb2 ez2 hk hk2
  obtain ⟨hsd, h2⟩ := onB_some h
  obtain ⟨hu8, h3⟩ := onB_some h2
  obtain ⟨a0, ha, h4⟩ := withV_some h3
  clear h h2 h3
  have hsd := Nat.eq_of_beq_eq_true hsd
  subst hsd
  have hu8 := u8Ty_und hu8
  obtain ⟨rfl, _⟩ := F.slice hk
  split at h4
  ·rename_i k sz st n
   obtain ⟨hn, h2⟩ := onB_some h4
   have hn := Nat.le_of_ble_eq_true hn
   obtain ⟨ob, hob, h⟩ := withO_some h2
   split at h
   ·rename_i sz' es
    refine ⟨_, h, fun s hd hq ht => opAt_chg hd fun Z lb a w hs => ?_⟩
    have hr := ev_rep hs (find_ev hq hxm ha)
    have hkk : s.L[k]? = some (some (.arr sz' es)) := (ht k (by simp [touch])).trans hob
    have hr' := hr
    simp only [ARep] at hr
    rcases hr with ⟨_, h0, _⟩ | ⟨b, cap, hb, hu, hle, hle2⟩
    ·omega
    obtain ⟨vs, arr, ty, fr, g1, g2, g3, g4, g5, g6, g7, g8⟩ := obj_arr hs.own hkk hb
    obtain ⟨st', own⟩ := hs.own.mark (n := arr.size) hkk trivial hb g4 (o' := .arr sz' es) (fun st => by
     obtain ⟨x0, k1, k2⟩ := hs.own.obj k _ hkk
     rw [hb] at k1
     simp only [Option.some.injEq] at k1
     subst k1
     exact ⟨k2.1, by rw [freeze_size]; exact k2.2.1, vs, arr, ty, _, st.reps g1, g2, g3, freeze_at g4, unfrozen_mark g5, g6, g7, g8⟩)
    refine ⟨_, _, Z, lb, ?_, st', by simpa [setAll, setL_eq] using own, st'.arep hr'⟩
    simp only [execOp, ho, Sem.run_bind, hu]
    rw [run_convert_mark w src e ⟨b, st * sz, none⟩ n cap F.und hu8 g4]
    rfl
   ·exact h.elim
  ·exact h4.elim
 ·exact sConv E o src dst x ho ρ ℓ K (by assumption)
def vNil (x : Operand) : Vop := fun ρ _ K => withV (ρ x) fun
 | .loc k off => K ⟨some (.loc k off), [], []⟩
 | .eloc k sz j off => K ⟨some (.eloc k sz j off), [], []⟩
 | .p (.eptr cs off) => K ⟨some (.p (.eptr cs off)), [], []⟩
 | .ifc t x => K ⟨some (.ifc t x), [], []⟩
 | _ => False
theorem sNil (E : Env) (o : Oper) (x : Operand) (ho : o.op = .nilCheck x) : Sound E o (vNil x) := by
 intro ρ ℓ K h0
 obtain ⟨a0, ha, h⟩ := withV_some h0
 have hxm : x ∈ o.op.operands := by simp [ho, Op.operands]
 have go : ∀ {v : AV}, a0 = v → K ⟨some v, [], []⟩ → (∀ Z lb (w : World) u, ARep Z lb w v u → (∃ q, u = .pointer (some q)) ∨ ∃ t q, u = .iface t q) → ∃ e, K e ∧ ∀ s : ASt, okDst s.n o.dst = true → (∀ x, x ∈ o.op.operands → ev s.t x = ρ x) → (∀ k, k ∈ touch e → s.L[k]? = ℓ k) → OpAt E.P o s e := by
  intro v hv hK hp
  refine ⟨_, hK, fun s hd hq ht => opAt_val hd fun Z lb a w hs => ?_⟩
  have hr := ev_rep hs (find_ev hq hxm ha)
  rw [hv] at hr
  rcases hp _ _ _ _ hr with ⟨q, hu⟩ | ⟨t, q, hu⟩
  ·refine ⟨_, ?_, hr⟩
   simp only [execOp, ho, hu, Sem.run_pure]
  ·refine ⟨_, ?_, hr⟩
   simp only [execOp, ho, hu, Sem.run_pure]
 split at h
 ·exact go rfl h fun Z lb w u hr => by simp only [ARep] at hr; obtain ⟨b, _, e⟩ := hr; exact .inl ⟨_, e⟩
 ·exact go rfl h fun Z lb w u hr => by simp only [ARep] at hr; obtain ⟨b, _, e⟩ := hr; exact .inl ⟨_, e⟩
 ·exact go rfl h fun Z lb w u hr => by simp only [ARep, Rep] at hr; obtain ⟨vs, b, o', _, _, e, _⟩ := hr; exact .inl ⟨_, e⟩
 ·exact go rfl h fun Z lb w u hr => by simp only [ARep] at hr; obtain ⟨y, _, e⟩ := hr; exact .inr ⟨_, _, e⟩
 ·exact h.elim
def vAppendS (E : Env) (rank : Nat) (T T2 : TypeId) (s x : Operand) : Vop := fun ρ ℓ K => onB (isHole (ℓ rank)) <| isSliceTy E T fun _ esz eb => onB (Nat.beq esz 1) <| withTy E T2 fun j => match j.k with
 | .str => withV (ρ s) fun y => withV (ρ x) fun
  | .p (.v (.string str)) => appBody rank esz eb ℓ y (str.data.toList.map eB) [] K
  | _ => False
 | _ => False
theorem reps_bytes {Z : Nat → Prop} {w : World} : ∀ l : List UInt8, Reps Z w (l.map eB) (l.map fun b => Value.int .u8 (b.toNat : Int))
 | [] => rfl
 | b :: l => by simp only [List.map_cons, Reps, eB, Rep]; exact ⟨_, _, rfl, ⟨rfl, rfl⟩, reps_bytes l⟩
theorem flat_bytes (l : List UInt8) : flat (l.map fun b => Value.int .u8 (b.toNat : Int)) = l.map fun b => Value.int .u8 (b.toNat : Int) := by
 induction l with
 | nil => rfl
 | cons n ns ih => rw [List.map_cons, flat_cons, ih]; rfl
theorem fit_byte {l : List UInt8} : ∀ x, x ∈ (l.map fun b => Value.int .u8 (b.toNat : Int)) → Fit 1 x := by
 intro y hy
 obtain ⟨b, _, rfl⟩ := List.mem_map.1 hy
 refine ⟨rfl, fun q hq' => ?_⟩
 simp [vcells, Value.cells] at hq'
 subst hq'; rfl
theorem sAppendS (E : Env) (o : Oper) (rank : Nat) (T T2 : TypeId) (sx x : Operand) (ho : o.op = .call { callee := .builtin .append, args := #[sx, x], argTypes := #[T, T2] }) : Sound E o (vAppendS E rank T T2 sx x) := by
 intro ρ ℓ K h0
 obtain ⟨hh, h1⟩ := onB_some h0
 obtain ⟨i, d, inf, z, h2, F⟩ := withTy_some h1
 clear h0 h1
 split at h2
 ·rename_i e esz eb ez hk
  obtain ⟨hez, h3⟩ := onB_some h2
  have hez := Nat.eq_of_beq_eq_true hez
  obtain ⟨h1z, h4⟩ := onB_some h3
  have h1z := Nat.eq_of_beq_eq_true h1z
  obtain ⟨i2, d2, inf2, z2, h5, F2⟩ := withTy_some h4
  clear h2 h3 h4
  split at h5
  ·rename_i hk2
   obtain ⟨y, hy, h6⟩ := withV_some h5
   obtain ⟨zx, hz, h⟩ := withV_some h6
   clear h5 h6
   have hsm : sx ∈ o.op.operands := by simp [ho, Op.operands, Call.operands]
   have hxm : x ∈ o.op.operands := by simp [ho, Op.operands, Call.operands]
   obtain ⟨rfl, j, zz, a1, a2, a3, a4, a5⟩ := F.slice hk
   have hd2 := F2.str hk2
   subst hd2
   split at h
   ·rename_i str
    subst h1z
    refine sApp E o rank T T2 sx x ho F hez a1 a2 a3 a4 a5 hh (by decide) hsm hy (fun {Z lb s a w} hs hq hks => ?_) h
    have hv := rep_v (ev_rep hs (find_ev hq hxm hz))
    refine ⟨str.data.toList.map fun b => Value.int .u8 (b.toNat : Int), reps_bytes _, fit_byte, ?_⟩
    rw [hv, flat_bytes]
    have := Src.ofString (P := E.P) (w := w) F2.und str
    have hl : (str.data.toList.map fun b => Value.int .u8 (b.toNat : Int)).length = str.size := by simp
    rw [hl]
    exact this
   ·exact h.elim
  ·exact h5.elim
 ·exact h2.elim
def vCopy (E : Env) (T : TypeId) (x y : Operand) : Vop := fun ρ ℓ K => isSliceTy E T fun _ esz _ => onB (Nat.blt 0 esz) <| withV (ρ x) fun a => withV (ρ y) fun b => match a with
 | .sl k sz st n => withO (ℓ k) fun
  | .arr sz' es => onB (Nat.beq sz esz) <| onB (Nat.beq sz' esz) <| st + n ≤ es.length ∧ (match b with
   | .p (.v (.string s)) => onB (Nat.beq esz 1) <| K ⟨some (vOk (.int .i64 ((min s.size n : Nat) : Int))), [], [(k, some (.arr esz (es.take st ++ ((s.data.toList.take n).map eB ++ es.drop (st + min s.size n)))))]⟩
   | b => match elemsOf esz ℓ b with
    | some (xs, ks) => (match b with | .sl _ _ _ m => xs.length = m | _ => True) ∧ K ⟨some (vOk (.int .i64 ((min xs.length n : Nat) : Int))), ks, [(k, some (.arr esz (es.take st ++ (xs.take n ++ es.drop (st + min xs.length n)))))]⟩
    | none => False)
  | _ => False
 | _ => False
theorem set_same {α : Type} {l : List α} {k : Nat} {x : α} (h : l[k]? = some x) : l.set k x = l := by
 apply List.ext_getElem?
 intro i
 by_cases hi : k = i
 ·subst hi
  have : k < l.length := by
   rcases Nat.lt_or_ge k l.length with h' | h'
   ·exact h'
   ·simp [List.getElem?_eq_none h'] at h
  rw [List.getElem?_set_self this, h]
 ·rw [List.getElem?_set_ne hi]
theorem copy_core {Z : Nat → Prop} {lb : Lb} {L : List (Option Ob)} {w : World} {k b st m sz : Nat} {es ys : List PV} {vs : List Value} (own : Own Z lb L w) (hk : L[k]? = some (some (.arr sz es))) (hb : lb[k]? = some (some (some b)))
  (hst : st + m ≤ es.length) (hr : Reps Z w ys vs) (hm : vs.length = m) (hfit : ∀ q, q ∈ vs → Fit sz q) :
  ∃ c ty fr, w.heap[b]? = some (.cells c ty fr) ∧ Unfrozen fr c.size ∧ st * sz + (flat vs).length ≤ c.size ∧ Stp Z lb w Z lb (wput w b (arrSplice c (st * sz) (flat vs))) ∧
   Own Z lb (L.set k (some (.arr sz (es.take st ++ (ys ++ es.drop (st + m)))))) (wput w b (arrSplice c (st * sz) (flat vs))) := by
 obtain ⟨vs0, arr, ty, fr, g1, g2, g3, g4, g5, g6, g7, g8⟩ := obj_arr own hk hb
 have l0 := g1.length
 have hfl : (flat vs).length = m * sz := by rw [flat_length fun q hq => (hfit q hq).1, hm]
 have hcap : (st + m) * sz ≤ vs0.length * sz := Nat.mul_le_mul_right _ (by omega)
 rw [Nat.add_mul] at hcap
 have hlen0 : (vs0.take st ++ (vs ++ vs0.drop (st + m))).length = vs0.length := by simp; omega
 have ht0 : (vs0.take st).length = st := by simp; omega
 refine ⟨arr, ty, fr, g4, g5, by rw [hfl]; omega, own.put hk trivial hb g4 (arrSplice_size _ _ _) fun stp => ?_⟩
 obtain ⟨x0, k1, k2⟩ := own.obj k _ hk
 rw [hb] at k1
 simp only [Option.some.injEq] at k1
 subst k1
 refine ⟨k2.1, by rw [put_size]; exact k2.2.1, vs0.take st ++ (vs ++ vs0.drop (st + m)), _, ty, fr, (stp.reps (g1.take st)).append ((stp.reps hr).append (stp.reps (g1.drop (st + m)))), g2, ?_, put_heap g4, by rw [arrSplice_size]; exact g5, ?_, by rw [hlen0]; exact g7, by rw [arrSplice_size, hlen0]; exact g8⟩
 ·intro q hq
  rcases List.mem_append.1 hq with h1 | h1
  ·exact g3 q (List.mem_of_mem_take h1)
  ·rcases List.mem_append.1 h1 with h2 | h2
   ·exact hfit q h2
   ·exact g3 q (List.mem_of_mem_drop h2)
 ·intro p u hp q c hc
  have hql : q < (vcells u).length := by
   rcases Nat.lt_or_ge q (vcells u).length with h' | h'
   ·exact h'
   ·simp [List.getElem?_eq_none h'] at hc
  rw [arrSplice_get _ _ _ _ (by rw [hfl]; omega), hfl]
  rcases Nat.lt_or_ge p st with hpn | hpn
  ·rw [List.getElem?_append_left (by omega), List.getElem?_take_of_lt hpn] at hp
   have hus := (g3 u (List.mem_of_getElem? hp)).1
   have : (p + 1) * sz ≤ st * sz := Nat.mul_le_mul_right sz hpn
   rw [Nat.succ_mul] at this
   rw [if_neg (by omega)]
   exact g6 p u hp q c hc
  ·rw [List.getElem?_append_right (by omega), ht0] at hp
   rcases Nat.lt_or_ge (p - st) m with hpm | hpm
   ·rw [List.getElem?_append_left (by omega)] at hp
    have hus := (hfit u (List.mem_of_getElem? hp)).1
    have e1 : p * sz = st * sz + (p - st) * sz := by rw [← Nat.add_mul, show st + (p - st) = p by omega]
    have e2 : (p - st + 1) * sz ≤ m * sz := Nat.mul_le_mul_right sz hpm
    rw [Nat.succ_mul] at e2
    rw [if_pos (by omega), show p * sz + q - st * sz = (p - st) * sz + q by omega]
    exact flat_at (fun q hq => (hfit q hq).1) (p - st) u hp q c hc
   ·rw [List.getElem?_append_right (by omega), hm, List.getElem?_drop, show st + m + (p - st - m) = p by omega] at hp
    have e2 : (st + m) * sz ≤ p * sz := Nat.mul_le_mul_right sz (by omega)
    rw [Nat.add_mul] at e2
    rw [if_neg (by omega)]
    exact g6 p u hp q c hc
theorem sCopy (E : Env) (o : Oper) (T T2 : TypeId) (x y : Operand) (ho : o.op = .call { callee := .builtin .copy, args := #[x, y], argTypes := #[T, T2] }) : Sound E o (vCopy E T x y) := by
 intro ρ ℓ K h0
 obtain ⟨i, d, inf, z, h1, F⟩ := withTy_some h0
 clear h0
 split at h1
 ·rename_i e esz eb ez hk
  obtain ⟨hez, h2⟩ := onB_some h1
  obtain ⟨hp, h3⟩ := onB_some h2
  have hp : 0 < esz := Nat.le_of_ble_eq_true hp
  obtain ⟨a0, ha, h4⟩ := withV_some h3
  obtain ⟨b0, hb, h⟩ := withV_some h4
  clear h1 h2 h3 h4
  have hxm : x ∈ o.op.operands := by simp [ho, Op.operands, Call.operands]
  have hym : y ∈ o.op.operands := by simp [ho, Op.operands, Call.operands]
  obtain ⟨rfl, j, zz, a1, a2, a3, a4, a5⟩ := F.slice hk
  split at h
  ·rename_i k sz st n
   obtain ⟨ob, hob, h⟩ := withO_some h
   split at h
   ·rename_i sz' es
    obtain ⟨q1, h5⟩ := onB_some h
    obtain ⟨q2, h6⟩ := onB_some h5
    have q1 := Nat.eq_of_beq_eq_true q1
    have q2 := Nat.eq_of_beq_eq_true q2
    subst q1; subst q2
    obtain ⟨hst, h⟩ := h6
    clear h5
    -- one way for both kinds of sources
    have core : ∀ {s : ASt} {Z : Nat → Prop} {lb : Lb} {a : Act} {w : World} {ys : List PV} {vs : List Value} {ln m : Nat}, St Z lb s a w → (∀ q, q ∈ o.op.operands → ev s.t q = ρ q) → s.L[k]? = ℓ k → m = min ln n →
      (Builtin.lenOf (a.eval y)).run E.P w = .ok ln w → (Builtin.firstCells sz' m (a.eval y)).run E.P w = .ok (flat vs).toArray w → Reps Z w ys vs → vs.length = m → (∀ q, q ∈ vs → Fit sz' q) →
      ∃ u w' Z' lb', (execOp a.eval o).run E.P w = .ok (.value u) w' ∧ Stp Z lb w Z' lb' w' ∧ Own Z' lb' (setAll s.L [(k, some (.arr sz' (es.take st ++ (ys ++ es.drop (st + m)))))]) w' ∧ ARep Z' lb' w' (vOk (.int .i64 ((m : Nat) : Int))) u := by
     intro s Z lb a w ys vs ln m hs hq hkk hm hlen hcells hr hvl hfit
     have hrx := ev_rep hs (find_ev hq hxm ha)
     have hk1 : s.L[k]? = some (some (.arr sz' es)) := hkk.trans hob
     have hsize : (sizeOf e).run E.P w = .ok sz' w := by unfold sizeOf; simp [run_typeInfo w a1, a3]
     simp only [ARep] at hrx
     rcases hrx with ⟨e1, e2, e3, e4⟩ | ⟨b, cap, e3, e4, e5, e6⟩
     ·have hm0 : m = 0 := by rw [hm, e2]; simp
      have hv0 : vs = [] := List.length_eq_zero_iff.1 (by omega)
      subst hv0
      have hy0 : ys = [] := List.length_eq_zero_iff.1 (by have := hr.length; simpa using this.symm)
      refine ⟨.int .i64 0, w, Z, lb, ?_, Stp.refl _ _ _, ?_, by simp [vOk, ARep, Rep, oneB, hm0]⟩
      ·have : Nat.min ln 0 = m := by rw [hm0]; exact Nat.min_zero _
       simp only [execOp, ho, resolve, invoke, builtin, Sem.run_bind]
       rw [hm0] at hcells this
       simp [Builtin.copy_, run_underlying F.und, hlen, hsize, hcells, e4, flat, goInt]
      ·simp only [setAll, setL_eq, hm0, Nat.add_zero, hy0, List.nil_append, List.take_append_drop]
       rw [set_same hk1]
       exact hs.own
     ·obtain ⟨c, ty, fr, g1, g2, g3, g4, g5⟩ := copy_core hs.own hk1 e3 (st := st) (m := m) (by omega) hr hvl hfit
      have hstore := run_storeCells_ab E.P b (st * sz') ty fr (flat vs) 0 c w g1 (by omega) g2 (flat_one fun q hq => (hfit q hq).2)
      rw [Nat.add_zero] at hstore
      refine ⟨.int .i64 (m : Int), _, Z, lb, ?_, g4, by simpa [setAll, setL_eq] using g5, by simp [vOk, ARep, Rep, oneB]⟩
      have hmin : Nat.min ln n = m := hm.symm
      simp only [execOp, ho, resolve, invoke, builtin, Sem.run_bind]
      simp [Builtin.copy_, run_underlying F.und, hlen, hsize, hcells, e4, hmin, hstore, goInt]
    split at h
    ·rename_i str _ _
     obtain ⟨q3, h⟩ := onB_some h
     have q3 := Nat.eq_of_beq_eq_true q3
     refine ⟨_, h, fun s hd hq ht => opAt_chg hd fun Z lb a w hs => ?_⟩
     have hv := rep_v (ev_rep hs (find_ev hq hym hb))
     have hl : str.data.toList.length = str.size := by simp
     refine core (ys := (str.data.toList.take n).map eB) (vs := (str.data.toList.take n).map fun b => Value.int .u8 (b.toNat : Int)) hs hq (ht k (by simp [touch])) rfl (by rw [hv]; rfl) ?_ (reps_bytes _) (by simp [hl, Nat.min_comm]) (by rw [q3]; exact fit_byte)
     rw [hv, flat_bytes]
     simp only [Builtin.firstCells, Sem.run_pure]
     congr 1
     apply Array.ext'
     simp [List.map_take, Nat.min_comm]
    ·split at h
     ·rename_i xs ks hel
      obtain ⟨hsl, h⟩ := h
      refine ⟨_, h, fun s hd hq ht => opAt_chg hd fun Z lb a w hs => ?_⟩
      obtain ⟨vs, hr⟩ := elemsOf_rep hs.own hp (fun k' hk' => ht k' (by simp [touch, hk'])) hel (ev_rep hs (find_ev hq hym hb)) fun k' sz'' st' n' hz' => by subst hz'; exact hsl
      have hl := hr.rep.length
      have hlt : (vs.take n).length = min xs.length n := by simp [hl, Nat.min_comm]
      refine core (ys := xs.take n) (vs := vs.take n) (ln := xs.length) hs hq (ht k (by simp [touch])) rfl ?_ ?_ (hr.rep.take n) hlt (fun q hq' => hr.len q (List.mem_of_mem_take hq'))
      ·rcases hr.val with ⟨c, hu, hv⟩ | ⟨ad, n', c, hu, hn, hcs⟩
       ·rw [hu]; simp [Builtin.lenOf]; rw [← hl, hv]; rfl
       ·rw [hu]; simp [Builtin.lenOf]; omega
      ·rcases hr.val with ⟨c, hu, hv⟩ | ⟨ad, n', c, hu, hn, hcs⟩
       ·rw [hu]; subst hv; simp [Builtin.firstCells, flat]
       ·rw [hu]
        refine run_firstCells_some w _ _ ad _ _ _ (by rw [flat_length fun q hq => (hr.len q (List.mem_of_mem_take hq)).1, hlt]) fun q v hq' => ?_
        have hsplit : flat vs = flat (vs.take n) ++ flat (vs.drop n) := by rw [← flat_append, List.take_append_drop]
        refine hcs q v ?_
        rw [hsplit, List.getElem?_append_left]
        ·exact hq'
        ·rcases Nat.lt_or_ge q (flat (vs.take n)).length with h' | h'
         ·exact h'
         ·simp [List.getElem?_eq_none h'] at hq'
     ·exact h.elim
   ·exact h.elim
  ·exact h.elim
 ·exact h1.elim
def vClear (E : Env) (T : TypeId) (x : Operand) : Vop := fun ρ ℓ K => withTy E T fun i => match i.k with
 | .slice _ esz _ ez => onB (Nat.beq (vcells ez).length esz) <| onB (allOneB (vcells ez)) <| onB (Nat.blt 0 esz) <| withV (ρ x) fun a => match a with
  | .sl k sz st n => withO (ℓ k) fun
   | .arr sz' es => onB (Nat.beq sz esz) <| onB (Nat.beq sz' esz) <| st + n ≤ es.length ∧ K ⟨some (.p (.tup [])), [], [(k, some (.arr esz (es.take st ++ (List.replicate n (pzero ez) ++ es.drop (st + n)))))]⟩
   | _ => False
  | _ => False
 | _ => False
theorem zeroCells_flat (z : Value) (n : Nat) (h0 : 0 < (vcells z).length) : (Builtin.zeroCells z.cells n).toList = flat (List.replicate n z) := by
 have hs : z.cells.size = (vcells z).length := by simp [vcells]
 have hfl : (flat (List.replicate n z)).length = n * (vcells z).length := by rw [flat_length (sz := (vcells z).length) fun q hq => by rw [List.eq_of_mem_replicate hq], List.length_replicate]
 apply List.ext_getElem?
 intro i
 rcases Nat.lt_or_ge i (n * (vcells z).length) with h | h
 ·have hq : i % (vcells z).length < (vcells z).length := Nat.mod_lt _ h0
  have hp : i / (vcells z).length < n := by rw [Nat.div_lt_iff_lt_mul h0]; exact h
  have e1 := flat_at (sz := (vcells z).length) (us := List.replicate n z) (fun q hq => by rw [List.eq_of_mem_replicate hq]) (i / (vcells z).length) z (by rw [List.getElem?_replicate, if_pos hp]) (i % (vcells z).length) _ (List.getElem?_eq_getElem hq)
  rw [Nat.mul_comm, Nat.div_add_mod] at e1
  rw [e1]
  have hz : i % z.cells.size < z.cells.size := by rw [hs]; exact hq
  rw [Builtin.zeroCells, Array.getElem?_toList, Array.getElem?_map, Array.getElem?_range, if_pos (by rw [hs]; exact h), Option.map_some, getElem!_pos z.cells _ hz]
  simp only [vcells, Array.length_toList, Array.getElem_toList]
 ·have h2 : (Builtin.zeroCells z.cells n).toList.length = n * (vcells z).length := by simp [Builtin.zeroCells, hs]
  rw [List.getElem?_eq_none (by rw [h2]; exact h), List.getElem?_eq_none (by rw [hfl]; exact h)]
theorem sClear (E : Env) (o : Oper) (T : TypeId) (x : Operand) (ho : o.op = .call { callee := .builtin .clear, args := #[x], argTypes := #[T] }) : Sound E o (vClear E T x) := by
 intro ρ ℓ K h0
 obtain ⟨i, d, inf, z, h, F⟩ := withTy_some h0
 clear h0
 split at h
 ·rename_i e esz eb ez hk
  obtain ⟨q1, h1⟩ := onB_some h
  obtain ⟨q2, h2⟩ := onB_some h1
  obtain ⟨q3, h3⟩ := onB_some h2
  obtain ⟨a0, ha, h4⟩ := withV_some h3
  clear h h1 h2 h3
  have q1 := Nat.eq_of_beq_eq_true q1
  have q2 := allOneB_ok q2
  have q3 : 0 < esz := Nat.le_of_ble_eq_true q3
  have hxm : x ∈ o.op.operands := by simp [ho, Op.operands, Call.operands]
  split at h4
  ·rename_i k sz st n
   obtain ⟨ob, hob, h⟩ := withO_some h4
   split at h
   ·rename_i sz' es
    obtain ⟨p1, h5⟩ := onB_some h
    obtain ⟨p2, hst, h⟩ := onB_some h5
    have p1 := Nat.eq_of_beq_eq_true p1
    have p2 := Nat.eq_of_beq_eq_true p2
    subst p1; subst p2
    clear h5
    refine ⟨_, h, fun s hd hq ht => opAt_chg hd fun Z lb a w hs => ?_⟩
    obtain ⟨rfl, j, zz, i1, i2, i3, i4, i5⟩ := F.slice hk
    subst i5
    have hrx := ev_rep hs (find_ev hq hxm ha)
    have hk1 : s.L[k]? = some (some (.arr sz' es)) := (ht k (by simp [touch])).trans hob
    simp only [ARep] at hrx
    rcases hrx with ⟨e1, e2, e3, e4⟩ | ⟨b, cap, e3, e4, e5, e6⟩
    ·refine ⟨.tuple #[], w, Z, lb, ?_, Stp.refl _ _ _, ?_, by simp [ARep, Rep, Reps]⟩
     ·simp only [execOp, ho, resolve, invoke, builtin, Sem.run_bind]
      simp [Builtin.clear_, run_underlying F.und, e4]
     ·simp only [setAll, setL_eq, e2, Nat.add_zero, List.replicate_zero, List.nil_append, List.take_append_drop]
      rw [set_same hk1]
      exact hs.own
    ·have hfit : ∀ q, q ∈ List.replicate n zz → Fit sz' q := fun q hq => by rw [List.eq_of_mem_replicate hq]; exact ⟨q1, q2⟩
     obtain ⟨c, ty, fr, g1, g2, g3, g4, g5⟩ := copy_core hs.own hk1 e3 (st := st) (m := n) hst (reps_replicate (pzero_rep q2) n) (by simp) hfit
     rcases Nat.eq_zero_or_pos n with hn | hn
     ·subst hn
      refine ⟨.tuple #[], w, Z, lb, ?_, Stp.refl _ _ _, ?_, by simp [ARep, Rep, Reps]⟩
      ·simp only [execOp, ho, resolve, invoke, builtin, Sem.run_bind]
       simp [Builtin.clear_, run_underlying F.und, e4]
      ·simp only [setAll, setL_eq, Nat.add_zero, List.replicate_zero, List.nil_append, List.take_append_drop]
       rw [set_same hk1]
       exact hs.own
     ·have hstore := run_storeCells_ab E.P b (st * sz') ty fr (flat (List.replicate n zz)) 0 c w g1 (by omega) g2 (flat_one fun q hq => (hfit q hq).2)
      rw [Nat.add_zero] at hstore
      refine ⟨.tuple #[], _, Z, lb, ?_, g4, by simpa [setAll, setL_eq] using g5, by simp [ARep, Rep, Reps]⟩
      obtain ⟨m, rfl⟩ : ∃ m, n = m + 1 := ⟨n - 1, by omega⟩
      simp only [execOp, ho, resolve, invoke, builtin, Sem.run_bind]
      have hzr : (zeroValue e).run E.P w = .ok zz w := by unfold zeroValue; simp [run_typeInfo w i1, i2]
      simp [Builtin.clear_, run_underlying F.und, e4, hzr, zeroCells_flat zz (m + 1) (by omega), hstore]
   ·exact h.elim
  ·exact h4.elim
 ·exact h.elim
end Go.Ab
namespace Go.Ab
variable [Glob]
theorem TyFacts.map {P : Program} {T : TypeId} {i : TyI} {d : TypeDesc} {inf : TypeInfo} {z : Value} (F : TyFacts P T i d inf z) {k e : TypeId} {ez : Value} (h : i.k = .map k e ez) :
  d = .map k e ∧ ∃ j zz, P.info? e = some j ∧ j.zero = some zz ∧ zz = ez := by
 have hk := F.k
 rw [h] at hk
 cases d <;> simp only [kindOf] at hk <;> (repeat' split at hk) <;> simp only [Option.some.injEq, reduceCtorEq, TK.map.injEq] at hk
 obtain ⟨rfl, rfl, rfl⟩ := hk
 exact ⟨rfl, _, _, by assumption, by assumption, rfl⟩
def ekOf : Value → Option EK
 | .bool false => some (.b fun _ => false)
 | .int k n => match decide (n = 0) with
  | true => some (.i k fun _ => none)
  | false => none
 | _ => none
def kkOf : TK → Option (Option IntKind)
 | .int k => some (some k)
 | .str => some none
 | _ => none
theorem kkOf_desc {P : Program} {T : TypeId} {i : TyI} {d : TypeDesc} {inf : TypeInfo} {z : Value} (F : TyFacts P T i d inf z) {kk : Option IntKind} (h : kkOf i.k = some kk) : d = keyD kk := by
 unfold kkOf at h
 split at h <;> simp only [Option.some.injEq, reduceCtorEq] at h <;> subst h
 ·exact F.int (by assumption)
 ·exact F.str (by assumption)
def kkEq : Option IntKind → Option IntKind → Bool
 | some a, some b => kbeq a b
 | none, none => true
 | _, _ => false
theorem kkEq_eq {a b : Option IntKind} (h : kkEq a b = true) : a = b := by
 cases a <;> cases b <;> simp_all [kkEq]
 exact kbeq_eq h
def ezOk : EK → Value → Bool
 | .b _, .bool false => true
 | .i k _, .int k' n => match kbeq k k', decide (n = 0) with
  | true, true => true
  | _, _ => false
 | _, _ => false
theorem ezOk_eq {ek : EK} {z : Value} (h : ezOk ek z = true) : z = ek.zero := by
 unfold ezOk at h
 split at h
 ·rfl
 ·split at h
  ·rename_i hk hn
   rw [kbeq_eq hk, of_decide_eq_true hn]; rfl
  ·simp at h
 ·simp at h
def keyOk : Option IntKind → Value → Bool
 | some k, .int k' _ => kbeq k k'
 | none, .string _ => true
 | _, _ => false
theorem keyOk_is {kk : Option IntKind} {v : Value} (h : keyOk kk v = true) : MapKept.IsKey (keyD kk) v := by
 cases kk <;> cases v <;> simp_all [keyOk, keyD, MapKept.IsKey]
 exact (kbeq_eq h).symm
open Classical in
noncomputable def updF {α : Type} (f : Value → α) (key : Value) (v : α) : Value → α := fun k => if k = key then v else f k
noncomputable def mapPut : EK → Value → Value → Option EK
 | .b f, key, .bool v => some (.b (updF f key v))
 | .i d f, key, .int d' n => match kbeq d d' with
  | true => some (.i d (updF f key (some n)))
  | false => none
 | _, _, _ => none
theorem mapPut_get {ek ek' : EK} {key v : Value} (h : mapPut ek key v = some ek') : ek'.get key = v ∧ (∀ k, k ≠ key → ek'.get k = ek.get k) ∧ ek'.zero = ek.zero ∧ ek'.has key ∧ ∀ k, ek.has k → ek'.has k := by
 unfold mapPut at h
 split at h
 ·simp only [Option.some.injEq] at h; subst h
  exact ⟨by simp [EK.get, updF], fun k hk => by simp [EK.get, updF, hk], rfl, trivial, fun _ _ => trivial⟩
 ·split at h
  ·rename_i hk
   simp only [Option.some.injEq] at h; subst h
   exact ⟨by simp [EK.get, updF, kbeq_eq hk], fun k hk => by simp [EK.get, updF, hk], rfl, by simp [EK.has, updF], fun k hk => by simp only [EK.has, updF] at hk ⊢; split <;> first | rfl | exact hk⟩
  ·simp at h
 ·simp at h
theorem stp_map {Z : Nat → Prop} {lb : Lb} {w : World} {b k : Nat} {es es' : Array MapEntry} {cl cl' : Nat} (hz : ¬ Z b) (hk : lb[k]? = some (some (some b)))
  (h : w.heap[b]? = some (.map es cl)) : Stp Z lb w Z lb { w with heap := w.heap.setIfInBounds b (.map es' cl') } := by
 have h2 := MapKept.heap_set (o' := .map es' cl') h
 exact {
  os := rfl, tape := rfl, output := ⟨rfl, fun _ => Nat.le_refl _⟩
  size := by simp
  keep := fun x hx => h2.2 x fun hh => hz (hh ▸ hx)
  z1 := fun _ h => h
  z2 := fun _ h _ => .inl h
  bs := fun x _ => by
   by_cases hxb : x = b
   ·subst hxb
    simp only [bsize, h]
    rw [h2.1]
   ·simp only [bsize]
    rw [h2.2 x hxb]
  hp := fun x _ hn => h2.2 x fun hh => by subst hh; exact hn k hk
  le := fun _ _ h => h
  fresh := fun i b hi => .inl ⟨i, hi⟩
  len := rfl }
theorem Own.putMap {Z : Nat → Prop} {lb : Lb} {L : List (Option Ob)} {w : World} (h : Own Z lb L w) {k b : Nat} {o o' : Ob} (hk : L[k]? = some (some o)) (hl : o.live) (hb : lb[k]? = some (some (some b)))
  {es es' : Array MapEntry} {cl cl' : Nat} (hh : w.heap[b]? = some (.map es cl))
  (hob : ObAt Z lb { w with heap := w.heap.setIfInBounds b (.map es' cl') } o' (some b)) :
  Stp Z lb w Z lb { w with heap := w.heap.setIfInBounds b (.map es' cl') } ∧ Own Z lb (L.set k (some o')) { w with heap := w.heap.setIfInBounds b (.map es' cl') } := by
 obtain ⟨x, h1, h2⟩ := h.obj k o hk
 rw [hb] at h1
 simp only [Option.some.injEq] at h1
 subst h1
 obtain ⟨g1, g2⟩ := h2.block hl
 have st : Stp Z lb w Z lb { w with heap := w.heap.setIfInBounds b (.map es' cl') } := stp_map g1 hb hh
 refine ⟨st, h.upd st ?_ hb hob ?_ (fun i _ hi => h.hole i hi) fun x hx => by have := h.zlt.lt x hx; simpa using this⟩
 ·rcases Nat.lt_or_ge k L.length with h' | h'
  ·exact h'
  ·simp [List.getElem?_eq_none h'] at hk
 ·intro i o1 b1 hik hi hl1 hb1
  have hne : b1 ≠ b := fun hh => by subst hh; exact hik (h.inj i k o1 o b1 hi hk hl1 hl hb1 hb)
  obtain ⟨x, h3, h4⟩ := h.obj i o1 hi
  rw [hb1] at h3
  simp only [Option.some.injEq] at h3
  subst h3
  exact ⟨(MapKept.heap_set (o' := .map es' cl') hh).2 b1 hne, (h4.block hl1).1, fun hh => hne (by simpa using hh.symm)⟩
theorem obj_mp {Z : Nat → Prop} {lb : Lb} {L : List (Option Ob)} {w : World} (h : Own Z lb L w) {k b : Nat} {kk : Option IntKind} {ek : EK} (hk : L[k]? = some (some (.mp kk ek))) (hb : lb[k]? = some (some (some b))) :
  ¬ Z b ∧ b < w.heap.size ∧ ∃ es cl, w.heap[b]? = some (.map es cl) ∧ MapIs kk ek es cl := by
 obtain ⟨x, k1, k2⟩ := h.obj k _ hk
 rw [hb] at k1
 simp only [Option.some.injEq] at k1
 subst k1
 exact k2
def vMakeMap (E : Env) (rank : Nat) (T : TypeId) : Vop := fun _ ℓ K => onB (isHole (ℓ rank)) <| withTy E T fun i => match i.k with
 | .map k _ z => withTy E k fun j => (match kkOf j.k, ekOf z with
  | some kk, some ek => K ⟨some (.mref rank), [], [(rank, some (.mp kk ek))]⟩
  | _, _ => False)
 | _ => False
theorem sMakeMap (E : Env) (o : Oper) (rank : Nat) (T : TypeId) (ho : o.op = .makeMap T none) : Sound E o (vMakeMap E rank T) := by
 intro ρ ℓ K h
 obtain ⟨h0, h⟩ := onB_some h
 obtain ⟨i, d, inf, z, h, F⟩ := withTy_some h
 split at h
 ·rename_i k e ez hik
  obtain ⟨j, dk, infk, zk, h, Fk⟩ := withTy_some h
  split at h
  ·rename_i kk ek hkk hek
   refine ⟨_, h, fun s hd hq ht => opAt_chg hd fun Z lb a w hs => ?_⟩
   have hr : s.L[rank]? = some none := (ht rank (by simp [touch])).trans (isHole_eq h0)
   obtain ⟨lb', st, own, hb⟩ := hs.own.new hr (ob := .map #[] 0) (o' := .mp kk ek) (fun lb' st hz => ⟨hz, by simp, #[], 0, alloc_heap_new, MapKept.stamped_empty 0, by simp, by simp, by
    intro k _ _
    unfold ekOf at hek
    (repeat' split at hek) <;> simp only [Option.some.injEq, reduceCtorEq] at hek <;> subst hek <;> rfl, by simp⟩)
   refine ⟨.map (some w.heap.size), _, Z, lb', ?_, st, by simpa [setAll, setL_eq] using own, by simp only [ARep]; exact ⟨_, hb, rfl⟩⟩
   simp only [execOp, ho, Option.map_none, Sem.run_bind, Sem.run_pure, Result.andThen_ok, Instr.makeMap, run_newObj, World.alloc_eq]
  ·exact h.elim
 ·exact h.elim
def vLookup (E : Env) (T : TypeId) (x ix : Operand) (ok : Bool) : Vop := fun ρ ℓ K => match ok with
 | true => False
 | false => withTy E T fun i => match i.k with
  | .map kt _ ez => withTy E kt fun j => withV (ρ x) fun
   | .mref m => withO (ℓ m) fun
    | .mp kk ek => withV (ρ ix) fun
     | .p (.v key) => (match kkOf j.k with
      | some kk' => kkEq kk' kk = true ∧ ezOk ek ez = true ∧ keyOk kk key = true ∧ K ⟨some (.p (.v (ek.get key))), [m], []⟩
      | none => False)
     | _ => False
    | _ => False
   | _ => False
  | _ => False
theorem sLookup (E : Env) (o : Oper) (T : TypeId) (x ix : Operand) (ok : Bool) (ho : o.op = .lookup T x ix ok) : Sound E o (vLookup E T x ix ok) := by
 intro ρ ℓ K h
 unfold vLookup at h
 split at h
 ·exact h.elim
 obtain ⟨i, d, inf, z, h, F⟩ := withTy_some h
 split at h
 ·rename_i kt e ez hik
  obtain ⟨rfl, jm, zz, hj1, hj2, rfl⟩ := F.map hik
  obtain ⟨j, dk, infk, zk, h, Fk⟩ := withTy_some h
  obtain ⟨p, hp, h⟩ := withV_some h
  split at h
  ·rename_i m
   obtain ⟨ob, hob, h⟩ := withO_some h
   split at h
   ·rename_i kk ek
    obtain ⟨q, hq, h⟩ := withV_some h
    split at h
    ·rename_i key
     split at h
     ·rename_i kk' hkk
      obtain ⟨h1, h2, h3, hK⟩ := h
      have h1 := kkEq_eq h1
      subst h1
      have h2 := ezOk_eq h2
      have hk3 := keyOk_is h3
      have hdk := kkOf_desc Fk hkk
      have hxm : x ∈ o.op.operands := by simp [ho, Op.operands]
      have him : ix ∈ o.op.operands := by simp [ho, Op.operands]
      refine ⟨_, hK, fun s hd hq' ht => opAt_val hd fun Z lb a w hs => ?_⟩
      have hr := ev_rep hs (find_ev hq' hxm hp)
      have hr2 := ev_rep hs (find_ev hq' him hq)
      have hkm : s.L[m]? = some (some (.mp kk' ek)) := (ht m (by simp [touch])).trans hob
      simp only [ARep] at hr
      obtain ⟨b, hb, hu⟩ := hr
      simp only [ARep, Rep] at hr2
      obtain ⟨_, _, es, cl, hh, hm⟩ := obj_mp hs.own hkm hb
      have hund : E.P.underlying kt = some (keyD kk') := hdk ▸ Fk.und
      have hck : (Instr.checkKey es.isEmpty 10000 kt key).run E.P w = .ok () w := MapKept.run_checkKey hund hk3 _ 9999
      have hone : oneB (ek.get key) = true := by cases ek <;> rfl
      refine ⟨ek.get key, ?_, by simp only [ARep, Rep]; exact ⟨trivial, hone⟩⟩
      have hzero : (zeroValue e).run E.P w = .ok zz w := by
       unfold zeroValue; simp [run_typeInfo w hj1, hj2]
      rcases MapKept.findNow_spec hk3 es.toList 0 hm.keys with ⟨g1, g2⟩ | ⟨n, e', g1, g2, g3⟩
      ·have hf := MapKept.run_findKey (w := w) hund g1
       have hv := hm.out key hk3 g2
       simp only [execOp, ho, hu, hr2.1, Instr.lookup, Sem.run_bind, F.run_und, Result.andThen_ok, MapKept.run_getObj_map hh, Sem.run_pure, hck, hf, hzero, h2, hv, Bool.false_eq_true, if_false]
      ·have hf := MapKept.run_findKey (w := w) hund g1
       have hv := hm.val e' (List.mem_of_getElem? g2)
       rw [g3] at hv
       simp only [execOp, ho, hu, hr2.1, Instr.lookup, Sem.run_bind, F.run_und, Result.andThen_ok, MapKept.run_getObj_map hh, Sem.run_pure, hck, hf, hv, Bool.false_eq_true, if_false]
     ·exact h.elim
    ·exact h.elim
   ·exact h.elim
  ·exact h.elim
 ·exact h.elim
def vMapUpdate (E : Env) (T : TypeId) (m k x : Operand) : Vop := fun ρ ℓ K => withTy E T fun i => match i.k with
 | .map kt _ _ => withTy E kt fun j => withV (ρ m) fun
  | .mref n => withO (ℓ n) fun
   | .mp kk ek => withV (ρ k) fun
    | .p (.v key) => withV (ρ x) fun
     | .p (.v val) => (match kkOf j.k, mapPut ek key val with
      | some kk', some ek' => kkEq kk' kk = true ∧ keyOk kk key = true ∧ K ⟨none, [], [(n, some (.mp kk ek'))]⟩
      | _, _ => False)
     | _ => False
    | _ => False
   | _ => False
  | _ => False
 | _ => False
theorem sameBits_key {d : TypeDesc} {a : Value} (h : MapKept.IsKey d a) (n : Nat) : Instr.sameBits n a a = true := by
 cases d <;> cases a <;> simp_all [MapKept.IsKey] <;> cases n <;> simp [Instr.sameBits, (MapKept.bytes_beq _ _).2]
theorem sMapUpdate (E : Env) (o : Oper) (T : TypeId) (m k x : Operand) (ho : o.op = .mapUpdate T m k x) : Sound E o (vMapUpdate E T m k x) := by
 intro ρ ℓ K h
 obtain ⟨i, d, inf, z, h, F⟩ := withTy_some h
 split at h
 ·rename_i kt e ez hik
  obtain ⟨rfl, jm, zz, hj1, hj2, rfl⟩ := F.map hik
  obtain ⟨j, dk, infk, zk, h, Fk⟩ := withTy_some h
  obtain ⟨p, hp, h⟩ := withV_some h
  split at h
  ·rename_i n
   obtain ⟨ob, hob, h⟩ := withO_some h
   split at h
   ·rename_i kk ek
    obtain ⟨q, hq, h⟩ := withV_some h
    split at h
    ·rename_i key
     obtain ⟨y, hy, h⟩ := withV_some h
     split at h
     ·rename_i val
      split at h
      ·rename_i kk' ek' hkk hput
       obtain ⟨h1, h3, hK⟩ := h
       have h1 := kkEq_eq h1
       subst h1
       have hk3 := keyOk_is h3
       have hdk := kkOf_desc Fk hkk
       obtain ⟨p1, p2, p3, p4, p5⟩ := mapPut_get hput
       refine ⟨_, hK, fun s hd hq' ht => opAt_skip hd fun Z lb a w hs => ?_⟩
       have hr := ev_rep hs (find_ev hq' (by simp [ho, Op.operands]) hp)
       have hr2 := ev_rep hs (find_ev hq' (by simp [ho, Op.operands]) hq)
       have hr3 := ev_rep hs (find_ev hq' (by simp [ho, Op.operands]) hy)
       have hkm : s.L[n]? = some (some (.mp kk' ek)) := (ht n (by simp [touch])).trans hob
       simp only [ARep] at hr
       obtain ⟨b, hb, hu⟩ := hr
       simp only [ARep, Rep] at hr2 hr3
       obtain ⟨z1, z2, es, cl, hh, hm⟩ := obj_mp hs.own hkm hb
       have hund : E.P.underlying kt = some (keyD kk') := hdk ▸ Fk.und
       have hck : (Instr.checkKey false 10000 kt key).run E.P w = .ok () w := MapKept.run_checkKey hund hk3 _ 9999
       rcases MapKept.findNow_spec hk3 es.toList 0 hm.keys with ⟨g1, g2⟩ | ⟨i0, e', g1, g2, g3⟩
       ·have hf := MapKept.run_findKey (w := w) hund g1
        have hm' : MapIs kk' ek' (es.push { key, val, born := cl }) (cl + 1) := by
         refine ⟨MapKept.stamped_push hm.st g2, fun e he => ?_, fun e he => ?_, fun k hk hn => ?_, fun e he => ?_⟩
         ·simp only [Array.toList_push, List.mem_append, List.mem_singleton] at he
          rcases he with he | rfl
          ·exact hm.keys e he
          ·exact hk3
         ·simp only [Array.toList_push, List.mem_append, List.mem_singleton] at he
          rcases he with he | rfl
          ·rw [p2 _ (g2 e he)]; exact hm.val e he
          ·exact p1.symm
         ·simp only [Array.toList_push, List.mem_append, List.mem_singleton] at hn
          rw [p2 k fun hh => hn _ (.inr rfl) hh.symm, p3]
          exact hm.out k hk fun e he => hn e (.inl he)
         ·simp only [Array.toList_push, List.mem_append, List.mem_singleton] at he
          rcases he with he | rfl
          ·exact p5 _ (hm.has e he)
          ·exact p4
        obtain ⟨st, own⟩ := hs.own.putMap (o' := .mp kk' ek') hkm trivial hb hh ⟨z1, by simpa using z2, _, _, (MapKept.heap_set (o' := .map (es.push { key, val, born := cl }) (cl + 1)) hh).1, hm'⟩
        refine ⟨_, Z, lb, ?_, st, by simpa [setAll, setL_eq] using own⟩
        simp only [execOp, ho, hu, hr2.1, hr3.1, Instr.mapUpdate, Sem.run_bind, Sem.run_pure, F.run_und, Result.andThen_ok, MapKept.run_getObj_map hh, hck, hf, MapKept.run_setObj_map _ hh]
       ·have hf := MapKept.run_findKey (w := w) hund g1
        simp only [Nat.zero_add] at hf
        have hes : es[i0]? = some e' := by simpa using g2
        have hkeyn : ∀ e, es[i0]? = some e → ({ e with key := key, val := val } : MapEntry).key = e.key := fun e he => by
         rw [hes] at he; cases he; exact g3.symm
        have hst := MapKept.stamped_modify hm.st i0 (fun e => { e with key := key, val := val }) (fun _ _ => rfl) (fun e _ he => hkeyn e he)
        have hmem : ∀ e, e ∈ (es.modify i0 fun e => { e with key := key, val := val }).toList → (e.key = key ∧ e.val = val) ∨ (e ∈ es.toList ∧ e.key ≠ key) := by
         intro e he
         obtain ⟨n0, hn0⟩ := List.mem_iff_getElem?.1 he
         simp only [Array.getElem?_toList, Array.getElem?_modify] at hn0
         by_cases hin : i0 = n0
         ·subst hin
          rw [if_pos rfl, hes] at hn0
          simp only [Option.map_some, Option.some.injEq] at hn0
          subst hn0
          exact .inl ⟨rfl, rfl⟩
         ·rw [if_neg hin] at hn0
          refine .inr ⟨List.mem_iff_getElem?.2 ⟨n0, by simpa using hn0⟩, fun hh => ?_⟩
          have hnd := hm.st.2.2
          have a1 : (es.toList.map (·.key))[n0]? = some key := by simp [hn0, hh]
          have a2 : (es.toList.map (·.key))[i0]? = some key := by simp [hes, g3]
          have hl : n0 < (es.toList.map (·.key)).length := by
           rcases Nat.lt_or_ge n0 (es.toList.map (·.key)).length with h' | h'
           ·exact h'
           ·rw [List.getElem?_eq_none h'] at a1; simp at a1
          exact hin (((List.getElem?_inj hl hnd).1 (a1.trans a2.symm)).symm)
        have hm' : MapIs kk' ek' (es.modify i0 fun e => { e with key := key, val := val }) cl := by
         refine ⟨hst, fun e he => ?_, fun e he => ?_, fun k hk hn => ?_, fun e he => ?_⟩
         ·rcases hmem e he with ⟨q1, _⟩ | ⟨q1, _⟩
          ·rw [q1]; exact hk3
          ·exact hm.keys e q1
         ·rcases hmem e he with ⟨q1, q2⟩ | ⟨q1, q2⟩
          ·rw [q1, q2]; exact p1.symm
          ·rw [p2 _ q2]; exact hm.val e q1
         ·have hmk := MapKept.modify_keys i0 (fun e => { e with key := key, val := val }) hkeyn
          have hin : ∀ e, e ∈ es.toList → e.key ≠ k := fun e he hh => by
           have : e.key ∈ es.toList.map (·.key) := List.mem_map.2 ⟨e, he, rfl⟩
           rw [← hmk] at this
           obtain ⟨e2, he2, he3⟩ := List.mem_map.1 this
           exact hn e2 he2 (he3.trans hh)
          have hne : k ≠ key := fun hh => hin e' (List.mem_of_getElem? g2) (g3.trans hh.symm)
          rw [p2 k hne, p3]
          exact hm.out k hk hin
         ·rcases hmem e he with ⟨q1, _⟩ | ⟨q1, _⟩
          ·rw [q1]; exact p4
          ·exact p5 _ (hm.has e q1)
        obtain ⟨st, own⟩ := hs.own.putMap (o' := .mp kk' ek') hkm trivial hb hh ⟨z1, by simpa using z2, _, _, (MapKept.heap_set (o' := .map (es.modify i0 fun e => { e with key := key, val := val }) cl) hh).1, hm'⟩
        refine ⟨_, Z, lb, ?_, st, by simpa [setAll, setL_eq] using own⟩
        have hsb := sameBits_key hk3 10000
        simp only [execOp, ho, hu, hr2.1, hr3.1, Instr.mapUpdate, Instr.keyThatStays, Sem.run_bind, Sem.run_pure, F.run_und, Result.andThen_ok, MapKept.run_getObj_map hh, hck, hf, hes, Option.map_some, Option.getD_some, g3, hsb, if_true, MapKept.run_setObj_map _ hh]
      ·exact h.elim
     ·exact h.elim
    ·exact h.elim
   ·exact h.elim
  ·exact h.elim
 ·exact h.elim
def EK.zeroed : EK → EK
 | .b _ => .b fun _ => false
 | .i d _ => .i d fun _ => none
def vClearM (E : Env) (T : TypeId) (x : Operand) : Vop := fun ρ ℓ K => withTy E T fun i => match i.k with
 | .map _ _ _ => withV (ρ x) fun
  | .mref n => withO (ℓ n) fun
   | .mp kk ek => K ⟨some (.p (.tup [])), [], [(n, some (.mp kk ek.zeroed))]⟩
   | _ => False
  | _ => False
 | _ => False
theorem mapIs_empty (kk : Option IntKind) (ek : EK) (cl : Nat) : MapIs kk ek.zeroed #[] cl :=
 ⟨MapKept.stamped_empty cl, fun e he => by simp at he, fun e he => by simp at he, fun k _ _ => by cases ek <;> rfl, fun e he => by simp at he⟩
theorem sClearM (E : Env) (o : Oper) (T : TypeId) (x : Operand) (ho : o.op = .call { callee := .builtin .clear, args := #[x], argTypes := #[T] }) : Sound E o (vClearM E T x) := by
 intro ρ ℓ K h0
 obtain ⟨i, d, inf, z, h, F⟩ := withTy_some h0
 clear h0
 split at h
 ·rename_i kt e ez hik
  obtain ⟨rfl, jm, zz, hj1, hj2, rfl⟩ := F.map hik
  obtain ⟨a0, ha, h4⟩ := withV_some h
  have hxm : x ∈ o.op.operands := by simp [ho, Op.operands, Call.operands]
  split at h4
  ·rename_i n
   obtain ⟨ob, hob, h⟩ := withO_some h4
   split at h
   ·rename_i kk ek
    refine ⟨_, h, fun s hd hq ht => opAt_chg hd fun Z lb a w hs => ?_⟩
    have hr := ev_rep hs (find_ev hq hxm ha)
    have hkm : s.L[n]? = some (some (.mp kk ek)) := (ht n (by simp [touch])).trans hob
    simp only [ARep] at hr
    obtain ⟨b, hb, hu⟩ := hr
    obtain ⟨z1, z2, es, cl, hh, hm⟩ := obj_mp hs.own hkm hb
    have h2 := MapKept.heap_set (o' := .map #[] cl) hh
    obtain ⟨st, own⟩ := hs.own.putMap hkm trivial hb hh (es' := #[]) (cl' := cl) (o' := .mp kk ek.zeroed) ⟨z1, by simpa using z2, #[], cl, h2.1, mapIs_empty kk ek cl⟩
    refine ⟨.tuple #[], _, Z, lb, ?_, st, by simpa [setAll, setL_eq] using own, by simp [ARep, Rep, Reps]⟩
    simp only [execOp, ho, resolve, invoke, builtin, Sem.run_bind]
    simp [Builtin.clear_, run_underlying F.und, hu, MapKept.run_getObj_map hh, MapKept.run_setObj_map _ hh]
   ·exact h.elim
  ·exact h4.elim
 ·exact h.elim
end Go.Ab
namespace Go.Ab
variable [Glob]
def vRange (E : Env) (rank : Nat) (T : TypeId) (x : Operand) : Vop := fun ρ ℓ K => onB (isHole (ℓ rank)) <| withTy E T fun i => match i.k with
 | .map _ _ _ => withV (ρ x) fun
  | .mref m => withO (ℓ m) fun
   | .mpx _ _ cl => K ⟨some (.loc rank 0), [m], [(rank, some (.it (.mref m) cl #[] cl))]⟩
   | _ => False
  | _ => False
 | _ => False
theorem sRange (E : Env) (o : Oper) (rank : Nat) (T : TypeId) (x : Operand) (ho : o.op = .range T x) : Sound E o (vRange E rank T x) := by
 intro ρ ℓ K h
 obtain ⟨h0, h⟩ := onB_some h
 obtain ⟨i, d, inf, z, h, F⟩ := withTy_some h
 split at h
 ·rename_i kt e ez hik
  obtain ⟨rfl, jm, zz, hj1, hj2, rfl⟩ := F.map hik
  obtain ⟨p, hp, h⟩ := withV_some h
  split at h
  ·rename_i m
   obtain ⟨ob, hob, h⟩ := withO_some h
   split at h
   ·rename_i kk es cl
    refine ⟨_, h, fun s hd hq ht => opAt_chg hd fun Z lb a w hs => ?_⟩
    have hr := ev_rep hs (find_ev hq (by simp [ho, Op.operands]) hp)
    have hr0 := hr
    simp only [ARep] at hr
    obtain ⟨b, hb, hu⟩ := hr
    have hkm : s.L[m]? = some (some (.mpx kk es cl)) := (ht m (by simp [touch])).trans hob
    obtain ⟨x0, k1, k2⟩ := hs.own.obj m _ hkm
    rw [hb] at k1
    simp only [Option.some.injEq] at k1
    subst k1
    obtain ⟨z1, z2, hh⟩ := k2
    have hrk : s.L[rank]? = some none := (ht rank (by simp [touch])).trans (isHole_eq h0)
    rw [hu] at hr0
    obtain ⟨lb', st, own, hb'⟩ := hs.own.new hrk (ob := .mapIter (some b) cl #[] cl) (o' := .it (.mref m) cl #[] cl) (fun lb' st hz => ⟨hz, by simp, some b, st.arep hr0, alloc_heap_new⟩)
    refine ⟨.pointer (some ⟨w.heap.size, 0, none⟩), _, Z, lb', ?_, st, by simpa [setAll, setL_eq] using own, by simp only [ARep]; exact ⟨_, hb', rfl⟩⟩
    simp only [execOp, ho, hu, Sem.run_bind, run_range_map w T kt e b es cl F.und hh, Result.andThen_ok, Sem.run_pure]
   ·exact h.elim
  ·exact h.elim
 ·exact h.elim
def vEntry (x : Operand) : Vop := fun ρ ℓ K => withV (ρ x) fun
 | .loc k off => off = 0 ∧ withO (ℓ k) fun
  | .it q _ seen last => (match q with
   | .mref m => withO (ℓ m) fun
    | .mpx _ es cl => pickE (fun e : MapEntry => e ∈ es.toList ∧ seen.back? = some e.born ∧ (es.toList.map (·.born)).Nodup ∧ cl = last ∧ oneB e.key = true ∧ oneB e.val = true) (fun e => K ⟨some (.p (.tup [.v e.key, .v e.val])), [k, m], []⟩) ⟨⟩
    | _ => False
   | _ => False)
  | _ => False
 | _ => False
theorem sEntry (E : Env) (o : Oper) (x : Operand) (ho : o.op = .entry x) : Sound E o (vEntry x) := by
 intro ρ ℓ K h
 obtain ⟨p, hp, h⟩ := withV_some h
 split at h
 ·rename_i k off
  obtain ⟨rfl, h⟩ := h
  obtain ⟨ob, hob, h⟩ := withO_some h
  split at h
  ·rename_i q since seen last
   split at h
   ·rename_i m
    obtain ⟨ob2, hob2, h⟩ := withO_some h
    split at h
    ·rename_i kk es cl
     obtain ⟨e, ⟨e1, e2, e3, e4, e5, e6⟩, hK⟩ := h
     subst e4
     refine ⟨_, hK, fun s hd hq ht => opAt_val hd fun Z lb a w hs => ?_⟩
     have hr := ev_rep hs (find_ev hq (by simp [ho, Op.operands]) hp)
     simp only [ARep] at hr
     obtain ⟨b, hb, hu⟩ := hr
     have hk : s.L[k]? = some (some (.it (.mref m) since seen cl)) := (ht k (by simp [touch])).trans hob
     have hkm : s.L[m]? = some (some (.mpx kk es cl)) := (ht m (by simp [touch])).trans hob2
     obtain ⟨x0, k1, k2⟩ := hs.own.obj k _ hk
     rw [hb] at k1
     simp only [Option.some.injEq] at k1
     subst k1
     obtain ⟨z1, z2, mo, hq2, hh⟩ := k2
     simp only [ARep] at hq2
     obtain ⟨bm, hbm, hmo⟩ := hq2
     simp only [Value.map.injEq] at hmo
     subst hmo
     obtain ⟨x1, k3, k4⟩ := hs.own.obj m _ hkm
     rw [hbm] at k3
     simp only [Option.some.injEq] at k3
     subst k3
     obtain ⟨_, _, hm⟩ := k4
     have hf : es.find? (·.born == e.born) = some e := by rw [← Array.find?_toList]; exact find_born e es.toList e3 e1
     refine ⟨.tuple #[e.key, e.val], ?_, by simp [ARep, Rep, Reps, e5, e6]⟩
     simp only [execOp, ho, hu, Instr.entry, getObj, Sem.run_bind, Sem.run, hh, hm, Result.andThen, e2, bne_self_eq_false, Bool.false_eq_true, if_false, hf]
     rfl
    ·exact h.elim
   ·exact h.elim
  ·exact h.elim
 ·exact h.elim
end Go.Ab
namespace Go.Ab
variable [Glob]
def vIface (E : Env) (xt : TypeId) (x : Operand) : Vop := fun ρ _ K => withTy E xt fun i => match i.k with
 | .iface _ => False
 | _ => withV (ρ x) fun
  | .p y => K ⟨some (.p (.ifc xt y)), [], []⟩
  | .loc k off => K ⟨some (.ifc xt (.loc k off)), [], []⟩
  | _ => False
theorem sIface (E : Env) (o : Oper) (xt : TypeId) (x : Operand) (ho : o.op = .makeInterface xt x) : Sound E o (vIface E xt x) := by
 intro ρ ℓ K h0
 have hxm : x ∈ o.op.operands := by simp [ho, Op.operands]
 obtain ⟨i, d, inf, z, h, F⟩ := withTy_some h0
 clear h0
 have hrun : (∀ b, i.k ≠ .iface b) → ∀ (v : Value) (w : World), (Instr.makeInterface xt v).run E.P w = .ok (.iface xt v) w := by
  intro hn v w
  have hk := F.k
  unfold Instr.makeInterface
  simp only [Sem.run_bind, F.run_und, Result.andThen_ok]
  cases d <;> first | rfl | skip
  rename_i ms
  simp only [kindOf, Option.some.injEq] at hk
  exact absurd hk.symm (hn _)
 split at h
 ·exact h.elim
 ·rename_i hni
  have hrun := hrun fun b hb => hni b hb
  obtain ⟨a0, ha, h⟩ := withV_some h
  split at h
  ·rename_i y
   refine ⟨_, h, fun s hd hq ht => opAt_val hd fun Z lb a w hs => ?_⟩
   have hr := ev_rep hs (find_ev hq hxm ha)
   refine ⟨.iface xt (a.eval x), ?_, ?_⟩
   ·simp only [execOp, ho, Sem.run_bind, hrun, Result.andThen_ok, Sem.run_pure]
   ·simp only [ARep, Rep] at hr ⊢
    exact ⟨_, hr, rfl⟩
  ·rename_i k off
   refine ⟨_, h, fun s hd hq ht => opAt_val hd fun Z lb a w hs => ?_⟩
   have hr := ev_rep hs (find_ev hq hxm ha)
   refine ⟨.iface xt (a.eval x), ?_, ?_⟩
   ·simp only [execOp, ho, Sem.run_bind, hrun, Result.andThen_ok, Sem.run_pure]
   ·simp only [ARep] at hr ⊢
    exact ⟨_, hr, rfl⟩
  ·exact h.elim
theorem mfind_ok {E : Env} {t : TypeId} {n : String} {f : FuncId} (h : mfind E.meths t n = some f) : methB E.P t n f = true := by
 have hk := E.mok
 generalize E.meths = l at h hk
 induction l with
 | nil => simp [mfind] at h
 | cons p l ih =>
  obtain ⟨t', ms⟩ := p
  simp only [List.all_cons, Bool.and_eq_true] at hk
  simp only [mfind] at h
  split at h
  ·rename_i hb
   have hb := Nat.eq_of_beq_eq_true hb
   subst hb
   split at h
   ·rename_i q hq
    simp only [Option.some.injEq] at h
    subst h
    have h1 := List.find?_some hq
    have h2 := List.mem_of_find?_eq_some hq
    have h3 := List.all_eq_true.1 hk.1 q h2
    have h4 : q.1 = n := by simpa using h1
    rw [h4] at h3; exact h3
   ·simp at h
  ·exact ih h hk.2
theorem run_callMethod {P : Program} {t : TypeId} {n : String} {f : FuncId} (h : methB P t n f = true) (v : Value) (args : Array Value) (w : World) :
  (callMethod (.iface t v) n args).run P w = (callFunc f (#[v] ++ args)).run P w := by
 unfold methB at h
 split at h
 ·rename_i inf e hi hu
  split at h
  ·rename_i m hm
   simp only [Bool.and_eq_true] at h
   obtain ⟨h1, h2⟩ := h
   split at h2
   ·rename_i g hg
    have h2 := Nat.eq_of_beq_eq_true h2
    subst h2
    have hp : m.path.toList = [] := by simpa using h1
    have hsz : ∃ k, P.types.size + Made.depth = k + 1 := by
     unfold Made.depth; exact ⟨_, rfl⟩
    obtain ⟨k, hk⟩ := hsz
    simp only [callMethod, Sem.run_bind, run_program, Result.andThen_ok, hk, method, run_typeInfo w hi, hm, hp, follow, hg, receiverAt, run_underlying hu, Place.get, Sem.run_pure]
   ·simp at h2
  ·simp at h
 ·simp at h
def vCallI (E : Env) (rank : Nat) (g : FuncId) (x : AV) (args : List Operand) : Vop := fun ρ ℓ K => withC (gatherA ρ args) fun as => ∃ σ cargs Lc r M, ∃ nw : List Ob,
 (renAs (atF σ rank) cargs = x :: as ∧ inBs σ.length cargs = true) ∧ lentOk ℓ (atF σ rank) σ.length σ Lc ∧ freshN σ = true ∧ M.length = σ.length ∧ holesOk ℓ rank nw ∧
  ACalls E.P g cargs Lc r (M ++ nw) ∧ K ⟨some (renA (atF σ rank) r), [], zipW (atF σ rank) σ M ++ nwW (atF σ rank) rank nw⟩
def onF {α : Type} (x : Option α) (k : α → Prop) : Prop := match x with
 | some y => k y
 | none => False
theorem onF_some {α : Type} {x : Option α} {k : α → Prop} (h : onF x k) : ∃ y, x = some y ∧ k y := by
 cases x with
 | none => exact h.elim
 | some y => exact ⟨y, rfl, h⟩
def vInvoke (E : Env) (rank : Nat) (recv : Operand) (name : String) (args : List Operand) : Vop := fun ρ ℓ K => withV (ρ recv) fun
 | .ifc t x => onF (mfind E.meths t name) fun g => hideP (vCallI E rank g x args ρ ℓ K) ⟨⟩
 | _ => False
theorem sInvoke (E : Env) (o : Oper) (rank : Nat) (recv : Operand) (name : String) (args : Array Operand) (ts : Array TypeId) (ho : o.op = .call { callee := .invoke recv name, args := args, argTypes := ts }) : Sound E o (vInvoke E rank recv name args.toList) := by
 intro ρ ℓ K h0
 obtain ⟨y, hy, h⟩ := withV_some h0
 clear h0
 have hfm : recv ∈ o.op.operands := by simp [ho, Op.operands, Call.operands]
 have ham : ∀ {s : ASt}, (∀ q, q ∈ o.op.operands → ev s.t q = ρ q) → ∀ x, x ∈ args.toList → ev s.t x = ρ x := fun hq x hx => hq x (by simp only [ho, Op.operands, Call.operands]; simp; exact .inr (Array.mem_toList_iff.1 hx))
 split at h
 ·rename_i t xa
  obtain ⟨g, hg, h⟩ := onF_some h
  have hm := mfind_ok hg
  have hrun : ∀ {a : Act} {w : World} {v : Value}, Callable E.P g → a.eval recv = .iface t v → (execOp a.eval o).run E.P w = .ok (.enter g (v :: args.toList.map a.eval).toArray) w := by
   intro a w v hc g2
   obtain ⟨l⟩ := args
   simp [execOp, ho, resolve, g2, invoke, run_callMethod hm, run_callFunc hc]
   exact List.take_of_length_le (by simp)
  obtain ⟨as, has, σ, cargs, Lc, r, M, nw, ⟨hren, hin⟩, hlent, hfr, hM, hnw, hcall, hK⟩ := withC_some h
  refine ⟨_, hK, fun s hd hq ht => ?_⟩
  intro Z lb a w hs K' Q hK'
  have g0 := ev_rep hs (find_ev hq hfm hy)
  simp only [ARep] at g0
  obtain ⟨v, g1, g2⟩ := g0
  have ga : AReps Z lb w (xa :: as) (v :: args.toList.map a.eval) := by
   simp only [AReps]; exact ⟨v, _, rfl, g1, gatherA_rep hs (ham hq) has⟩
  rw [← hren] at ga
  have hnd := freshN_nodup hfr
  have htouch : ∀ j, j ∈ σ → s.L[j]? = ℓ j := fun j hj => ht j (by
   simp only [touch, List.mem_append, List.map_append]
   exact .inr (.inl (by rw [zipW_key hM]; exact hj)))
  have hl' := lentOk_congr htouch hlent
  have hlend := hs.own.lend (rank := rank) hl' hnd
  have hnw' : ∀ i, i < nw.length → s.L[rank + i]? = some none := by
   intro i hi
   refine (ht (rank + i) ?_).trans (isHole_eq (holesOk_get hnw hi))
   simp only [touch, List.mem_append, List.map_append]
   exact .inr (.inr (nwW_key.2 ⟨i, hi, rfl⟩))
  have hargs := areps_ren (f := atF σ rank) (n := σ.length) (lb' := lbOf lb σ) (fun i x hi hx => by
   have hj : σ[i]? = some σ[i] := by simp [hi]
   rw [atF_lt hj] at hx
   exact lbOf_get σ hj hx) _ _ hin ga
  unfold Oper.wp
  rw [hrun hcall.1 g2, Oper.upon_enter]
  refine (hcall.2.2 Z _ w _ hlend (ltB_of hs.df.1) hargs).mono ?_
  rintro e w' ⟨u, Z', lbc', rfl, c1, c2, c3, c4, c5, c6, c7, c8, c9, c10, c11, c12, c13⟩
  obtain ⟨lb', st, own, hun⟩ := hs.own.back hl' hnd hM hnw' c1 c6 c7 c8 c9 c10 c11 c12 c13 c3 c4 c5
  refine hK' Z' lb' _ w' st (hs.put st own hd fun q hq' => ?_) put_df
  cases hq'
  exact arep_unren hun r u c2
 ·exact h.elim
end Go.Ab
